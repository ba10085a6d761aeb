/-
  The abstract machine: appends, slices, effects, calls; that one operation is the model's.
-/
import Derived.Test.YtopnndphfdeoiaaGreatMachA
import Derived.Deep.AppendSrc
import Derived.Laws.AppendOwn
import Derived.Room.Entries
import Derived.Laws.MakeOwn
import Derived.Deep.Upon
import Derived.MapKept
import Derived.Lib.AppendZeros

/-
  The abstract machine, twelfth part: operations that change the abstract heap, or the tokens.
-/
namespace Go.Am
open Go.RowKit (Below)

variable {P : Program} {γ : Gh} {w : World} {s : Sg}

-- ---------------------------------------------------------------- stores

theorem frozen_no {b o : Nat} {c : Array Value} {e : TypeId} {fr : Nat × Nat} (h : w.heap[b]? = some (.cells c e fr)) (hf : FrOk fr c.size) (ho : o < c.size) : w.frozen? ⟨b, o, none⟩ = false := by
  obtain ⟨lo, hi⟩ := fr
  simp only [World.frozen?, h, Bool.and_eq_false_iff, decide_eq_false_iff_not]
  rcases hf with hf | hf
  · simp only at hf; omega
  · simp only at hf; omega

theorem run_storeCells_fr (P : Program) (b o : Nat) (e : TypeId) (fr : Nat × Nat) : ∀ (vs : List Value) (i : Nat) (c : Array Value) (w : World), w.heap[b]? = some (.cells c e fr) → FrOk fr c.size → o + i + vs.length ≤ c.size → (∀ v ∈ vs, v.oneCell' = true) →
    (storeCells ⟨b, o, none⟩ vs i).run P w = .ok () (w.setRow b (splice c (o + i) vs))
  | [], i, c, w, hg, _, _, _ => by
    have : splice c (o + i) [] = c := by simp [splice]
    rw [this, setRow_self w b c e fr hg]
    rfl
  | v :: rest, i, c, w, hg, hf, hl, h1 => by
    have hi : o + i < c.size := by simp at hl; omega
    have hcell : w.cell? ⟨b, o + i, none⟩ = some c[o + i] := by simp [World.cell?, hg, hi]
    have hst : (store ((⟨b, o, none⟩ : Addr).add i) v).run P w = .ok () (w.setRow b (c.setIfInBounds (o + i) v)) := by
      rw [add_mk, run_store P w _ v _ (h1 v (by simp)), hcell]
      simp [frozen_no hg hf hi, setCell_eq_setRow w b (o + i) c e fr v hg]
    have ih := run_storeCells_fr P b o e fr rest (i + 1) (c.setIfInBounds (o + i) v) (w.setRow b (c.setIfInBounds (o + i) v)) (setRow_heap w b c _ e fr hg) (by simpa using hf) (by simp at hl ⊢; omega) (fun x hx => h1 x (by simp [hx]))
    simp only [storeCells, Sem.run_bind, hst, Result.andThen_ok, ih, setRow_setRow]
    congr 2
    have e' := list_seg_step c.toList (o + i) v rest (by simp at hl ⊢; omega)
    simp only [splice, Array.toList_setIfInBounds]
    rw [show o + (i + 1) = o + i + 1 from by omega]
    congr 1

theorem store_ok (hI : Inv P γ s w) {t : TypeId} {n : Nat} (hs : sizeOfT P t = some n) {i g off : Nat} {c d : Value} {v : AV} {l cs cs' : List AV} (ha : VR γ w (.ptr i g off) c) (hv : VR γ w v d) (hl : v.stored = some l) (hg : getCells s.heap i g = some cs)
    (hn : l.length = n) (hw : writeAt cs off l = some cs') : ∃ w', (Instr.storeAt t c d).run P w = .ok () w' ∧ Le γ w γ w' ∧ Inv P γ { s with heap := setAt s.heap i (.cells cs' g) } w' := by
  obtain ⟨rfl, h1, r, e, fr, k3, k4, k5, k6⟩ := ptr_cur hI ha hg
  obtain ⟨hxr, hx1⟩ := stored_ok hv hl
  obtain ⟨q1, q2, q3⟩ := writeAt_spec hw
  have hdl : d.cells.size = n := by rw [← hxr.1]; exact hn
  have hlen : d.cells.toList.length = l.length := by rw [Array.length_toList, hdl, hn]
  have hfit : off + d.cells.toList.length ≤ r.size := by omega
  have hrun := run_storeCells_fr P (γ.ob i) off e fr d.cells.toList 0 r w k3 k5 (by omega) (hxr.oneCells hx1)
  have hset := hI.setObj (c' := splice r off d.cells.toList) (getCells_some hg) (allOne_writeAt hw h1 hx1) (by rw [size_splice _ _ _ hfit]; omega) (fun c0 e0 fr0 h0 => by
    rw [k3] at h0; cases h0; exact size_splice _ _ _ hfit) (fun j u x hu hx => by
    rw [q3 j] at hu
    by_cases hj : off ≤ j ∧ j < off + l.length
    · rw [if_pos hj] at hu
      have : j = off + (j - off) := by omega
      rw [this, splice_in _ _ _ hfit (by omega)] at hx
      exact hxr.2 _ u x hu (by simpa using hx)
    · rw [if_neg hj] at hu
      rw [splice_out _ _ _ hfit (by omega)] at hx
      have hjl := lt_of_getElem? hu
      refine k6.2 j u x hu ?_
      rw [Array.getElem?_extract, if_pos (by omega)]
      simpa using hx)
  refine ⟨_, ?_, hset.2, hset.1⟩
  rw [Nat.add_zero] at hrun
  simp only [Instr.storeAt, Instr.sureAddr, storeVar, Sem.run_bind, Sem.run_pure, Result.andThen_ok, run_sizeOf' hs, hdl, ne_eq, not_true_eq_false, if_false, hrun]

-- ---------------------------------------------------------------- what is appended

theorem chunk_ok : ∀ {n : Nat} {ag : Option Nat} {cs es : List AV}, chunk n ag cs = some es → allOne cs = true → es.length = n ∧ allSize (ag.getD 1) es = true ∧ flatAll es = cs.take (n * ag.getD 1) ∧ n * ag.getD 1 ≤ cs.length
  | 0, ag, cs, es, h, _ => by
    have : es = [] := by cases ag <;> simp [chunk] at h <;> first | exact h | exact h.symm
    subst this
    simp [allSize, flatAll]
  | n + 1, none, [], es, h, _ => by simp [chunk] at h
  | n + 1, none, c :: r, es, h, h1 => by
    simp only [chunk, Option.bind_eq_some_iff, Option.some.injEq] at h
    obtain ⟨l, hl, rfl⟩ := h
    simp only [allOne, Bool.and_eq_true] at h1
    obtain ⟨a, b, d, e⟩ := chunk_ok hl h1.2
    have hf : c.flat = [c] := by have := h1.1; cases c <;> first | rfl | simp [AV.one] at this
    simp only [Option.getD_none, Nat.mul_one] at *
    refine ⟨by simp [a], by simp [allSize, hf, b], by simp [flatAll, hf, d], by simp; omega⟩
  | n + 1, some sz, cs, es, h, h1 => by
    simp only [chunk] at h
    split at h
    · rename_i hle
      have hle' : sz ≤ cs.length := by simpa using hle
      simp only [Option.bind_eq_some_iff, Option.some.injEq] at h
      obtain ⟨l, hl, rfl⟩ := h
      have h1' : allOne (cs.drop sz) = true := allOne_of fun j u hu => by
        rw [List.getElem?_drop] at hu
        exact allOne_get h1 hu
      obtain ⟨a, b, d, e⟩ := chunk_ok hl h1'
      simp only [Option.getD_some, List.length_drop] at *
      refine ⟨by simp [a], by simp [allSize, AV.flat, b]; omega, ?_, by rw [Nat.add_mul]; omega⟩
      simp only [flatAll, AV.flat, d]
      have : (n + 1) * sz = sz + n * sz := by rw [Nat.add_mul]; omega
      rw [this, List.take_add]
    · cases h

/-- an appended slice's, or text's, elements -/
theorem elems_ok (hI : Inv P γ s w) {ag : Option Nat} {u : AV} {c : Value} {ys : List AV} (hu : VR γ w u c) (h : elemsOf s.heap ag u = some ys) (hs : allSize (ag.getD 1) ys = true) :
    ∃ news : List Value, (∀ w', (Builtin.lenOf c).run P w' = .ok ys.length w') ∧ (Builtin.firstCells (ag.getD 1) ys.length c).run P w = .ok news.toArray w ∧ (Builtin.firstCells (ag.getD 1) ys.length c).run P w.drew = .ok news.toArray w.drew ∧ VRs γ w (flatAll ys) news.toArray := by
  cases hu <;> try (simp [elemsOf] at h; done)
  case str a =>
    simp [elemsOf] at h
    subst h
    have hsame : (a.data.map fun b => Value.int .u8 b.toNat) = ((a.data.map fun b => Value.int .u8 b.toNat).toList).toArray := by simp only [Array.toArray_toList]
    have hext : (a.extract 0 a.data.size).data = a.data := by simp
    refine ⟨(a.data.map fun b => Value.int .u8 b.toNat).toList, fun w' => ?_, ?_, ?_, ?_⟩
    · simp only [Builtin.lenOf, byteCells_length, Array.length_toList]; rfl
    · rw [← hsame]
      simp only [Builtin.firstCells, byteCells_length, Array.length_toList]
      rw [hext]; rfl
    · rw [← hsame]
      simp only [Builtin.firstCells, byteCells_length, Array.length_toList]
      rw [hext]; rfl
    · rw [byteCells_flat]
      refine ⟨by simp [byteCells], fun j u x hu hx => ?_⟩
      rw [byteCells_get] at hu
      simp only [Array.toArray_toList, Array.getElem?_map] at hx
      cases hj : a.data[j]? with
      | none => rw [hj] at hx; simp at hx
      | some b =>
        rw [hj] at hx
        rw [Array.getElem?_toList, hj] at hu
        simp at hx hu
        subst hx; subst hu
        exact .int _ _
  case nilsl =>
    simp [elemsOf] at h
    subst h
    exact ⟨[], fun w' => rfl, rfl, rfl, rfl, fun j u x hu => by simp [flatAll] at hu⟩
  case vecNil tl ht =>
    simp [elemsOf] at h
    subst h
    exact ⟨[], fun w' => rfl, rfl, rfl, rfl, fun j u x hu => by simp [flatAll] at hu⟩
  case vecE a =>
    simp [elemsOf] at h
    subst h
    have h0 : ∀ w' : World, (Builtin.firstCells (ag.getD 1) 0 (.slice (some a) 0 0)).run P w' = .ok #[] w' := fun w' => by
      simp only [Builtin.firstCells, Nat.zero_mul]
      exact run_loadCells_list (P := P) w' a [] (fun j v hj => by simp at hj)
    exact ⟨[], fun w' => rfl, h0 w, h0 w.drew, rfl, fun j u x hu => by simp [flatAll] at hu⟩
  case vec es tl b o cap sz cs h1 h2 h3 hl hr h6 =>
    simp [elemsOf] at h
    subst h
    have hlen := flatAll_length hs
    have hcell : ∀ (j : Nat) v, ((List.range (flatAll es).length).map cs)[j]? = some v → w.cell? ((⟨b, o, none⟩ : Addr).add j) = some v := fun j v hj => by
      have hjl : j < (flatAll es).length := by have := lt_of_getElem? hj; simpa using this
      simp only [List.getElem?_map, List.getElem?_range hjl, Option.map_some, Option.some.injEq] at hj
      subst hj
      rw [add_mk]
      exact (hl j hjl).2
    refine ⟨(List.range (flatAll es).length).map cs, fun w' => rfl, ?_, ?_, by simp, fun j u x hu hx => ?_⟩
    · exact run_firstCells_some (P := P) w (ag.getD 1) es.length ⟨b, o, none⟩ _ cap _ (by simp [hlen]) hcell
    · exact run_firstCells_some (P := P) w.drew (ag.getD 1) es.length ⟨b, o, none⟩ _ cap _ (by simp [hlen]) hcell
    · have hjl := lt_of_getElem? hu
      simp only [List.getElem?_toArray, List.getElem?_map, List.getElem?_range hjl, Option.map_some, Option.some.injEq] at hx
      subst hx
      exact hr j u hu
  case ms i g off len cp sz a cap h1 h2 h3 h4 =>
    simp only [elemsOf] at h
    split at h
    · rename_i hsz
      simp only [Option.bind_eq_some_iff] at h
      obtain ⟨cs, hg, hch⟩ := h
      obtain ⟨_, k1, k2, r, e, fr, k3, k4, k5, k6⟩ := hI.obj i _ (getCells_some hg)
      obtain ⟨e1, _⟩ := h4 k1
      have hd1 : allOne (cs.drop off) = true := allOne_of fun j u hu => by rw [List.getElem?_drop] at hu; exact allOne_get k2 hu
      obtain ⟨c1, c2, c3, c4⟩ := chunk_ok hch hd1
      have hlen := flatAll_length hs
      rw [List.length_drop] at c4
      have hx : ∀ j, j < len * ag.getD 1 → off + j < r.size := fun j hj => by omega
      have hcell : ∀ (j : Nat) v, ((r.extract off (off + len * ag.getD 1)).toList)[j]? = some v → w.cell? (a.add j) = some v := fun j v hj => by
        rw [e1, add_mk, cell?_row k3]
        rw [Array.getElem?_toList, Array.getElem?_extract] at hj
        split at hj
        · exact hj
        · cases hj
      have hl' : (r.extract off (off + len * ag.getD 1)).toList.length = len * ag.getD 1 := by
        rw [Array.length_toList, Array.size_extract]; omega
      subst c1
      refine ⟨(r.extract off (off + ys.length * ag.getD 1)).toList, fun w' => rfl, ?_, ?_, ?_⟩
      · exact run_firstCells_some (P := P) w (ag.getD 1) ys.length a _ cap _ hl' hcell
      · exact run_firstCells_some (P := P) w.drew (ag.getD 1) ys.length a _ cap _ hl' hcell
      · refine ⟨by rw [hlen]; simpa using hl'.symm, fun j u x hu hx' => ?_⟩
        have hjl := lt_of_getElem? hu
        rw [hlen] at hjl
        rw [c3, List.getElem?_take, if_pos hjl, List.getElem?_drop] at hu
        simp only [Array.toArray_toList, Array.getElem?_extract] at hx'
        split at hx'
        · exact k6 _ u x hu hx'
        · cases hx'
    · cases h

end Go.Am

/-
  The abstract machine, thirteenth part: appends.
-/
namespace Go.Am
open Go.RowKit (Below)

variable {P : Program} {γ : Gh} {w : World} {s : Sg}

theorem flatAll_append : ∀ a b : List AV, flatAll (a ++ b) = flatAll a ++ flatAll b
  | [], b => rfl
  | x :: r, b => by simp [flatAll, flatAll_append r b]

theorem allSize_append {sz : Nat} : ∀ {a b : List AV}, allSize sz a = true → allSize sz b = true → allSize sz (a ++ b) = true
  | [], b, _, h => h
  | x :: r, b, ha, hb => by
    simp only [allSize, Bool.and_eq_true, List.cons_append] at ha ⊢
    exact ⟨ha.1, allSize_append ha.2 hb⟩

theorem allOneAll_append : ∀ {a b : List AV}, allOneAll a = true → allOneAll b = true → allOneAll (a ++ b) = true
  | [], b, _, h => h
  | x :: r, b, ha, hb => by
    simp only [allOneAll, Bool.and_eq_true, List.cons_append] at ha ⊢
    exact ⟨ha.1, allOneAll_append ha.2 hb⟩

/-- what is appended, as the kit's laws have it -/
theorem src_ok (hI : Inv P γ s w) {k : Option Nat} {tx : TypeId} (hx : (∃ e', P.underlying tx = some (.slice e')) ∨ P.underlying tx = some .string) {u : AV} {d : Value} {ys : List AV} (hu : VR γ w u d) (h : elemsOf s.heap k u = some ys)
    (hs : allSize (k.getD 1) ys = true) (h1 : allOneAll ys = true) : ∃ news : List Value, Src P (k.getD 1) tx d ys.length news w ∧ VRs γ w (flatAll ys) news.toArray := by
  obtain ⟨news, a, b, c, v⟩ := elems_ok (P := P) hI hu h hs
  refine ⟨news, ⟨hx, a, b, c, ?_, ?_⟩, v⟩
  · have := v.1
    rw [flatAll_length hs] at this
    simpa using this.symm
  · have := v.oneCells (allOne_flatAll h1)
    simpa using this

theorem room_run {t tx ty e : TypeId} {i : TypeInfo} (ht : P.underlying t = some (.slice e)) (hi : P.info? e = some i) {b off len cap n : Nat} {x : Value} {news : List Value} (hs : Src P i.size tx x n news w) (hroom : len + n ≤ cap)
    {c : Array Value} {e' : TypeId} {fr : Nat × Nat} (hc : w.heap[b]? = some (.cells c e' fr)) (hfr : FrOk fr c.size) (hfit : off + cap * i.size ≤ c.size) :
    (Builtin.append_ #[t, tx] ty #[.slice (some ⟨b, off, none⟩) len cap, x]).run P w = .ok (.slice (some ⟨b, off, none⟩) (len + n) cap) (w.setRow b (splice c (off + len * i.size) news)) := by
  have hm : (len + n) * i.size ≤ cap * i.size := Nat.mul_le_mul_right _ hroom
  rw [Nat.add_mul] at hm
  have hst := run_storeCells_fr P b (off + len * i.size) e' fr news 0 c w hc hfr (by rw [hs.newsLen]; omega) hs.one
  simp only [Nat.add_zero] at hst
  rcases hs.kind with ⟨e', hk⟩ | hk <;> simp [Builtin.append_, run_underlying ht, run_underlying hk, sizeOf, typeInfo, hi, hs.len, hroom, hs.cells, Addr.add_lit, hst]

theorem grow_run {t tx ty e : TypeId} (ht : P.underlying t = some (.slice e)) {k : Option Nat} {bytes : Nat} (hk : elSize P e = some (k, bytes)) {base : Option Addr} {len cap n : Nat} {x : Value} {es ys : List AV} {olds news : List Value}
    (hold : (Builtin.firstCells (k.getD 1) len (.slice base len cap)).run P w.drew = .ok olds.toArray w.drew) (hs : Src P (k.getD 1) tx x n news w) (ho : VRs γ w (flatAll es) olds.toArray) (hn : VRs γ w (flatAll ys) news.toArray)
    (hes : allSize (k.getD 1) es = true) (hys : allSize (k.getD 1) ys = true) (hle : es.length = len) (hly : ys.length = n) (hg : cap < len + n) (hb : (len + n) * bytes ≤ limit) :
    ∃ (row : Array Value) (cap' : Nat), (Builtin.append_ #[t, tx] ty #[.slice base len cap, x]).run P w = .ok (.slice (some ⟨w.heap.size, 0, none⟩) (len + n) cap') (w.drew.alloc (.cells row e)) ∧ len + n ≤ cap' ∧ row.size = cap' * k.getD 1 ∧
      VRs γ w (flatAll (es ++ ys)) (row.extract 0 (flatAll (es ++ ys)).length) ∧ (flatAll (es ++ ys)).length = (len + n) * k.getD 1 := by
  obtain ⟨i, hi, hsz, hpos, rfl, hbp, _, v, hiz, hvc⟩ := elSize_ok hk
  have hlim : limit = 70368744177664 := rfl
  have hnb : len + n ≤ (len + n) * i.bytes := Nat.le_mul_of_pos_right _ hbp
  have hcap := Go.Room.nextslicecap_le' hg
  have hfit : Builtin.nextslicecap (len + n) cap * i.bytes ≤ 281474976710656 := by
    have := Nat.mul_le_mul_right i.bytes hcap
    rw [Nat.mul_assoc] at this
    omega
  have hfl : (flatAll (es ++ ys)).length = (len + n) * k.getD 1 := by rw [flatAll_length (allSize_append hes hys)]; simp [hle, hly]
  have hgc := grownCap_ge w (len + n) cap e
  have hol : olds.length = len * k.getD 1 := by have := ho.1; rw [flatAll_length hes, hle] at this; simpa using this.symm
  have hnl : news.length = n * k.getD 1 := hs.newsLen
  refine ⟨_, _, run_append_grow_src w t tx ty e i v ht hi hiz base len cap olds (by rw [hsz]; exact hold) x n news (by rw [hsz]; exact hs) hg (by omega) hfit, hgc, ?_, ?_, hfl⟩
  · rw [Array.size_append, size_zeroCells, hvc, List.size_toArray, List.length_append, hol, hnl, ← Nat.add_mul, ← Nat.add_mul]
    congr 1
    omega
  · rw [hfl]
    have hex : ((olds ++ news).toArray ++ Builtin.zeroCells v.cells (grownCap w (len + n) cap e - (len + n))).extract 0 ((len + n) * k.getD 1) = (olds ++ news).toArray := by
      have : (len + n) * k.getD 1 = (olds ++ news).toArray.size := by rw [List.size_toArray, List.length_append, hol, hnl, Nat.add_mul]
      rw [this, Array.extract_append_left, Array.extract_size]
    rw [hex]
    refine ⟨by simp only [flatAll_append, List.length_append, List.size_toArray]; have := ho.1; have := hn.1; simp at *; omega, fun j u x hu hx => ?_⟩
    rw [flatAll_append] at hu
    have hoe := ho.1
    simp only [List.size_toArray] at hoe
    simp only [List.getElem?_toArray, List.getElem?_append, hoe] at hu hx
    split at hu
    · rename_i hlt
      rw [if_pos hlt] at hx
      exact ho.2 j u x hu (by simpa using hx)
    · rename_i hlt
      rw [if_neg hlt] at hx
      exact hn.2 _ u x hu (by simpa using hx)

/-- cells of a new block that are frozen -/
theorem lie_new {γ' : Gh} {w' : World} {row : Array Value} {e : TypeId} {k : Nat} (hF : ∀ j, j < k → γ'.F w'.heap.size (0 + j)) (hk : k ≤ row.size) : Lie γ' (w'.alloc (.cells row e)) w'.heap.size 0 k (fun j => row.getD j undef) := by
  intro j hj
  refine ⟨hF j hj, ?_⟩
  have hh : (w'.alloc (.cells row e)).heap[w'.heap.size]? = some (.cells row e (0, 0)) := by
    show (w'.heap.push _)[w'.heap.size]? = _
    simp
  rw [cell?_row hh, Nat.zero_add, Array.getElem?_eq_getElem (by omega)]
  simp [Array.getD, show j < row.size by omega]

theorem row_VR {l : List AV} {row : Array Value} (h : VRs γ w l (row.extract 0 l.length)) (hle : l.length ≤ row.size) : (∀ (j : Nat) u x, l[j]? = some u → row[j]? = some x → VR γ w u x) ∧ ∀ (j : Nat) u, l[j]? = some u → VR γ w u (row.getD j undef) := by
  have h1 : ∀ (j : Nat) u x, l[j]? = some u → row[j]? = some x → VR γ w u x := fun j u x hu hx => by
    have hj := lt_of_getElem? hu
    refine h.2 j u x hu ?_
    rw [Array.getElem?_extract, if_pos (by omega)]
    simpa using hx
  refine ⟨h1, fun j u hu => ?_⟩
  have hj := lt_of_getElem? hu
  refine h1 j u _ hu ?_
  rw [Array.getElem?_eq_getElem (by omega)]
  simp [Array.getD, show j < row.size by omega]

/-- what an append comes to -/
def AppR (P : Program) (γ : Gh) (w : World) (m : Sem Value) (v : AV) (s' : Sg) : Prop :=
  ∃ γ' w' c, m.run P w = .ok c w' ∧ Le γ w γ' w' ∧ Inv P γ' s' w' ∧ VR γ' w' v c

/-- a new token's slice -/
theorem app_new (hI : Inv P γ s w) {m : Sem Value} {row : Array Value} {e : TypeId} {l : List AV} {n cap sz : Nat} (hr : m.run P w = .ok (.slice (some ⟨w.heap.size, 0, none⟩) n cap) (w.drew.alloc (.cells row e))) (hn : l.length = n) (hc : n ≤ cap) (hsz : row.size = cap * sz)
    (hv : VRs γ w (flatAll l) (row.extract 0 (flatAll l).length)) (hf : (flatAll l).length = n * sz) (hs : allSize sz l = true) (h1 : allOneAll l = true) (hp : 0 < sz) (h0 : 0 < n) :
    AppR P γ w m (.vec l (.tok s.toks.length 0)) { s with toks := s.toks ++ [0] } := by
  subst hn
  have hle : (flatAll l).length ≤ row.size := by rw [hf, hsz]; exact Nat.mul_le_mul_right _ hc
  have hl0 := (Le.drew γ w).trans (Le.newTok hI.drew row e (flatAll l).length)
  refine ⟨_, _, _, hr, hl0, hI.drew.newTok row e (flatAll l).length, ?_⟩
  refine .vec l _ _ 0 cap sz (fun j => row.getD j undef) hc hs h1 ?_ (fun j u hu => ((row_VR hv hle).2 j u hu).mono hl0) ?_
  · exact lie_new (w' := w.drew) (fun j hj => .inr ⟨rfl, by omega, by omega⟩) hle
  · have htn : s.toks.length = γ.tn := hI.tn
    refine ⟨by show _ < γ.tn + 1; omega, Nat.zero_le _, fun _ => ⟨_, rfl, ?_, ?_, ?_, hp, h0⟩⟩
    · show w.heap.size = upd γ.tb γ.tn _ _
      rw [htn, upd_same]; rfl
    · show 0 + l.length * sz = upd γ.te γ.tn _ _
      rw [htn, upd_same]; omega
    · show 0 + cap * sz ≤ upd γ.ts γ.tn _ _
      rw [htn, upd_same]; omega

/-- a token's slice, moved -/
theorem app_move (hI : Inv P γ s w) {m : Sem Value} {row : Array Value} {e : TypeId} {l : List AV} {n cap sz t : Nat} (ht : t < γ.tn) (hr : m.run P w = .ok (.slice (some ⟨w.heap.size, 0, none⟩) n cap) (w.drew.alloc (.cells row e))) (hn : l.length = n) (hc : n ≤ cap) (hsz : row.size = cap * sz)
    (hv : VRs γ w (flatAll l) (row.extract 0 (flatAll l).length)) (hf : (flatAll l).length = n * sz) (hs : allSize sz l = true) (h1 : allOneAll l = true) (hp : 0 < sz) (h0 : 0 < n) :
    AppR P γ w m (.vec l (.tok t (γ.tv t + 1))) { s with toks := setAt s.toks t (γ.tv t + 1) } := by
  subst hn
  have hle : (flatAll l).length ≤ row.size := by rw [hf, hsz]; exact Nat.mul_le_mul_right _ hc
  have hl0 := (Le.drew γ w).trans (Le.moveTok hI.drew t row e (flatAll l).length)
  refine ⟨_, _, _, hr, hl0, hI.drew.moveTok ht row e (flatAll l).length, ?_⟩
  refine .vec l _ _ 0 cap sz (fun j => row.getD j undef) hc hs h1 ?_ (fun j u hu => ((row_VR hv hle).2 j u hu).mono hl0) ?_
  · exact lie_new (w' := w.drew) (fun j hj => .inr ⟨rfl, by omega, by omega⟩) hle
  · refine ⟨ht, ?_, fun _ => ⟨_, rfl, ?_, ?_, ?_, hp, h0⟩⟩
    · show _ ≤ upd γ.tv t _ _
      rw [upd_same]; exact Nat.le_refl _
    · show w.heap.size = upd γ.tb t _ _
      rw [upd_same]; rfl
    · show 0 + l.length * sz = upd γ.te t _ _
      rw [upd_same]; omega
    · show 0 + cap * sz ≤ upd γ.ts t _ _
      rw [upd_same]; omega

/-- an object's slice: new -/
theorem app_push (hI : Inv P γ s w) {m : Sem Value} {row : Array Value} {e : TypeId} {l : List AV} {n cap sz : Nat} (hr : m.run P w = .ok (.slice (some ⟨w.heap.size, 0, none⟩) n cap) (w.drew.alloc (.cells row e))) (hc : n ≤ cap) (hsz : row.size = cap * sz)
    (hv : VRs γ w (flatAll l) (row.extract 0 (flatAll l).length)) (hf : (flatAll l).length = n * sz) (h1 : allOneAll l = true) :
    AppR P γ w m (.ms s.heap.length 0 0 n n sz) (s.push (.cells (flatAll l) 0)) := by
  have hle : (flatAll l).length ≤ row.size := by rw [hf, hsz]; exact Nat.mul_le_mul_right _ hc
  have hl0 := (Le.drew γ w).trans (Le.push hI.drew (.cells row e))
  have hh : (w.drew.alloc (.cells row e)).heap[w.drew.heap.size]? = some (.cells row e (0, 0)) := by
    show (w.heap.push _)[w.heap.size]? = _
    simp
  have hI' := hI.drew.push_gen (.cells row e) (fun _ _ _ e' => by cases e'; exact .none _) (.cells (flatAll l) 0) ⟨(Gh.push_live_n _ _).2, upd_same _ _ _, allOne_flatAll h1, row, e, (0, 0), by
    show (w.drew.alloc (.cells row e)).heap[upd γ.ob γ.n w.drew.heap.size γ.n]? = _
    rw [upd_same]; exact hh, hle, .none _, fun j u x hu hx => ((row_VR hv hle).1 j u x hu hx).mono hl0⟩
  have hn : s.heap.length = γ.n := hI.n
  refine ⟨_, _, _, hr, hl0, hI', ?_⟩
  rw [hn]
  refine .ms γ.n 0 0 n n sz _ cap (Gh.push_live_n _ _) (Nat.zero_le _) ⟨Nat.le_refl _, hc, _, _, rfl⟩ fun _ => ⟨?_, row, e, (0, 0), ?_, by omega⟩
  · show _ = (⟨upd γ.ob γ.n w.drew.heap.size γ.n, 0, none⟩ : Addr)
    rw [upd_same]; rfl
  · show (w.drew.alloc (.cells row e)).heap[upd γ.ob γ.n w.drew.heap.size γ.n]? = _
    rw [upd_same]; exact hh

/-- an object's slice, moved -/
theorem app_grown (hI : Inv P γ s w) {m : Sem Value} {row : Array Value} {e : TypeId} {l old : List AV} {i g n cap sz : Nat} (ho : s.heap[i]? = some (.cells old g)) (hr : m.run P w = .ok (.slice (some ⟨w.heap.size, 0, none⟩) n cap) (w.drew.alloc (.cells row e))) (hc : n ≤ cap) (hsz : row.size = cap * sz)
    (hv : VRs γ w l (row.extract 0 l.length)) (hf : l.length = n * sz) (h1 : allOne l = true) :
    AppR P γ w m (.ms i (g + 1) 0 n n sz) { s with heap := setAt s.heap i (.cells l (g + 1)) } := by
  have hle : l.length ≤ row.size := by rw [hf, hsz]; exact Nat.mul_le_mul_right _ hc
  have hi := hI.live ho (by intro e; cases e)
  have hh : (w.drew.alloc (.cells row e)).heap[w.drew.heap.size]? = some (.cells row e (0, 0)) := by
    show (w.heap.push _)[w.heap.size]? = _
    simp
  have hl1 : Le γ w γ (w.drew.alloc (.cells row e)) := (Le.drew γ w).trans (Le.alloc _ hI.drew.base hI.drew.Flt rfl (Nat.le_refl _) (fun _ h => ⟨h.2, rfl, rfl⟩) (Nat.le_refl _) (fun _ _ => ⟨Nat.le_refl _, fun _ => ⟨rfl, rfl, rfl⟩⟩) (fun _ _ h => h) fun _ hb => ⟨hb.2.1, hb.2.2, fun _ h => h⟩)
  have hI' := hI.growObj (b := w.heap.size) (l := l) ho hl1 (fun k hk _ => Below.heap_alloc w.drew _ _ hk) (.inr (Nat.le_refl _)) ⟨hI.base, by simp⟩ (fun o hf => by have := hI.Flt _ _ hf; omega) (by simp) h1 hh hle (.none _)
    (row_VR hv hle).1
  refine ⟨_, _, _, hr, hl1.growObj i w.heap.size (fun b' hb' e => by have := hb'.1; omega), by
    have hgi : γ.ge i = g := (hI.obj i _ ho).2.1
    exact hI', ?_⟩
  have hgi : γ.ge i = g := (hI.obj i _ ho).2.1
  refine .ms i (g + 1) 0 n n sz _ cap hi (by show upd γ.ge i _ i ≥ _; rw [upd_same, hgi]; exact Nat.le_refl _) ⟨Nat.le_refl _, hc, _, _, rfl⟩ fun _ => ⟨?_, row, e, (0, 0), ?_, by omega⟩
  · show _ = (⟨upd γ.ob i w.heap.size i, 0, none⟩ : Addr)
    rw [upd_same]
  · show (w.drew.alloc (.cells row e)).heap[upd γ.ob i w.heap.size i]? = _
    rw [upd_same]; exact hh

theorem nothing_ok (hI : Inv P γ s w) {m : Sem Value} {v : AV} {c : Value} (hr : m.run P w = .ok c w) (hv : VR γ w v c) : AppR P γ w m v s := ⟨γ, w, c, hr, Le.refl _ _, hI, hv⟩

end Go.Am

/-
  The abstract machine, fourteenth part: the append, joined; new objects.
-/
namespace Go.Am
open Go.RowKit (Below)

variable {P : Program} {γ : Gh} {w : World} {s : Sg}

theorem flatAll_nil_of {sz : Nat} {es : List AV} (h : es = []) : flatAll es = [] := by subst h; rfl

theorem append_ok (hI : Inv P γ s w) {t tx ty e : TypeId} (ht : P.underlying t = some (.slice e)) (hx : (∃ e', P.underlying tx = some (.slice e')) ∨ P.underlying tx = some .string) {k : Option Nat} {bytes : Nat} (hk : elSize P e = some (k, bytes))
    {v u r : AV} {c d : Value} {ys : List AV} (hv : VR γ w v c) (hu : VR γ w u d) (hel : elemsOf s.heap k u = some ys) (hsz : allSize (k.getD 1) ys = true) (h1 : allOneAll ys = true) {b : Bar} {mu : Bool} {s' : Sg} (h : evAppend b s mu k bytes v ys = some (r, s')) :
    AppR P γ w (Builtin.append_ #[t, tx] ty #[c, d]) r s' := by
  obtain ⟨i, hi, hisz, hpos, hib, hbp, _, z, hiz, hzc⟩ := elSize_ok hk
  obtain ⟨news, hs, hn⟩ := src_ok (P := P) hI hx hu hel hsz h1
  have hs0 : ys = [] → Src P i.size tx d 0 [] w := fun e0 => by
    subst e0
    have : news = [] := by have := hn.1; simp [flatAll] at this; exact List.length_eq_zero_iff.1 (by simpa using this.symm)
    subst this
    rw [hisz]; exact hs
  cases v <;> try (simp [evAppend] at h; done)
  case nilsl =>
    have hc : c = .slice none 0 0 := by cases hv; rfl
    subst hc
    cases ys with
    | nil =>
      simp only [evAppend, Option.some.injEq, Prod.mk.injEq] at h
      obtain ⟨rfl, rfl⟩ := h
      exact nothing_ok hI (run_append_nothing w t tx ty e i ht hi none 0 0 (Nat.le_refl _) d (hs0 rfl)) .nilsl
    | cons y yr =>
      simp only [evAppend] at h
      split at h
      · rename_i hlim
        have hlim := Nat.le_of_ble_eq_true hlim
        have hold : (Builtin.firstCells (k.getD 1) 0 (.slice none 0 0)).run P w.drew = .ok ([] : List Value).toArray w.drew := rfl
        obtain ⟨row, cap', g1, g2, g3, g4, g5⟩ := grow_run (n := (y :: yr).length) (ty := ty) ht hk (es := []) (ys := y :: yr) hold hs ⟨rfl, fun j u x hu => by simp [flatAll] at hu⟩ hn rfl hsz rfl rfl (by simp) (by simpa using hlim)
        simp only [List.nil_append] at g4 g5
        have hl0 : 0 + (y :: yr).length = (y :: yr).length := Nat.zero_add _
        rw [hl0] at g1 g2 g5
        cases mu with
        | true =>
          simp only [if_true, Option.some.injEq, Prod.mk.injEq] at h
          obtain ⟨rfl, rfl⟩ := h
          exact app_push hI g1 g2 g3 g4 g5 h1
        | false =>
          simp only [Bool.false_eq_true, if_false, Option.some.injEq, Prod.mk.injEq] at h
          obtain ⟨rfl, rfl⟩ := h
          exact app_new hI g1 rfl g2 g3 g4 g5 hsz h1 hpos (by simp)
      · cases h
  case vec es tl =>
    obtain ⟨base, cap, rfl, hcl, he1, hall⟩ : ∃ base cap, c = .slice base es.length cap ∧ es.length ≤ cap ∧ allOneAll es = true ∧ ∃ sz, allSize sz es = true ∧ TailOk γ base es.length cap sz tl ∧ ((∃ b' o', base = some ⟨b', o', none⟩ ∨ base = none) ∨ tl = .shut) := by
      cases hv with
      | vecNil tl ht => exact ⟨none, 0, rfl, Nat.le_refl _, rfl, 0, rfl, ht, .inl ⟨0, 0, .inr rfl⟩⟩
      | vecE a => exact ⟨some a, 0, rfl, Nat.le_refl _, rfl, 0, rfl, trivial, .inr rfl⟩
      | vec es tl b o cap sz cs h1 h2 h3 hl hr h6 => exact ⟨_, cap, rfl, h1, h3, sz, h2, h6, .inl ⟨b, o, .inl rfl⟩⟩
    obtain ⟨sz, he2, htl, hbase⟩ := hall
    cases ys with
    | nil =>
      simp only [evAppend, Option.some.injEq, Prod.mk.injEq] at h
      obtain ⟨rfl, rfl⟩ := h
      exact nothing_ok hI (run_append_nothing w t tx ty e i ht hi base es.length cap hcl d (hs0 rfl)) hv
    | cons y yr =>
      simp only [evAppend] at h
      split at h
      · rename_i hcond
        simp only [Bool.and_eq_true] at hcond
        have hlim := Nat.le_of_ble_eq_true hcond.1
        have hes := hcond.2
        obtain ⟨olds, o1, o2, o3, o4⟩ := elems_ok (P := P) hI hv (ag := k) rfl hes
        have hall := allSize_append hes hsz
        have hone := allOneAll_append he1 h1
        have hln : (es ++ y :: yr).length = es.length + (y :: yr).length := List.length_append
        have h0 : 0 < es.length + (y :: yr).length := by simp only [List.length_cons]; omega
        cases tl with
        | exact own =>
          have hcap : cap = es.length := htl.1
          obtain ⟨row, cap', g1, g2, g3, g4, g5⟩ := grow_run (n := (y :: yr).length) (ty := ty) ht hk (es := es) (ys := y :: yr) o3 hs o4 hn hes hsz rfl rfl (by simp; omega) hlim
          cases mu with
          | true =>
            simp only [if_true, Option.some.injEq, Prod.mk.injEq] at h
            obtain ⟨rfl, rfl⟩ := h
            exact app_push hI g1 g2 g3 g4 g5 hone
          | false =>
            simp only [Bool.false_eq_true, if_false, Option.some.injEq, Prod.mk.injEq] at h
            obtain ⟨rfl, rfl⟩ := h
            exact app_new hI g1 hln g2 g3 g4 g5 hall hone hpos h0
        | tok t0 n0 =>
          simp only at h
          split at h
          · simp only [Option.bind_eq_some_iff] at h
            obtain ⟨n', hn', h⟩ := h
            split at h
            · rename_i hnn
              have hnn := Nat.eq_of_beq_eq_true hnn
              subst hnn
              simp only [Option.some.injEq, Prod.mk.injEq] at h
              obtain ⟨rfl, rfl⟩ := h
              obtain ⟨q1, q2, q3⟩ := htl
              obtain ⟨t1, t2, t3, c0, e0, fr0, t4, t5, t6⟩ := hI.tok t0 q1
              have hvn : γ.tv t0 = n0 := by rw [t1] at hn'; cases hn'; rfl
              obtain ⟨a, rfl, hab, hao, hac, hsp, hlp⟩ := q3 hvn
              obtain ⟨b', o', hb'⟩ := hbase.resolve_right (by intro e; cases e)
              obtain ⟨rfl⟩ : a = ⟨b', o', none⟩ := by
                rcases hb' with e' | e'
                · cases e'; rfl
                · cases e'
              have hsz2 : sz = k.getD 1 := by
                cases es with
                | nil => simp at hlp
                | cons x xr =>
                  simp only [allSize, Bool.and_eq_true] at he2 hes
                  rw [← Nat.eq_of_beq_eq_true he2.1, Nat.eq_of_beq_eq_true hes.1]
              subst hsz2
              simp only at hab hao hac
              subst hab
              rcases Nat.lt_or_ge cap (es.length + (y :: yr).length) with hg | hroom
              · obtain ⟨row, cap', g1, g2, g3, g4, g5⟩ := grow_run (n := (y :: yr).length) (ty := ty) ht hk (es := es) (ys := y :: yr) o3 hs o4 hn hes hsz rfl rfl hg hlim
                have := app_move hI q1 g1 hln g2 g3 g4 g5 hall hone hpos h0
                rw [hvn] at this
                exact this
              · have hr := room_run (ty := ty) ht hi (by rw [hisz]; exact hs) hroom t4 t6 (by rw [hisz, t5]; exact hac)
                rw [hisz, hao] at hr
                have hnl : news.length = (y :: yr).length * k.getD 1 := hs.newsLen
                have hmul : (es.length + (y :: yr).length) * k.getD 1 ≤ cap * k.getD 1 := Nat.mul_le_mul_right _ hroom
                rw [Nat.add_mul] at hmul
                obtain ⟨p1, p2, p3⟩ := tok_in_place hI q1 news c0 e0 fr0 t4 (by omega)
                rw [hvn] at p1
                refine ⟨_, _, _, hr, p2, p1, ?_⟩
                cases hv with
                | vec _ _ _ _ _ sz' cs w1 w2 w3 hl hr' h6 =>
                have hfe : (flatAll es).length = es.length * k.getD 1 := flatAll_length hes
                have hfy : (flatAll (y :: yr)).length = (y :: yr).length * k.getD 1 := flatAll_length hsz
                rw [← hln]
                refine .vec _ _ _ o' cap (k.getD 1) (fun j => if j < (flatAll es).length then cs j else news.getD (j - (flatAll es).length) undef) (by rw [hln]; exact hroom) hall hone ?_ ?_ ?_
                · intro j hj
                  rw [flatAll_append, List.length_append] at hj
                  dsimp only
                  by_cases hjl : j < (flatAll es).length
                  · rw [if_pos hjl]
                    exact (hl.mono p2) j hjl
                  · rw [if_neg hjl]
                    have := p3 (j - (flatAll es).length) (by omega)
                    have e1 : γ.te t0 + (j - (flatAll es).length) = o' + j := by omega
                    rw [e1] at this
                    exact this
                · intro j u hu
                  rw [flatAll_append, List.getElem?_append] at hu
                  split at hu
                  · rename_i hjl
                    rw [if_pos hjl]
                    exact (hr' j u hu).mono p2
                  · rename_i hjl
                    rw [if_neg hjl]
                    obtain ⟨x, hx1, hx2⟩ := hn.get hu
                    simp only [List.getElem?_toArray] at hx1
                    have : news.getD (j - (flatAll es).length) undef = x := by simp [List.getD, hx1]
                    rw [this]
                    exact hx2.mono p2
                · refine ⟨q1, ?_, fun _ => ⟨_, rfl, rfl, ?_, ?_, hpos, by rw [hln]; exact h0⟩⟩
                  · show _ ≤ upd γ.tv t0 _ t0
                    rw [upd_same, hvn]; exact Nat.le_refl _
                  · show o' + _ = upd γ.te t0 _ t0
                    rw [upd_same, hln, Nat.add_mul]; omega
                  · exact hac
            · cases h
          · cases h
        | shut => cases h
      · cases h
  case ms i0 g off len cp sz =>
    simp only [evAppend] at h
    split at h
    · rename_i hcond
      simp only [Bool.and_eq_true] at hcond
      have hlim := Nat.le_of_ble_eq_true hcond.1.1
      have hsze := Nat.eq_of_beq_eq_true hcond.1.2
      subst hsze
      simp only [Option.bind_eq_some_iff] at h
      obtain ⟨cs, hg, h⟩ := h
      split at h
      · rename_i hc2
        simp only [Bool.and_eq_true] at hc2
        have ho0 := Nat.eq_of_beq_eq_true hc2.1
        subst ho0
        have hlc := Nat.eq_of_beq_eq_true hc2.2
        simp only [Option.some.injEq, Prod.mk.injEq] at h
        obtain ⟨rfl, rfl⟩ := h
        have ho := getCells_some hg
        obtain ⟨_, k1, k2, row, e1, fr, k3, k4, k5, k6⟩ := hI.obj i0 _ ho
        cases hv with
        | ms _ _ _ _ _ _ a cap w1 w2 w3 w4 =>
        obtain ⟨rfl, row', e2, fr', w5, w6⟩ := w4 k1
        rw [k3] at w5
        cases w5
        have hfy : (flatAll ys).length = ys.length * k.getD 1 := flatAll_length hsz
        have hfl : (cs ++ flatAll ys).length = (len + ys.length) * k.getD 1 := by rw [List.length_append, hfy, Nat.add_mul]; omega
        have hone : allOne (cs ++ flatAll ys) = true := by rw [allOne_append, k2, allOne_flatAll h1]; rfl
        rcases Nat.lt_or_ge cap (len + ys.length) with hgr | hroom
        · -- a new row
          have hle2 : len * k.getD 1 ≤ row.size := by omega
          have hold : (Builtin.firstCells (k.getD 1) len (.slice (some ⟨γ.ob i0, 0, none⟩) len cap)).run P w.drew = .ok (row.extract 0 (len * k.getD 1)).toList.toArray w.drew :=
            run_firstCells_some w.drew (k.getD 1) len ⟨γ.ob i0, 0, none⟩ len cap _ (by rw [Array.length_toList, Array.size_extract]; omega) (fun j v hj => by
              rw [add_mk]
              show w.cell? _ = _
              rw [cell?_row k3]
              rw [Array.getElem?_toList, Array.getElem?_extract] at hj
              split at hj
              · rw [Nat.zero_add] at hj ⊢; exact hj
              · cases hj)
          have hcap := Go.Room.nextslicecap_le' hgr
          have hlm : limit = 70368744177664 := rfl
          have hnb : len + ys.length ≤ (len + ys.length) * bytes := Nat.le_mul_of_pos_right _ hbp
          have hfit : Builtin.nextslicecap (len + ys.length) cap * i.bytes ≤ 281474976710656 := by
            have := Nat.mul_le_mul_right bytes hcap
            rw [Nat.mul_assoc] at this
            rw [hib]
            omega
          have hrun := run_append_grow_src w t tx ty e i z ht hi hiz (some ⟨γ.ob i0, 0, none⟩) len cap _ (by rw [hisz]; exact hold) d ys.length news (by rw [hisz]; exact hs) hgr (by omega) hfit
          have hgc := grownCap_ge w (len + ys.length) cap e
          have hnl : news.length = ys.length * k.getD 1 := hs.newsLen
          have hol : (row.extract 0 (len * k.getD 1)).toList.length = len * k.getD 1 := by rw [Array.length_toList, Array.size_extract]; omega
          refine app_grown hI ho hrun hgc ?_ ?_ hfl hone
          · rw [Array.size_append, size_zeroCells, hzc, List.size_toArray, List.length_append, hol, hnl, ← Nat.add_mul, ← Nat.add_mul]
            congr 1
            omega
          · rw [hfl]
            have hx : (len + ys.length) * k.getD 1 = ((row.extract 0 (len * k.getD 1)).toList ++ news).toArray.size := by rw [List.size_toArray, List.length_append, hol, hnl, Nat.add_mul]
            rw [hx, Array.extract_append_left, Array.extract_size]
            refine ⟨by rw [hfl, ← hx], fun j u x hu hx => ?_⟩
            simp only [List.getElem?_toArray, List.getElem?_append, hol] at hu hx
            rw [← hlc] at hu
            split at hu
            · rename_i hlt
              rw [if_pos hlt, Array.getElem?_toList, Array.getElem?_extract, if_pos (by omega), Nat.zero_add] at hx
              exact k6 j u x hu hx
            · rename_i hlt
              rw [if_neg hlt] at hx
              exact hn.2 _ u x hu (by simpa using hx)
        · -- there is room
          have hr := room_run (ty := ty) ht hi (by rw [hisz]; exact hs) hroom k3 k5 (by rw [hisz]; exact w6)
          rw [hisz, Nat.zero_add] at hr
          have hnl : news.length = ys.length * k.getD 1 := hs.newsLen
          have hmul : (len + ys.length) * k.getD 1 ≤ cap * k.getD 1 := Nat.mul_le_mul_right _ hroom
          rw [Nat.add_mul] at hmul
          have hx : len * k.getD 1 + news.length ≤ row.size := by omega
          have hsz' := size_splice row (len * k.getD 1) news hx
          obtain ⟨l1, l2, l3⟩ := hI.lt i0 w1
          have hl1 : Le γ w γ (w.setRow (γ.ob i0) (splice row (len * k.getD 1) news)) := Le.setRow k3 hsz' (fun o hf => absurd hf (l3 o)) l1 (fun hf => hf.2.1 i0 w1 rfl)
          have hh := setRow_heap w (γ.ob i0) row (splice row (len * k.getD 1) news) e1 fr k3
          have hI' := hI.growObj (b := γ.ob i0) (l := cs ++ flatAll ys) ho hl1 (fun q _ hq => heap_setRow_other w _ _ hq) (.inl rfl) ⟨l1, by rw [size_setRow]; exact l2⟩ l3 (by rw [size_setRow]; exact Nat.le_refl _) hone hh (by rw [hsz', hfl]; rw [Nat.add_mul]; omega) (by rw [hsz']; exact k5)
            (fun j u x hu hx' => by
              rw [List.getElem?_append, ← hlc] at hu
              split at hu
              · rename_i hlt
                rw [splice_out row _ _ hx (.inl hlt)] at hx'
                exact k6 j u x hu hx'
              · rename_i hlt
                have hjl := lt_of_getElem? hu
                have : j = len * k.getD 1 + (j - len * k.getD 1) := by omega
                rw [this, splice_in row _ _ hx (by omega)] at hx'
                exact hn.2 _ u x hu (by simpa using hx'))
          refine ⟨_, _, _, hr, hl1.growObj i0 (γ.ob i0) (fun b' hb' => hb'.2.1 i0 w1), hI', ?_⟩
          refine .ms i0 (g + 1) 0 _ _ _ _ cap w1 (by show upd γ.ge i0 _ i0 ≥ _; rw [upd_same, k1]; exact Nat.le_refl _) ⟨Nat.le_refl _, hroom, _, _, rfl⟩ fun _ => ⟨?_, _, e1, fr, ?_, by rw [hsz']; exact w6⟩
          · show _ = (⟨upd γ.ob i0 (γ.ob i0) i0, 0, none⟩ : Addr)
            rw [upd_same]
          · show (w.setRow (γ.ob i0) _).heap[upd γ.ob i0 (γ.ob i0) i0]? = _
            rw [upd_same]; exact hh
      · split at h
        · rename_i hc3
          have hroom' := Nat.le_of_ble_eq_true hc3
          simp only [Option.map_eq_some_iff, Prod.mk.injEq] at h
          obtain ⟨cs', hw, rfl, rfl⟩ := h
          have ho := getCells_some hg
          obtain ⟨_, k1, k2, row, e1, fr, k3, k4, k5, k6⟩ := hI.obj i0 _ ho
          cases hv with
          | ms _ _ _ _ _ _ a cap w1 w2 w3 w4 =>
          obtain ⟨rfl, row', e2, fr', w5, w6⟩ := w4 k1
          rw [k3] at w5
          cases w5
          have hfy : (flatAll ys).length = ys.length * k.getD 1 := flatAll_length hsz
          have hroom : len + ys.length ≤ cap := Nat.le_trans hroom' w3.2.1
          have hr := room_run (ty := ty) ht hi (by rw [hisz]; exact hs) hroom k3 k5 (by rw [hisz]; exact w6)
          rw [hisz] at hr
          have hnl : news.length = ys.length * k.getD 1 := hs.newsLen
          have hmul : (len + ys.length) * k.getD 1 ≤ cap * k.getD 1 := Nat.mul_le_mul_right _ hroom
          rw [Nat.add_mul] at hmul
          obtain ⟨q1, q2, q3⟩ := writeAt_spec hw
          have hfit : off + len * k.getD 1 + news.length ≤ row.size := by omega
          have hset := hI.setObj (c' := splice row (off + len * k.getD 1) news) ho (allOne_writeAt hw k2 (allOne_flatAll h1)) (by rw [size_splice _ _ _ hfit]; omega) (fun c0 e0 fr0 h0 => by
            rw [k3] at h0; cases h0; exact size_splice _ _ _ hfit) (fun j u x hu hx => by
            rw [q3 j] at hu
            by_cases hj : off + len * k.getD 1 ≤ j ∧ j < off + len * k.getD 1 + (flatAll ys).length
            · rw [if_pos hj] at hu
              have : j = off + len * k.getD 1 + (j - (off + len * k.getD 1)) := by omega
              rw [this, splice_in _ _ _ hfit (by omega)] at hx
              exact hn.2 _ u x hu (by simpa using hx)
            · rw [if_neg hj] at hu
              rw [splice_out _ _ _ hfit (by omega)] at hx
              exact k6 j u x hu hx)
          refine ⟨_, _, _, hr, hset.2, hset.1, ?_⟩
          exact .ms i0 g off _ cp _ _ cap w1 w2 ⟨hroom', w3.2.1, _, _, rfl⟩ fun e => ⟨rfl, _, e1, fr, setRow_heap w (γ.ob i0) row _ e1 fr k3, by rw [size_splice _ _ _ hfit]; exact w6⟩
        · cases h
    · cases h

-- ---------------------------------------------------------------- new objects

theorem push_ok (hI : Inv P γ s w) {m : Sem Value} {l : List AV} {c : Array Value} {e : TypeId} (hr : m.run P w = .ok (.pointer (some ⟨w.heap.size, 0, none⟩)) (w.alloc (.cells c e))) (hl : VRs γ w l c) (h1 : allOne l = true) :
    AppR P γ w m (.ptr s.heap.length 0 0) (s.push (.cells l 0)) := by
  refine ⟨_, _, _, hr, Le.push hI _, hI.push e hl h1, ?_⟩
  have hn : s.heap.length = γ.n := hI.n
  rw [hn]
  refine .ptr γ.n 0 0 _ (Gh.push_live_n _ _) (Nat.zero_le _) fun _ => ?_
  show _ = (⟨upd γ.ob γ.n w.heap.size γ.n, 0, none⟩ : Addr)
  rw [upd_same]

theorem alloc_ok (hI : Inv P γ s w) {e : TypeId} {z : List AV} (hz : zeroOf P e = some z) : AppR P γ w (Instr.alloc e true (.tuple #[])) (.ptr s.heap.length 0 0) (s.push (.cells z 0)) := by
  obtain ⟨v, h1, h2, h3, _⟩ := zeroOf_ok (γ := γ) (w := w) hz
  refine push_ok (e := e) hI ?_ h2 h3
  simp [Instr.alloc, h1, newVar, newRow]

theorem box_ok (hI : Inv P γ s w) {e : TypeId} {v : AV} {c : Value} {l : List AV} (hv : VR γ w v c) (hl : v.stored = some l) : AppR P γ w (Instr.box e c) (.ptr s.heap.length 0 0) (s.push (.cells l 0)) := by
  obtain ⟨h1, h2⟩ := stored_ok hv hl
  refine push_ok (e := e) hI ?_ h1 h2
  simp [Instr.box, newVar, newRow]

theorem buildMs_ok (hI : Inv P γ s w) {m : Sem Value} {es : List AV} {c : Array Value} {e : TypeId} {len sz : Nat} (hr : m.run P w = .ok (.slice (some ⟨w.heap.size, 0, none⟩) len len) (w.alloc (.cells c e))) (hl : VRs γ w (flatAll es) c) (h1 : allOne (flatAll es) = true)
    (hs : allSize sz es = true) (hn : es.length = len) : AppR P γ w m (.ms s.heap.length 0 0 len len sz) (s.push (.cells (flatAll es) 0)) := by
  refine ⟨_, _, _, hr, Le.push hI _, hI.push e hl h1, ?_⟩
  have hn' : s.heap.length = γ.n := hI.n
  rw [hn']
  have hsz : c.size = len * sz := by rw [← hl.1, flatAll_length hs, hn]
  refine .ms γ.n 0 0 _ _ _ _ len (Gh.push_live_n _ _) (Nat.zero_le _) ⟨Nat.le_refl _, Nat.le_refl _, _, _, rfl⟩ fun _ => ⟨?_, c, e, (0, 0), ?_, by omega⟩
  · show _ = (⟨upd γ.ob γ.n w.heap.size γ.n, 0, none⟩ : Addr)
    rw [upd_same]
  · show (w.heap.push _)[upd γ.ob γ.n w.heap.size γ.n]? = _
    rw [upd_same]
    simp

theorem makeMs_ok (hI : Inv P γ s w) {m : Sem Value} {es : List AV} {c : Array Value} {e : TypeId} {n cap sz : Nat} (hr : m.run P w = .ok (.slice (some ⟨w.heap.size, 0, none⟩) n cap) (w.alloc (.cells c e))) (hl : VRs γ w (flatAll es) c) (h1 : allOne (flatAll es) = true)
    (hs : allSize sz es = true) (hn : es.length = cap) (hnc : n ≤ cap) : AppR P γ w m (.ms s.heap.length 0 0 n cap sz) (s.push (.cells (flatAll es) 0)) := by
  refine ⟨_, _, _, hr, Le.push hI _, hI.push e hl h1, ?_⟩
  have hn' : s.heap.length = γ.n := hI.n
  rw [hn']
  have hsz : c.size = cap * sz := by rw [← hl.1, flatAll_length hs, hn]
  refine .ms γ.n 0 0 _ _ _ _ cap (Gh.push_live_n _ _) (Nat.zero_le _) ⟨hnc, Nat.le_refl _, _, _, rfl⟩ fun _ => ⟨?_, c, e, (0, 0), ?_, by omega⟩
  · show _ = (⟨upd γ.ob γ.n w.heap.size γ.n, 0, none⟩ : Addr)
    rw [upd_same]
  · show (w.heap.push _)[upd γ.ob γ.n w.heap.size γ.n]? = _
    rw [upd_same]
    simp

theorem makeSl_run {t e : TypeId} (ht : P.underlying t = some (.slice e)) {k : Option Nat} {bytes : Nat} (hk : elSize P e = some (k, bytes)) {z : AV} (hz : zeroVal P e = some z) (hzl : z.flat.length = k.getD 1) (kl kc : IntKind) {n m : Int} (h0 : 0 ≤ n) (hnm : n ≤ m) (hlim : m.toNat * bytes ≤ limit) :
    ∃ c, (Instr.makeSlice t (.int kl n) (.int kc m)).run P w = .ok (.slice (some ⟨w.heap.size, 0, none⟩) n.toNat m.toNat) (w.alloc (.cells c e)) ∧ VRs γ w (flatAll (List.replicate m.toNat z)) c ∧ allOne z.flat = true := by
  obtain ⟨v, hv, hvr, i, hi, hiz⟩ := zeroVal_ok (γ := γ) (w := w) hz
  obtain ⟨i', q1, q2, q3, q4, q5, _⟩ := elSize_ok hk
  rw [hi] at q1
  cases q1
  have hvc : v.cells.size = k.getD 1 := by rw [← hvr.flat.1]; exact hzl
  have hbase := flatAll_replicate hvr.flat (by omega) m.toNat
  have hz1 : allOne z.flat = true := by
    unfold zeroVal at hz
    split at hz
    · exact VR.ofConst_one hz
    · cases hz
  have hlm : limit = 70368744177664 := rfl
  have hm1 : m.toNat ≤ m.toNat * bytes := Nat.le_mul_of_pos_right _ q5
  have hb : (i.bytes : Int) * m ≤ 281474976710656 := by
    rw [q4]
    have h2 : ((bytes * m.toNat : Nat) : Int) ≤ 281474976710656 := by rw [Nat.mul_comm]; omega
    rw [Int.natCast_mul, Int.toNat_of_nonneg (by omega)] at h2
    exact h2
  refine ⟨_, run_make w t e i v ht hi hiz kl kc n m h0 hnm hb (by omega), ?_, hz1⟩
  unfold madeCells
  rw [q2, ← hvc]
  exact hbase

theorem buildSl_ok (hI : Inv P γ s w) {m : Sem Value} {es : List AV} {c : Array Value} {e : TypeId} {len sz : Nat} (hr : m.run P w = .ok (.slice (some ⟨w.heap.size, 0, none⟩) len len) (w.alloc (.cells c e))) (hl : VRs γ w (flatAll es) c) (h1 : allOneAll es = true)
    (hs : allSize sz es = true) (hn : es.length = len) : AppR P γ w m (.vec es (.exact true)) s := by
  have hle := Le.fresh hI (.cells c e) c.size
  refine ⟨_, _, _, hr, hle, hI.fresh (.cells c e) (fun _ _ _ e' => by cases e'; exact .none _) c.size, ?_⟩
  subst hn
  have hlc := hl.1
  have hrow : VRs γ w (flatAll es) (c.extract 0 (flatAll es).length) := by rw [hlc, Array.extract_size]; exact hl
  refine .vec es _ _ 0 _ sz (fun j => c.getD j undef) (Nat.le_refl _) hs h1 (lie_new (fun j hj => .inr ⟨rfl, by omega, by omega⟩) (by omega)) (fun j u hu => ((row_VR hrow (by omega)).2 j u hu).mono hle) ⟨rfl, fun _ => ⟨_, rfl, hI.base⟩⟩

end Go.Am

/-
  The abstract machine, fifteenth part: slices of slices; interfaces, functions, tuples.
-/
namespace Go.Am
open Go.RowKit (Below)

variable {P : Program} {γ : Gh} {w : World} {s : Sg}

-- ---------------------------------------------------------------- texts

theorem sliceS_ok {t : TypeId} (ht : P.underlying t = some .string) {u : AV} {c : Value} {l : List UInt8} {a b : Option AV} {ca cb : Option Value} {h k : Nat} (hu : VR γ w u c) (hl : u.str? = some l) (ha : OptR γ w a ca) (hb : OptR γ w b cb)
    (hh : bnd b l.length l.length = some h) (hk : bnd a 0 h = some k) : ∃ d, (Instr.sliceAt t c ca cb none).run P w = .ok d w ∧ VR γ w (.str ((l.drop k).take (h - k))) d := by
  obtain rfl := str?_some hl
  obtain ⟨x, rfl, rfl⟩ := hu.str_inv
  have hlen : x.data.toList.length = x.size := Array.length_toList
  rw [hlen] at hh
  obtain ⟨h1, h2, h3⟩ := sliceBounds_ok (P := P) ha hb (isSlice := false) (Nat.le_refl _) hh hk
  refine ⟨.string (x.extract k h), ?_, ?_⟩
  · simp [Instr.sliceAt, Instr.slice, run_underlying ht, h1]
  · have e : (x.data.toList.drop k).take (h - k) = (x.extract k h).data.toList := by
      rw [ByteArray.data_extract]
      apply List.ext_getElem?
      intro j
      simp only [List.getElem?_take, List.getElem?_drop, Array.getElem?_toList, Array.getElem?_extract]
      have : x.data.size = x.size := rfl
      by_cases hj : j < h - k
      · rw [if_pos hj, if_pos (by omega)]
      · rw [if_neg hj, if_neg (by omega)]
    rw [e]
    exact .str _

-- ---------------------------------------------------------------- slices

theorem allSize_drop {sz : Nat} : ∀ {es : List AV} (k : Nat), allSize sz es = true → allSize sz (es.drop k) = true
  | _, 0, h => h
  | [], k + 1, h => by simp [allSize]
  | e :: r, k + 1, h => by
    simp only [allSize, Bool.and_eq_true] at h
    exact allSize_drop (es := r) k h.2

theorem allSize_take {sz : Nat} : ∀ {es : List AV} (k : Nat), allSize sz es = true → allSize sz (es.take k) = true
  | _, 0, h => by simp [allSize]
  | [], k + 1, h => by simp [allSize]
  | e :: r, k + 1, h => by
    simp only [allSize, Bool.and_eq_true, List.take_succ_cons] at h ⊢
    exact ⟨h.1, allSize_take (es := r) k h.2⟩

theorem allOneAll_drop : ∀ {es : List AV} (k : Nat), allOneAll es = true → allOneAll (es.drop k) = true
  | _, 0, h => h
  | [], k + 1, h => by simp [allOneAll]
  | e :: r, k + 1, h => by
    simp only [allOneAll, Bool.and_eq_true] at h
    exact allOneAll_drop (es := r) k h.2

theorem allOneAll_take : ∀ {es : List AV} (k : Nat), allOneAll es = true → allOneAll (es.take k) = true
  | _, 0, h => by simp [allOneAll]
  | [], k + 1, h => by simp [allOneAll]
  | e :: r, k + 1, h => by
    simp only [allOneAll, Bool.and_eq_true, List.take_succ_cons] at h ⊢
    exact ⟨h.1, allOneAll_take (es := r) k h.2⟩

theorem flatAll_drop {sz : Nat} : ∀ {es : List AV} (k : Nat), allSize sz es = true → flatAll (es.drop k) = (flatAll es).drop (k * sz)
  | es, 0, h => by simp
  | [], k + 1, h => by simp [flatAll]
  | e :: r, k + 1, h => by
    simp only [allSize, Bool.and_eq_true] at h
    have h1 := Nat.eq_of_beq_eq_true h.1
    simp only [List.drop_succ_cons, flatAll]
    rw [flatAll_drop k h.2, show (k + 1) * sz = e.flat.length + k * sz from by rw [h1, Nat.add_mul]; omega, List.drop_append]
    simp

theorem flatAll_take {sz : Nat} : ∀ {es : List AV} (k : Nat), allSize sz es = true → flatAll (es.take k) = (flatAll es).take (k * sz)
  | es, 0, h => by simp [flatAll]
  | [], k + 1, h => by simp [flatAll]
  | e :: r, k + 1, h => by
    simp only [allSize, Bool.and_eq_true] at h
    have h1 := Nat.eq_of_beq_eq_true h.1
    simp only [List.take_succ_cons, flatAll]
    rw [flatAll_take k h.2, show (k + 1) * sz = e.flat.length + k * sz from by rw [h1, Nat.add_mul]; omega, List.take_append, List.take_of_length_le (show e.flat.length ≤ e.flat.length + k * sz from Nat.le_add_right _ _), Nat.add_sub_cancel_left]

/-- a part of a slice that is never written any more -/
theorem vec_part {es : List AV} {sz b o : Nat} {cs : Nat → Value} (h2 : allSize sz es = true) (hl : Lie γ w b o (flatAll es).length cs) (hr : ∀ (j : Nat) u, (flatAll es)[j]? = some u → VR γ w u (cs j)) {k h : Nat} (hkh : k ≤ h) (hhn : h ≤ es.length) :
    Lie γ w b (o + k * sz) (flatAll ((es.drop k).take (h - k))).length (fun j => cs (k * sz + j)) ∧ ∀ (j : Nat) u, (flatAll ((es.drop k).take (h - k)))[j]? = some u → VR γ w u (cs (k * sz + j)) := by
  have hfl := flatAll_length h2
  have hs1 := allSize_drop k h2
  have e : flatAll ((es.drop k).take (h - k)) = ((flatAll es).drop (k * sz)).take ((h - k) * sz) := by
    rw [flatAll_take _ hs1, flatAll_drop k h2]
  rw [e]
  constructor
  · intro j hj
    rw [List.length_take, List.length_drop] at hj
    have := hl (k * sz + j) (by omega)
    rw [← Nat.add_assoc] at this
    exact this
  · intro j u hu
    rw [List.getElem?_take] at hu
    split at hu
    · rw [List.getElem?_drop] at hu
      exact hr _ u hu
    · cases hu

/-- three bounds, the third one as the second -/
theorem sliceBounds3_ok {a b m : Option AV} {ca cb cm : Option Value} (ha : OptR γ w a ca) (hb : OptR γ w b cb) (hm : OptR γ w m cm) {len cap h k q : Nat} (hlc : len ≤ cap) (hms : m.isSome = true) (hbs : b.isSome = true) (hh : bnd b len len = some h) (hk : bnd a 0 h = some k) (hq : bnd m h h = some q) (hqh : q = h) :
    (Instr.sliceBounds true len cap ca cb cm).run P w = .ok (k, h, h) w ∧ k ≤ h ∧ h ≤ len := by
  subst hqh
  have hhl : q ≤ len := by
    rcases bnd_some hh with ⟨_, rfl⟩ | ⟨_, m, _, _, _, rfl⟩ <;> omega
  have hkh : k ≤ q := by
    rcases bnd_some hk with ⟨_, rfl⟩ | ⟨_, m, _, _, _, rfl⟩ <;> omega
  refine ⟨?_, hkh, hhl⟩
  rcases hm with ⟨rfl, _⟩ | ⟨um, dm, rfl, rfl, hvm⟩
  · cases hms
  rcases hb with ⟨rfl, _⟩ | ⟨ub, db, rfl, rfl, hvb⟩
  · cases hbs
  rcases bnd_some hq with ⟨e, _⟩ | ⟨q1, m1, e1, a1, a2, a3⟩
  · cases e
  cases e1
  rcases bnd_some hh with ⟨e, _⟩ | ⟨q2, m2, e2, b1, b2, b3⟩
  · cases e
  cases e2
  have s1 : (Instr.sliceBound dm cap .slice3Acap).run P w = .ok q w := by rw [a3]; exact sliceBound_ok hvm rfl a1 (by omega) _
  have s2 : (Instr.sliceBound db q .slice3B).run P w = .ok q w := by
    have := sliceBound_ok (P := P) hvb rfl b1 (y := q) (by omega) .slice3B
    rw [this, ← b3]
  have e2 : (match ca with
      | some v => Instr.sliceBound v q .slice3C
      | none => pure 0 : Sem Nat).run P w = .ok k w := by
    rcases ha with ⟨rfl, rfl⟩ | ⟨u, d, rfl, rfl, hv⟩
    · simp [bnd] at hk; subst hk; rfl
    · rcases bnd_some hk with ⟨e, _⟩ | ⟨q, m, e, h0, h1, rfl⟩
      · cases e
      · cases e
        exact sliceBound_ok hv rfl h0 h1 _
  unfold Instr.sliceBounds
  cases ca <;> simp_all

/-- the bounds of a slice of a slice -/
theorem bounds_ok {a b m : Option AV} {ca cb cm : Option Value} (ha : OptR γ w a ca) (hb : OptR γ w b cb) (hm : OptR γ w m cm) (hbs : m.isSome = true → b.isSome = true) {len cap h k q : Nat} (hlc : len ≤ cap) (hh : bnd b len len = some h) (hk : bnd a 0 h = some k) (hq : bnd m h h = some q) (hqh : q = h) :
    (Instr.sliceBounds true len cap ca cb cm).run P w = .ok (k, h, if m.isSome then h else cap) w ∧ k ≤ h ∧ h ≤ len := by
  cases m with
  | none =>
    rcases hm with ⟨_, rfl⟩ | ⟨u, d, e, _⟩
    · exact sliceBounds_ok ha hb hlc hh hk
    · cases e
  | some m => exact sliceBounds3_ok ha hb hm hlc rfl (hbs rfl) hh hk hq hqh

theorem add_zero_mk (b o : Nat) : (⟨b, o, none⟩ : Addr).add 0 = ⟨b, o, none⟩ := by rw [add_mk, Nat.add_zero]

theorem slice_vec_ok {t e : TypeId} (ht : P.underlying t = some (.slice e)) {n : Nat} (hs : sizeOfT P e = some n) {es : List AV} {tl : Tail} {c : Value} {a b m : Option AV} {ca cb cm : Option Value} {h k q : Nat} (hu : VR γ w (.vec es tl) c) (ha : OptR γ w a ca) (hb : OptR γ w b cb) (hm : OptR γ w m cm)
    (hbs : m.isSome = true → b.isSome = true) (hh : bnd b es.length es.length = some h) (hk : bnd a 0 h = some k) (hq : bnd m h h = some q) (hqh : q = h) (hsz : k = 0 ∨ allSize n (es.take 1) = true) :
    ∃ d, (Instr.sliceAt t c ca cb cm).run P w = .ok d w ∧ VR γ w (.vec ((es.drop k).take (h - k)) (cutTail es.length k h m.isSome tl)) d := by
  have hrun : ∀ base cap, es.length ≤ cap → (Instr.sliceAt t (.slice base es.length cap) ca cb cm).run P w = .ok (.slice (if (if m.isSome then h else cap) = k then base else base.map (·.add (k * n))) (h - k) ((if m.isSome then h else cap) - k)) w := fun base cap hlc => by
    obtain ⟨h1, h2, h3⟩ := bounds_ok (P := P) ha hb hm hbs hlc hh hk hq hqh
    simp [Instr.sliceAt, Instr.slice, run_underlying ht, h1, run_sizeOf' hs]
  cases hu with
  | vecE av =>
    obtain ⟨h1, h2, h3⟩ := bounds_ok (P := P) ha hb hm hbs (cap := 0) (Nat.le_refl _) hh hk hq hqh
    simp only [List.length_nil, Nat.le_zero] at h3
    subst h3
    have : k = 0 := by omega
    subst this
    refine ⟨_, hrun (some av) 0 (Nat.le_refl _), ?_⟩
    simp only [ite_self, List.drop_nil, List.take_nil, Nat.sub_self, if_true, cutTail, List.length_nil]
    exact .vecE av
  | vecNil tl htl =>
    obtain ⟨h1, h2, h3⟩ := bounds_ok (P := P) ha hb hm hbs (cap := 0) (Nat.le_refl _) hh hk hq hqh
    simp only [List.length_nil, Nat.le_zero] at h3
    subst h3
    have : k = 0 := by omega
    subst this
    refine ⟨_, hrun none 0 (Nat.le_refl _), ?_⟩
    simp only [ite_self, List.drop_nil, List.take_nil, Nat.sub_self, if_true, cutTail, List.length_nil]
    refine .vecNil _ ?_
    cases tl with
    | exact own => exact ⟨rfl, fun e => by cases e⟩
    | tok t n => trivial
    | shut => trivial
  | vec es tl b' o cap sz cs h1 h2 h3 hl hr h6 =>
    obtain ⟨hb1, hkh, hhn⟩ := bounds_ok (P := P) ha hb hm hbs h1 hh hk hq hqh
    refine ⟨_, hrun (some ⟨b', o, none⟩) cap h1, ?_⟩
    have hsh : k = 0 ∨ sz = n := by
      rcases hsz with h0 | hsz
      · exact .inl h0
      · cases es with
        | nil =>
          simp only [List.length_nil] at hhn
          exact .inl (by omega)
        | cons x xr =>
          simp only [List.take_succ_cons, List.take_zero, allSize, Bool.and_eq_true] at hsz h2
          exact .inr (by rw [← Nat.eq_of_beq_eq_true h2.1, Nat.eq_of_beq_eq_true hsz.1])
    have hkn : k * n = k * sz := by
      rcases hsh with rfl | rfl
      · simp
      · rfl
    rw [hkn]
    obtain ⟨p1, p2⟩ := vec_part h2 hl hr hkh hhn
    have hlen : ((es.drop k).take (h - k)).length = h - k := by rw [List.length_take, List.length_drop]; omega
    have ho1 := allOneAll_take (h - k) (allOneAll_drop k h3)
    have hs1 := allSize_take (h - k) (allSize_drop k h2)
    by_cases hkh2 : k = h
    · -- nothing is left
      subst hkh2
      have hnil : (es.drop k).take (k - k) = [] := by simp
      rw [hnil, Nat.sub_self] at *
      have hcut : TailOk γ (if (if m.isSome then k else cap) = k then some ⟨b', o, none⟩ else (some ⟨b', o, none⟩ : Option Addr).map (·.add (k * sz))) 0 ((if m.isSome then k else cap) - k) sz (cutTail es.length k k m.isSome tl) := by
        have hbe : Nat.beq k k = true := Nat.beq_refl k
        simp only [cutTail, hbe, if_true]
        cases tl with
        | exact own =>
          by_cases hkn' : Nat.beq k es.length = true
          · rw [if_pos hkn']
            have := Nat.eq_of_beq_eq_true hkn'
            obtain ⟨hc, _⟩ := h6
            refine ⟨?_, fun e => by cases e⟩
            cases m <;> simp <;> omega
          · rw [if_neg hkn']
            trivial
        | tok t n => trivial
        | shut => trivial
      by_cases hmk : (if m.isSome then k else cap) = k
      · rw [if_pos hmk] at hcut ⊢
        refine .vec [] _ b' o _ sz cs (Nat.zero_le _) rfl rfl (fun j hj => by simp [flatAll] at hj) (fun j u hu => by simp [flatAll] at hu) hcut
      · rw [if_neg hmk] at hcut ⊢
        simp only [Option.map_some, add_mk] at hcut ⊢
        refine .vec [] _ b' (o + k * sz) _ sz cs (Nat.zero_le _) rfl rfl (fun j hj => by simp [flatAll] at hj) (fun j u hu => by simp [flatAll] at hu) hcut
    · have hne : (if m.isSome then h else cap) ≠ k := by
        cases m <;> simp <;> omega
      rw [if_neg hne]
      simp only [Option.map_some, add_mk]
      suffices hT : TailOk γ (some ⟨b', o + k * sz, none⟩) ((es.drop k).take (h - k)).length ((if m.isSome then h else cap) - k) sz (cutTail es.length k h m.isSome tl) by
        have := VR.vec ((es.drop k).take (h - k)) (cutTail es.length k h m.isSome tl) b' (o + k * sz) ((if m.isSome then h else cap) - k) sz (fun j => cs (k * sz + j)) (by rw [hlen]; cases m <;> simp <;> omega) hs1 ho1 p1 p2 hT
        rw [hlen] at this
        exact this
      rw [hlen]
      have hbf : Nat.beq k h = false := by cases hb0 : Nat.beq k h with | false => rfl | true => exact absurd (Nat.eq_of_beq_eq_true hb0) hkh2
      simp only [cutTail, hbf, Bool.false_eq_true, if_false]
      cases m with
      | some m => exact ⟨by simp, fun e => by cases e⟩
      | none =>
        simp only [Option.isSome_none, Bool.false_eq_true, if_false]
        split
        · rename_i hhe
          have hhe := Nat.eq_of_beq_eq_true hhe
          cases tl with
          | exact own =>
            obtain ⟨hc, _⟩ := h6
            exact ⟨by omega, fun e => by cases e⟩
          | shut => trivial
          | tok t n0 =>
            obtain ⟨q1, q2, q3⟩ := h6
            refine ⟨q1, q2, fun e => ?_⟩
            obtain ⟨a0, ha0, e1, e2, e3, e4, e5⟩ := q3 e
            cases ha0
            simp only at e1 e2 e3
            refine ⟨_, rfl, e1, ?_, ?_, e4, by omega⟩
            · show o + k * sz + (h - k) * sz = _
              rw [← e2, Nat.sub_mul, hhe]
              have := Nat.mul_le_mul_right sz hkh
              rw [hhe] at this
              omega
            · show o + k * sz + (cap - k) * sz ≤ _
              rw [Nat.sub_mul]
              have := Nat.mul_le_mul_right sz (show k ≤ cap by omega)
              omega
        · trivial

theorem slice_nil_ok {t e : TypeId} (ht : P.underlying t = some (.slice e)) {n : Nat} (hs : sizeOfT P e = some n) {c : Value} {a b m : Option AV} {ca cb cm : Option Value} {h k : Nat} (hu : VR γ w .nilsl c) (ha : OptR γ w a ca) (hb : OptR γ w b cb) (hm : OptR γ w m cm)
    (hms : m = none) (hh : bnd b 0 0 = some h) (hk : bnd a 0 0 = some k) : ∃ d, (Instr.sliceAt t c ca cb cm).run P w = .ok d w ∧ VR γ w .nilsl d := by
  cases hu
  subst hms
  rcases hm with ⟨_, rfl⟩ | ⟨u, d, e, _⟩
  · have hh0 : h = 0 := by rcases bnd_some hh with ⟨_, rfl⟩ | ⟨_, m, _, _, _, rfl⟩ <;> omega
    subst hh0
    have hk0 : k = 0 := by rcases bnd_some hk with ⟨_, rfl⟩ | ⟨_, m, _, _, _, rfl⟩ <;> omega
    subst hk0
    obtain ⟨h1, h2, h3⟩ := sliceBounds_ok (P := P) ha hb (isSlice := true) (Nat.le_refl 0) hh hk
    refine ⟨.slice none 0 0, ?_, .nilsl⟩
    simp [Instr.sliceAt, Instr.slice, run_underlying ht, h1, run_sizeOf' hs]
  · cases e

theorem slice_ms_ok {t e : TypeId} (ht : P.underlying t = some (.slice e)) {sz : Nat} (hs : sizeOfT P e = some sz) {i g off len cp : Nat} {c : Value} {a b : Option AV} {ca cb : Option Value} {h k : Nat} (hu : VR γ w (.ms i g off len cp sz) c) (ha : OptR γ w a ca) (hb : OptR γ w b cb)
    (hh : bnd b len len = some h) (hk : bnd a 0 h = some k) (hne : k < cp) : ∃ d, (Instr.sliceAt t c ca cb none).run P w = .ok d w ∧ VR γ w (.ms i g (off + k * sz) (h - k) (cp - k) sz) d := by
  cases hu with
  | ms _ _ _ _ _ _ ad cap h1 h2 h3 h4 =>
    obtain ⟨h3a, h3b, b0, o0, e0⟩ := h3
    subst e0
    obtain ⟨b1, b2, b3⟩ := sliceBounds_ok (P := P) ha hb (isSlice := true) (Nat.le_trans h3a h3b) hh hk
    have hck : cap ≠ k := by omega
    refine ⟨.slice (some ((⟨b0, o0, none⟩ : Addr).add (k * sz))) (h - k) (cap - k), ?_, ?_⟩
    · simp [Instr.sliceAt, Instr.slice, run_underlying ht, b1, run_sizeOf' hs, hck]
    · refine .ms i g _ _ _ sz _ _ h1 h2 ⟨by omega, by omega, b0, o0 + k * sz, by rw [add_mk]⟩ fun e => ?_
      obtain ⟨e4, r, e1, fr, h5, h6⟩ := h4 e
      cases e4
      refine ⟨by rw [add_mk], r, e1, fr, h5, ?_⟩
      rw [Nat.sub_mul]
      have := Nat.mul_le_mul_right sz (show k ≤ cap by omega)
      omega

/-- a slice of an object's slice with nothing in it, and no room -/
theorem slice_msz_ok {t e : TypeId} (ht : P.underlying t = some (.slice e)) {sz : Nat} (hs : sizeOfT P e = some sz) {i g off len cp : Nat} {c : Value} {a b m : Option AV} {ca cb cm : Option Value} {h k q : Nat} (hu : VR γ w (.ms i g off len cp sz) c) (ha : OptR γ w a ca) (hb : OptR γ w b cb) (hm : OptR γ w m cm)
    (hms : m.isSome = true) (hbs : m.isSome = true → b.isSome = true) (hh : bnd b len len = some h) (hk : bnd a 0 h = some k) (hq : bnd m h h = some q) (hqh : q = h) (hkh : k = h) : ∃ d, (Instr.sliceAt t c ca cb cm).run P w = .ok d w ∧ VR γ w (.vec [] (.exact false)) d := by
  cases hu with
  | ms _ _ _ _ _ _ ad cap h1 h2 h3 h4 =>
    obtain ⟨h3a, h3b, b0, o0, rfl⟩ := h3
    obtain ⟨b1, b2, b3⟩ := bounds_ok (P := P) ha hb hm hbs (Nat.le_trans h3a h3b) hh hk hq hqh
    rw [if_pos hms] at b1
    subst hkh
    refine ⟨.slice (some ⟨b0, o0, none⟩) (k - k) (k - k), ?_, ?_⟩
    · simp [Instr.sliceAt, Instr.slice, run_underlying ht, b1, run_sizeOf' hs]
    · have := VR.vec (γ := γ) (w := w) [] (.exact false) b0 o0 0 sz (fun _ => undef) (Nat.zero_le _) rfl rfl (fun j hj => by simp [flatAll] at hj) (fun j u hu => by simp [flatAll] at hu) ⟨rfl, fun e => by cases e⟩
      rw [Nat.sub_self]
      exact this

theorem sliceA_ok (hI : Inv P γ s w) {t e : TypeId} {len : Nat} (ht : P.underlying t = some (.array len e)) {sz : Nat} (hs : sizeOfT P e = some sz) {i g off : Nat} {c : Value} {cs : List AV} {a b : Option AV} {ca cb : Option Value} {h k : Nat} (hu : VR γ w (.ptr i g off) c) (hg : getCells s.heap i g = some cs) (ha : OptR γ w a ca) (hb : OptR γ w b cb)
    (hh : bnd b len len = some h) (hk : bnd a 0 h = some k) (hne : k < len) (hfit : off + len * sz ≤ cs.length) : ∃ d, (Instr.sliceAt t c ca cb none).run P w = .ok d w ∧ VR γ w (.ms i g (off + k * sz) (h - k) (len - k) sz) d := by
  obtain ⟨rfl, h1, r, e1, fr, k3, k4, k5, k6⟩ := ptr_cur hI hu hg
  obtain ⟨b1, b2, b3⟩ := sliceBounds_ok (P := P) ha hb (isSlice := false) (Nat.le_refl len) hh hk
  have hck : len ≠ k := by omega
  refine ⟨.slice (some ⟨γ.ob i, off + k * sz, none⟩) (h - k) (len - k), ?_, ?_⟩
  · simp [Instr.sliceAt, Instr.sureAddr, run_underlying ht, b1, run_sizeOf' hs, hck, add_mk]
  · cases hu with
    | ptr _ _ _ _ w1 w2 w3 =>
    refine .ms i g _ _ _ sz _ _ w1 w2 ⟨by omega, by omega, _, _, rfl⟩ fun e => ⟨rfl, r, e1, fr, k3, ?_⟩
    rw [Nat.sub_mul]
    have := Nat.mul_le_mul_right sz (show k ≤ len by omega)
    omega

-- ---------------------------------------------------------------- interfaces, functions, tuples

theorem mkIface_ok {t : TypeId} {d : TypeDesc} (ht : P.underlying t = some d) (hd : ∀ ms, d ≠ .interface ms) {v u : AV} {c : Value} (hv : VR γ w v c) (h : v.storedEl = some u) : ∃ d, (Instr.makeInterface t c).run P w = .ok d w ∧ VR γ w (.iface t u) d := by
  obtain ⟨h1, h2, _⟩ := storedEl_ok h hv
  refine ⟨.iface t c, ?_, .iface t u c h2 h1⟩
  simp only [Instr.makeInterface, Sem.run_bind, run_underlying ht, Result.andThen_ok]
  cases d <;> first | rfl | exact absurd rfl (hd _)

theorem tup2 {a b : AV} {x y : Value} (ha : VR γ w a x) (hb : VR γ w b y) : VR γ w (.tup [a, b]) (.tuple #[x, y]) :=
  .tup _ _ rfl fun j u v hu hv => by
    match j, hu, hv with
    | 0, hu, hv => simp at hu hv; subst hu; subst hv; exact ha
    | 1, hu, hv => simp at hu hv; subst hu; subst hv; exact hb

theorem tassert_ok {t xt : TypeId} {d : TypeDesc} (ht : P.underlying t = some d) (hd : ∀ ms, d ≠ .interface ms) {z u r : AV} {ok : Bool} {c : Value} (hz : zeroVal P t = some z) (hu : VR γ w u c)
    (h : (match (generalizing := false) u with
      | .nilif => if ok then some (AV.tup [z, .bool false]) else none
      | .iface t' v => if Nat.beq t' t then some (if ok then .tup [v, .bool true] else v) else if ok then some (.tup [z, .bool false]) else none
      | _ => none) = some r) : ∃ d, (Instr.typeAssert c xt t ok).run P w = .ok d w ∧ VR γ w r d := by
  obtain ⟨zv, z1, z2, _⟩ := zeroVal_ok (γ := γ) (w := w) hz
  have hun := run_underlying (P := P) (w := w) ht
  cases u <;> try (simp at h; done)
  case nilif =>
    cases hu
    cases ok with
    | false => simp at h
    | true =>
      simp at h
      subst h
      refine ⟨.tuple #[zv, .bool false], ?_, tup2 z2 (.bool _)⟩
      unfold Instr.typeAssert
      simp only [Sem.run_bind, hun, Result.andThen_ok]
      cases d <;> first | exact absurd rfl (hd _) | simp [z1]
  case iface t' v =>
    cases hu with
    | iface _ _ v' h1 h2 =>
    dsimp only at h
    split at h
    · rename_i e
      have e := Nat.eq_of_beq_eq_true e
      subst e
      cases h
      refine ⟨if ok then .tuple #[v', .bool true] else v', ?_, ?_⟩
      · unfold Instr.typeAssert
        simp only [Sem.run_bind, hun, Result.andThen_ok]
        cases d <;> first | exact absurd rfl (hd _) | simp
      · cases ok
        · exact h2
        · exact tup2 h2 (.bool _)
    · rename_i e
      have hne : t' ≠ t := fun e' => by subst e'; exact e (Nat.beq_refl _)
      cases ok with
      | false => simp at h
      | true =>
        simp at h
        subst h
        refine ⟨.tuple #[zv, .bool false], ?_, tup2 z2 (.bool _)⟩
        unfold Instr.typeAssert
        simp only [Sem.run_bind, hun, Result.andThen_ok]
        cases d <;> first | exact absurd rfl (hd _) | simp [z1, hne]

theorem mkFunc_ok {f : FuncId} {a c : List AV} {a' c' : Array Value} (ha : VRs γ w a a') (hc : VRs γ w c c') (h1 : allOne (keptAll a) = true) (h2 : allOne (keptAll c) = true) : VR γ w (.func f (keptAll a) (keptAll c)) (.func (.func f) a' c') :=
  .func _ _ _ _ _ ha.kept.1 hc.kept.1 h1 h2 ha.kept.2 hc.kept.2

theorem extract_ok {u v : AV} {c : Value} {vs : List AV} {i : Nat} (hu : VR γ w u c) (h1 : u.tup? = some vs) (h2 : vs[i]? = some v) : ∃ d, (Instr.extract c i).run P w = .ok d w ∧ VR γ w v d := by
  obtain rfl := tup?_some h1
  obtain ⟨cs, rfl, hc⟩ := hu.tup_inv
  obtain ⟨x, hx1, hx2⟩ := hc.get h2
  exact ⟨x, by simp [Instr.extract, hx1], hx2⟩

theorem len_ok {t ty : TypeId} {d : TypeDesc} (ht : P.underlying t = some d) {k : Nat} (hd : (k = 0 ∧ d = .string) ∨ (k = 1 ∧ ∃ e, d = .slice e) ∨ (k = 2 ∧ ∃ a e, d = .map a e)) {u v : AV} {c : Value} (hu : VR γ w u c)
    (h : (match (generalizing := false) k, u with
      | 1, .nilsl | 2, .nilmap | 3, .nilsl => some (goInt 0)
      | 1, .vec es _ => some (goInt es.length)
      | 1, .ms _ _ _ n _ _ => some (goInt n)
      | 0, .str l => some (goInt l.length)
      | _, _ => none) = some v) :
    ∃ d, (Builtin.len_ #[t] ty #[c]).run P w = .ok d w ∧ VR γ w v d := by
  rcases hd with ⟨rfl, rfl⟩ | ⟨rfl, e, rfl⟩ | ⟨rfl, a, e, rfl⟩
  · cases u <;> try (simp at h; done)
    case str l =>
      cases h
      obtain ⟨x, rfl, rfl⟩ := hu.str_inv
      exact ⟨.int .i64 x.size, by simp [Builtin.len_, run_underlying ht]; rfl, by
        have : x.data.toList.length = x.size := Array.length_toList
        rw [this]; exact .int _ _⟩
  · cases u <;> try (simp at h; done)
    case nilsl =>
      cases hu
      cases h
      exact ⟨_, by simp [Builtin.len_, run_underlying ht]; rfl, .int _ _⟩
    case vec es tl =>
      cases h
      cases hu <;> exact ⟨_, by simp [Builtin.len_, run_underlying ht]; rfl, .int _ _⟩
    case ms i g o n cp z =>
      cases h
      cases hu
      exact ⟨_, by simp [Builtin.len_, run_underlying ht]; rfl, .int _ _⟩
  · cases u <;> try (simp at h; done)
    case nilmap =>
      cases hu
      cases h
      exact ⟨_, by simp [Builtin.len_, run_underlying ht]; rfl, .int _ _⟩

end Go.Am

/-
  The abstract machine, fifteenth part and a half: maps of numbers and of texts.
-/
namespace Go.Am
open Go.RowKit (Below)

variable {P : Program} {γ : Gh} {w : World} {s : Sg}

/-- what a map's keys are: texts, or numbers -/
def KeyD (str : Bool) (d : TypeDesc) : Prop := if str then d = .string else ∃ k, d = .int k

theorem run_checkKey' {d : TypeDesc} {str : Bool} {kt : TypeId} {k : Value} (hd : P.underlying kt = some d) (hk : KeyD str d) (e : Bool) (n : Nat) : (Instr.checkKey e (n + 1) kt k).run P w = .ok () w := by
  unfold Instr.checkKey
  simp only [Sem.run_bind, run_underlying hd, Result.andThen]
  cases str with
  | true =>
    simp only [KeyD, if_true] at hk
    subst hk
    cases k <;> rfl
  | false =>
    simp only [KeyD, Bool.false_eq_true, if_false] at hk
    obtain ⟨q, rfl⟩ := hk
    cases k <;> rfl

theorem keyEq_now {d : TypeDesc} {str : Bool} (hk : KeyD str d) {u v : AV} {a b : Value} (hs : u.isKey str = true) (hu : VR γ w u a) (hv : VR γ w v b) {e : Bool} (h : keyEq u v = some e) : Instr.sameNow d a b = some e := by
  unfold keyEq at h
  split at h
  · rename_i k x k' y
    split at h
    · rename_i hkk
      cases h
      cases str with
      | true => simp [AV.isKey] at hs
      | false =>
        simp only [KeyD, Bool.false_eq_true, if_false] at hk
        obtain ⟨q, rfl⟩ := hk
        obtain rfl := hu.int_inv
        obtain rfl := hv.int_inv
        simp [Instr.sameNow, hkk]
    · cases h
  · rename_i x y
    cases h
    cases str with
    | false => simp [AV.isKey] at hs
    | true =>
      simp only [KeyD, if_true] at hk
      subst hk
      obtain ⟨a', rfl, e1⟩ := hu.str_inv
      obtain ⟨b', rfl, e2⟩ := hv.str_inv
      simp only [Instr.sameNow, Option.some.injEq]
      rw [← e1, ← e2, Bool.eq_iff_iff]
      constructor
      · intro h
        have : a' = b' := (MapKept.bytes_beq a' b').mp h
        rw [this]
        simp
      · intro h
        have h' : a'.data.toList = b'.data.toList := by simpa using h
        have : a' = b' := by
          cases a'; cases b'
          simp only [ByteArray.mk.injEq]
          exact Array.toList_inj.mp h'
        exact (MapKept.bytes_beq a' b').mpr this
  · cases h

/-- entries, one by one -/
def EntR (γ : Gh) (w : World) (es : List (AV × AV)) (l : List MapEntry) : Prop := es.length = l.length ∧ ∀ (j : Nat) u x, es[j]? = some u → l[j]? = some x → VR γ w u.1 x.key ∧ VR γ w u.2 x.val ∧ allOne u.2.flat = true ∧ u.1.one = true

theorem EntR.cons {u : AV × AV} {x : MapEntry} {es : List (AV × AV)} {l : List MapEntry} (h : EntR γ w (u :: es) (x :: l)) : (VR γ w u.1 x.key ∧ VR γ w u.2 x.val ∧ allOne u.2.flat = true ∧ u.1.one = true) ∧ EntR γ w es l :=
  ⟨h.2 0 u x rfl rfl, by have := h.1; simpa using this, fun j a b ha hb => h.2 (j + 1) a b (by simpa using ha) (by simpa using hb)⟩

theorem find_ok {d : TypeDesc} {str : Bool} (hk : KeyD str d) {q : AV} {k : Value} (hs : q.isKey str = true) (hq : VR γ w q k) : ∀ {es : List (AV × AV)} {l : List MapEntry} (i : Nat), EntR γ w es l → ∀ {r : Option AV}, mapFind q es = some r →
    ∃ f, Instr.findNow d k l i = some f ∧ (match r, f with
      | none, none => True
      | some v, some (j, x) => i ≤ j ∧ VR γ w v x ∧ allOne v.flat = true ∧ ∃ e, l[j - i]? = some e ∧ Instr.sameNow d k e.key = some true
      | _, _ => False)
  | [], [], i, _, r, h => by
    cases h
    exact ⟨none, rfl, trivial⟩
  | [], _ :: _, _, he, _, _ => by have := he.1; simp at this
  | _ :: _, [], _, he, _, _ => by have := he.1; simp at this
  | u :: es, x :: l, i, he, r, h => by
    obtain ⟨⟨h1, h2, h3, _⟩, he'⟩ := he.cons
    simp only [mapFind, Option.bind_eq_some_iff] at h
    obtain ⟨e, hke, h⟩ := h
    have hn := keyEq_now hk hs hq h1 hke
    cases e with
    | true =>
      simp only [if_true, Option.some.injEq] at h
      subst h
      exact ⟨some (i, x.val), by simp only [Instr.findNow, hn], Nat.le_refl _, h2, h3, x, by simp, hn⟩
    | false =>
      simp only [Bool.false_eq_true, if_false] at h
      obtain ⟨f, hf, hm⟩ := find_ok hk hs hq (i + 1) he' h
      refine ⟨f, by simp only [Instr.findNow, hn]; exact hf, ?_⟩
      cases r with
      | none => cases f with
        | none => trivial
        | some y => exact hm
      | some v => cases f with
        | none => exact hm
        | some y =>
          obtain ⟨a, b, c, e', g1, g2⟩ := hm
          refine ⟨by omega, b, c, e', ?_, g2⟩
          have : y.1 - i = (y.1 - (i + 1)) + 1 := by omega
          rw [this]
          simpa using g1

theorem keyEq_comm (a b : AV) : keyEq a b = keyEq b a := by
  cases a <;> cases b <;> simp only [keyEq]
  · rename_i k n k' n'
    by_cases h : k = k'
    · subst h
      simp only [if_true]
      congr 1
      exact Bool.eq_iff_iff.2 (by simp only [beq_iff_eq]; exact ⟨fun h => h.symm, fun h => h.symm⟩)
    · rw [if_neg h, if_neg (fun e => h e.symm)]
  · rename_i x y
    congr 1
    exact Bool.eq_iff_iff.2 (by simp only [beq_iff_eq]; exact ⟨fun h => h.symm, fun h => h.symm⟩)

theorem keyEq_true {u v : AV} (h : keyEq u v = some true) : v = u := by
  unfold keyEq at h
  split at h
  · split at h
    · rename_i hk
      simp only [Option.some.injEq, beq_iff_eq] at h
      rw [hk, h]
    · cases h
  · simp only [Option.some.injEq, beq_iff_eq] at h
    rw [h]
  · cases h

theorem KeysD.perm {a b : List (AV × AV)} (h : a.Perm b) (k : KeysD a) : KeysD b := (h.pairwise_iff fun {x y} e => (keyEq_comm _ _).trans e).1 k

theorem mapFind_perm {q : AV} {a b : List (AV × AV)} (h : a.Perm b) : ∀ {r : Option AV}, KeysD a → mapFind q a = some r → mapFind q b = some r := by
  induction h with
  | nil => exact fun _ h => h
  | cons x _ ih =>
    intro r k h
    obtain ⟨x1, x2⟩ := x
    simp only [mapFind, Option.bind_eq_some_iff] at h ⊢
    obtain ⟨e, he, h⟩ := h
    refine ⟨e, he, ?_⟩
    cases e with
    | true => exact h
    | false => exact ih (List.pairwise_cons.1 k).2 h
  | swap x y l =>
    intro r k h
    obtain ⟨x1, x2⟩ := x
    obtain ⟨y1, y2⟩ := y
    have hyx : keyEq y1 x1 = some false := (List.pairwise_cons.1 k).1 _ List.mem_cons_self
    simp only [mapFind, Option.bind_eq_some_iff] at h ⊢
    obtain ⟨e, he, h⟩ := h
    cases e with
    | true =>
      have := keyEq_true he
      subst this
      refine ⟨false, hyx, ?_⟩
      simp only [Bool.false_eq_true, if_false, mapFind, he, Option.bind_some, if_true] at h ⊢
      exact h
    | false =>
      simp only [Bool.false_eq_true, if_false, mapFind, Option.bind_eq_some_iff] at h
      obtain ⟨e', he', h⟩ := h
      refine ⟨e', he', ?_⟩
      cases e' with
      | true => exact h
      | false => simp only [Bool.false_eq_true, if_false, mapFind, he, Option.bind_some] at h ⊢; exact h
  | trans h1 _ ih1 ih2 => exact fun k h => ih2 (k.perm h1) (ih1 k h)

theorem mapSet_perm {q y : AV} {a b : List (AV × AV)} (h : a.Perm b) : ∀ {a' : List (AV × AV)}, KeysD a → mapSet q y a = some a' → ∃ b', mapSet q y b = some b' ∧ a'.Perm b' := by
  induction h with
  | nil => exact fun _ h => ⟨_, h, List.Perm.refl _⟩
  | cons x hp ih =>
    intro a' k h
    obtain ⟨x1, x2⟩ := x
    simp only [mapSet, Option.bind_eq_some_iff] at h
    obtain ⟨e, he, h⟩ := h
    cases e with
    | true =>
      simp only [if_true, Option.some.injEq] at h
      subst h
      exact ⟨_, by simp only [mapSet, he, Option.bind_some, if_true], hp.cons _⟩
    | false =>
      simp only [Bool.false_eq_true, if_false, Option.bind_eq_some_iff, Option.some.injEq] at h
      obtain ⟨l, hl, rfl⟩ := h
      obtain ⟨l', h1, h2⟩ := ih (List.pairwise_cons.1 k).2 hl
      exact ⟨_, by simp only [mapSet, he, Option.bind_some, Bool.false_eq_true, if_false, h1], h2.cons _⟩
  | swap x z l =>
    intro a' k h
    obtain ⟨x1, x2⟩ := x
    obtain ⟨z1, z2⟩ := z
    have hzx : keyEq z1 x1 = some false := (List.pairwise_cons.1 k).1 _ List.mem_cons_self
    simp only [mapSet, Option.bind_eq_some_iff] at h
    obtain ⟨e, he, h⟩ := h
    cases e with
    | true =>
      simp only [if_true, Option.some.injEq] at h
      subst h
      have := keyEq_true he
      subst this
      exact ⟨_, by simp only [mapSet, hzx, he, Option.bind_some, if_true, Bool.false_eq_true, if_false], List.Perm.swap _ _ _⟩
    | false =>
      simp only [Bool.false_eq_true, if_false, Option.bind_eq_some_iff, Option.some.injEq] at h
      obtain ⟨l', ⟨e', he', h⟩, rfl⟩ := h
      cases e' with
      | true =>
        simp only [if_true, Option.some.injEq] at h
        subst h
        exact ⟨_, by simp only [mapSet, he', Option.bind_some, if_true], List.Perm.swap _ _ _⟩
      | false =>
        simp only [Bool.false_eq_true, if_false, Option.bind_eq_some_iff, Option.some.injEq] at h
        obtain ⟨l'', hl, rfl⟩ := h
        exact ⟨_, by simp only [mapSet, he', he, hl, Option.bind_some, Bool.false_eq_true, if_false], List.Perm.swap _ _ _⟩
  | trans h1 _ ih1 ih2 =>
    intro a' k h
    obtain ⟨b', g1, g2⟩ := ih1 k h
    obtain ⟨c', g3, g4⟩ := ih2 (k.perm h1) g1
    exact ⟨c', g3, g2.trans g4⟩

theorem mapSet_keys {q y : AV} : ∀ {es es' : List (AV × AV)}, mapSet q y es = some es' → ∀ x ∈ es', (∃ z, z ∈ es ∧ x.1 = z.1) ∨ x.1 = q
  | [], es', h, x, hx => by
    cases h
    simp at hx
    subst hx
    exact .inr rfl
  | u :: es, es', h, x, hx => by
    simp only [mapSet, Option.bind_eq_some_iff] at h
    obtain ⟨e, _, h⟩ := h
    cases e with
    | true =>
      simp only [if_true, Option.some.injEq] at h
      subst h
      rcases List.mem_cons.mp hx with rfl | hx
      · exact .inl ⟨u, List.mem_cons_self, rfl⟩
      · exact .inl ⟨x, List.mem_cons_of_mem _ hx, rfl⟩
    | false =>
      simp only [Bool.false_eq_true, if_false, Option.bind_eq_some_iff, Option.some.injEq] at h
      obtain ⟨l, hl, rfl⟩ := h
      rcases List.mem_cons.mp hx with rfl | hx
      · exact .inl ⟨u, List.mem_cons_self, rfl⟩
      · rcases mapSet_keys hl x hx with ⟨z, hz, h1⟩ | h
        · exact .inl ⟨z, List.mem_cons_of_mem _ hz, h1⟩
        · exact .inr h

theorem KeysD.set {q y : AV} : ∀ {es es' : List (AV × AV)}, KeysD es → mapSet q y es = some es' → KeysD es'
  | [], es', _, h => by cases h; exact List.pairwise_singleton _ _
  | u :: es, es', k, h => by
    obtain ⟨k1, k2⟩ := List.pairwise_cons.1 k
    simp only [mapSet, Option.bind_eq_some_iff] at h
    obtain ⟨e, he, h⟩ := h
    cases e with
    | true =>
      simp only [if_true, Option.some.injEq] at h
      subst h
      exact List.pairwise_cons.2 ⟨k1, k2⟩
    | false =>
      simp only [Bool.false_eq_true, if_false, Option.bind_eq_some_iff, Option.some.injEq] at h
      obtain ⟨l, hl, rfl⟩ := h
      refine List.pairwise_cons.2 ⟨fun x hx => ?_, KeysD.set k2 hl⟩
      rcases mapSet_keys hl x hx with ⟨z, hz, e1⟩ | e1
      · show keyEq u.1 x.1 = _
        rw [e1]; exact k1 z hz
      · show keyEq u.1 x.1 = _
        rw [e1, keyEq_comm]; exact he

theorem getMap_obj (hI : Inv P γ s w) {i : Nat} {es : List (AV × AV)} (h : getMap s.heap i = some es) : s.heap[i]? = some (.mapo es) ∧ γ.ge i = 0 ∧ ∃ (ents : Array MapEntry) (clk : Nat), w.heap[γ.ob i]? = some (.map ents clk) ∧ ∃ es0 : List (AV × AV), es.Perm es0 ∧ KeysD es ∧ EntR γ w es0 ents.toList := by
  have h0 : s.heap[i]? = some (.mapo es) := by
    unfold getMap at h
    split at h
    · rename_i e; cases h; exact e
    · cases h
  obtain ⟨_, h1, ents, clk, h2, es0, hp, hk, h3, h4⟩ := hI.obj i _ h0
  exact ⟨h0, h1, ents, clk, h2, es0, hp, hk, by simpa using h3, fun j u x hu hx => h4 j u x hu (by simpa using hx)⟩

theorem map_ref (hI : Inv P γ s w) {i : Nat} {c : Value} (hu : VR γ w (.map i) c) {es : List (AV × AV)} (h : getMap s.heap i = some es) : c = .map (some (γ.ob i)) := by
  obtain ⟨_, h1, _⟩ := getMap_obj hI h
  cases hu with
  | map _ r hi hr => rw [hr h1]

theorem lookup_ok (hI : Inv P γ s w) {t kt e : TypeId} {d : TypeDesc} {str : Bool} (ht : P.underlying t = some (.map kt e)) (hd : P.underlying kt = some d) (hk : KeyD str d) {z : AV} (hz : zeroVal P e = some z) {u q v : AV} {c k : Value} (hu : VR γ w u c) (hq : VR γ w q k) (hs : q.isKey str = true)
    {es : List (AV × AV)} (hes : mapOf s.heap u = some es) {r : Option AV} (hf : mapFind q es = some r) {ok : Bool} (hv : v = lookV ok z r) : ∃ x, (Instr.lookup t c k ok).run P w = .ok x w ∧ VR γ w v x := by
  subst hv
  obtain ⟨zc, hz1, hz2, _⟩ := zeroVal_ok (γ := γ) (w := w) hz
  have hes : (u = .nilmap ∧ es = []) ∨ ∃ i, u = .map i ∧ getMap s.heap i = some es := by
    unfold mapOf at hes
    split at hes
    · cases hes; exact .inl ⟨rfl, rfl⟩
    · exact .inr ⟨_, rfl, hes⟩
    · cases hes
  rcases hes with ⟨rfl, rfl⟩ | ⟨i, rfl, hg⟩
  · obtain rfl : c = .map none := by cases hu; rfl
    have hck : (Instr.checkKey true 10000 kt k).run P w = .ok () w := run_checkKey' hd hk _ 9999
    have hfk : (Instr.findKey kt k []).run P w = .ok none w := MapKept.run_findKey (w := w) hd rfl
    cases hf
    refine ⟨if ok then .tuple #[zc, .bool false] else zc, ?_, ?_⟩
    · simp [Instr.lookup, run_underlying ht, hck, hfk, hz1, Result.andThen]
    · cases ok with
      | false => exact hz2
      | true => exact tup2 hz2 (.bool _)
  · obtain rfl := map_ref hI hu hg
    obtain ⟨_, _, ents, clk, hb, es0, hp, hkd, hE⟩ := getMap_obj hI hg
    have hf := mapFind_perm hp hkd hf
    have hck : (Instr.checkKey ents.isEmpty 10000 kt k).run P w = .ok () w := run_checkKey' hd hk _ 9999
    obtain ⟨f, hf1, hf2⟩ := find_ok hk hs hq 0 hE hf
    have hfk := MapKept.run_findKey (P := P) (w := w) hd hf1
    cases r with
    | none =>
      cases f with
      | some y => exact hf2.elim
      | none =>
        refine ⟨if ok then .tuple #[zc, .bool false] else zc, ?_, ?_⟩
        · simp [Instr.lookup, run_underlying ht, MapKept.run_getObj_map hb, hck, hfk, hz1, Result.andThen]
        · cases ok with
          | false => exact hz2
          | true => exact tup2 hz2 (.bool _)
    | some v =>
      cases f with
      | none => exact hf2.elim
      | some y =>
        obtain ⟨j, x⟩ := y
        refine ⟨if ok then .tuple #[x, .bool true] else x, ?_, ?_⟩
        · simp [Instr.lookup, run_underlying ht, MapKept.run_getObj_map hb, hck, hfk, Result.andThen]
        · cases ok with
          | false => exact hf2.2.1
          | true => exact tup2 hf2.2.1 (.bool _)

-- ---------------------------------------------------------------- a map's entries are written

theorem set_ok {d : TypeDesc} {str : Bool} (hk : KeyD str d) {q y : AV} {k : Value} (hs : q.isKey str = true) (hq : VR γ w q k) : ∀ {es es' : List (AV × AV)} {l : List MapEntry} (i : Nat), EntR γ w es l → mapSet q y es = some es' →
    ∃ f, Instr.findNow d k l i = some f ∧ (match f with
      | none => es' = es ++ [(q, y)]
      | some (j, _) => i ≤ j ∧ es' = setAt es (j - i) (q, y) ∧ j - i < es.length ∧ ∃ e, l[j - i]? = some e ∧ Instr.sameNow d k e.key = some true)
  | [], es', [], i, _, h => by
    cases h
    exact ⟨none, rfl, rfl⟩
  | [], _, _ :: _, _, he, _ => by have := he.1; simp at this
  | _ :: _, _, [], _, he, _ => by have := he.1; simp at this
  | u :: es, es', x :: l, i, he, h => by
    obtain ⟨⟨h1, _, _, _⟩, he'⟩ := he.cons
    simp only [mapSet, Option.bind_eq_some_iff] at h
    obtain ⟨e, hke, h⟩ := h
    have hn := keyEq_now hk hs hq h1 hke
    cases e with
    | true =>
      simp only [if_true, Option.some.injEq] at h
      subst h
      refine ⟨some (i, x.val), by simp only [Instr.findNow, hn], Nat.le_refl _, ?_, by simp, x, by simp, hn⟩
      rw [keyEq_true hke]
      simp [setAt]
    | false =>
      simp only [Bool.false_eq_true, if_false, Option.bind_eq_some_iff, Option.some.injEq] at h
      obtain ⟨l', h2, rfl⟩ := h
      obtain ⟨f, hf, hm⟩ := set_ok hk hs hq (i + 1) he' h2
      refine ⟨f, by simp only [Instr.findNow, hn]; exact hf, ?_⟩
      cases f with
      | none => simp only at hm ⊢; rw [hm]; rfl
      | some z =>
        obtain ⟨a, b, c, e', g1, g2⟩ := hm
        have e1 : z.1 - i = (z.1 - (i + 1)) + 1 := by omega
        refine ⟨by omega, ?_, ?_, e', ?_, g2⟩
        · rw [e1, b]; rfl
        · rw [e1]; simp; omega
        · rw [e1]; simpa using g1

theorem Inv.setMap (hI : Inv P γ s w) {i : Nat} {es es' es0 : List (AV × AV)} {ents ents' : Array MapEntry} {clk clk' : Nat} (ho : s.heap[i]? = some (.mapo es)) (hb : w.heap[γ.ob i]? = some (.map ents clk)) (hp : es'.Perm es0) (hkd : KeysD es') (hv : EntR γ w es0 ents'.toList) :
    Inv P γ { s with heap := setAt s.heap i (.mapo es') } { w with heap := w.heap.setIfInBounds (γ.ob i) (.map ents' clk') } ∧ Le γ w γ { w with heap := w.heap.setIfInBounds (γ.ob i) (.map ents' clk') } := by
  have hi := hI.live ho (by intro e; cases e)
  obtain ⟨k0, k1, _⟩ := hI.obj i _ ho
  obtain ⟨l1, l2, l3⟩ := hI.lt i hi
  obtain ⟨s1, s2⟩ := MapKept.heap_set (o' := .map ents' clk') hb
  have hle : Le γ w γ { w with heap := w.heap.setIfInBounds (γ.ob i) (.map ents' clk') } :=
    { Le.refl γ w with
      F := fun b o hf => ⟨hf, World.cell?_of_block (s2 b (fun e => by subst e; exact l3 o hf))⟩
      sz := fun b c e fr h => ⟨c, fr, by
        rw [s2 b (fun e' => by rw [e'] at h; rw [hb] at h; cases h)]
        exact h, rfl⟩
      below := ⟨rfl, rfl, rfl, by simp, fun k hk => s2 k (by omega)⟩
      fr := fun b hf => ⟨⟨by simpa using hf.1, hf.2.1, hf.2.2⟩, .inl (s2 b fun e => hf.2.1 i hi e.symm).symm, fun _ h => h⟩ }
  refine ⟨⟨by simp [length_setAt, hI.n], hI.tn, ?_, hI.inj, ?_, ?_, hI.tinj, hI.tob, ?_, ?_, ?_, fun p hp => (hI.gl p hp).monoV hle.toLeV⟩, hle⟩
  · intro j o hj
    simp only [getElem?_setAt] at hj
    split at hj
    · rename_i e'
      subst e'
      rw [if_pos (lt_of_getElem? ho)] at hj
      cases hj
      exact ⟨k0, k1, ents', clk', s1, es0, hp, hkd, by simpa using hv.1, fun j u x hu hx => by
        obtain ⟨a, b, c, d⟩ := hv.2 j u x hu (by simpa using hx)
        exact ⟨a.mono hle, b.mono hle, c, d⟩⟩
    · rename_i hne
      have hj' := hI.ilt hj
      refine (hI.obj j o hj).mono' hle Iff.rfl (fun _ => rfl) (fun _ => rfl) fun hl => ?_
      exact s2 _ fun e' => hne (hI.inj j i ⟨hj', hl⟩ hi e')
  · intro j hj
    obtain ⟨a, b, c⟩ := hI.lt j hj
    exact ⟨a, by simpa using b, c⟩
  · intro t ht
    obtain ⟨a, b, c0, d, e', fr', f, g'⟩ := hI.tok t ht
    exact ⟨a, b, c0, d, e', fr', by rw [s2 _ (hI.tob t i ht hi)]; exact f, g'⟩
  · intro b o hf
    have := hI.Flt b o hf
    simpa using this
  · have := hI.base
    simpa using this
  · exact fun p hp => (hI.ty p hp).monoV hle.toLeV

-- ---------------------------------------------------------------- a text's iterator

theorem getIter_some {h : List AObj} {i : Nat} {q : List UInt8 × Nat} (hq : getIter h i = some q) : h[i]? = some (.siter q.1 q.2) := by
  unfold getIter at hq
  split at hq
  · cases hq; assumption
  · cases hq

theorem Inv.setIter (hI : Inv P γ s w) {i : Nat} {l : List UInt8} {p p' : Nat} {bs : ByteArray} (ho : s.heap[i]? = some (.siter l p)) (hb : w.heap[γ.ob i]? = some (.stringIter bs p)) (hbs : bs.data.toList = l) :
    Inv P γ { s with heap := setAt s.heap i (.siter l p') } { w with heap := w.heap.setIfInBounds (γ.ob i) (.stringIter bs p') } ∧ Le γ w γ { w with heap := w.heap.setIfInBounds (γ.ob i) (.stringIter bs p') } := by
  have hi := hI.live ho (by intro e; cases e)
  obtain ⟨k0, k1, _⟩ := hI.obj i _ ho
  obtain ⟨l1, l2, l3⟩ := hI.lt i hi
  have s1 : (w.heap.setIfInBounds (γ.ob i) (.stringIter bs p'))[γ.ob i]? = some (.stringIter bs p') := by rw [Array.getElem?_setIfInBounds, if_pos rfl, if_pos l2]
  have s2 : ∀ b, b ≠ γ.ob i → (w.heap.setIfInBounds (γ.ob i) (.stringIter bs p'))[b]? = w.heap[b]? := fun b hb => by rw [Array.getElem?_setIfInBounds, if_neg (fun e => hb e.symm)]
  have hle : Le γ w γ { w with heap := w.heap.setIfInBounds (γ.ob i) (.stringIter bs p') } :=
    { Le.refl γ w with
      F := fun b o hf => ⟨hf, World.cell?_of_block (s2 b (fun e => by subst e; exact l3 o hf))⟩
      sz := fun b c e fr h => ⟨c, fr, by
        rw [s2 b (fun e' => by rw [e'] at h; rw [hb] at h; cases h)]
        exact h, rfl⟩
      below := ⟨rfl, rfl, rfl, by simp, fun k hk => s2 k (by omega)⟩
      fr := fun b hf => ⟨⟨by simpa using hf.1, hf.2.1, hf.2.2⟩, .inl (s2 b fun e => hf.2.1 i hi e.symm).symm, fun _ h => h⟩ }
  refine ⟨⟨by simp [length_setAt, hI.n], hI.tn, ?_, hI.inj, ?_, ?_, hI.tinj, hI.tob, ?_, ?_, ?_, fun p hp => (hI.gl p hp).monoV hle.toLeV⟩, hle⟩
  · intro j o hj
    simp only [getElem?_setAt] at hj
    split at hj
    · rename_i e'
      subst e'
      rw [if_pos (lt_of_getElem? ho)] at hj
      cases hj
      exact ⟨k0, k1, bs, s1, hbs⟩
    · rename_i hne
      have hj' := hI.ilt hj
      refine (hI.obj j o hj).mono' hle Iff.rfl (fun _ => rfl) (fun _ => rfl) fun hl => ?_
      exact s2 _ fun e' => hne (hI.inj j i ⟨hj', hl⟩ hi e')
  · intro j hj
    obtain ⟨a, b, c⟩ := hI.lt j hj
    exact ⟨a, by simpa using b, c⟩
  · intro t ht
    obtain ⟨a, b, c0, d, e', fr', f, g'⟩ := hI.tok t ht
    exact ⟨a, b, c0, d, e', fr', by rw [s2 _ (hI.tob t i ht hi)]; exact f, g'⟩
  · intro b o hf
    have := hI.Flt b o hf
    simpa using this
  · have := hI.base
    simpa using this
  · exact fun p hp => (hI.ty p hp).monoV hle.toLeV

theorem rangeS_ok (hI : Inv P γ s w) {t : TypeId} (ht : P.underlying t = some .string) {l : List UInt8} {c : Value} (hu : VR γ w (.str l) c) : AppR P γ w (Instr.range t c) (.ptr s.heap.length 0 0) (s.push (.siter l 0)) := by
  obtain ⟨bs, rfl, rfl⟩ := hu.str_inv
  refine ⟨_, _, .pointer (some ⟨w.heap.size, 0, none⟩), ?_, Le.push hI _, hI.push_gen (.stringIter bs 0) (fun _ _ _ e => by cases e) (.siter bs.data.toList 0) ⟨(Gh.push_live_n _ _).2, upd_same _ _ _, bs, ?_, rfl⟩, ?_⟩
  · simp [Instr.range, run_underlying ht]
  · show (w.alloc (.stringIter bs 0)).heap[upd γ.ob γ.n w.heap.size γ.n]? = _
    rw [upd_same]
    show (w.heap.push _)[w.heap.size]? = _
    simp
  · have hn : s.heap.length = γ.n := hI.n
    rw [hn]
    refine .ptr γ.n 0 0 _ (Gh.push_live_n _ _) (Nat.zero_le _) fun _ => ?_
    show _ = (⟨upd γ.ob γ.n w.heap.size γ.n, 0, none⟩ : Addr)
    rw [upd_same]

theorem nextS_ok (hI : Inv P γ s w) {ty : TypeId} {i : Nat} {c : Value} {q : List UInt8 × Nat} (hu : VR γ w (.ptr i 0 0) c) (hq : getIter s.heap i = some q) :
    (q.2 < q.1.length → AppR P γ w (Instr.next c true ty) (.tup [.bool true, goInt q.2, .int .i32 (Utf8.decode ⟨q.1.toArray⟩ q.2).1]) { s with heap := setAt s.heap i (.siter q.1 (q.2 + (Utf8.decode ⟨q.1.toArray⟩ q.2).2)) }) ∧
    (¬ q.2 < q.1.length → AppR P γ w (Instr.next c true ty) (.tup [.bool false]) s) := by
  obtain ⟨l, p⟩ := q
  have ho := getIter_some hq
  simp only at ho ⊢
  obtain ⟨_, k1, bs, hb, rfl⟩ := hI.obj i _ ho
  cases hu with
  | ptr _ _ _ a w1 w2 w3 =>
  obtain rfl := w3 k1
  have hbs : (⟨bs.data.toList.toArray⟩ : ByteArray) = bs := by simp
  have hsz : bs.data.toList.length = bs.size := Array.length_toList
  rw [hbs, hsz]
  refine ⟨fun hlt => ?_, fun hge => ?_⟩
  · obtain ⟨g1, g2⟩ := hI.setIter (p' := p + (Utf8.decode bs p).2) ho hb rfl
    refine ⟨γ, _, .tuple #[.bool true, Go.goInt p, .int .i32 (Utf8.decode bs p).1], ?_, g2, g1, ?_⟩
    · have e1 : (getObj (γ.ob i)).run P w = .ok (.stringIter bs p) w := by simp [getObj, Sem.run, hb]
      have e2 : ∀ o : Obj, (setObj (γ.ob i) o).run P w = .ok () { w with heap := w.heap.setIfInBounds (γ.ob i) o } := fun o => by simp [setObj, Sem.run, hb]
      simp only [Instr.next, Sem.run_bind, e1, Result.andThen_ok, if_pos hlt, e2, Sem.run_pure]
    · refine .tup _ _ rfl fun j u x hj hx => ?_
      match j with
      | 0 => simp at hj hx; subst hj hx; exact .bool _
      | 1 => simp at hj hx; subst hj hx; exact .int _ _
      | 2 => simp at hj hx; subst hj hx; exact .int _ _
      | j + 3 => simp at hj
  · refine ⟨γ, w, .tuple #[.bool false], ?_, Le.refl _ _, hI, ?_⟩
    · have e1 : (getObj (γ.ob i)).run P w = .ok (.stringIter bs p) w := by simp [getObj, Sem.run, hb]
      simp only [Instr.next, Sem.run_bind, e1, Result.andThen_ok, if_neg hge, Sem.run_pure]
    · refine .tup _ _ rfl fun j u x hj hx => ?_
      match j with
      | 0 => simp at hj hx; subst hj hx; exact .bool _
      | j + 1 => simp at hj

theorem sameBits_key {d : TypeDesc} {str : Bool} (hk : KeyD str d) {a b : Value} (h : Instr.sameNow d a b = some true) (n : Nat) : Instr.sameBits n b a = true := by
  cases str with
  | true =>
    simp only [KeyD, if_true] at hk
    subst hk
    cases a <;> cases b <;> simp [Instr.sameNow] at h
    rename_i x y
    have e : x = y := (MapKept.bytes_beq x y).mp (by simpa using h)
    subst e
    have := (MapKept.bytes_beq x x).mpr rfl
    cases n <;> simpa [Instr.sameBits] using this
  | false =>
    simp only [KeyD, Bool.false_eq_true, if_false] at hk
    obtain ⟨q, rfl⟩ := hk
    cases a <;> cases b <;> simp [Instr.sameNow] at h
    obtain ⟨rfl, rfl⟩ := h
    cases n <;> simp [Instr.sameBits]

theorem mapPut_ok (hI : Inv P γ s w) {t kt e : TypeId} {d : TypeDesc} {str : Bool} (ht : P.underlying t = some (.map kt e)) (hd : P.underlying kt = some d) (hk : KeyD str d) {i : Nat} {q x y : AV} {c k v : Value} (hu : VR γ w (.map i) c) (hq : VR γ w q k) (hs : q.isKey str = true) (hx : VR γ w x v) (hy : x.storedEl = some y)
    {es es' : List (AV × AV)} (hes : getMap s.heap i = some es) (hset : mapSet q y es = some es') : ∃ w', (Instr.mapUpdate t c k v).run P w = .ok () w' ∧ Le γ w γ w' ∧ Inv P γ { s with heap := setAt s.heap i (.mapo es') } w' := by
  obtain rfl := map_ref hI hu hes
  obtain ⟨h0, _, ents, clk, hb, es1, hp, hkd, hE⟩ := getMap_obj hI hes
  have hkd' := hkd.set hset
  obtain ⟨es1', hset, hp'⟩ := mapSet_perm hp hkd hset
  obtain ⟨hyv, hy1, _⟩ := storedEl_ok hy hx
  have hck : (Instr.checkKey false 10000 kt k).run P w = .ok () w := run_checkKey' hd hk _ 9999
  obtain ⟨f, hf, hm⟩ := set_ok hk hs hq 0 hE hset
  have hfk := MapKept.run_findKey (P := P) (w := w) hd hf
  have hq1 : q.one = true := by
    unfold AV.isKey at hs
    split at hs
    · rfl
    · rfl
    · cases hs
  cases f with
  | none =>
    simp only at hm
    have hE' : EntR γ w es1' (ents.push { key := k, val := v, born := clk }).toList := by
      subst hm
      refine ⟨by have := hE.1; simp at this ⊢; exact this, fun j a b ha hb => ?_⟩
      by_cases hj : j < es1.length
      · rw [List.getElem?_append_left hj] at ha
        have hj2 : j < ents.toList.length := by rw [← hE.1]; exact hj
        rw [Array.toList_push, List.getElem?_append_left hj2] at hb
        exact hE.2 j a b ha hb
      · have : j = es1.length := by have := lt_of_getElem? ha; simp at this; omega
        subst this
        rw [List.getElem?_append_right (Nat.le_refl _)] at ha
        rw [Array.toList_push, List.getElem?_append_right (by rw [hE.1]; exact Nat.le_refl _)] at hb
        simp at ha
        rw [hE.1] at hb
        simp at hb
        subst ha hb
        exact ⟨hq, hyv, hy1, hq1⟩
    obtain ⟨g1, g2⟩ := hI.setMap (clk' := clk + 1) h0 hb hp' hkd' hE'
    refine ⟨_, ?_, g2, g1⟩
    simp [Instr.mapUpdate, run_underlying ht, MapKept.run_getObj_map hb, hck, hfk, MapKept.run_setObj_map _ hb, Result.andThen]
  | some z =>
    obtain ⟨j, x0⟩ := z
    obtain ⟨_, h2, h3, e', g1, g2⟩ := hm
    rw [Nat.sub_zero] at h2 h3 g1
    have hg1 : ents[j]? = some e' := by simpa using g1
    have hst : (Instr.keyThatStays (((ents[j]?).map (·.key)).getD k) k).run P w = .ok k w := by
      rw [hg1]
      simp [Instr.keyThatStays, sameBits_key hk g2]
    have hE' : EntR γ w es1' (ents.modify j fun e => { e with key := k, val := v }).toList := by
      subst h2
      refine ⟨by have := hE.1; simp [length_setAt] at this ⊢; exact this, fun j' a b ha hb => ?_⟩
      rw [getElem?_setAt] at ha
      have hb' : (ents.modify j fun e => { e with key := k, val := v })[j']? = some b := by rw [← Array.getElem?_toList]; exact hb
      rw [Array.getElem?_modify] at hb'
      by_cases hj : j' = j
      · subst hj
        rw [if_pos rfl, if_pos h3] at ha
        rw [if_pos rfl, hg1] at hb'
        cases ha
        cases hb'
        exact ⟨hq, hyv, hy1, hq1⟩
      · rw [if_neg hj] at ha
        rw [if_neg (fun e => hj e.symm)] at hb'
        exact hE.2 j' a b ha (by simpa using hb')
    obtain ⟨k1, k2⟩ := hI.setMap (clk' := clk) h0 hb hp' hkd' hE'
    refine ⟨_, ?_, k2, k1⟩
    simp only [Instr.mapUpdate, Sem.run_bind, run_underlying ht, Result.andThen_ok, MapKept.run_getObj_map hb, hck, hfk, hst, MapKept.run_setObj_map _ hb]

theorem makeMap_ok (hI : Inv P γ s w) {t : TypeId} : AppR P γ w (Instr.makeMap t none) (.map s.heap.length) (s.push (.mapo [])) := by
  refine ⟨_, _, .map (some w.heap.size), ?_, Le.push hI _, hI.push_gen (.map #[] 0) (fun _ _ _ e => by cases e) (.mapo []) ⟨(Gh.push_live_n _ _).2, upd_same _ _ _, #[], 0, ?_, [], List.Perm.refl _, List.Pairwise.nil, rfl, fun j u x hu => by simp at hu⟩, ?_⟩
  · simp [Instr.makeMap]
  · show (w.alloc (.map #[] 0)).heap[upd γ.ob γ.n w.heap.size γ.n]? = _
    rw [upd_same]
    show (w.heap.push _)[w.heap.size]? = _
    simp
  · have hn : s.heap.length = γ.n := hI.n
    rw [hn]
    refine .map γ.n _ (Gh.push_live_n _ _) fun _ => ?_
    show _ = upd γ.ob γ.n w.heap.size γ.n
    rw [upd_same]

theorem makeMap_some (hI : Inv P γ s w) {t kt e : TypeId} (ht : P.underlying t = some (.map kt e)) (k : IntKind) (n : Int) : AppR P γ w (Instr.makeMap t (some (.int k n))) (.map s.heap.length) (s.push (.mapo [])) := by
  obtain ⟨γ', w', c, h1, h2⟩ := makeMap_ok (P := P) hI (t := t)
  refine ⟨γ', w', c, ?_, h2⟩
  rw [← h1]
  simp [Instr.makeMap, run_underlying ht, asInt, asIntOf, Result.andThen]

-- ---------------------------------------------------------------- a slice that is cleared

theorem clear_ms_ok (hI : Inv P γ s w) {t e ty : TypeId} (ht : P.underlying t = some (.slice e)) {k : Option Nat × Nat} (hk : elSize P e = some k) {z : AV} (hz : zeroVal P e = some z) (hzl : z.flat.length = k.1.getD 1) {i g off len cp sz : Nat} {c : Value} (hu : VR γ w (.ms i g off len cp sz) c)
    (hlen : len ≠ 0) {cs cs' : List AV} (hg : getCells s.heap i g = some cs) (hw : writeAt cs off (flatAll (List.replicate len z)) = some cs') {tys : Array TypeId} (h0 : tys[0]? = some t) :
    ∃ w', (Builtin.clear_ tys ty #[c]).run P w = .ok (.tuple #[]) w' ∧ Le γ w γ w' ∧ Inv P γ { s with heap := setAt s.heap i (.cells cs' g) } w' := by
  obtain ⟨_, k1, k2, r, e0, fr, k3, k4, k5, k6⟩ := hI.obj i _ (getCells_some hg)
  cases hu with
  | ms _ _ _ _ _ _ a cap h1 h2 h3 h4 =>
  obtain ⟨ha, _⟩ := h4 k1
  subst ha
  obtain ⟨v, hv, hvr, inf, hi, hiz⟩ := zeroVal_ok (γ := γ) (w := w) hz
  obtain ⟨i', q1, q2, q3, q4, q5, q6⟩ := elSize_ok (k := k.1) (bytes := k.2) hk
  have hvc : v.cells.size = k.1.getD 1 := by rw [← hvr.flat.1]; exact hzl
  have hx1 : allOne z.flat = true := by
    unfold zeroVal at hz
    split at hz
    · exact VR.ofConst_one hz
    · cases hz
  have hxr : VRs γ w (flatAll (List.replicate len z)) (Builtin.zeroCells v.cells len) := flatAll_replicate hvr.flat (by rw [hvc]; exact q3) len
  have hx2 : allOne (flatAll (List.replicate len z)) = true := allOne_replicate hx1 len
  obtain ⟨w1, w2, w3⟩ := writeAt_spec hw
  have hll : (Builtin.zeroCells v.cells len).toList.length = (flatAll (List.replicate len z)).length := by rw [Array.length_toList]; exact hxr.1.symm
  have hfit : off + (Builtin.zeroCells v.cells len).toList.length ≤ r.size := by omega
  have hrun := run_storeCells_fr P (γ.ob i) off e0 fr (Builtin.zeroCells v.cells len).toList 0 r w k3 k5 (by omega) (hxr.oneCells hx2)
  have hset := hI.setObj (c' := splice r off (Builtin.zeroCells v.cells len).toList) (getCells_some hg) (allOne_writeAt hw k2 hx2) (by rw [size_splice _ _ _ hfit]; omega) (fun c0 e1 fr0 h0 => by
    rw [k3] at h0; cases h0; exact size_splice _ _ _ hfit) (fun j u x hu hx => by
    rw [w3 j] at hu
    by_cases hj : off ≤ j ∧ j < off + (flatAll (List.replicate len z)).length
    · rw [if_pos hj] at hu
      have : j = off + (j - off) := by omega
      rw [this, splice_in _ _ _ hfit (by omega)] at hx
      exact hxr.2 _ u x hu (by simpa using hx)
    · rw [if_neg hj] at hu
      rw [splice_out _ _ _ hfit (by omega)] at hx
      exact k6 j u x hu hx)
  refine ⟨_, ?_, hset.2, hset.1⟩
  rw [Nat.add_zero] at hrun
  obtain ⟨m, rfl⟩ : ∃ m, len = m + 1 := ⟨len - 1, by omega⟩
  simp [Builtin.clear_, h0, run_underlying ht, hv, hrun]

theorem clear_ok (hI : Inv P γ s w) {t e ty : TypeId} (ht : P.underlying t = some (.slice e)) {k : Option Nat × Nat} (hk : elSize P e = some k) {z : AV} (hz : zeroVal P e = some z) (hzl : z.flat.length = k.1.getD 1) {loc pers : Env} {x : AOpd} {u : AV} (hx : x.ev loc pers = some u) {c : Value} (hu : VR γ w u c)
    {bar : Bar} {v : AV} {s' : Sg} (hv : evE bar loc pers s (.clear z x) = some (v, s')) {tys : Array TypeId} (h0 : tys[0]? = some t) :
    ∃ w', (Builtin.clear_ tys ty #[c]).run P w = .ok (.tuple #[]) w' ∧ Le γ w γ w' ∧ Inv P γ s' w' ∧ v = .tup [] := by
  simp only [evE, hx, Option.bind_some] at hv
  split at hv
  · simp only [Option.some.injEq, Prod.mk.injEq] at hv
    obtain ⟨rfl, rfl⟩ := hv
    cases hu
    exact ⟨w, by simp [Builtin.clear_, h0, run_underlying ht], Le.refl _ _, hI, rfl⟩
  · simp only [Option.some.injEq, Prod.mk.injEq] at hv
    obtain ⟨rfl, rfl⟩ := hv
    cases hu <;> exact ⟨w, by simp [Builtin.clear_, h0, run_underlying ht], Le.refl _ _, hI, rfl⟩
  · split at hv
    · rename_i hc
      simp only [Bool.and_eq_true, Bool.not_eq_true'] at hc
      simp only [Option.bind_eq_some_iff, Option.map_eq_some_iff, Prod.mk.injEq] at hv
      obtain ⟨cs, hcs, cs', hcs', rfl, rfl⟩ := hv
      obtain ⟨w', g1, g2, g3⟩ := clear_ms_ok (P := P) (ty := ty) hI ht hk hz hzl hu (fun e => by subst e; simp at hc) hcs hcs' h0
      exact ⟨w', g1, g2, g3, rfl⟩
    · cases hv
  · cases hv

end Go.Am

/-
  The abstract machine, sixteenth part: every operation that comes to a value, beside the model's.
-/
namespace Go.Am
open Go.RowKit (Below)

variable {P : Program} {γ : Gh} {w : World} {s : Sg}


theorem simV (hI : Inv P γ s w) {m : Sem Value} {v : AV} (h : ∃ d, m.run P w = .ok d w ∧ VR γ w v d) : SimR P γ w ((do pure (Next.value (← m)) : Sem Next).run P w) v s := by
  obtain ⟨d, h1, h2⟩ := h
  exact SimR.val hI (run_value h1) h2

theorem simA {m : Sem Value} {v : AV} {s' : Sg} (h : AppR P γ w m v s') : SimR P γ w ((do pure (Next.value (← m)) : Sem Next).run P w) v s' := by
  obtain ⟨γ', w', d, h1, h2, h3, h4⟩ := h
  exact SimR.val' (run_value h1) h2 h3 h4

theorem optR_ok {loc pers : Env} {a : Act} (hE : EvR γ w loc pers a) {o : Option Operand} {x : Option AOpd} {v : Option AV} (ho : tOptOpd o = some x) (hx : evOpt loc pers x = some v) : OptR γ w v (o.map a.eval) := optOpd_ok hE ho hx

theorem loadPin {k : Option Nat} {x v : AV} (h : (match k with | none => if x.one then some x else none | some n => x.agg?.bind fun cs => if Nat.beq cs.length n then some x else none : Option AV) = some v) : v = x := by
  cases k with
  | none =>
    dsimp only at h
    split at h
    · cases h; rfl
    · cases h
  | some n =>
    simp only [Option.bind_eq_some_iff] at h
    obtain ⟨cs, _, h⟩ := h
    split at h
    · cases h; rfl
    · cases h

theorem evV_eqBool {loc pers : Env} {neg : Bool} {x y : AOpd} {v : AV} (h : evV loc pers s (.eqBool neg x y) = some v) : ∃ a b, x.ev loc pers = some (.bool a) ∧ y.ev loc pers = some (.bool b) ∧ v = .bool (negIf neg (a == b)) := by
  simp only [evV, Option.bind_eq_some_iff, Option.map_eq_some_iff] at h
  obtain ⟨u, hu, b1, hb1, u', hu', b2, hb2, rfl⟩ := h
  obtain rfl := bool?_some hb1
  obtain rfl := bool?_some hb2
  exact ⟨_, _, hu, hu', rfl⟩

theorem evV_eqAgg {loc pers : Env} {neg : Bool} {ks : List Nat} {x y : AOpd} {v : AV} (h : evV loc pers s (.eqAgg neg ks x y) = some v) :
    ∃ u u' cs ds e, x.ev loc pers = some u ∧ y.ev loc pers = some u' ∧ u.agg? = some cs ∧ u'.agg? = some ds ∧ eqCells ks cs ds = some e ∧ v = .bool (negIf neg e) := by
  simp only [evV, Option.bind_eq_some_iff, Option.map_eq_some_iff] at h
  obtain ⟨u, hu, cs, hcs, u', hu', ds, hds, e, he, rfl⟩ := h
  exact ⟨u, u', cs, ds, e, hu, hu', hcs, hds, he, rfl⟩

theorem evV_eqNil {loc pers : Env} {neg : Bool} {k : Nat} {x : AOpd} {v : AV} (h : evV loc pers s (.eqNil neg k x) = some v) : ∃ u e, x.ev loc pers = some u ∧ isNil k u = some e ∧ v = .bool (negIf neg e) := by
  simp only [evV, Option.bind_eq_some_iff, Option.map_eq_some_iff] at h
  obtain ⟨u, hu, e, he, rfl⟩ := h
  exact ⟨u, e, hu, he, rfl⟩

theorem addr_beq (b o o' : Nat) : ((⟨b, o, none⟩ : Addr) == ⟨b, o', none⟩) = Nat.beq o o' := by
  by_cases h : o = o'
  · subst h
    simp
  · have : Nat.beq o o' = false := by
      cases e : Nat.beq o o' with
      | false => rfl
      | true => exact absurd (Nat.eq_of_beq_eq_true e) h
    rw [this]
    simp [h]

theorem ptrEq_ok (hI : Inv P γ s w) {t e : TypeId} {n : Nat} (ht : P.underlying t = some (.pointer e)) (hn : sizeOfT P e = some n) (hn0 : n ≠ 0) {u v : AV} {c d : Value} {q : Bool} (h : ptrEq s.heap u v = some q) (hu : VR γ w u c) (hv : VR γ w v d) :
    ∃ pc pd, c = .pointer pc ∧ d = .pointer pd ∧ (Op.equal t c d).run P w = .ok q w := by
  obtain ⟨n', key⟩ := equal_succ t
  have hu' := run_underlying (P := P) (w := w) ht
  unfold ptrEq at h
  split at h
  · cases h
    cases hu
    cases hv
    exact ⟨_, _, rfl, rfl, by rw [key]; simp only [Op.equalIn, Sem.run_bind, hu', Result.andThen_ok]; rfl⟩
  · cases h
    cases hu
    cases hv
    exact ⟨_, _, rfl, rfl, by rw [key]; simp only [Op.equalIn, Sem.run_bind, hu', Result.andThen_ok]; rfl⟩
  · cases h
    cases hu
    cases hv
    exact ⟨_, _, rfl, rfl, by rw [key]; simp only [Op.equalIn, Sem.run_bind, hu', Result.andThen_ok]; rfl⟩
  · split at h
    · rename_i hc
      simp only [Bool.and_eq_true] at hc
      have e1 := Nat.eq_of_beq_eq_true hc.1
      have e2 := Nat.eq_of_beq_eq_true hc.2
      subst e1 e2
      simp only [Option.map_eq_some_iff] at h
      obtain ⟨cs, hg, rfl⟩ := h
      obtain ⟨rfl, _⟩ := ptr_cur hI hu hg
      obtain ⟨rfl, _⟩ := ptr_cur hI hv hg
      refine ⟨_, _, rfl, rfl, ?_⟩
      rw [key]
      simp only [Op.equalIn, Sem.run_bind, hu', Result.andThen_ok, run_sizeOf' hn, ne_eq, hn0, not_false_eq_true, if_true, sameAddr, beq_self_eq_true, addr_beq]
      rfl
    · cases h
  · cases h

theorem evV_eqPtr {loc pers : Env} {neg : Bool} {x y : AOpd} {v : AV} (h : evV loc pers s (.eqPtr neg x y) = some v) : ∃ u u' e, x.ev loc pers = some u ∧ y.ev loc pers = some u' ∧ ptrEq s.heap u u' = some e ∧ v = .bool (negIf neg e) := by
  simp only [evV, Option.bind_eq_some_iff, Option.map_eq_some_iff] at h
  obtain ⟨u, hu, u', hu', e, he, rfl⟩ := h
  exact ⟨u, u', e, hu, hu', he, rfl⟩

/-- operators on two values -/
theorem sim_bin (hI : Inv P γ s w) {loc pers : Env} {a : Act} (hE : EvR γ w loc pers a) {op : BinOp} {t : TypeId} {x y : Operand} {p : VOp} (ht : tBin P op t x y = some p) {v : AV} (hv : evV loc pers s p = some v) :
    SimR P γ w ((do pure (Next.value (← (do eqGuard op t x y (a.eval x) (a.eval y); binOp op t (a.eval x) (a.eval y) : Sem Value))) : Sem Next).run P w) v s := by
  unfold tBin at ht
  cases hx : tOpd x with
  | none => simp [hx] at ht
  | some ax =>
  cases hy : tOpd y with
  | none => simp [hx, hy] at ht
  | some ay =>
  simp only [hx, hy] at ht
  have plain : ∀ {op' : BinOp}, op' = op → evV loc pers s (.bin op' ax ay) = some v → SimR P γ w ((do pure (Next.value (← (do eqGuard op t x y (a.eval x) (a.eval y); binOp op t (a.eval x) (a.eval y) : Sem Value))) : Sem Next).run P w) v s := fun {op'} e hv => by
    subst e
    simp only [evV, Option.bind_eq_some_iff] at hv
    obtain ⟨u, hu, u', hu', hr⟩ := hv
    exact simV hI (evBin_ok hr (opd_ok hE hx hu) (opd_ok hE hy hu') t x y)
  have eqs : (op = .eql ∨ op = .neq) → (match (generalizing := false) P.underlying t with
       | some (.int _) | some .string | some (.float _) | some (.complex _) => some (.bin op ax ay)
       | some .bool => some (.eqBool (match (generalizing := false) op with | .neq => true | _ => false) ax ay)
       | some (.struct fs) =>
         if P.stoodInHeld t then none else (plainKinds P 0 fs.toList).map fun ks => .eqAgg (match (generalizing := false) op with | .neq => true | _ => false) ks ax ay
       | some d => (nilKind d).bind fun k =>
         if isNilConst k y then some (.eqNil (match (generalizing := false) op with | .neq => true | _ => false) k ax)
         else if isNilConst k x then some (.eqNil (match (generalizing := false) op with | .neq => true | _ => false) k ay) else
           (match (generalizing := false) d with | .pointer e => (match (generalizing := false) sizeOfT P e with | some n => if Nat.beq n 0 then none else some (.eqPtr (match (generalizing := false) op with | .neq => true | _ => false) ax ay) | none => none) | _ => none)
       | _ => none : Option VOp) = some p → SimR P γ w ((do pure (Next.value (← (do eqGuard op t x y (a.eval x) (a.eval y); binOp op t (a.eval x) (a.eval y) : Sem Value))) : Sem Next).run P w) v s := fun hop ht => by
    split at ht
    · cases ht; exact plain rfl hv
    · cases ht; exact plain rfl hv
    · cases ht; exact plain rfl hv
    · cases ht; exact plain rfl hv
    · rename_i hb
      obtain rfl := Option.some.inj ht
      obtain ⟨b1, b2, hu, hu', rfl⟩ := evV_eqBool hv
      have e1 := (opd_ok hE hx hu).bool_inv
      have e2 := (opd_ok hE hy hu').bool_inv
      rw [e1, e2]
      have := eqBool_ok (P := P) (w := w) b1 b2 hop t hb x y
      rcases hop with rfl | rfl <;> exact simV hI ⟨_, this, .bool _⟩
    · rename_i fs hb
      split at ht
      · cases ht
      · rename_i hsh
        simp only [Option.map_eq_some_iff] at ht
        obtain ⟨ks, hks, rfl⟩ := ht
        obtain ⟨u, u', cs, ds, e, hu, hu', hcs, hds, he, rfl⟩ := evV_eqAgg hv
        have := eqAgg_ok (P := P) hop hb (by simpa using hsh) hks (opd_ok hE hx hu) (opd_ok hE hy hu') hcs hds he x y
        rcases hop with rfl | rfl <;> exact simV hI ⟨_, this, .bool _⟩
    · rename_i d _ _ _ _ _ _ hb
      simp only [Option.bind_eq_some_iff] at ht
      obtain ⟨k, hk, ht⟩ := ht
      split at ht
      · rename_i hc
        obtain rfl := Option.some.inj ht
        obtain ⟨u, e, hu, he, rfl⟩ := evV_eqNil hv
        have hyc := isNilConst_eq hc
        subst hyc
        have := (eqNil_ok (P := P) hop hk he (opd_ok hE hx hu) t hb x).1
        rcases hop with rfl | rfl <;> exact simV hI ⟨_, this, .bool _⟩
      · split at ht
        · rename_i hc
          obtain rfl := Option.some.inj ht
          obtain ⟨u, e, hu, he, rfl⟩ := evV_eqNil hv
          have hxc := isNilConst_eq hc
          subst hxc
          have := (eqNil_ok (P := P) hop hk he (opd_ok hE hy hu) t hb y).2
          rcases hop with rfl | rfl <;> exact simV hI ⟨_, this, .bool _⟩
        · split at ht
          · rename_i el _ _
            split at ht
            · rename_i n hn
              split at ht
              · cases ht
              · rename_i hn0
                obtain rfl := Option.some.inj ht
                obtain ⟨u, u', e, hu, hu', he, rfl⟩ := evV_eqPtr hv
                obtain ⟨pc, pd, e1, e2, e3⟩ := ptrEq_ok (P := P) hI hb hn (fun e => by subst e; exact hn0 rfl) he (opd_ok hE hx hu) (opd_ok hE hy hu')
                rw [e1, e2] at e3 ⊢
                rcases hop with rfl | rfl
                · have : (do eqGuard .eql t x y (.pointer pc) (.pointer pd); binOp .eql t (.pointer pc) (.pointer pd) : Sem Value).run P w = .ok (.bool e) w := by
                    have hg : (eqGuard .eql t x y (.pointer pc) (.pointer pd)).run P w = .ok () w := rfl
                    have hb : binOp .eql t (.pointer pc) (.pointer pd) = (do pure (.bool (← Op.equal t (.pointer pc) (.pointer pd)))) := rfl
                    rw [hb]
                    simp only [Sem.run_bind, hg, Result.andThen_ok, e3]
                    rfl
                  exact simV hI ⟨_, this, .bool _⟩
                · have : (do eqGuard .neq t x y (.pointer pc) (.pointer pd); binOp .neq t (.pointer pc) (.pointer pd) : Sem Value).run P w = .ok (.bool (!e)) w := by
                    have hg : (eqGuard .neq t x y (.pointer pc) (.pointer pd)).run P w = .ok () w := rfl
                    have hb : binOp .neq t (.pointer pc) (.pointer pd) = (do pure (.bool (!(← Op.equal t (.pointer pc) (.pointer pd))))) := rfl
                    rw [hb]
                    simp only [Sem.run_bind, hg, Result.andThen_ok, e3]
                    rfl
                  exact simV hI ⟨_, this, .bool _⟩
            · cases ht
          · cases ht
    · cases ht
  cases op <;> first | exact eqs (.inl rfl) ht | exact eqs (.inr rfl) ht | (cases ht; exact plain rfl hv)

/-- a live slice's bytes as a text -/
theorem bytesMs_ok (hI : Inv P γ s w) {src dst e : TypeId} (hs : P.underlying src = some (.slice e)) (he : P.underlying e = some (.int .u8)) (hd : P.underlying dst = some .string) {i g off len cp sz : Nat} {r : AV} {c : Value} (hu : VR γ w (.ms i g off len cp sz) c)
    (h : ((elemsOf s.heap none (.ms i g off len cp sz)).bind bytesOf).map AV.str = some r) : ∃ d, (convert src dst c).run P w = .ok d w ∧ VR γ w r d := by
  simp only [Option.map_eq_some_iff, Option.bind_eq_some_iff] at h
  obtain ⟨l, ⟨es, hel, hb⟩, rfl⟩ := h
  cases hu
  case ms =>
    rename_i a cap h1 h2 h3 h4
    simp only [elemsOf] at hel
    split at hel
    · rename_i hsz
      simp only [Option.bind_eq_some_iff] at hel
      obtain ⟨cs, hg, hch⟩ := hel
      obtain ⟨_, k1, k2, r, e', fr, k3, k4, k5, k6⟩ := hI.obj i _ (getCells_some hg)
      obtain ⟨e1, _⟩ := h4 k1
      have hd1 : allOne (cs.drop off) = true := allOne_of fun j u hu => by rw [List.getElem?_drop] at hu; exact allOne_get k2 hu
      obtain ⟨c1, c2, c3, c4⟩ := chunk_ok hch hd1
      obtain ⟨ns, rfl, rfl⟩ := bytesOf_ok hb
      have hfl : ∀ ns : List Int, flatAll (ns.map (AV.int .u8)) = ns.map (AV.int .u8) := fun ns => by
        induction ns with
        | nil => rfl
        | cons n r ih => simp only [List.map_cons, flatAll, AV.flat, List.singleton_append, ih]
      rw [hfl] at c3
      rw [List.length_map] at c1
      simp only [Option.getD_none, Nat.mul_one, List.length_drop] at c3 c4
      subst c1
      have hcells : (loadCells a ns.length).run P w = .ok (ns.map (Value.int .u8)).toArray w := by
        have := run_loadCells_list (P := P) w a (ns.map (Value.int .u8)) (fun j v hj => by
          simp only [List.getElem?_map, Option.map_eq_some_iff] at hj
          obtain ⟨n, hn, rfl⟩ := hj
          have hjl := lt_of_getElem? hn
          have hcj : cs[off + j]? = some (.int .u8 n) := by
            have e2 : (ns.map (AV.int .u8))[j]? = some (.int .u8 n) := by simp [hn]
            rw [c3, List.getElem?_take, if_pos hjl, List.getElem?_drop] at e2
            exact e2
          rw [e1, add_mk, cell?_row k3]
          have hlt : off + j < r.size := by have := lt_of_getElem? hcj; omega
          have hr := Array.getElem?_eq_getElem hlt
          rw [hr, (k6 _ _ _ hcj hr).int_inv])
        simpa using this
      refine ⟨_, by rw [run_convert_bytes_string w src dst e _ _ _ hs he hd]; exact run_bytesToString w a _ cap ns hcells, ?_⟩
      have := foldl_push ns ByteArray.empty
      have e0 : ByteArray.empty.data.toList = [] := rfl
      rw [e0, List.nil_append] at this
      rw [← this]
      exact .str _
    · cases hel

theorem evConvH_eq {h : List AObj} {k : ConvK} {u : AV} (hk : k ≠ .bytesStr) : evConvH h k u = evConv k u := by
  unfold evConvH
  split
  · exact absurd rfl hk
  · rfl

theorem sim_conv (hI : Inv P γ s w) {src dst : TypeId} {k : ConvK} (ht : tConv P src dst = some k) {u v : AV} {c : Value} (hu : VR γ w u c) (hv : evConvH s.heap k u = some v) : AppR P γ w (convert src dst c) v s := by
  unfold tConv at ht
  cases hs : P.underlying src with
  | none => simp [hs] at ht
  | some ds =>
  cases hd : P.underlying dst with
  | none => cases ds <;> simp [hs, hd] at ht
  | some dd =>
  have r1 := run_underlying (P := P) (w := w) hs
  have r2 := run_underlying (P := P) (w := w) hd
  simp only [hs, hd] at ht
  split at ht
  · cases ht
    rename_i e1 e2
    cases e1; cases e2
    rw [evConvH_eq (by nofun)] at hv
    cases u <;> try (simp [evConv] at hv; done)
    simp [evConv] at hv
    subst hv
    obtain rfl := hu.int_inv
    exact nothing_ok hI (by simp [convert, r1, r2, Conv.intToInt]) (.int _ _)
  · cases ht
    rename_i e1 e2
    cases e1; cases e2
    rw [evConvH_eq (by nofun)] at hv
    cases u <;> try (simp [evConv] at hv; done)
    simp [evConv] at hv
    subst hv
    obtain rfl := hu.int_inv
    exact nothing_ok hI (by simp [convert, r1, r2, Conv.intToFloat]) (.flt _ _)
  · cases ht
    rename_i e1 e2
    cases e1; cases e2
    rw [evConvH_eq (by nofun)] at hv
    cases u <;> try (simp [evConv] at hv; done)
    simp only [evConv, Option.bind_eq_some_iff] at hv
    obtain ⟨n, hn, hv⟩ := hv
    split at hv
    · rename_i hc
      cases hv
      obtain rfl := hu.flt_inv
      exact nothing_ok hI (by simp [convert, r1, r2, Conv.floatToInt, hn, hc]) (.int _ _)
    · cases hv
  · cases ht
    rename_i e1 e2
    cases e1; cases e2
    rw [evConvH_eq (by nofun)] at hv
    cases u <;> try (simp [evConv] at hv; done)
    simp [evConv] at hv
    subst hv
    obtain rfl := hu.int_inv
    exact nothing_ok hI (by simp [convert, r1, r2, Conv.intToString]) (.str _)
  · cases ht
    rename_i e1 e2
    cases e1; cases e2
    rw [evConvH_eq (by nofun)] at hv
    cases u <;> try (simp [evConv] at hv; done)
    simp [evConv] at hv
    subst hv
    obtain ⟨x, rfl, rfl⟩ := hu.str_inv
    exact nothing_ok hI (by simp [convert, r1, r2]) (.str _)
  · rename_i e e1 e2
    cases e1; cases e2
    split at ht
    · rename_i he
      cases ht
      rw [evConvH_eq (by nofun)] at hv
      cases u <;> try (simp [evConv] at hv; done)
      simp [evConv] at hv
      subst hv
      obtain ⟨x, rfl, rfl⟩ := hu.str_inv
      obtain ⟨γ', w', d, h1, h2, h3, h4⟩ := strBytes_ok (P := P) hI hs hd he x
      exact ⟨γ', w', d, h1, h2, h3, h4⟩
    · cases ht
  · rename_i e e1 e2
    cases e1; cases e2
    split at ht
    · rename_i he
      cases ht
      cases u
      case ms =>
        obtain ⟨d, h1, h2⟩ := bytesMs_ok (P := P) hI hs he hd hu hv
        exact nothing_ok hI h1 h2
      all_goals
        obtain ⟨d, h1, h2⟩ := bytesStr_ok (P := P) hs he hd hu hv
        exact nothing_ok hI h1 h2
    · cases ht
  · rename_i e' e e1 e2
    cases e1; cases e2
    split at ht
    · rename_i hsd
      have hsd : src = dst := by simpa using hsd
      subst hsd
      split at ht
      · rename_i he
        cases ht
        rw [evConvH_eq (by nofun)] at hv
        obtain ⟨w', d, h1, h2, h3, h4⟩ := ownBytes_ok (P := P) hI hd he hu hv
        exact ⟨γ, w', d, h1, h2, h3, h4⟩
      · cases ht
    · cases ht
  · cases ht

theorem sim_builtin (hI : Inv P γ s w) {loc pers : Env} {a : Act} (hE : EvR γ w loc pers a) {c : Call} {b : Builtin} (hc : c.callee = .builtin b) {mu : Bool} {type : TypeId} {p : VOp} (ht : tCall P c mu = some (.v p)) {v : AV} (hv : evV loc pers s p = some v) :
    SimR P γ w ((do let d ← resolve a.eval c type; invoke d.target d.args : Sem Next).run P w) v s := by
  have hres : (do let d ← resolve a.eval c type; invoke d.target d.args : Sem Next) = builtin b c.argTypes type (c.args.map fun | .const _ => true | _ => false) (c.args.map a.eval) := by
    simp only [resolve, hc]
    rfl
  rw [hres]
  simp only [tCall, hc] at ht
  have hmap : c.args.map a.eval = (c.args.toList.map a.eval).toArray := by rw [← Array.toList_map, Array.toArray_toList]
  have hall : ∀ {xs : List AOpd} {us : List AV}, tOpds c.args.toList = some xs → evAll loc pers xs = some us → VRs γ w us (c.args.map a.eval) := fun h1 h2 => by rw [hmap]; exact opds_ok hE h1 h2
  have one : ∀ {x : AOpd} {u : AV}, tOpds c.args.toList = some [x] → x.ev loc pers = some u → ∃ d, c.args.map a.eval = #[d] ∧ VR γ w u d := fun {x u} h1 h2 => by
    have hv := hall h1 (us := [u]) (by simp [evAll, h2])
    obtain ⟨d, g1, g2⟩ := hv.get (j := 0) rfl
    have hsz := hv.1
    refine ⟨d, ?_, g2⟩
    apply Array.ext_getElem?
    intro i
    match i with
    | 0 => rw [g1]; rfl
    | i + 1 => rw [Array.getElem?_eq_none (by simp at hsz ⊢; omega)]; rfl
  have two : ∀ {x y : AOpd} {u v : AV}, tOpds c.args.toList = some [x, y] → x.ev loc pers = some u → y.ev loc pers = some v → ∃ d e, c.args.map a.eval = #[d, e] ∧ VR γ w u d ∧ VR γ w v e := fun {x y u v} h1 h2 h3 => by
    have hv := hall h1 (us := [u, v]) (by simp [evAll, h2, h3])
    obtain ⟨d, g1, g2⟩ := hv.get (j := 0) rfl
    obtain ⟨e, g3, g4⟩ := hv.get (j := 1) rfl
    have hsz := hv.1
    refine ⟨d, e, ?_, g2, g4⟩
    apply Array.ext_getElem?
    intro i
    match i with
    | 0 => rw [g1]; rfl
    | 1 => rw [g3]; rfl
    | i + 2 => rw [Array.getElem?_eq_none (by simp at hsz ⊢; omega)]; rfl
  split at ht
  · -- len
    rename_i x hl
    have hat : ∀ {d}, (c.argTypes[0]?).bind P.underlying = some d → ∃ t, c.argTypes[0]? = some t ∧ P.underlying t = some d := fun {d} h => by
      simpa [Option.bind_eq_some_iff] using h
    have hlen : ∀ t (u : Value), c.argTypes[0]? = some t → Builtin.len_ c.argTypes type #[u] = Builtin.len_ #[t] type #[u] := fun t u h => by
      unfold Builtin.len_
      simp [h]
    split at ht
    · rename_i hd
      cases ht
      obtain ⟨t, h1, h2⟩ := hat hd
      simp only [evV, Option.bind_eq_some_iff] at hv
      obtain ⟨u, hu, hv⟩ := hv
      obtain ⟨d, g1, g2⟩ := one hl hu
      rw [g1]
      refine simV hI ?_
      rw [hlen t d h1]
      exact len_ok h2 (k := 0) (.inl ⟨rfl, rfl⟩) g2 hv
    · rename_i e hd
      cases ht
      obtain ⟨t, h1, h2⟩ := hat hd
      simp only [evV, Option.bind_eq_some_iff] at hv
      obtain ⟨u, hu, hv⟩ := hv
      obtain ⟨d, g1, g2⟩ := one hl hu
      rw [g1]
      refine simV hI ?_
      rw [hlen t d h1]
      exact len_ok h2 (k := 1) (.inr (.inl ⟨rfl, e, rfl⟩)) g2 hv
    · rename_i e1 e2 hd
      cases ht
      obtain ⟨t, h1, h2⟩ := hat hd
      simp only [evV, Option.bind_eq_some_iff] at hv
      obtain ⟨u, hu, hv⟩ := hv
      obtain ⟨d, g1, g2⟩ := one hl hu
      rw [g1]
      refine simV hI ?_
      rw [hlen t d h1]
      exact len_ok h2 (k := 2) (.inr (.inr ⟨rfl, e1, e2, rfl⟩)) g2 hv
    · rename_i n e hd
      cases ht
      obtain ⟨t, h1, h2⟩ := hat hd
      simp only [evV, Option.some.injEq] at hv
      subst hv
      have hsz : (c.args.map a.eval)[0]? ≠ none := by
        intro h0
        cases hcl : c.args.toList with
        | nil => rw [hcl] at hl; simp [tOpds] at hl
        | cons y r =>
          rw [hmap, hcl] at h0
          simp at h0
      cases h0 : (c.args.map a.eval)[0]? with
      | none => exact absurd h0 hsz
      | some u =>
        refine simV hI ⟨.int .i64 n, ?_, .int _ _⟩
        simp [Builtin.len_, h1, h0, run_underlying h2]
        rfl
    · cases ht
  · split at ht
    · simp at ht
    · simp at ht
    · split at ht
      · split at ht <;> cases ht
      · cases ht
    · cases ht
  · split at ht
    · simp at ht
    · cases ht
  · rename_i l hl
    cases ht
    simp only [evV, Option.bind_eq_some_iff] at hv
    obtain ⟨us, hu, hv⟩ := hv
    obtain ⟨d, g1, g2⟩ := minmax_ok (P := P) hv (hall hl hu)
    exact simV hI ⟨d, g1, g2⟩
  · rename_i l hl
    cases ht
    simp only [evV, Option.bind_eq_some_iff] at hv
    obtain ⟨us, hu, hv⟩ := hv
    obtain ⟨d, g1, g2⟩ := minmax_ok (P := P) hv (hall hl hu)
    exact simV hI ⟨d, g1, g2⟩
  · rename_i x hl
    cases ht
    simp only [evV, Option.bind_eq_some_iff] at hv
    obtain ⟨u, hu, hv⟩ := hv
    obtain ⟨d, g1, g2⟩ := one hl hu
    rw [g1]
    cases u <;> simp at hv
    subst hv
    obtain rfl := g2.cplx_inv
    exact simV hI ⟨_, rfl, .flt _ _⟩
  · rename_i x hl
    cases ht
    simp only [evV, Option.bind_eq_some_iff] at hv
    obtain ⟨u, hu, hv⟩ := hv
    obtain ⟨d, g1, g2⟩ := one hl hu
    rw [g1]
    cases u <;> simp at hv
    subst hv
    obtain rfl := g2.cplx_inv
    exact simV hI ⟨_, rfl, .flt _ _⟩
  · rename_i x y hl
    cases ht
    simp only [evV, Option.bind_eq_some_iff] at hv
    obtain ⟨u, hu, u', hu', hv⟩ := hv
    obtain ⟨d, e, g1, g2, g3⟩ := two hl hu hu'
    rw [g1]
    cases u <;> try (simp at hv; done)
    cases u' <;> try (simp at hv; done)
    dsimp only at hv
    split at hv
    · rename_i hk
      subst hk
      cases hv
      obtain rfl := g2.flt_inv
      obtain rfl := g3.flt_inv
      refine simV hI ⟨.complex _ _ _, ?_, .cplx _ _ _⟩
      show Sem.run P (if _ = _ then pure (Value.complex _ _ _) else _) w = _
      rw [if_pos rfl]
      rfl
    · cases hv
  · cases ht
  · split at ht
    · split at ht
      · split at ht <;> cases ht
      · cases ht
    · cases ht
  · -- cap
    rename_i x hl
    split at ht
    · rename_i e hd
      cases ht
      obtain ⟨t, h1, h2⟩ : ∃ t, c.argTypes[0]? = some t ∧ P.underlying t = some (.slice e) := by simpa [Option.bind_eq_some_iff] using hd
      simp only [evV, Option.bind_eq_some_iff] at hv
      obtain ⟨u, hu, hv⟩ := hv
      obtain ⟨d, g1, g2⟩ := one hl hu
      rw [g1]
      cases u <;> simp at hv
      subst hv
      cases g2
      refine simV hI ⟨.int .i64 0, ?_, .int _ _⟩
      simp [Builtin.cap_, h1, run_underlying h2]
      rfl
    · cases ht
  · cases ht

end Go.Am

/-
  The abstract machine, seventeenth part: every operation, beside the model's.
-/
namespace Go.Am
open Go.RowKit (Below)

variable {P : Program} {γ : Gh} {w : World} {s : Sg}

theorem allOneAll_of : ∀ {es : List AV}, allOne (flatAll es) = true → allOneAll es = true
  | [], _ => rfl
  | e :: r, h => by
    simp only [flatAll, allOne_append, Bool.and_eq_true] at h
    simp only [allOneAll, Bool.and_eq_true]
    exact ⟨h.1, allOneAll_of h.2⟩

theorem sim_v (hI : Inv P γ s w) {loc pers : Env} {a : Act} (hE : EvR γ w loc pers a) {mu : Bool} {o : Oper} {p : VOp} (ht : tOp P mu o.op = some (.v p)) {v : AV} (hv : evV loc pers s p = some v) : SimR P γ w ((execOp a.eval o).run P w) v s := by
  obtain ⟨dst, op, type, pos, after, guard⟩ := o
  cases op with
  | move x =>
    simp only [tOp, Option.map_eq_some_iff, AOp.v.injEq] at ht
    obtain ⟨y, hy, rfl⟩ := ht
    exact SimR.val hI rfl (opd_ok hE hy hv)
  | assign x =>
    simp only [tOp, Option.map_eq_some_iff, AOp.v.injEq] at ht
    obtain ⟨y, hy, rfl⟩ := ht
    exact SimR.val hI rfl (opd_ok hE hy hv)
  | pick c x y =>
    simp only [tOp] at ht
    split at ht
    · rename_i c' x' y' h1 h2 h3
      cases ht
      simp only [evV, Option.bind_eq_some_iff] at hv
      obtain ⟨u, hu, b, hb, hv⟩ := hv
      obtain rfl := bool?_some hb
      have e := (opd_ok hE h1 hu).bool_inv
      cases b
      · exact SimR.val hI (by simp [execOp, e]; rfl) (opd_ok hE h3 hv)
      · exact SimR.val hI (by simp [execOp, e]; rfl) (opd_ok hE h2 hv)
    · cases ht
  | alloc e => simp [tOp] at ht
  | box e x => simp [tOp] at ht
  | build t ps =>
    simp only [tOp] at ht
    split at ht
    · rename_i fs z h1 h2
      split at ht
      · rename_i hall
        simp only [Option.map_eq_some_iff, AOp.v.injEq] at ht
        obtain ⟨l, hl, rfl⟩ := ht
        simp only [evV, Option.map_eq_some_iff] at hv
        obtain ⟨cs, hcs, rfl⟩ := hv
        exact simV hI (build_struct_ok hE h1 h2 hall hl hcs)
      · cases ht
    · rename_i n e z h1 h2
      split at ht
      · rename_i sz hs
        simp only [Option.map_eq_some_iff, AOp.v.injEq] at ht
        obtain ⟨l, hl, rfl⟩ := ht
        simp only [evV, Option.map_eq_some_iff] at hv
        obtain ⟨cs, hcs, rfl⟩ := hv
        exact simV hI (build_array_ok hE h1 h2 hs hl hcs)
      · cases ht
    · cases ht
  | buildSlice t len ps =>
    simp only [tOp] at ht
    split at ht
    · rename_i e h1
      split at ht
      · rename_i k z l h2 h3 h4
        split at ht
        · rename_i hc
          simp only [Bool.and_eq_true] at hc
          obtain ⟨hc1, hc2⟩ := hc
          cases mu with
          | true => simp at ht
          | false =>
            simp only [Bool.false_eq_true, if_false, Option.some.injEq, AOp.v.injEq] at ht
            subst ht
            simp only [evV, Option.map_eq_some_iff] at hv
            obtain ⟨es, hes, rfl⟩ := hv
            obtain ⟨c, g1, g2, g3, g4, g5, g6⟩ := slice_cells_ok hE h1 h2 h3 (Nat.le_of_ble_eq_true hc1) (Nat.eq_of_beq_eq_true hc2) h4 hes
            exact simA (buildSl_ok hI g1 g2 (allOneAll_of g4) g3 g5)
        · cases ht
      · cases ht
    · cases ht
  | load t x =>
    simp only [tOp] at ht
    split at ht
    · rename_i k y hk hy
      cases ht
      simp only [evV, Option.bind_eq_some_iff] at hv
      obtain ⟨u, hu, hv⟩ := hv
      have hr := opd_ok hE hy hu
      cases u <;> try (simp at hv; done)
      case ptr i g off =>
        simp only [Option.bind_eq_some_iff] at hv
        obtain ⟨cs, hg, hv⟩ := hv
        exact simV hI (load_ptr_ok hk hI hr hg hv)
      case pin x =>
        dsimp only at hv
        have e := loadPin hv
        subst e
        exact simV hI (load_pin_ok hk hr hv)
    · cases ht
  | store t x y =>
    simp only [tOp] at ht
    split at ht <;> simp at ht
  | nilCheck x =>
    simp only [tOp, Option.map_eq_some_iff, AOp.v.injEq] at ht
    obtain ⟨y, hy, rfl⟩ := ht
    simp only [evV, Option.bind_eq_some_iff] at hv
    obtain ⟨u, hu, hv⟩ := hv
    have hr := opd_ok hE hy hu
    have key : v = u ∧ ((execOp a.eval ⟨dst, .nilCheck x, type, pos, after, guard⟩).run P w = .ok (.value (a.eval x)) w) := by
      simp only [execOp]
      cases u <;> try (simp at hv; done)
      all_goals (refine ⟨by simpa using hv.symm, ?_⟩; generalize a.eval x = c at hr; cases hr <;> rfl)
    rw [key.1]
    exact SimR.val hI key.2 hr
  | binOp op t x y n =>
    simp only [tOp, Option.map_eq_some_iff, AOp.v.injEq] at ht
    obtain ⟨q, hq, rfl⟩ := ht
    exact sim_bin hI hE hq hv
  | unOp op t x =>
    simp only [tOp, Option.map_eq_some_iff, AOp.v.injEq] at ht
    obtain ⟨y, hy, rfl⟩ := ht
    simp only [evV, Option.bind_eq_some_iff] at hv
    obtain ⟨u, hu, hv⟩ := hv
    exact simV hI (evUn_ok hv (opd_ok hE hy hu))
  | convert src dst x =>
    simp only [tOp] at ht
    split at ht
    · rename_i k y hk hy
      cases ht
      simp only [evV, Option.bind_eq_some_iff] at hv
      obtain ⟨u, hu, hv⟩ := hv
      exact simA (sim_conv hI hk (opd_ok hE hy hu) hv)
    · cases ht
  | makeInterface t x =>
    simp only [tOp] at ht
    split at ht
    · cases ht
    · rename_i d y hne h1 h2
      cases ht
      simp only [evV, Option.bind_eq_some_iff, Option.map_eq_some_iff] at hv
      obtain ⟨u, hu, u', hu', rfl⟩ := hv
      exact simV hI (mkIface_ok h1 (fun ms e => hne ms e) (opd_ok hE h2 hu) hu')
    · cases ht
  | makeFunc f first cap =>
    cases f <;> try (simp [tOp] at ht; done)
    rename_i f
    simp only [tOp, Option.bind_eq_some_iff, Option.map_eq_some_iff, AOp.v.injEq] at ht
    obtain ⟨l1, h1, l2, h2, rfl⟩ := ht
    simp only [evV, Option.bind_eq_some_iff] at hv
    obtain ⟨u, hu, c, hc, hv⟩ := hv
    split at hv
    · rename_i hcond
      simp only [Bool.and_eq_true] at hcond
      cases hv
      have e1 := opds_ok hE h1 hu
      have e2 := opds_ok hE h2 hc
      refine SimR.val hI (c := .func (.func f) (first.map a.eval) (cap.map a.eval)) rfl ?_
      have m1 : (first.toList.map a.eval).toArray = first.map a.eval := by rw [← Array.toList_map, Array.toArray_toList]
      have m2 : (cap.toList.map a.eval).toArray = cap.map a.eval := by rw [← Array.toList_map, Array.toArray_toList]
      rw [m1] at e1
      rw [m2] at e2
      exact mkFunc_ok e1 e2 hcond.1 hcond.2
    · cases hv
  | makeSlice t l c =>
    simp only [tOp] at ht
    split at ht
    · simp only [Option.bind_eq_some_iff] at ht
      obtain ⟨_, _, _, _, _, _, _, _, ht⟩ := ht
      split at ht <;> simp at ht
    · cases ht
  | slice t x lo hi mx =>
    simp only [tOp] at ht
    split at ht
    · rename_i ax al ah am h1 h2 h3 h4
      split at ht
      · rename_i hs
        split at ht
        · cases ht
          have hm0 : mx = none := by cases mx with | none => rfl | some m => simp [tOptOpd] at h4
          subst hm0
          simp only [evV, Option.bind_eq_some_iff, Option.map_eq_some_iff] at hv
          obtain ⟨u, hu, l, hl, q1, hq1, q2, hq2, h, hh, k, hk, rfl⟩ := hv
          exact simV hI (sliceS_ok hs (opd_ok hE h1 hu) hl (optR_ok hE h2 hq1) (optR_ok hE h3 hq2) hh hk)
        · cases ht
      · rename_i e hs
        split at ht
        · cases ht
        · rename_i hmh
          simp only [Option.map_eq_some_iff, AOp.v.injEq] at ht
          obtain ⟨n, hn, rfl⟩ := ht
          simp only [evV, Option.bind_eq_some_iff] at hv
          obtain ⟨u, hu, q1, hq1, q2, hq2, q3, hq3, hv⟩ := hv
          have ha := optR_ok hE h2 hq1
          have hb := optR_ok hE h3 hq2
          have hm := optR_ok hE h4 hq3
          have hbs : q3.isSome = true → q2.isSome = true := fun e => by
            cases am with
            | none => simp [evOpt] at hq3; subst hq3; cases e
            | some m =>
              cases ah with
              | none => exact absurd rfl (hmh m rfl)
              | some h' =>
                simp only [evOpt, Option.map_eq_some_iff] at hq2
                obtain ⟨z, _, rfl⟩ := hq2
                rfl
          have hr := opd_ok hE h1 hu
          cases u <;> try (simp at hv; done)
          case vec es tl =>
            simp only [Option.bind_eq_some_iff] at hv
            obtain ⟨h, hh, k, hk, q, hq, hv⟩ := hv
            split at hv
            · rename_i hc
              simp only [Bool.and_eq_true, Bool.or_eq_true] at hc
              cases hv
              exact simV hI (slice_vec_ok hs hn hr ha hb hm hbs hh hk hq (Nat.eq_of_beq_eq_true hc.1) (hc.2.imp Nat.eq_of_beq_eq_true id))
            · cases hv
          case nilsl =>
            cases q3 with
            | none =>
              simp only [Option.isSome_none, Bool.false_eq_true, if_false, Option.bind_eq_some_iff, Option.map_eq_some_iff] at hv
              obtain ⟨h, hh, k, hk, rfl⟩ := hv
              exact simV hI (slice_nil_ok hs hn hr ha hb hm rfl hh hk)
            | some m => simp at hv
          case ms i g off len cp z =>
            dsimp only at hv
            split at hv
            · cases hv
            · rename_i hc
              simp only [Bool.not_eq_true', Bool.not_eq_true, Bool.not_eq_false] at hc
              have hz := Nat.eq_of_beq_eq_true hc
              subst hz
              simp only [Option.bind_eq_some_iff] at hv
              obtain ⟨h, hh, k, hk, hv⟩ := hv
              cases q3 with
              | some m =>
                simp only [Option.isSome_some, if_true, Option.bind_eq_some_iff] at hv
                obtain ⟨q, hq, hv⟩ := hv
                split at hv
                · rename_i hqk
                  simp only [Bool.and_eq_true] at hqk
                  cases hv
                  exact simV hI (slice_msz_ok hs hn hr ha hb hm rfl hbs hh hk hq (Nat.eq_of_beq_eq_true hqk.1) (Nat.eq_of_beq_eq_true hqk.2))
                · cases hv
              | none =>
                simp only [Option.isSome_none, Bool.false_eq_true, if_false] at hv
                split at hv
                · cases hv
                · rename_i hne
                  cases hv
                  rcases hm with ⟨_, hm⟩ | ⟨_, _, e, _⟩
                  · have := slice_ms_ok (P := P) hs hn hr ha hb hh hk (Nat.lt_of_not_le fun e => hne (Nat.ble_eq_true_of_le e))
                    rw [← hm] at this
                    exact simV hI this
                  · cases e
      · rename_i n e hs
        split at ht
        · simp only [Option.map_eq_some_iff, AOp.v.injEq] at ht
          obtain ⟨sz, hsz, rfl⟩ := ht
          have hm0 : mx = none := by cases mx with | none => rfl | some m => simp [tOptOpd] at h4
          subst hm0
          simp only [evV, Option.bind_eq_some_iff] at hv
          obtain ⟨u, hu, q1, hq1, q2, hq2, hv⟩ := hv
          have hr := opd_ok hE h1 hu
          cases u <;> try (simp at hv; done)
          simp only [Option.bind_eq_some_iff] at hv
          obtain ⟨cs, hcs, h, hh, k, hk, hv⟩ := hv
          split at hv
          · cases hv
          · rename_i hc
            simp only [Bool.or_eq_true, not_or, Bool.not_eq_true', Bool.not_eq_true, Bool.not_eq_false] at hc
            cases hv
            exact simV hI (sliceA_ok hI hs hsz hr hcs (optR_ok hE h2 hq1) (optR_ok hE h3 hq2) hh hk (Nat.lt_of_not_le fun e => by rw [Nat.ble_eq_true_of_le e] at hc; cases hc.1) (Nat.le_of_ble_eq_true hc.2))
        · cases ht
      · cases ht
    · cases ht
  | fieldAddr t x f =>
    simp only [tOp] at ht
    split at ht
    · rename_i fs ax h1 h2
      split at ht
      · rename_i fd h3
        split at ht
        · rename_i k n h4 h5
          split at ht
          · cases ht
          · rename_i hn
            cases ht
            simp only [evV, Option.bind_eq_some_iff] at hv
            obtain ⟨u, hu, hv⟩ := hv
            exact simV hI (fieldAddr_ok h1 h3 h4 h5 (fun e => by subst e; exact hn rfl) (opd_ok hE h2 hu) hv)
        · cases ht
      · cases ht
    · cases ht
  | field t x f =>
    simp only [tOp] at ht
    split at ht
    · rename_i fs ax h1 h2
      split at ht
      · rename_i fd h3
        simp only [Option.map_eq_some_iff, AOp.v.injEq] at ht
        obtain ⟨k, hk, rfl⟩ := ht
        simp only [evV, Option.bind_eq_some_iff] at hv
        obtain ⟨u, hu, cs, hcs, hv⟩ := hv
        exact simV hI (field_ok h1 h3 hk (opd_ok hE h2 hu) hcs hv)
      · cases ht
    · cases ht
  | indexAddr t x i =>
    simp only [tOp] at ht
    split at ht
    · rename_i ax ai h1 h2
      split at ht
      · rename_i e hs
        split at ht
        · rename_i k n hk hn
          split at ht
          · rename_i hb
            cases ht
            have hb := Nat.eq_of_beq_eq_true hb
            subst hb
            simp only [evV, Option.bind_eq_some_iff] at hv
            obtain ⟨u, hu, j, hj, hv⟩ := hv
            exact simV hI (indexAddrS_ok hs hn hI (opd_ok hE h1 hu) (opd_ok hE h2 hj) hv)
          · cases ht
        · cases ht
      · rename_i len e hs
        split at ht
        · rename_i k n hk hn
          split at ht
          · rename_i hb
            cases ht
            have hb := Nat.eq_of_beq_eq_true hb
            subst hb
            simp only [evV, Option.bind_eq_some_iff] at hv
            obtain ⟨u, hu, j, hj, q, hq, hv⟩ := hv
            exact simV hI (indexAddrA_ok hs hn (opd_ok hE h1 hu) (opd_ok hE h2 hj) hq hv)
          · cases ht
        · cases ht
      · cases ht
    · rename_i j _ h2
      split at ht
      · rename_i hs h0
        split at ht
        · rename_i k n hk hn
          split at ht
          · rename_i hb
            cases ht
            have hb := Nat.eq_of_beq_eq_true hb
            subst hb
            simp only [evV, Option.bind_eq_some_iff] at hv
            obtain ⟨u, hu, q, hq, z, hz, cs, hcs, hv⟩ := hv
            have hv : (z.agg?.bind fun cs => (partOf cs (q * k.getD 1) k).map AV.pin) = some v := by rw [hcs]; exact hv
            exact simV hI (indexAddrA_ok (u := .pin z) hs hn (hI.gl _ (glFind_mem hz)).1 (opd_ok hE h2 hu) hq hv)
          · cases ht
        · cases ht
      · cases ht
    · cases ht
  | index t x i =>
    simp only [tOp] at ht
    split at ht
    · rename_i ax ai h1 h2
      split at ht
      · rename_i hs
        cases ht
        simp only [evV, Option.bind_eq_some_iff, Option.map_eq_some_iff] at hv
        obtain ⟨u, hu, l, hl, k, hk, j, hj, b, hb, rfl⟩ := hv
        exact simV hI ⟨_, indexS_ok hs (opd_ok hE h1 hu) (opd_ok hE h2 hk) hl hj hb, .int _ _⟩
      · rename_i len e hs
        split at ht
        · rename_i k n hk hn
          split at ht
          · rename_i hb
            cases ht
            have hb := Nat.eq_of_beq_eq_true hb
            subst hb
            simp only [evV, Option.bind_eq_some_iff] at hv
            obtain ⟨u, hu, cs, hcs, j, hj, q, hq, hv⟩ := hv
            exact simV hI (indexA_ok hs hk hn (opd_ok hE h1 hu) (opd_ok hE h2 hj) hcs hq hv)
          · cases ht
        · cases ht
      · cases ht
    · cases ht
  | lookup t x k ok =>
    simp only [tOp] at ht
    split at ht
    · rename_i kt e a j h1 h2 h3
      split at ht
      · rename_i kk hd
        simp only [Option.map_eq_some_iff, AOp.v.injEq] at ht
        obtain ⟨z, hz, rfl⟩ := ht
        simp only [evV, Option.bind_eq_some_iff] at hv
        obtain ⟨u, hu, q, hq, es, hes, hv⟩ := hv
        split at hv
        · rename_i hs
          simp only [Option.map_eq_some_iff] at hv
          obtain ⟨r, hr, rfl⟩ := hv
          exact simV hI (lookup_ok hI h1 hd (str := false) ⟨kk, rfl⟩ hz (opd_ok hE h2 hu) (opd_ok hE h3 hq) hs hes hr rfl)
        · cases hv
      · rename_i hd
        simp only [Option.map_eq_some_iff, AOp.v.injEq] at ht
        obtain ⟨z, hz, rfl⟩ := ht
        simp only [evV, Option.bind_eq_some_iff] at hv
        obtain ⟨u, hu, q, hq, es, hes, hv⟩ := hv
        split at hv
        · rename_i hs
          simp only [Option.map_eq_some_iff] at hv
          obtain ⟨r, hr, rfl⟩ := hv
          exact simV hI (lookup_ok hI h1 hd (str := true) rfl hz (opd_ok hE h2 hu) (opd_ok hE h3 hq) hs hes hr rfl)
        · cases hv
      · cases ht
    · cases ht
  | typeAssert x xt t ok =>
    simp only [tOp] at ht
    split at ht
    · cases ht
    · rename_i d y hne h1 h2
      simp only [Option.map_eq_some_iff, AOp.v.injEq] at ht
      obtain ⟨z, hz, rfl⟩ := ht
      simp only [evV, Option.bind_eq_some_iff] at hv
      obtain ⟨u, hu, hv⟩ := hv
      exact simV hI (tassert_ok h1 (fun ms e => hne ms e) hz (opd_ok hE h2 hu) hv)
    · cases ht
  | extract x i =>
    simp only [tOp, Option.map_eq_some_iff, AOp.v.injEq] at ht
    obtain ⟨y, hy, rfl⟩ := ht
    simp only [evV, Option.bind_eq_some_iff] at hv
    obtain ⟨u, hu, vs, hvs, hv⟩ := hv
    exact simV hI (extract_ok (opd_ok hE hy hu) hvs hv)
  | call c =>
    simp only [tOp] at ht
    cases hc : c.callee with
    | builtin b => exact sim_builtin hI hE hc ht hv
    | value f =>
      simp only [tCall, hc] at ht
      split at ht
      · simp at ht
      · simp only [Option.bind_eq_some_iff, Option.map_eq_some_iff] at ht
        obtain ⟨_, _, _, _, ht⟩ := ht
        cases ht
      · rename_i h; cases h
      · rename_i h; cases h
    | invoke _ _ =>
      simp only [tCall, hc, Option.bind_eq_some_iff, Option.map_eq_some_iff] at ht
      obtain ⟨_, _, _, _, ht⟩ := ht
      cases ht
  | insert t m k x =>
    simp only [tOp] at ht
    split at ht
    · split at ht <;> cases ht
    · cases ht
  | mapUpdate t m k x =>
    simp only [tOp] at ht
    split at ht
    · split at ht <;> cases ht
    · cases ht
  | makeMap t r =>
    cases r with
    | none =>
      simp only [tOp] at ht
      split at ht <;> cases ht
    | some r => cases r with
      | const c => cases c <;> first | cases ht | (simp only [tOp] at ht; split at ht <;> cases ht)
      | _ => cases ht
  | defer c =>
    simp only [tOp] at ht
    split at ht
    · split at ht <;> cases ht
    · cases ht
  | panic x => simp [tOp] at ht
  | range t x =>
    simp only [tOp] at ht
    split at ht
    · simp [Option.map_eq_some_iff] at ht
    · cases ht
  | next x str =>
    cases str with
    | false => cases ht
    | true => simp [tOp, Option.map_eq_some_iff] at ht
  | _ => cases ht

end Go.Am

/-
  The abstract machine, eighteenth part: every operation that changes the abstract heap, or the tokens.
-/
namespace Go.Am
open Go.RowKit (Below)

variable {P : Program} {γ : Gh} {w : World} {s : Sg}

/-- so many zeros behind nothing: an object -/
theorem growz_ok (hI : Inv P γ s w) {t tx ty e : TypeId} (ht : P.underlying t = some (.slice e)) {kn : IntKind} (htx : P.underlying tx = some (.int kn)) {k : Option Nat} {bytes : Nat} (hk : elSize P e = some (k, bytes)) {z : AV} (hz : zeroVal P e = some z) (hzl : z.flat.length = k.getD 1)
    {kk : IntKind} {n : Int} (h0 : 0 < n) (hlim : n.toNat * bytes ≤ limit) : AppR P γ w (Builtin.append_ #[t, tx] ty #[.slice none 0 0, .int kk n]) (.ms s.heap.length 0 0 n.toNat n.toNat z.flat.length) (s.push (.cells (flatAll (List.replicate n.toNat z)) 0)) := by
  obtain ⟨v, hv, hvr, i, hi, hiz⟩ := zeroVal_ok (γ := γ) (w := w) hz
  obtain ⟨i', q1, q2, q3, q4, q5, _⟩ := elSize_ok hk
  rw [hi] at q1
  cases q1
  have hvc : v.cells.size = k.getD 1 := by rw [← hvr.flat.1]; exact hzl
  have hbase := flatAll_replicate hvr.flat (by omega) n.toNat
  have hz1 : allOne z.flat = true := by
    unfold zeroVal at hz
    split at hz
    · exact VR.ofConst_one hz
    · cases hz
  have hlm : limit = 70368744177664 := rfl
  have hm1 : n.toNat ≤ n.toNat * bytes := Nat.le_mul_of_pos_right _ q5
  have hn : n = (n.toNat : Int) := (Int.toNat_of_nonneg (by omega)).symm
  have hfl : (flatAll (List.replicate n.toNat z)).length = n.toNat * z.flat.length := flatAll_length (allSize_replicate rfl _) |>.trans (by rw [List.length_replicate])
  have hrun := Go.Lib.run_append_nil_zeros (P := P) w t tx ty e i v kk kn ht htx hi hiz n.toNat (by omega) (by omega) (by omega) (by rw [q4]; omega)
  rw [← hn] at hrun
  have hgc := grownCap_ge w n.toNat 0 e
  refine app_push hI hrun hgc ?_ ?_ hfl (allOneAll_of (allOne_replicate hz1 _))
  · rw [Array.size_append, size_zeroCells, size_zeroCells, hvc, hzl, ← Nat.add_mul]
    congr 1
    omega
  · have hsz : (Builtin.zeroCells v.cells n.toNat).size = (flatAll (List.replicate n.toNat z)).length := by rw [size_zeroCells, hvc, hfl, hzl]
    rw [← hsz, Array.extract_append_left, Array.extract_size]
    exact hbase

theorem sim_append (hI : Inv P γ s w) {loc pers : Env} {a : Act} (hE : EvR γ w loc pers a) {c : Call} {b : Builtin} (hc : c.callee = .builtin b) {mu : Bool} {type : TypeId} {p : EOp} (ht : tCall P c mu = some (.e p)) {bar : Bar} {v : AV} {s' : Sg} (hv : evE bar loc pers s p = some (v, s')) :
    SimR P γ w ((do let d ← resolve a.eval c type; invoke d.target d.args : Sem Next).run P w) v s' := by
  have hres : (do let d ← resolve a.eval c type; invoke d.target d.args : Sem Next) = builtin b c.argTypes type (c.args.map fun | .const _ => true | _ => false) (c.args.map a.eval) := by
    simp only [resolve, hc]
    rfl
  rw [hres]
  simp only [tCall, hc] at ht
  have hmap : c.args.map a.eval = (c.args.toList.map a.eval).toArray := by rw [← Array.toList_map, Array.toArray_toList]
  have hall : ∀ {xs : List AOpd} {us : List AV}, tOpds c.args.toList = some xs → evAll loc pers xs = some us → VRs γ w us (c.args.map a.eval) := fun h1 h2 => by rw [hmap]; exact opds_ok hE h1 h2
  have two : ∀ {x y : AOpd} {u v : AV}, tOpds c.args.toList = some [x, y] → x.ev loc pers = some u → y.ev loc pers = some v → ∃ d e, c.args.map a.eval = #[d, e] ∧ VR γ w u d ∧ VR γ w v e := fun {x y u v} h1 h2 h3 => by
    have hv := hall h1 (us := [u, v]) (by simp [evAll, h2, h3])
    obtain ⟨d, g1, g2⟩ := hv.get (j := 0) rfl
    obtain ⟨e, g3, g4⟩ := hv.get (j := 1) rfl
    have hsz := hv.1
    refine ⟨d, e, ?_, g2, g4⟩
    apply Array.ext_getElem?
    intro i
    match i with
    | 0 => rw [g1]; rfl
    | 1 => rw [g3]; rfl
    | i + 2 => rw [Array.getElem?_eq_none (by simp at hsz ⊢; omega)]; rfl
  have one : ∀ {x : AOpd} {u : AV}, tOpds c.args.toList = some [x] → x.ev loc pers = some u → ∃ d, c.args.map a.eval = #[d] ∧ VR γ w u d := fun {x u} h1 h2 => by
    have hv := hall h1 (us := [u]) (by simp [evAll, h2])
    obtain ⟨d, g1, g2⟩ := hv.get (j := 0) rfl
    have hsz := hv.1
    refine ⟨d, ?_, g2⟩
    apply Array.ext_getElem?
    intro i
    match i with
    | 0 => rw [g1]; rfl
    | i + 1 => rw [Array.getElem?_eq_none (by simp at hsz ⊢; omega)]; rfl
  have hat : ∀ {i : Nat} {d}, (c.argTypes[i]?).bind P.underlying = some d → ∃ t, c.argTypes[i]? = some t ∧ P.underlying t = some d := fun {i d} h => by
    simpa [Option.bind_eq_some_iff] using h
  have happ : ∀ t tx (u v : Value), c.argTypes[0]? = some t → c.argTypes[1]? = some tx → Builtin.append_ c.argTypes type #[u, v] = Builtin.append_ #[t, tx] type #[u, v] := fun t tx u v h1 h2 => by
    unfold Builtin.append_
    simp [h1, h2]
  have go : ∀ {x y : AOpd} {e : TypeId} {k : Option Nat × Nat} {t tx : TypeId}, tOpds c.args.toList = some [x, y] → c.argTypes[0]? = some t → c.argTypes[1]? = some tx → P.underlying t = some (.slice e) → ((∃ e', P.underlying tx = some (.slice e')) ∨ P.underlying tx = some .string) → elSize P e = some k →
      evE bar loc pers s (.append mu k.1 k.2 x y) = some (v, s') → SimR P γ w ((builtin .append c.argTypes type (c.args.map fun | .const _ => true | _ => false) (c.args.map a.eval)).run P w) v s' := fun {x y e k t tx} hl h1 h2 h3 h4 h5 hv => by
    simp only [evE, Option.bind_eq_some_iff] at hv
    obtain ⟨u, hu, u', hu', ys, hys, hv⟩ := hv
    split at hv
    · rename_i hcond
      simp only [Bool.and_eq_true] at hcond
      obtain ⟨d, d', g1, g2, g3⟩ := two hl hu hu'
      rw [g1]
      show SimR P γ w ((do pure (Next.value (← Builtin.append_ c.argTypes type #[d, d'])) : Sem Next).run P w) v s'
      rw [happ t tx d d' h1 h2]
      exact simA (append_ok hI h3 h4 h5 g2 g3 hys hcond.1 hcond.2 hv)
    · cases hv
  split at ht
  · rename_i x hl
    split at ht <;> cases ht
  · rename_i x y hl
    split at ht
    · rename_i e e' h1 h2
      simp only [Option.map_eq_some_iff, AOp.e.injEq] at ht
      obtain ⟨k, hk, rfl⟩ := ht
      obtain ⟨t, t1, t2⟩ := hat h1
      obtain ⟨tx, t3, t4⟩ := hat h2
      exact go hl t1 t3 t2 (.inl ⟨e', t4⟩) hk hv
    · rename_i e h1 h2
      simp only [Option.map_eq_some_iff, AOp.e.injEq] at ht
      obtain ⟨k, hk, rfl⟩ := ht
      obtain ⟨t, t1, t2⟩ := hat h1
      obtain ⟨tx, t3, t4⟩ := hat h2
      exact go hl t1 t3 t2 (.inr t4) hk hv
    · rename_i e kn h1 h2
      split at ht
      · rename_i k z h3 h4
        split at ht
        · rename_i hzl
          cases ht
          obtain ⟨t, t1, t2⟩ := hat h1
          obtain ⟨tx, t3, t4⟩ := hat h2
          simp only [evE, Option.bind_eq_some_iff] at hv
          obtain ⟨u, hu, u', hu', hv⟩ := hv
          obtain ⟨d, d', g1, g2, g3⟩ := two hl hu hu'
          rw [g1]
          show SimR P γ w ((do pure (Next.value (← Builtin.append_ c.argTypes type #[d, d'])) : Sem Next).run P w) v s'
          rw [happ t tx d d' t1 t3]
          split at hv
          · split at hv
            · rename_i hc
              simp only [Option.some.injEq, Prod.mk.injEq] at hv
              obtain ⟨rfl, rfl⟩ := hv
              have e2 := g3.int_inv
              subst e2
              cases g2
              exact simA (growz_ok hI t2 t4 h3 h4 (Nat.eq_of_beq_eq_true hzl) hc.1 (Nat.le_of_ble_eq_true hc.2))
            · cases hv
          · cases hv
        · cases ht
      · cases ht
    · cases ht
  · split at ht
    · simp only [Option.map_eq_some_iff, AOp.e.injEq] at ht
      obtain ⟨k, hk, rfl⟩ := ht
      simp [evE] at hv
    · cases ht
  all_goals first
    | (cases ht; done)
    | (split at ht <;> cases ht; done)
    | (rename_i x hl
       split at ht
       · rename_i e h1
         split at ht
         · rename_i k z h2 h3
           split at ht
           · rename_i hb
             cases ht
             obtain ⟨t, t1, t2⟩ := hat h1
             obtain ⟨u, hu⟩ : ∃ u, x.ev loc pers = some u := by
               cases hu : x.ev loc pers with
               | none => simp [evE, hu] at hv
               | some u => exact ⟨u, rfl⟩
             obtain ⟨d, g1, g2⟩ := one hl hu
             obtain ⟨w', q1, q2, q3, rfl⟩ := clear_ok (P := P) (ty := type) hI t2 h2 h3 (Nat.eq_of_beq_eq_true hb) hu g2 hv t1
             rw [g1]
             show SimR P γ w ((do pure (Next.value (← Builtin.clear_ c.argTypes type #[d])) : Sem Next).run P w) _ s'
             exact simA ⟨γ, w', .tuple #[], q1, q2, q3, .tup [] #[] rfl fun j u x hu => by simp at hu⟩
           · cases ht
         · cases ht
       · cases ht)

theorem sim_put (hI : Inv P γ s w) {loc pers : Env} {a : Act} (hE : EvR γ w loc pers a) {t kt e : TypeId} {d : TypeDesc} {str : Bool} (ht : P.underlying t = some (.map kt e)) (hd : P.underlying kt = some d) (hk : KeyD str d) {m k x : Operand} {am ak ax : AOpd} (h2 : tOpd m = some am) (h3 : tOpd k = some ak) (h4 : tOpd x = some ax)
    {bar : Bar} {v : AV} {s' : Sg} (hv : evE bar loc pers s (.mapPut str am ak ax) = some (v, s')) : ∃ w', (Instr.mapUpdate t (a.eval m) (a.eval k) (a.eval x)).run P w = .ok () w' ∧ Le γ w γ w' ∧ Inv P γ s' w' ∧ v = .tup [] := by
  simp only [evE, Option.bind_eq_some_iff] at hv
  obtain ⟨u, hu, q, hq, y, hy, hv⟩ := hv
  cases u <;> try (simp at hv; done)
  simp only [Option.bind_eq_some_iff] at hv
  obtain ⟨es, hes, z, hz, hv⟩ := hv
  split at hv
  · rename_i hc
    simp only [Bool.and_eq_true] at hc
    simp only [Option.map_eq_some_iff, Prod.mk.injEq] at hv
    obtain ⟨es', hs, rfl, rfl⟩ := hv
    obtain ⟨w', g1, g2, g3⟩ := mapPut_ok (P := P) hI ht hd hk (opd_ok hE h2 hu) (opd_ok hE h3 hq) hc.1 (opd_ok hE h4 hy) hz hes hs
    exact ⟨w', g1, g2, g3, rfl⟩
  · cases hv

theorem sim_e (hI : Inv P γ s w) {loc pers : Env} {a : Act} (hE : EvR γ w loc pers a) {mu : Bool} {o : Oper} {p : EOp} (ht : tOp P mu o.op = some (.e p)) {bar : Bar} {v : AV} {s' : Sg} (hv : evE bar loc pers s p = some (v, s')) : SimR P γ w ((execOp a.eval o).run P w) v s' := by
  obtain ⟨dst, op, type, pos, after, guard⟩ := o
  cases op with
  | alloc e =>
    simp only [tOp, Option.map_eq_some_iff, AOp.e.injEq] at ht
    obtain ⟨z, hz, rfl⟩ := ht
    simp only [evE, Option.some.injEq, Prod.mk.injEq] at hv
    obtain ⟨rfl, rfl⟩ := hv
    exact simA (alloc_ok hI hz)
  | box e x =>
    simp only [tOp, Option.map_eq_some_iff, AOp.e.injEq] at ht
    obtain ⟨y, hy, rfl⟩ := ht
    simp only [evE, Option.bind_eq_some_iff, Option.map_eq_some_iff, Prod.mk.injEq] at hv
    obtain ⟨u, hu, l, hl, rfl, rfl⟩ := hv
    exact simA (box_ok hI (opd_ok hE hy hu) hl)
  | buildSlice t len ps =>
    simp only [tOp] at ht
    split at ht
    · rename_i e h1
      split at ht
      · rename_i k z l h2 h3 h4
        split at ht
        · rename_i hc
          simp only [Bool.and_eq_true] at hc
          obtain ⟨hc1, hc2⟩ := hc
          cases mu with
          | false => simp at ht
          | true =>
            simp only [if_true, Option.some.injEq, AOp.e.injEq] at ht
            subst ht
            simp only [evE, Option.map_eq_some_iff, Prod.mk.injEq] at hv
            obtain ⟨es, hes, rfl, rfl⟩ := hv
            obtain ⟨c, g1, g2, g3, g4, g5, g6⟩ := slice_cells_ok hE h1 h2 h3 (Nat.le_of_ble_eq_true hc1) (Nat.eq_of_beq_eq_true hc2) h4 hes
            exact simA (buildMs_ok hI g1 g2 g4 g3 g5)
        · cases ht
      · cases ht
    · cases ht
  | store t x y =>
    simp only [tOp] at ht
    split at ht
    · rename_i n ax ay h1 h2 h3
      cases ht
      simp only [evE, Option.bind_eq_some_iff] at hv
      obtain ⟨u, hu, d, hd, hv⟩ := hv
      have hr := opd_ok hE h2 hu
      cases u <;> try (simp at hv; done)
      simp only [Option.bind_eq_some_iff] at hv
      obtain ⟨l, hl, cs, hcs, hv⟩ := hv
      split at hv
      · rename_i hcond
        simp only [Bool.and_eq_true] at hcond
        simp only [Option.map_eq_some_iff, Prod.mk.injEq] at hv
        obtain ⟨cs', hcs', rfl, rfl⟩ := hv
        obtain ⟨w', g1, g2, g3⟩ := store_ok (P := P) hI h1 hr (opd_ok hE h3 hd) hl hcs (Nat.eq_of_beq_eq_true hcond.1) hcs'
        exact SimR.skip (by simp [execOp, g1]) g2 g3
      · cases hv
    · cases ht
  | call c =>
    simp only [tOp] at ht
    cases hc : c.callee with
    | builtin b => exact sim_append hI hE hc ht hv
    | value f =>
      simp only [tCall, hc] at ht
      split at ht
      · simp at ht
      · simp only [Option.bind_eq_some_iff, Option.map_eq_some_iff] at ht
        obtain ⟨_, _, _, _, ht⟩ := ht
        cases ht
      · rename_i h; cases h
      · rename_i h; cases h
    | invoke _ _ =>
      simp only [tCall, hc, Option.bind_eq_some_iff, Option.map_eq_some_iff] at ht
      obtain ⟨_, _, _, _, ht⟩ := ht
      cases ht
  | insert t m k x =>
    simp only [tOp] at ht
    split at ht
    · rename_i kt e am ak ax h1 h2 h3 h4
      split at ht
      · rename_i q hd
        cases ht
        obtain ⟨w', g1, g2, g3, rfl⟩ := sim_put hI hE h1 hd (str := false) ⟨q, rfl⟩ h2 h3 h4 hv
        exact SimR.skip (by simp [execOp, g1]) g2 g3
      · rename_i hd
        cases ht
        obtain ⟨w', g1, g2, g3, rfl⟩ := sim_put hI hE h1 hd (str := true) rfl h2 h3 h4 hv
        exact SimR.skip (by simp [execOp, g1]) g2 g3
      · cases ht
    · cases ht
  | mapUpdate t m k x =>
    simp only [tOp] at ht
    split at ht
    · rename_i kt e am ak ax h1 h2 h3 h4
      split at ht
      · rename_i q hd
        cases ht
        obtain ⟨w', g1, g2, g3, rfl⟩ := sim_put hI hE h1 hd (str := false) ⟨q, rfl⟩ h2 h3 h4 hv
        exact SimR.skip (by simp [execOp, g1]) g2 g3
      · rename_i hd
        cases ht
        obtain ⟨w', g1, g2, g3, rfl⟩ := sim_put hI hE h1 hd (str := true) rfl h2 h3 h4 hv
        exact SimR.skip (by simp [execOp, g1]) g2 g3
      · cases ht
    · cases ht
  | makeMap t r =>
    cases r with
    | none =>
      simp only [tOp] at ht
      split at ht
      · cases ht
        simp only [evE, Option.some.injEq, Prod.mk.injEq] at hv
        obtain ⟨rfl, rfl⟩ := hv
        exact simA (makeMap_ok hI)
      · cases ht
    | some r => cases r with
      | const c => cases c with
        | int k n =>
          simp only [tOp] at ht
          split at ht
          · rename_i kt e h1
            cases ht
            simp only [evE, Option.some.injEq, Prod.mk.injEq] at hv
            obtain ⟨rfl, rfl⟩ := hv
            exact simA (makeMap_some hI h1 k n)
          · cases ht
        | _ => cases ht
      | _ => cases ht
  | makeSlice t l c =>
    simp only [tOp] at ht
    split at ht
    · simp only [Option.bind_eq_some_iff] at ht
      obtain ⟨⟨k, bytes⟩, h2, z, h3, al, h4, ac, h5, ht⟩ := ht
      rename_i e h1
      split at ht
      · rename_i hzl
        have hzl := Nat.eq_of_beq_eq_true hzl
        cases ht
        simp only [evE, Option.bind_eq_some_iff] at hv
        obtain ⟨u, hu, u', hu', hv⟩ := hv
        have r1 := opd_ok hE h4 hu
        have r2 := opd_ok hE h5 hu'
        split at hv
        · rename_i kl n kc m
          have e1 := r1.int_inv
          have e2 := r2.int_inv
          split at hv
          · cases hv
          · rename_i hnm
            simp only [not_or, Int.not_lt] at hnm
            split at hv
            · rename_i hlim
              obtain ⟨c0, g1, g2, g3⟩ := makeSl_run (P := P) (γ := γ) (w := w) h1 h2 h3 hzl kl kc hnm.1 hnm.2 (Nat.le_of_ble_eq_true hlim)
              rw [← e1, ← e2] at g1
              have hones := allOne_replicate g3 m.toNat
              have hsz := allSize_replicate (z := z) rfl m.toNat
              split at hv
              · simp only [Option.some.injEq, Prod.mk.injEq] at hv
                obtain ⟨rfl, rfl⟩ := hv
                exact simA (makeMs_ok hI g1 g2 hones hsz List.length_replicate (by omega))
              · split at hv
                · rename_i hnm'
                  subst hnm'
                  simp only [Option.some.injEq, Prod.mk.injEq] at hv
                  obtain ⟨rfl, rfl⟩ := hv
                  exact simA (buildSl_ok hI g1 g2 (allOneAll_of hones) hsz List.length_replicate)
                · cases hv
            · cases hv
        · cases hv
      · cases ht
    · cases ht
  | range t x =>
    simp only [tOp] at ht
    split at ht
    · rename_i h1
      simp only [Option.map_eq_some_iff, AOp.e.injEq] at ht
      obtain ⟨y, hy, rfl⟩ := ht
      simp only [evE, Option.bind_eq_some_iff, Option.map_eq_some_iff, Prod.mk.injEq] at hv
      obtain ⟨u, hu, l, hl, rfl, rfl⟩ := hv
      have hr := opd_ok hE hy hu
      cases u <;> simp [AV.str?] at hl
      subst hl
      exact simA (rangeS_ok hI h1 hr)
    · cases ht
  | next x str =>
    cases str with
    | false => cases ht
    | true =>
      simp only [tOp, Option.map_eq_some_iff, AOp.e.injEq] at ht
      obtain ⟨y, hy, rfl⟩ := ht
      simp only [evE, Option.bind_eq_some_iff] at hv
      obtain ⟨u, hu, hv⟩ := hv
      have hr := opd_ok hE hy hu
      split at hv
      · rename_i i g off
        split at hv
        · rename_i hgo
          simp only [Bool.and_eq_true] at hgo
          have e1 := Nat.eq_of_beq_eq_true hgo.1
          have e2 := Nat.eq_of_beq_eq_true hgo.2
          subst e1 e2
          simp only [Option.bind_eq_some_iff] at hv
          obtain ⟨q, hq, hv⟩ := hv
          obtain ⟨n1, n2⟩ := nextS_ok (P := P) hI (ty := type) hr hq
          split at hv
          · rename_i hlt
            split at hv
            · cases hv
            · simp only [Option.some.injEq, Prod.mk.injEq] at hv
              obtain ⟨rfl, rfl⟩ := hv
              exact simA (n1 hlt)
          · rename_i hlt
            simp only [Option.some.injEq, Prod.mk.injEq] at hv
            obtain ⟨rfl, rfl⟩ := hv
            exact simA (n2 hlt)
        · cases hv
      · cases hv
  | defer c =>
    simp only [tOp] at ht
    split at ht
    · split at ht <;> cases ht
    · cases ht
  | makeFunc f first cap =>
    cases f <;> try (simp [tOp] at ht; done)
    simp only [tOp, Option.bind_eq_some_iff, Option.map_eq_some_iff] at ht
    obtain ⟨_, _, _, _, ht⟩ := ht
    cases ht
  | _ =>
    simp only [tOp] at ht
    first
      | (cases ht; done)
      | (simp [Option.map_eq_some_iff] at ht; done)
      | (repeat' (split at ht)
         all_goals first | (cases ht; done) | (simp [Option.map_eq_some_iff] at ht; done))

end Go.Am

/-
  The abstract machine, nineteenth part: what a run leaves as it is.
-/
namespace Go.Am
open Go.RowKit (Below)

variable {P : Program} {γ : Gh} {w : World} {s : Sg}

theorem oldAll_get {n : Nat} : ∀ {l : List AV}, AV.oldAll n l = true → ∀ {j : Nat} {u : AV}, l[j]? = some u → u.old n = true
  | [], _, _, _, h => by simp at h
  | x :: r, h, 0, u, hu => by simp only [AV.oldAll, Bool.and_eq_true] at h; simp at hu; subst hu; exact h.1
  | x :: r, h, j + 1, u, hu => by simp only [AV.oldAll, Bool.and_eq_true] at h; simp at hu; exact oldAll_get h.2 hu

theorem oldAll_of {n : Nat} : ∀ {l : List AV}, (∀ (j : Nat) u, l[j]? = some u → u.old n = true) → AV.oldAll n l = true
  | [], _ => by simp [AV.oldAll]
  | x :: r, h => by
    simp only [AV.oldAll, Bool.and_eq_true]
    exact ⟨h 0 x rfl, oldAll_of fun j u hu => h (j + 1) u (by simpa using hu)⟩

theorem oldAll_append {n : Nat} {a b : List AV} (ha : AV.oldAll n a = true) (hb : AV.oldAll n b = true) : AV.oldAll n (a ++ b) = true :=
  oldAll_of fun j u hu => by
    rw [List.getElem?_append] at hu
    split at hu
    · exact oldAll_get ha hu
    · exact oldAll_get hb hu

theorem old_flat {n : Nat} {v : AV} (h : ∀ (j : Nat) u, v.flat[j]? = some u → u.old n = true) : v.old n = true := by
  cases v <;> try (exact h 0 _ rfl)
  simp only [AV.old]
  exact oldAll_of h

theorem flatAll_mem {es : List AV} {e : AV} : ∀ {k : Nat}, es[k]? = some e → ∀ {j : Nat} {u : AV}, e.flat[j]? = some u → ∃ i : Nat, (flatAll es)[i]? = some u := by
  induction es with
  | nil => intro k h; simp at h
  | cons x r ih =>
    intro k h j u hu
    cases k with
    | zero =>
      simp at h
      subst h
      refine ⟨j, ?_⟩
      simp only [flatAll, List.getElem?_append]
      rw [if_pos (lt_of_getElem? hu)]
      exact hu
    | succ k =>
      simp at h
      obtain ⟨i, hi⟩ := ih h hu
      refine ⟨x.flat.length + i, ?_⟩
      simp only [flatAll, List.getElem?_append]
      rw [if_neg (by omega)]
      simpa using hi

theorem one_flat {u : AV} (h : u.one = true) : u.flat = [u] := by cases u <;> first | rfl | simp [AV.one] at h

theorem VR.old' {v : AV} {c : Value} (hv : VR γ w v c) : ∀ (j : Nat) u, v.flat[j]? = some u → u.one = true → u.old γ.n = true := by
  have sgl : ∀ {x : AV}, x.flat = [x] → (x.one = true → x.old γ.n = true) → ∀ (j : Nat) u, x.flat[j]? = some u → u.one = true → u.old γ.n = true := fun {x} hx h j u hu h1 => by
    rw [hx] at hu
    cases j with
    | zero => simp at hu; subst hu; exact h h1
    | succ j => simp at hu
  have self : ∀ {u : AV}, u.one = true → (∀ (j : Nat) u', u.flat[j]? = some u' → u'.one = true → u'.old γ.n = true) → u.old γ.n = true := fun {u} h1 h => h 0 u (by rw [one_flat h1]; rfl) h1
  induction hv with
  | ptr i g off a hi => exact sgl rfl fun _ => by simp only [AV.old, Nat.blt_eq]; exact hi.1
  | ms i g off len cp sz a cap hi => exact sgl rfl fun _ => by simp only [AV.old, Nat.blt_eq]; exact hi.1
  | map i r hi => exact sgl rfl fun _ => by simp only [AV.old, Nat.blt_eq]; exact hi.1
  | yield i l hi => exact sgl rfl fun _ => by simp only [AV.old, Nat.blt_eq]; exact hi.1
  | pin v b o cs hl h1 _ ih =>
    refine sgl rfl fun _ => ?_
    simp only [AV.old]
    exact old_flat fun j u hu => self (allOne_get h1 hu) (ih j u hu)
  | vecNil tl ht =>
    exact sgl rfl fun h => by
      cases tl with
      | exact own => simp [AV.old, AV.oldAll]
      | tok t n => simp [AV.one] at h
      | shut => simp [AV.old, AV.oldAll]
  | vecE a => exact sgl rfl fun h => by simp [AV.old, AV.oldAll]
  | vec es tl b o cap sz cs h1 h2 h3 hl _ ht ih =>
    refine sgl rfl fun h => ?_
    have he : AV.oldAll γ.n es = true := oldAll_of fun k e he => old_flat fun j u hu => by
      obtain ⟨i, hi⟩ := flatAll_mem he hu
      exact self (allOne_get (allOne_flatAll h3) hi) (ih i u hi)
    cases tl with
    | exact own => simp only [AV.old, he, Bool.and_true]
    | tok t n => simp [AV.one] at h
    | shut => simp only [AV.old, he, Bool.and_true]
  | func f a c a' c' h1 h2 h3 h4 _ _ ih1 ih2 =>
    refine sgl rfl fun _ => ?_
    simp only [AV.old, Bool.and_eq_true]
    refine ⟨oldAll_of fun j u hu => ?_, oldAll_of fun j u hu => ?_⟩
    · have hj := lt_of_getElem? hu
      exact self (allOne_get h3 hu) (ih1 j u a'[j] hu (Array.getElem?_eq_getElem (by omega)))
    · have hj := lt_of_getElem? hu
      exact self (allOne_get h4 hu) (ih2 j u c'[j] hu (Array.getElem?_eq_getElem (by omega)))
  | iface t v v' h1 _ ih =>
    refine sgl rfl fun _ => ?_
    simp only [AV.old]
    exact old_flat fun j u hu => ih j u hu (allOne_get h1 hu)
  | agg cs cs' h1 h2 _ ih =>
    intro j u hu h1'
    have hj := lt_of_getElem? hu
    simp only [AV.flat] at hu hj
    exact self h1' (ih j u cs'[j] hu (Array.getElem?_eq_getElem (by omega)))
  | tup cs cs' h1 _ ih => exact sgl rfl fun h => by simp [AV.one] at h
  | _ => exact sgl rfl fun _ => by simp [AV.old]

theorem VR.old {v : AV} {c : Value} (hv : VR γ w v c) (h1 : v.one = true) : v.old γ.n = true := hv.old' 0 v (by rw [one_flat h1]; rfl) h1

-- ---------------------------------------------------------------- what stays

structure Keeps (b : Bar) (s s' : Sg) : Prop where
  len : s.heap.length ≤ s'.heap.length
  hp : ∀ i, i < b.w → i < s.heap.length → s'.heap[i]? = s.heap[i]?
  tlen : s.toks.length ≤ s'.toks.length
  tk : ∀ t, t < b.t → t < s.toks.length → s'.toks[t]? = s.toks[t]?
  es : ∀ e, e ∈ b.es → e ≤ s.heap.length → ∀ i, i < e → (∀ o, s.heap[i]? = some o → o.old e = true) → ∀ o, s'.heap[i]? = some o → o.old e = true

theorem Keeps.refl (b : Bar) (s : Sg) : Keeps b s s := ⟨Nat.le_refl _, fun _ _ _ => rfl, Nat.le_refl _, fun _ _ _ => rfl, fun _ _ _ _ _ h => h⟩

theorem Keeps.trans {b : Bar} {s s' s'' : Sg} (h : Keeps b s s') (k : Keeps b s' s'') : Keeps b s s'' :=
  ⟨Nat.le_trans h.len k.len, fun i hi hl => (k.hp i hi (Nat.lt_of_lt_of_le hl h.len)).trans (h.hp i hi hl), Nat.le_trans h.tlen k.tlen,
    fun t ht hl => (k.tk t ht (Nat.lt_of_lt_of_le hl h.tlen)).trans (h.tk t ht hl), fun e he hel i hi h0 => k.es e he (Nat.le_trans hel h.len) i hi (h.es e he hel i hi h0)⟩

theorem Keeps.push (b : Bar) (s : Sg) (o : AObj) : Keeps b s (s.push o) where
  len := by simp [Sg.push]
  hp i _ hl := by simp [Sg.push, List.getElem?_append, hl]
  tlen := Nat.le_refl _
  tk _ _ _ := rfl
  es e _ hel i hi h0 o' ho := by
    simp only [Sg.push, List.getElem?_append, show i < s.heap.length by omega, if_true] at ho
    exact h0 o' ho

theorem Keeps.tokNew (b : Bar) (s : Sg) : Keeps b s { s with toks := s.toks ++ [0] } where
  len := Nat.le_refl _
  hp _ _ _ := rfl
  tlen := by simp
  tk t _ hl := by simp [List.getElem?_append, hl]
  es _ _ _ _ _ h := h

theorem Keeps.tokSet {b : Bar} {s : Sg} {t n : Nat} (h : ¬ t < b.t) : Keeps b s { s with toks := setAt s.toks t n } where
  len := Nat.le_refl _
  hp _ _ _ := rfl
  tlen := by simp [length_setAt]
  tk u hu hl := by simp only [getElem?_setAt]; rw [if_neg (by omega)]
  es _ _ _ _ _ h := h

theorem letsAll_mem {i : Nat} {xs : List AV} : ∀ {l : List Nat}, letsAll i xs l = true → ∀ e ∈ l, i < e → AV.oldAll e xs = true
  | [], _, e, he, _ => by simp at he
  | x :: r, h, e, he, hi => by
    simp only [letsAll, Bool.and_eq_true, Bool.or_eq_true, Bool.not_eq_true'] at h
    rcases List.mem_cons.1 he with rfl | he
    · rcases h.1 with h1 | h1
      · rw [show Nat.blt i e = true from by rw [Nat.blt_eq]; exact hi] at h1; cases h1
      · exact h1
    · exact letsAll_mem h.2 e he hi

theorem Keeps.set {b : Bar} {s : Sg} {i g g' : Nat} {cs cs' xs : List AV} (hl : b.lets i xs = true) (ho : s.heap[i]? = some (.cells cs g)) (hcs : ∀ (j : Nat) u, cs'[j]? = some u → (∃ j' : Nat, cs[j']? = some u) ∨ ∃ j' : Nat, xs[j']? = some u) :
    Keeps b s { s with heap := setAt s.heap i (.cells cs' g') } := by
  simp only [Bar.lets, Bool.and_eq_true, Bool.not_eq_true'] at hl
  obtain ⟨h1, h2⟩ := hl
  have hw : ¬ i < b.w := fun h => by rw [← Nat.blt_eq] at h; rw [h] at h1; cases h1
  refine ⟨by simp [length_setAt], fun j hj _ => ?_, Nat.le_refl _, fun _ _ _ => rfl, fun e he hel j hj h0 o hoj => ?_⟩
  · simp only [getElem?_setAt]
    rw [if_neg (by omega)]
  · simp only [getElem?_setAt] at hoj
    split at hoj
    · rename_i e'
      subst e'
      rw [if_pos (lt_of_getElem? ho)] at hoj
      cases hoj
      have hold := h0 _ ho
      simp only [AObj.old] at hold ⊢
      exact oldAll_of fun k u hu => by
        rcases hcs k u hu with ⟨j', h⟩ | ⟨j', h⟩
        · exact oldAll_get hold h
        · exact oldAll_get (letsAll_mem h2 e he hj) h
    · exact h0 o hoj

theorem Keeps.setIter {b : Bar} {s : Sg} {i p : Nat} {l : List UInt8} (hw : ¬ i < b.w) : Keeps b s { s with heap := setAt s.heap i (.siter l p) } := by
  refine ⟨by simp [length_setAt], fun j hj _ => ?_, Nat.le_refl _, fun _ _ _ => rfl, fun e he hel j hj h0 o hoj => ?_⟩
  · simp only [getElem?_setAt]
    rw [if_neg (by omega)]
  · simp only [getElem?_setAt] at hoj
    split at hoj
    · split at hoj
      · cases hoj
        rfl
      · cases hoj
    · exact h0 o hoj

theorem Keeps.put {b : Bar} {s : Sg} {i : Nat} {o0 o : AObj} (hw : ¬ i < b.w) (h0 : s.heap[i]? = some o0) (ho : ∀ e, o0.old e = true → o.old e = true) : Keeps b s { s with heap := setAt s.heap i o } := by
  refine ⟨by simp [length_setAt], fun j hj _ => ?_, Nat.le_refl _, fun _ _ _ => rfl, fun e he hel j hj h0' o' hoj => ?_⟩
  · simp only [getElem?_setAt]
    rw [if_neg (by omega)]
  · simp only [getElem?_setAt] at hoj
    split at hoj
    · rename_i e'
      subst e'
      split at hoj
      · cases hoj
        exact ho e (h0' _ h0)
      · cases hoj
    · exact h0' o' hoj

theorem getLoopo_some {h : List AObj} {i : Nat} {bz : Bool} {q : List Nat × List AV × List Nat × List AOper × List AOper} (hq : getLoopo h i bz = some q) : h[i]? = some (.loopo q.1 q.2.1 q.2.2.1 q.2.2.2.1 q.2.2.2.2 bz) := by
  unfold getLoopo at hq
  split at hq
  · rename_i e
    split at hq
    · rename_i e2
      cases hq
      rw [e]
      cases bz <;> simp at e2 <;> subst e2 <;> rfl
    · cases hq
  · cases hq

theorem mapSet_mem {q y : AV} : ∀ {es es' : List (AV × AV)}, mapSet q y es = some es' → ∀ x ∈ es', (∃ z, z ∈ es ∧ x.1 = z.1 ∧ (x.2 = z.2 ∨ x.2 = y)) ∨ (x.1 = q ∧ x.2 = y)
  | [], es', h, x, hx => by
    cases h
    simp at hx
    subst hx
    exact .inr ⟨rfl, rfl⟩
  | u :: es, es', h, x, hx => by
    simp only [mapSet, Option.bind_eq_some_iff] at h
    obtain ⟨e, _, h⟩ := h
    cases e with
    | true =>
      simp only [if_true, Option.some.injEq] at h
      subst h
      rcases List.mem_cons.mp hx with rfl | hx
      · exact .inl ⟨u, List.mem_cons_self, rfl, .inr rfl⟩
      · exact .inl ⟨x, List.mem_cons_of_mem _ hx, rfl, .inl rfl⟩
    | false =>
      simp only [Bool.false_eq_true, if_false, Option.bind_eq_some_iff, Option.some.injEq] at h
      obtain ⟨l, hl, rfl⟩ := h
      rcases List.mem_cons.mp hx with rfl | hx
      · exact .inl ⟨u, List.mem_cons_self, rfl, .inl rfl⟩
      · rcases mapSet_mem hl x hx with ⟨z, hz, h1, h2⟩ | h
        · exact .inl ⟨z, List.mem_cons_of_mem _ hz, h1, h2⟩
        · exact .inr h

theorem old_of_flat {e : Nat} {y : AV} (h : AV.oldAll e y.flat = true) : y.old e = true := by
  cases y with
  | agg cs => simp only [AV.flat] at h; simp only [AV.old]; exact h
  | _ => simp only [AV.flat, AV.oldAll, Bool.and_true] at h; exact h

theorem Keeps.setMap {b : Bar} {s : Sg} {i : Nat} {q y : AV} {es es' : List (AV × AV)} (hl : b.lets i (q :: y.flat) = true) (hg : getMap s.heap i = some es) (hs : mapSet q y es = some es') : Keeps b s { s with heap := setAt s.heap i (.mapo es') } := by
  simp only [Bar.lets, Bool.and_eq_true, Bool.not_eq_true'] at hl
  obtain ⟨h1, h2⟩ := hl
  have ho : s.heap[i]? = some (.mapo es) := by
    unfold getMap at hg
    split at hg
    · rename_i e; cases hg; exact e
    · cases hg
  have hw : ¬ i < b.w := fun h => by rw [← Nat.blt_eq] at h; rw [h] at h1; cases h1
  refine ⟨by simp [length_setAt], fun j hj _ => ?_, Nat.le_refl _, fun _ _ _ => rfl, fun e he hel j hj h0 o hoj => ?_⟩
  · simp only [getElem?_setAt]
    rw [if_neg (by omega)]
  · simp only [getElem?_setAt] at hoj
    split at hoj
    · rename_i e'
      subst e'
      rw [if_pos (lt_of_getElem? ho)] at hoj
      cases hoj
      have hold := h0 _ ho
      have hnew := letsAll_mem h2 e he hj
      simp only [AV.oldAll, Bool.and_eq_true] at hnew
      have hy := old_of_flat hnew.2
      simp only [AObj.old, List.all_eq_true, Bool.and_eq_true] at hold ⊢
      intro x hx
      rcases mapSet_mem hs x hx with ⟨z, hz, e1, e2⟩ | ⟨e1, e2⟩
      · have := hold z hz
        refine ⟨by rw [e1]; exact this.1, ?_⟩
        rcases e2 with e2 | e2
        · rw [e2]; exact this.2
        · rw [e2]; exact hy
      · rw [e1, e2]; exact ⟨hnew.1, hy⟩
    · exact h0 o hoj

theorem keeps_append {b : Bar} {s s' : Sg} {mu : Bool} {ag : Option Nat} {bytes : Nat} {v r : AV} {ys : List AV} (h : evAppend b s mu ag bytes v ys = some (r, s')) : Keeps b s s' := by
  unfold evAppend at h
  split at h
  · split at h
    · cases h; exact .refl _ _
    · split at h
      · split at h
        · cases h; exact .push _ _ _
        · cases h; exact .tokNew _ _
      · cases h
  · split at h
    · cases h; exact .refl _ _
    · split at h
      · split at h
        · split at h <;> cases h
          · exact .push _ _ _
          · exact .tokNew _ _
        · split at h
          · rename_i hb
            simp only [Option.bind_eq_some_iff] at h
            obtain ⟨n', _, h⟩ := h
            split at h
            · cases h
              refine .tokSet fun hlt => ?_
              rw [← Nat.blt_eq] at hlt
              rw [hlt] at hb
              cases hb
            · cases h
          · cases h
        · cases h
      · cases h
  · split at h
    · rename_i hc
      simp only [Bool.and_eq_true] at hc
      simp only [Option.bind_eq_some_iff] at h
      obtain ⟨cs, hcs, h⟩ := h
      split at h
      · cases h
        refine .set hc.2 (getCells_some hcs) fun j u hu => ?_
        rw [List.getElem?_append] at hu
        split at hu
        · exact .inl ⟨_, hu⟩
        · exact .inr ⟨_, hu⟩
      · split at h
        · simp only [Option.map_eq_some_iff, Prod.mk.injEq] at h
          obtain ⟨cs', hw, _, rfl⟩ := h
          refine .set hc.2 (getCells_some hcs) fun j u hu => ?_
          rw [(writeAt_spec hw).2.2 j] at hu
          split at hu
          · exact .inr ⟨_, hu⟩
          · exact .inl ⟨_, hu⟩
        · cases h
    · cases h
  · cases h

theorem keeps_evE {b : Bar} {loc pers : Env} {s s' : Sg} {p : EOp} {v : AV} (h : evE b loc pers s p = some (v, s')) : Keeps b s s' := by
  cases p with
  | alloc z => cases h; exact .push _ _ _
  | box x =>
    simp only [evE, Option.bind_eq_some_iff, Option.map_eq_some_iff, Prod.mk.injEq] at h
    obtain ⟨_, _, _, _, _, rfl⟩ := h
    exact .push _ _ _
  | buildMs sz z len parts =>
    simp only [evE, Option.map_eq_some_iff, Prod.mk.injEq] at h
    obtain ⟨_, _, _, rfl⟩ := h
    exact .push _ _ _
  | store n a x =>
    simp only [evE, Option.bind_eq_some_iff] at h
    obtain ⟨u, hu, d, hd, h⟩ := h
    split at h
    · simp only [Option.bind_eq_some_iff] at h
      obtain ⟨l, hl, cs, hcs, h⟩ := h
      split at h
      · rename_i hc
        simp only [Bool.and_eq_true] at hc
        simp only [Option.map_eq_some_iff, Prod.mk.injEq] at h
        obtain ⟨cs', hw, _, rfl⟩ := h
        refine .set hc.2 (getCells_some hcs) fun j u hu => ?_
        rw [(writeAt_spec hw).2.2 j] at hu
        split at hu
        · exact .inr ⟨_, hu⟩
        · exact .inl ⟨_, hu⟩
      · cases h
    · cases h
  | append mu ag bytes x y =>
    simp only [evE, Option.bind_eq_some_iff] at h
    obtain ⟨u, hu, d, hd, ys, hys, h⟩ := h
    split at h
    · exact keeps_append h
    · cases h
  | makeSl mu bytes z l c =>
    simp only [evE, Option.bind_eq_some_iff] at h
    obtain ⟨_, _, _, _, h⟩ := h
    split at h
    · split at h
      · cases h
      · split at h
        · split at h
          · simp only [Option.some.injEq, Prod.mk.injEq] at h
            obtain ⟨_, rfl⟩ := h
            exact .push _ _ _
          · split at h
            · simp only [Option.some.injEq, Prod.mk.injEq] at h
              obtain ⟨_, rfl⟩ := h
              exact .refl _ _
            · cases h
        · cases h
    · cases h
  | growz bytes z x y =>
    simp only [evE, Option.bind_eq_some_iff] at h
    obtain ⟨_, _, _, _, h⟩ := h
    split at h
    · split at h
      · simp only [Option.some.injEq, Prod.mk.injEq] at h
        obtain ⟨_, rfl⟩ := h
        exact .push _ _ _
      · cases h
    · cases h
  | clear z x =>
    simp only [evE, Option.bind_eq_some_iff] at h
    obtain ⟨u, hu, h⟩ := h
    split at h
    · simp only [Option.some.injEq, Prod.mk.injEq] at h
      obtain ⟨_, rfl⟩ := h
      exact .refl _ _
    · simp only [Option.some.injEq, Prod.mk.injEq] at h
      obtain ⟨_, rfl⟩ := h
      exact .refl _ _
    · split at h
      · rename_i hc
        simp only [Bool.and_eq_true] at hc
        simp only [Option.bind_eq_some_iff, Option.map_eq_some_iff, Prod.mk.injEq] at h
        obtain ⟨cs, hcs, cs', hw, _, rfl⟩ := h
        refine .set hc.2.2 (getCells_some hcs) fun j u hu => ?_
        rw [(writeAt_spec hw).2.2 j] at hu
        split at hu
        · exact .inr ⟨_, hu⟩
        · exact .inl ⟨_, hu⟩
      · cases h
    · cases h
  | copy _ _ _ => cases h
  | rangeS x =>
    simp only [evE, Option.bind_eq_some_iff, Option.map_eq_some_iff, Prod.mk.injEq] at h
    obtain ⟨_, _, _, _, _, rfl⟩ := h
    exact .push _ _ _
  | nextS x =>
    simp only [evE, Option.bind_eq_some_iff] at h
    obtain ⟨u, hu, h⟩ := h
    split at h
    · split at h
      · simp only [Option.bind_eq_some_iff] at h
        obtain ⟨q, hq, h⟩ := h
        split at h
        · split at h
          · cases h
          · rename_i hw
            simp only [Option.some.injEq, Prod.mk.injEq] at h
            obtain ⟨_, rfl⟩ := h
            exact .setIter fun hlt => hw (by rw [Nat.blt_eq]; exact hlt)
        · simp only [Option.some.injEq, Prod.mk.injEq] at h
          obtain ⟨_, rfl⟩ := h
          exact .refl _ _
      · cases h
    · cases h
  | makeMap => cases h; exact .push _ _ _
  | mapPut str m k x =>
    simp only [evE, Option.bind_eq_some_iff] at h
    obtain ⟨u, _, q, _, d, _, h⟩ := h
    cases u <;> try (simp at h; done)
    simp only [Option.bind_eq_some_iff] at h
    obtain ⟨es, hes, y, _, h⟩ := h
    split at h
    · rename_i hc
      simp only [Bool.and_eq_true] at hc
      simp only [Option.map_eq_some_iff, Prod.mk.injEq] at h
      obtain ⟨es', hs, _, rfl⟩ := h
      exact .setMap hc.2 hes hs
    · cases h

theorem allGe_mem {i : Nat} : ∀ {l : List Nat}, allGe i l = true → ∀ e ∈ l, e ≤ i
  | [], _, e, he => by simp at he
  | x :: r, h, e, he => by
    simp only [allGe, Bool.and_eq_true] at h
    rcases List.mem_cons.1 he with rfl | he
    · exact Nat.le_of_ble_eq_true h.1
    · exact allGe_mem h.2 e he

theorem Keeps.fill {b : Bar} {s : Sg} {i : Nat} {o : AObj} (hw : b.w ≤ i) (he : allGe i b.es = true) : Keeps b s { s with heap := setAt s.heap i o } where
  len := by simp [length_setAt]
  hp j hj _ := by simp only [getElem?_setAt]; rw [if_neg (by omega)]
  tlen := Nat.le_refl _
  tk _ _ _ := rfl
  es e hm _ j hj h0 o' ho' := by
    have := allGe_mem he e hm
    simp only [getElem?_setAt] at ho'
    rw [if_neg (by omega)] at ho'
    exact h0 o' ho'

/-- what a fill comes to -/
theorem evF_inv {b : Bar} {loc pers : Env} {s s' : Sg} {k : Nat} {p : EOp} {v : AV} (h : evF b loc pers s k p = some (v, s')) :
    (evE b loc pers s p = some (v, s') ∧ s'.heap.length = s.heap.length) ∨ ∃ v0 s0 o, evE b loc pers s p = some (v0, s0) ∧ s0.heap[s.heap.length]? = some o ∧ s.heap[b.n0 + k]? = some .pend ∧ o ≠ .pend ∧ o.old s.heap.length = true ∧ b.w ≤ b.n0 + k ∧ allGe (b.n0 + k) b.es = true ∧
      renum s.heap.length (b.n0 + k) v0 = some v ∧ s' = { s with heap := setAt s.heap (b.n0 + k) o } := by
  unfold evF at h
  split at h
  · cases h
  simp only [Option.bind_eq_some_iff] at h
  obtain ⟨⟨v0, s0⟩, h0, h⟩ := h
  dsimp only at h
  split at h
  · rename_i hl
    cases h
    exact .inl ⟨h0, Nat.eq_of_beq_eq_true hl⟩
  · simp only [Option.bind_eq_some_iff] at h
    obtain ⟨o, ho, q, hq, h⟩ := h
    split at h
    · rename_i hc
      simp only [Bool.and_eq_true, Bool.not_eq_true'] at hc
      obtain ⟨c1, c2, c3, c4, c5⟩ := hc
      simp only [Option.map_eq_some_iff, Prod.mk.injEq] at h
      obtain ⟨u, hu, rfl, rfl⟩ := h
      have hq' : q = .pend := by cases q <;> simp [AObj.isPend] at c1; rfl
      subst hq'
      exact .inr ⟨v0, s0, o, h0, ho, hq, fun e => by subst e; simp [AObj.isPend] at c2, c3, Nat.le_of_ble_eq_true c4, c5, hu, rfl⟩
    · cases h

theorem keeps_evF {b : Bar} {loc pers : Env} {s s' : Sg} {k : Nat} {p : EOp} {v : AV} (h : evF b loc pers s k p = some (v, s')) : Keeps b s s' := by
  rcases evF_inv h with ⟨h, _⟩ | ⟨_, _, _, _, _, _, _, _, hw, he, _, rfl⟩
  · exact keeps_evE h
  · exact .fill hw he

theorem keeps_plain (b : Bar) : ∀ {ops : List AOper} {loc : Env} {s : Sg} {x : Env × Sg}, runPlain b ops loc s = some x → Keeps b s x.2
  | [], loc, s, x, h => by
    simp only [runPlain, Option.some.injEq] at h
    subst h
    exact .refl _ _
  | o :: r, loc, s, x, h => by
    simp only [runPlain, Option.bind_eq_some_iff] at h
    obtain ⟨wd, hwd, h⟩ := h
    split at h
    · split at h
      · simp only [Option.bind_eq_some_iff] at h
        obtain ⟨v, _, h⟩ := h
        exact keeps_plain b h
      · simp only [Option.bind_eq_some_iff] at h
        obtain ⟨v, hv, h⟩ := h
        exact (keeps_evE hv).trans (keeps_plain b h)
      · cases h
    · exact keeps_plain b h

/-- what a round comes to -/
theorem roundA_inv {b : Bar} {s s' : Sg} {i : Nat} {l : List AV} (h : roundA b s i l = some s') : ¬ i < b.w ∧ ∃ ts cs ps aops bops loc x ts' cs' ps' aops' bops' y ts2 cs2 ps2 aops2 bops2, s.heap[i]? = some (.loopo ts cs ps aops bops false) ∧ putParams (ts.zip cs) ps l = some loc ∧ runPlain b aops loc s = some x ∧
    x.2.heap[i]? = some (.loopo ts' cs' ps' aops' bops' false) ∧ runPlain b bops x.1 { x.2 with heap := setAt x.2.heap i (.loopo ts' cs' ps' aops' bops' true) } = some y ∧ y.2.heap[i]? = some (.loopo ts2 cs2 ps2 aops2 bops2 true) ∧ s' = { y.2 with heap := setAt y.2.heap i (.loopo ts2 cs2 ps2 aops2 bops2 false) } := by
  unfold roundA at h
  split at h
  · cases h
  · rename_i hw
    simp only [Option.bind_eq_some_iff, Option.map_eq_some_iff] at h
    obtain ⟨q, hq, loc, hl, x, hx, q', hq', y, hy, q2, hq2, rfl⟩ := h
    exact ⟨fun hlt => hw (by rw [Nat.blt_eq]; exact hlt), _, _, _, _, _, _, _, _, _, _, _, _, _, _, _, _, _, _, getLoopo_some hq, hl, hx, getLoopo_some hq', hy, getLoopo_some hq2, rfl⟩

theorem keeps_round {b : Bar} {s s' : Sg} {i : Nat} {l : List AV} (h : roundA b s i l = some s') : Keeps b s s' := by
  obtain ⟨hw, _, _, _, _, _, _, x, _, _, _, _, _, y, _, _, _, _, _, h1, _, h3, h4, h5, h6, rfl⟩ := roundA_inv h
  exact (keeps_plain b h3).trans ((Keeps.put (o := .loopo _ _ _ _ _ true) hw h4 fun e h => h).trans ((keeps_plain b h5).trans (Keeps.put (o := .loopo _ _ _ _ _ false) hw h6 fun e h => h)))

theorem roundOp_inv {b : Bar} {fr : Fr} {loc : Env} {s s' : Sg} {y : AOpd} {args : List AOpd} (h : roundOp b fr loc s y args = some s') : fr.pan = .off ∧ ∃ i l, y.ev loc fr.pers = some (.yield i) ∧ evAll loc fr.pers args = some l ∧ roundA b s i l = some s' := by
  unfold roundOp at h
  split at h
  · rename_i hp
    simp only [Option.bind_eq_some_iff] at h
    obtain ⟨u, hu, l, hl, h⟩ := h
    split at h
    · exact ⟨hp, _, _, hu, hl, h⟩
    · cases h
  · cases h

def CallKeeps (call : CallFn) : Prop := ∀ b f l s out s', call b f l s = some (out, s') → Keeps b s s'
def DeferKeeps (callD : DeferFn) : Prop := ∀ b f l u s r s', callD b f l u s = some (r, s') → Keeps b s s'

theorem keeps_ops {call : CallFn} (hc : CallKeeps call) (b : Bar) : ∀ {ops : List AOper} {loc : Env} {fr : Fr} {s : Sg} {e : Ex} {loc' : Env} {fr' : Fr} {s' : Sg}, runOps call b ops loc fr s = some (e, loc', fr', s') → Keeps b s s'
  | [], loc, fr, s, e, loc', fr', s', h => by
    simp only [runOps, Option.some.injEq, Prod.mk.injEq] at h
    obtain ⟨_, _, _, rfl⟩ := h
    exact .refl _ _
  | o :: r, loc, fr, s, e, loc', fr', s', h => by
    simp only [runOps, Option.bind_eq_some_iff] at h
    obtain ⟨wd, hwd, h⟩ := h
    split at h
    · split at h
      · simp only [Option.bind_eq_some_iff] at h
        obtain ⟨v, _, h⟩ := h
        exact keeps_ops hc b h
      · simp only [Option.bind_eq_some_iff] at h
        obtain ⟨v, hv, h⟩ := h
        exact (keeps_evE hv).trans (keeps_ops hc b h)
      · simp only [Option.bind_eq_some_iff] at h
        obtain ⟨l, _, x, hx, h⟩ := h
        obtain ⟨out, s1⟩ := x
        have h1 := hc _ _ _ _ _ _ hx
        dsimp only at h
        split at h
        · exact h1.trans (keeps_ops hc b h)
        · simp only [Option.some.injEq, Prod.mk.injEq] at h
          obtain ⟨_, _, _, rfl⟩ := h
          exact h1
      · simp only [Option.bind_eq_some_iff] at h
        obtain ⟨y, _, l, _, c, _, x, hx, h⟩ := h
        obtain ⟨out, s1⟩ := x
        have h1 := hc _ _ _ _ _ _ hx
        dsimp only at h
        split at h
        · exact h1.trans (keeps_ops hc b h)
        · simp only [Option.some.injEq, Prod.mk.injEq] at h
          obtain ⟨_, _, _, rfl⟩ := h
          exact h1
      · simp only [Option.bind_eq_some_iff] at h
        obtain ⟨v, hv, h⟩ := h
        exact (keeps_evF hv).trans (keeps_ops hc b h)
      · simp only [Option.bind_eq_some_iff] at h
        obtain ⟨l, _, l', _, h⟩ := h
        split at h
        · simp only [Option.bind_eq_some_iff] at h
          obtain ⟨x, hx, h⟩ := h
          split at h
          · exact keeps_ops hc b h
          · cases h
        · cases h
      · simp only [Option.bind_eq_some_iff] at h
        obtain ⟨l, _, l', _, x, hx, h⟩ := h
        obtain ⟨out, s1⟩ := x
        have h1 := hc _ _ _ _ _ _ hx
        dsimp only at h
        split at h
        · exact h1.trans (keeps_ops hc b h)
        · simp only [Option.some.injEq, Prod.mk.injEq] at h
          obtain ⟨_, _, _, rfl⟩ := h
          exact h1
      · simp only [Option.bind_eq_some_iff] at h
        obtain ⟨y, _, l, _, c, _, x, hx, h⟩ := h
        obtain ⟨out, s1⟩ := x
        have h1 := hc _ _ _ _ _ _ hx
        dsimp only at h
        split at h
        · exact h1.trans (keeps_ops hc b h)
        · simp only [Option.some.injEq, Prod.mk.injEq] at h
          obtain ⟨_, _, _, rfl⟩ := h
          exact h1
      · simp only [Option.bind_eq_some_iff] at h
        obtain ⟨s1, h1, h⟩ := h
        obtain ⟨_, _, _, _, _, h1⟩ := roundOp_inv h1
        exact (keeps_round h1).trans (keeps_ops hc b h)
      · simp only [Option.bind_eq_some_iff, Option.some.injEq, Prod.mk.injEq] at h
        obtain ⟨_, _, _, _, _, _, _, rfl⟩ := h
        exact .refl _ _
      · simp only [Option.bind_eq_some_iff] at h
        obtain ⟨_, _, _, _, _, _, h⟩ := h
        exact keeps_ops hc b h
      · simp only [Option.bind_eq_some_iff] at h
        obtain ⟨_, _, h⟩ := h
        exact keeps_ops hc b h
      · cases h
    · exact keeps_ops hc b h

theorem Keeps.bar {b b' : Bar} {s s' : Sg} (h : Keeps b' s s') (hw : b.w = b'.w) (ht : b.t = b'.t) (he : ∀ e ∈ b.es, e ∈ b'.es) : Keeps b s s' :=
  ⟨h.len, fun i hi => h.hp i (hw ▸ hi), h.tlen, fun t hi => h.tk t (ht ▸ hi), fun e hm => h.es e (he e hm)⟩

theorem Keeps.keep (b : Bar) (s : Sg) (k : Nat) : Keeps b s (s.keep k) where
  len := by simp [Sg.keep]
  hp i _ hl := by simp [Sg.keep, List.getElem?_append, hl]
  tlen := Nat.le_refl _
  tk _ _ _ := rfl
  es e _ hel i hi h0 o' ho := by
    simp only [Sg.keep, List.getElem?_append, show i < s.heap.length by omega, if_true] at ho
    exact h0 o' ho

theorem Keeps.undrawnW {b : Bar} {s s' : Sg} {k : Nat} (h : Keeps (b.drawnW s) (s.keep k) s') : Keeps b s s' :=
  (Keeps.keep b s k).trans (h.bar rfl rfl fun e he => by simp [Bar.drawnW, he])

theorem Keeps.undrawn {b : Bar} {iso : Bool} {s s' : Sg} {k : Nat} (h : Keeps (b.drawn iso s) (s.keep k) s') : Keeps b s s' :=
  (Keeps.keep b s k).trans (h.bar rfl rfl fun e he => by cases iso <;> simp [Bar.drawn, he])

def RanKeeps (b : Bar) (f : Fr → Sg → Ran) : Prop := ∀ fr s e fr' s', f fr s = some (e, fr', s') → Keeps b s s'
def LpKeeps (lp : (Fr → Sg → Ran) → Fr → Sg → Ran) : Prop := ∀ b f, RanKeeps b f → RanKeeps b (lp f)

theorem keeps_loopN : ∀ n, LpKeeps (loopN n)
  | 0, b, f, hf, fr, s, e, fr', s', h => by cases h
  | n + 1, b, f, hf, fr, s, e, fr', s', h => by
    simp only [loopN, Option.bind_eq_some_iff] at h
    obtain ⟨x, hx, h⟩ := h
    obtain ⟨e1, fr1, s1⟩ := x
    have h1 := hf _ _ _ _ _ hx
    dsimp only at h
    split at h
    · exact h1.trans (keeps_loopN n b f hf _ _ _ _ _ h)
    · simp only [Option.some.injEq, Prod.mk.injEq] at h
      obtain ⟨_, _, rfl⟩ := h
      exact h1

/-- what a range over a function comes to -/
theorem rangeF_inv {call : CallFn} {b : Bar} {x : AOpd} {g : FuncId} {ts ps : List Nat} {aops bops : List AOper} {fr : Fr} {s : Sg} {e : Ex} {fr' : Fr} {s' : Sg} (h : runRangeF call b x g ts ps aops bops fr s = some (e, fr', s')) :
    fr.pan = .off ∧ ∃ u cs c v s2 q, x.ev [] fr.pers = some u ∧ evAll [] fr.pers (ts.map .tmp) = some cs ∧ allOne (keptAll cs) = true ∧ b.w ≤ s.heap.length ∧ u.fn? [.yield (s.heap.length + 1)] = some c ∧ c.1 = g ∧
      call b g c.2 ((s.push .defo).push (.loopo ts (keptAll cs) ps aops bops false)) = some (.ret v, s2) ∧ getLoopo s2.heap (s.heap.length + 1) false = some q ∧ e = .normal ∧ fr' = { fr with defers := (markF, [.undef, .ptr s.heap.length 0 0]) :: fr.defers } ∧ s' = { s2 with heap := setAt s2.heap (s.heap.length + 1) .dead } := by
  unfold runRangeF at h
  split at h
  · rename_i hp
    simp only [Option.bind_eq_some_iff] at h
    obtain ⟨u, hu, cs, hcs, h⟩ := h
    split at h
    · rename_i hc
      simp only [Bool.and_eq_true] at hc
      simp only [Option.bind_eq_some_iff] at h
      obtain ⟨c, hcc, h⟩ := h
      split at h
      · rename_i hg
        simp only [Option.bind_eq_some_iff] at h
        obtain ⟨⟨out, s2⟩, hcall, h⟩ := h
        dsimp only at h
        split at h
        · simp only [Option.map_eq_some_iff, Prod.mk.injEq] at h
          obtain ⟨q, hq, rfl, rfl, rfl⟩ := h
          exact ⟨hp, u, cs, c, _, s2, q, hu, hcs, hc.1, Nat.le_of_ble_eq_true hc.2, hcc, Nat.eq_of_beq_eq_true hg, hcall, hq, rfl, rfl, rfl⟩
        · cases h
      · cases h
    · cases h
  · cases h

theorem keeps_code {call : CallFn} (hc : CallKeeps call) {lp : (Fr → Sg → Ran) → Fr → Sg → Ran} (hl : LpKeeps lp) (b : Bar) : ∀ c : ACode, RanKeeps b (ACode.run lp call b c)
  | .skip, fr, s, e, fr', s', h => by
    simp only [ACode.run, Option.some.injEq, Prod.mk.injEq] at h
    obtain ⟨_, _, rfl⟩ := h
    exact .refl _ _
  | .region ops outs, fr, s, e, fr', s', h => by
    simp only [ACode.run, runRegion, Option.map_eq_some_iff, Prod.mk.injEq] at h
    obtain ⟨⟨e1, loc1, fr1, s1⟩, hx, _, _, rfl⟩ := h
    exact keeps_ops hc b hx
  | .drawn ops outs pairs iso slots, fr, s, e, fr', s', h => by
    simp only [ACode.run, runDrawn, runDrawnB, Option.bind_eq_some_iff] at h
    obtain ⟨⟨e1, loc1, fr1, s1⟩, hx, h⟩ := h
    have h1 := (keeps_ops hc _ hx).undrawn
    split at h
    · split at h
      · simp only [Option.some.injEq, Prod.mk.injEq] at h
        obtain ⟨_, _, rfl⟩ := h
        exact h1
      · cases h
    · cases h
  | .drawnW ops outs pairs slots, fr, s, e, fr', s', h => by
    simp only [ACode.run, runDrawnW] at h
    split at h
    case isFalse => cases h
    simp only [runDrawnB, Option.bind_eq_some_iff] at h
    obtain ⟨⟨e1, loc1, fr1, s1⟩, hx, h⟩ := h
    have h1 := (keeps_ops hc _ hx).undrawnW
    split at h
    · split at h
      · simp only [Option.some.injEq, Prod.mk.injEq] at h
        obtain ⟨_, _, rfl⟩ := h
        exact h1
      · cases h
    · cases h
  | .seq x y, fr, s, e, fr', s', h => by
    simp only [ACode.run, Option.bind_eq_some_iff] at h
    obtain ⟨⟨e1, fr1, s1⟩, hx, h⟩ := h
    have h1 := keeps_code hc hl b x _ _ _ _ _ hx
    dsimp only at h
    split at h
    · exact h1.trans (keeps_code hc hl b y _ _ _ _ _ h)
    · simp only [Option.some.injEq, Prod.mk.injEq] at h
      obtain ⟨_, _, rfl⟩ := h
      exact h1
  | .cond c x y, fr, s, e, fr', s', h => by
    simp only [ACode.run, Option.bind_eq_some_iff] at h
    obtain ⟨v, _, t, _, h⟩ := h
    split at h
    · exact keeps_code hc hl b x _ _ _ _ _ h
    · exact keeps_code hc hl b y _ _ _ _ _ h
  | .block id x, fr, s, e, fr', s', h => by
    simp only [ACode.run, Option.bind_eq_some_iff] at h
    obtain ⟨⟨e1, fr1, s1⟩, hx, h⟩ := h
    have h1 := keeps_code hc hl b x _ _ _ _ _ hx
    dsimp only at h
    split at h <;>
    · simp only [Option.some.injEq, Prod.mk.injEq] at h
      obtain ⟨_, _, rfl⟩ := h
      exact h1
  | .loop x, fr, s, e, fr', s', h => hl b _ (keeps_code hc hl b x) _ _ _ _ _ h
  | .rangeF x g ts ps aops bops, fr, s, e, fr', s', h => by
    simp only [ACode.run] at h
    obtain ⟨_, u, cs, c, v, s2, q, _, _, _, hw, _, _, hc2, hq, rfl, rfl, rfl⟩ := rangeF_inv h
    refine ((Keeps.push b s _).trans ((Keeps.push b _ _).trans (hc _ _ _ _ _ _ hc2))).trans (.put (by omega) (getLoopo_some hq) fun e h => rfl)
  | .exit id, fr, s, e, fr', s', h => by
    simp only [ACode.run, Option.some.injEq, Prod.mk.injEq] at h
    obtain ⟨_, _, rfl⟩ := h
    exact .refl _ _
  | .ret, fr, s, e, fr', s', h => by
    simp only [ACode.run, Option.some.injEq, Prod.mk.injEq] at h
    obtain ⟨_, _, rfl⟩ := h
    exact .refl _ _
  | .bad, fr, s, e, fr', s', h => by cases h

/-- one deferred call, or a mark -/
theorem defers_inv {callD : DeferFn} {b : Bar} {c : FuncId × List AV} {l : List (FuncId × List AV)} {u : Option AV} {s : Sg} {r : Option AV} {s' : Sg} (h : runDefers callD b (c :: l) u s = some (r, s')) :
    (∃ i g o, c = (markF, [.undef, .ptr i g o]) ∧ c.1 = markF ∧ s.heap[i]? = some .defo ∧ ¬ i < b.w ∧ runDefers callD b l u { s with heap := setAt s.heap i .dead } = some (r, s')) ∨ (c.1 ≠ markF ∧ ∃ q s1, callD b c.1 c.2 u s = some (q, s1) ∧ runDefers callD b l q s1 = some (r, s')) := by
  obtain ⟨c1, c2⟩ := c
  simp only [runDefers] at h
  split at h
  · rename_i hm
    have hm := Nat.eq_of_beq_eq_true hm
    subst hm
    split at h
    · split at h
      · rename_i hd
        split at h
        · cases h
        · rename_i hw
          exact .inl ⟨_, _, _, rfl, rfl, hd, fun hlt => hw (by rw [Nat.blt_eq]; exact hlt), h⟩
      · cases h
    · cases h
  · rename_i hm
    simp only [Option.bind_eq_some_iff] at h
    obtain ⟨⟨q, s1⟩, hx, h⟩ := h
    refine .inr ⟨fun e => hm ?_, q, s1, hx, h⟩
    dsimp only at e
    rw [e]
    exact Nat.beq_refl _

theorem keeps_defers {callD : DeferFn} (hd : DeferKeeps callD) (b : Bar) : ∀ {l : List (FuncId × List AV)} {u : Option AV} {s : Sg} {r : Option AV} {s' : Sg}, runDefers callD b l u s = some (r, s') → Keeps b s s'
  | [], u, s, r, s', h => by
    simp only [runDefers, Option.some.injEq, Prod.mk.injEq] at h
    obtain ⟨_, rfl⟩ := h
    exact .refl _ _
  | c :: l, u, s, r, s', h => by
    rcases defers_inv h with ⟨i, g, o, _, _, h1, hw, h2⟩ | ⟨_, q, s1, hx, h⟩
    · exact (Keeps.put hw h1 fun _ _ => rfl).trans (keeps_defers hd b h2)
    · exact (hd _ _ _ _ _ _ _ hx).trans (keeps_defers hd b h)

/-- what a body and its deferred calls keep -/
theorem finish_inv {callD : DeferFn} {b : Bar} {fn : AFunc} {s : Sg} {e : Ex} {fr : Fr} {s1 : Sg} {out : Out} {s' : Sg} (h : finish callD b fn s e fr s1 = some (out, s')) :
    ∃ u r s2, runDefers callD b fr.defers u s1 = some (r, s2) ∧ ((r = none ∧ endRet fn s fr.pers s2 = some (out, s')) ∨ ∃ v, r = some v ∧ endPanic fn s v s2 = some (out, s')) ∧ (match e with | .panic v => u = some v | .exit _ => False | _ => u = none) := by
  cases e with
  | exit id => cases h
  | panic v =>
    simp only [finish, Option.bind_eq_some_iff] at h
    obtain ⟨⟨r, s2⟩, hx, h⟩ := h
    refine ⟨some v, r, s2, hx, ?_, rfl⟩
    dsimp only at h
    split at h
    · exact .inl ⟨rfl, h⟩
    · exact .inr ⟨_, rfl, h⟩
  | normal =>
    simp only [finish, Option.bind_eq_some_iff] at h
    obtain ⟨⟨r, s2⟩, hx, h⟩ := h
    refine ⟨none, r, s2, hx, ?_, rfl⟩
    dsimp only at h
    split at h
    · exact .inl ⟨rfl, h⟩
    · cases h
  | ret =>
    simp only [finish, Option.bind_eq_some_iff] at h
    obtain ⟨⟨r, s2⟩, hx, h⟩ := h
    refine ⟨none, r, s2, hx, ?_, rfl⟩
    dsimp only at h
    split at h
    · exact .inl ⟨rfl, h⟩
    · cases h

theorem keeps_leave {m : CallMode} {b : Bar} {s s2 : Sg} (hk : Keeps (b.into m s) s s2) {vs : List AV} {ks : List ARes} {l : List AV} {s' : Sg} (h : leave m s vs ks s2 = some (l, s')) : Keeps b s s' := by
  cases m with
  | raw =>
    simp only [leave, Option.some.injEq, Prod.mk.injEq] at h
    obtain ⟨_, rfl⟩ := h
    exact hk
  | pure =>
    simp only [leave, Option.bind_eq_some_iff] at h
    obtain ⟨l', _, h⟩ := h
    split at h
    · simp only [Option.some.injEq, Prod.mk.injEq] at h
      obtain ⟨_, rfl⟩ := h
      exact .refl _ _
    · cases h
  | eff =>
    simp only [leave, Option.bind_eq_some_iff] at h
    obtain ⟨l', _, h⟩ := h
    split at h
    · simp only [Option.some.injEq, Prod.mk.injEq] at h
      obtain ⟨_, rfl⟩ := h
      have hlen := hk.len
      refine ⟨by simp [hlen], fun i hi hl => ?_, Nat.le_refl _, fun _ _ _ => rfl, fun e he hel i hi h0 o ho => ?_⟩
      · rw [List.getElem?_take, if_pos hl]
        exact hk.hp i hi hl
      · rw [List.getElem?_take, if_pos (by omega)] at ho
        exact hk.es e (List.mem_cons_of_mem _ he) hel i hi h0 o ho
    · cases h

theorem keeps_step {T : Tab} {lp : (Fr → Sg → Ran) → Fr → Sg → Ran} {call : CallFn} {callD : DeferFn} (hl : LpKeeps lp) (hc : CallKeeps call) (hd : DeferKeeps callD) : CallKeeps (callStep T lp call callD) := by
  intro b f l s out s' h
  unfold callStep at h
  split at h
  · simp only [Option.bind_eq_some_iff] at h
    obtain ⟨_, _, h⟩ := h
    split at h
    · simp only [Option.some.injEq, Prod.mk.injEq] at h
      obtain ⟨_, rfl⟩ := h
      exact .refl _ _
    · cases h
  · simp only [Option.bind_eq_some_iff] at h
    obtain ⟨fn, _, ⟨e, fr, s1⟩, hx, h⟩ := h
    have h1 := keeps_code hc hl _ _ _ _ _ _ _ hx
    obtain ⟨u, r, s2, hr, hfin, _⟩ := finish_inv h
    have h2 := h1.trans (keeps_defers hd _ hr)
    rcases hfin with ⟨_, hf⟩ | ⟨v, _, hf⟩
    · simp only [endRet, Option.bind_eq_some_iff, Option.map_eq_some_iff, Prod.mk.injEq] at hf
      obtain ⟨vs, _, ⟨l', s3⟩, hlv, _, rfl⟩ := hf
      exact keeps_leave h2 hlv
    · simp only [endPanic, Option.map_eq_some_iff, Prod.mk.injEq] at hf
      obtain ⟨⟨l', s3⟩, hlv, _, rfl⟩ := hf
      exact keeps_leave h2 hlv

theorem keeps_deferStep {T : Tab} {lp : (Fr → Sg → Ran) → Fr → Sg → Ran} {call : CallFn} (hl : LpKeeps lp) (hc : CallKeeps call) : DeferKeeps (deferStep T lp call) := by
  intro b f l u s r s' h
  simp only [deferStep, Option.bind_eq_some_iff] at h
  obtain ⟨fn, _, h⟩ := h
  split at h
  · simp only [Option.bind_eq_some_iff] at h
    obtain ⟨⟨e, fr, s1⟩, hx, h⟩ := h
    have h1 := keeps_code hc hl _ _ _ _ _ _ _ hx
    dsimp only at h
    split at h
    · simp only [Option.some.injEq, Prod.mk.injEq] at h
      obtain ⟨_, rfl⟩ := h
      exact h1
    · simp only [Option.some.injEq, Prod.mk.injEq] at h
      obtain ⟨_, rfl⟩ := h
      exact h1
    · cases h
  · cases h

theorem keeps_callF (T : Tab) : ∀ n, CallKeeps (callF T n)
  | 0, b, f, l, s, out, s', h => by cases h
  | n + 1, b, f, l, s, out, s', h => keeps_step (keeps_loopN n) (keeps_callF T n) (keeps_deferStep (keeps_loopN n) (keeps_callF T n)) b f l s out s' h

end Go.Am

/-
  The abstract machine, twentieth part: what a call leaves behind.
-/
namespace Go.Am
open Go.RowKit (Below)

variable {P : Program} {γ γ' γ'' : Gh} {w w' : World} {s : Sg}

theorem old_one {n : Nat} {v : AV} (h : v.old n = true) : ∀ {j : Nat} {u : AV}, v.flat[j]? = some u → u.old n = true := by
  intro j u hu
  cases v <;> try (
    cases j with
    | zero => simp [AV.flat] at hu; subst hu; exact h
    | succ j => simp [AV.flat] at hu)
  simp only [AV.old] at h
  exact oldAll_get h hu

theorem old_flatAll {n : Nat} : ∀ {es : List AV}, AV.oldAll n es = true → ∀ {j : Nat} {u : AV}, (flatAll es)[j]? = some u → u.old n = true
  | [], _, j, u, hu => by simp [flatAll] at hu
  | e :: r, h, j, u, hu => by
    simp only [AV.oldAll, Bool.and_eq_true] at h
    simp only [flatAll, List.getElem?_append] at hu
    split at hu
    · exact old_one h.1 hu
    · exact old_flatAll h.2 hu

/-- objects and tokens are dropped; more cells are never written any more -/
structure Cut (γ' γ'' : Gh) : Prop where
  base : γ''.base = γ'.base
  lv : ∀ i, γ'.live i → i < γ''.n → γ''.live i ∧ γ''.ob i = γ'.ob i ∧ γ''.ge i = γ'.ge i
  F : ∀ b o, γ'.F b o → γ''.F b o

theorem VR.cut (h : Cut γ' γ'') {v : AV} {c : Value} (hv : VR γ' w v c) : v.old γ''.n = true → VR γ'' w v c := by
  have lie : ∀ {b o n : Nat} {cs : Nat → Value}, Lie γ' w b o n cs → Lie γ'' w b o n cs := fun hl j hj => ⟨h.F _ _ (hl j hj).1, (hl j hj).2⟩
  induction hv with
  | bool b => exact fun _ => .bool b
  | int k n => exact fun _ => .int k n
  | flt k b => exact fun _ => .flt k b
  | cplx k a b => exact fun _ => .cplx k a b
  | str s => exact fun _ => .str s
  | nilptr => exact fun _ => .nilptr
  | ptr i g off a hi hg ha =>
    intro ho
    simp only [AV.old, Nat.blt_eq] at ho
    obtain ⟨l1, l2, l3⟩ := h.lv i hi ho
    exact .ptr i g off a l1 (by rw [l3]; exact hg) (by rw [l3, l2]; exact ha)
  | pin v b o cs hl h1 _ ih =>
    intro ho
    simp only [AV.old] at ho
    exact .pin v b o cs (lie hl) h1 fun j u hu => ih j u hu (old_one ho hu)
  | nilsl => exact fun _ => .nilsl
  | vecNil tl ht =>
    intro ho
    refine .vecNil tl ?_
    cases tl with
    | exact own => exact ⟨ht.1, fun e => let ⟨a, ha, hb⟩ := ht.2 e; ⟨a, ha, h.base ▸ hb⟩⟩
    | tok t n => simp [AV.old] at ho
    | shut => trivial
  | vecE a => exact fun _ => .vecE a
  | vec es tl b o cap sz cs h1 h2 h3 hl _ ht ih =>
    intro ho
    simp only [AV.old, Bool.and_eq_true] at ho
    refine .vec es tl b o cap sz cs h1 h2 h3 (lie hl) (fun j u hu => ih j u hu (old_flatAll ho.2 hu)) ?_
    cases tl with
    | exact own => exact ⟨ht.1, fun e => let ⟨a, ha, hb⟩ := ht.2 e; ⟨a, ha, h.base ▸ hb⟩⟩
    | tok t n => simp at ho
    | shut => trivial
  | ms i g off len cp sz a cap hi hg hc ha =>
    intro ho
    simp only [AV.old, Nat.blt_eq] at ho
    obtain ⟨l1, l2, l3⟩ := h.lv i hi ho
    exact .ms i g off len cp sz a cap l1 (by rw [l3]; exact hg) hc (by rw [l3, l2]; exact ha)
  | nilmap => exact fun _ => .nilmap
  | map i r hi hr =>
    intro ho
    simp only [AV.old, Nat.blt_eq] at ho
    obtain ⟨l1, l2, l3⟩ := h.lv i hi ho
    exact .map i r l1 (by rw [l3, l2]; exact hr)
  | yield i r hi hr =>
    intro ho
    simp only [AV.old, Nat.blt_eq] at ho
    obtain ⟨l1, l2, l3⟩ := h.lv i hi ho
    exact .yield i r l1 (by rw [l3, l2]; exact hr)
  | func f a c a' c' h1 h2 h3 h4 _ _ ih1 ih2 =>
    intro ho
    simp only [AV.old, Bool.and_eq_true] at ho
    exact .func f a c a' c' h1 h2 h3 h4 (fun j u x hu hx => ih1 j u x hu hx (oldAll_get ho.1 hu)) (fun j u x hu hx => ih2 j u x hu hx (oldAll_get ho.2 hu))
  | nilfunc => exact fun _ => .nilfunc
  | iface t v v' h1 _ ih =>
    intro ho
    simp only [AV.old] at ho
    exact .iface t v v' h1 (ih ho)
  | nilif => exact fun _ => .nilif
  | agg cs cs' h1 h2 _ ih =>
    intro ho
    simp only [AV.old] at ho
    exact .agg cs cs' h1 h2 fun j u x hu hx => ih j u x hu hx (oldAll_get ho hu)
  | tup cs cs' h1 _ ih =>
    intro ho
    simp only [AV.old] at ho
    exact .tup cs cs' h1 fun j u x hu hx => ih j u x hu hx (oldAll_get ho hu)

/-- of what there is now, only what there was is still known; blocks of the other objects are never written any more -/
def Gh.back (γ γ' : Gh) : Gh := { γ' with n := γ.n, tn := γ.tn, F := fun b o => γ'.F b o ∨ ∃ i, γ.n ≤ i ∧ γ'.live i ∧ b = γ'.ob i }

theorem cut_back (γ γ' : Gh) : Cut γ' (γ.back γ') := ⟨rfl, fun _ h hi => ⟨⟨hi, h.2⟩, rfl, rfl⟩, fun _ _ h => .inl h⟩

theorem Le.back (h : Le γ w γ' w') : Le γ w (γ.back γ') w' where
  base := h.base
  n := Nat.le_refl _
  lv := h.lv
  ge := h.ge
  ob := h.ob
  tn := Nat.le_refl _
  tv := h.tv
  tb := h.tb
  F b o hf := ⟨.inl (h.F b o hf).1, (h.F b o hf).2⟩
  sz := h.sz
  below := h.below
  fr b hb := by
    obtain ⟨a1, a2, a3⟩ := h.fr b hb
    exact ⟨⟨a1.1, fun i hi => a1.2.1 i ⟨Nat.lt_of_lt_of_le hi.1 h.n, hi.2⟩, fun t ht => a1.2.2 t (Nat.lt_of_lt_of_le ht h.tn)⟩, a2, fun o hf => hf.elim (a3 o) fun ⟨i, _, hi, e⟩ => absurd e.symm (a1.2.1 i hi)⟩

theorem old_start (hI : Inv P γ s w) {i : Nat} {o : AObj} (ho : s.heap[i]? = some o) : o.old γ.n = true := by
  have h := hI.obj i o ho
  cases o with
  | cells cs g =>
    obtain ⟨_, _, h1, c, e, fr, _, h4, _, h6⟩ := h
    simp only [AObj.old]
    exact oldAll_of fun j u hu => by
      have hj := lt_of_getElem? hu
      exact (h6 j u c[j] hu (Array.getElem?_eq_getElem (by omega))).old (allOne_get h1 hu)
  | mapo es =>
    obtain ⟨_, _, en, clk, _, es0, hp, _, h4, h6⟩ := h
    simp only [AObj.old, List.all_eq_true, Bool.and_eq_true]
    intro x hx
    obtain ⟨j, hj, rfl⟩ := List.mem_iff_getElem.1 (hp.mem_iff.1 hx)
    obtain ⟨a, b, c, d⟩ := h6 j es0[j] en[j] (List.getElem?_eq_getElem hj) (Array.getElem?_eq_getElem (by omega))
    exact ⟨a.old d, old_flat fun k u hu => b.old' k u hu (allOne_get c hu)⟩
  | siter l p => rfl
  | pend => rfl
  | dead => rfl
  | loopo ts cs ps aops bops bz =>
    obtain ⟨_, _, h1, r, _, h4⟩ := h
    simp only [AObj.old]
    exact oldAll_of fun j u hu => by
      have hj : j < ts.length := h4.len ▸ lt_of_getElem? hu
      obtain ⟨c, _, hv⟩ := h4.tmps j ts[j] u (List.getElem?_eq_getElem hj) hu
      exact hv.old (allOne_get h1 hu)
  | defo => rfl

theorem objOk_cut (h : Cut γ' γ'') {i : Nat} {o : AObj} (ho : ObjOk P γ' w i o) (hold : o.old γ''.n = true) (hi : i < γ'.n) (hi' : i < γ''.n) (hlv : γ''.lv i → γ'.lv i) : ObjOk P γ'' w i o := by
  cases o with
  | cells cs g =>
    obtain ⟨h0, h1, h2, c, e, fr, h3, h4, h5, h6⟩ := ho
    simp only [AObj.old] at hold
    obtain ⟨l1, l2, l3⟩ := h.lv i ⟨hi, h0⟩ hi'
    exact ⟨l1.2, by rw [l3]; exact h1, h2, c, e, fr, by rw [l2]; exact h3, h4, h5, fun j u x hu hx => (h6 j u x hu hx).cut h (oldAll_get hold hu)⟩
  | mapo es =>
    obtain ⟨h0, h1, en, clk, h3, es0, hp, hk, h4, h6⟩ := ho
    simp only [AObj.old, List.all_eq_true, Bool.and_eq_true] at hold
    obtain ⟨l1, l2, l3⟩ := h.lv i ⟨hi, h0⟩ hi'
    exact ⟨l1.2, by rw [l3]; exact h1, en, clk, by rw [l2]; exact h3, es0, hp, hk, h4, fun j u x hu hx => by
      obtain ⟨a, b, c, d⟩ := h6 j u x hu hx
      have := hold u (hp.mem_iff.2 (List.mem_of_getElem? hu))
      exact ⟨a.cut h this.1, b.cut h this.2, c, d⟩⟩
  | siter l p =>
    obtain ⟨h0, h1, bs, h3, h4⟩ := ho
    obtain ⟨l1, l2, l3⟩ := h.lv i ⟨hi, h0⟩ hi'
    exact ⟨l1.2, by rw [l3]; exact h1, bs, by rw [l2]; exact h3, h4⟩
  | pend => exact fun e => ho (hlv e)
  | dead => exact (h.lv i ⟨hi, ho⟩ hi').1.2
  | loopo ts cs ps aops bops bz =>
    obtain ⟨h0, h1, h2, r, h3, h4⟩ := ho
    obtain ⟨l1, l2, l3⟩ := h.lv i ⟨hi, h0⟩ hi'
    exact ⟨l1.2, by rw [l3]; exact h1, h2, r, by rw [l2]; exact h3, { h4 with tmps := fun j t u ht hu => let ⟨c, a, b⟩ := h4.tmps j t u ht hu; ⟨c, a, b.cut h (oldAll_get hold hu)⟩ }⟩
  | defo =>
    obtain ⟨h0, h1, h3⟩ := ho
    obtain ⟨l1, l2, l3⟩ := h.lv i ⟨hi, h0⟩ hi'
    exact ⟨l1.2, by rw [l3]; exact h1, by rw [l2]; exact h3⟩

theorem Inv.back {s2 s' : Sg} (hI : Inv P γ s w) (hle : Le γ w γ' w') (hI' : Inv P γ' s2 w') (hn : s'.heap.length = γ.n) (htoks : s'.toks = s.toks) (hty : s'.ty = s.ty) (hgl : s'.gl = s.gl) (hobj : ∀ (i : Nat) o, s'.heap[i]? = some o → s2.heap[i]? = some o ∧ o.old γ.n = true)
    (htk : ∀ t, t < s.toks.length → s2.toks[t]? = s.toks[t]?) : Inv P (γ.back γ') s' w' where
  n := hn
  tn := by rw [htoks]; exact hI.tn
  obj i o ho := by
    obtain ⟨h1, h2⟩ := hobj i o ho
    have hi : i < γ.n := hn ▸ lt_of_getElem? ho
    exact objOk_cut (cut_back γ γ') (hI'.obj i o h1) h2 (Nat.lt_of_lt_of_le hi hle.n) hi fun h => h
  inj i j hi hj e := hI'.inj i j ⟨Nat.lt_of_lt_of_le hi.1 hle.n, hi.2⟩ ⟨Nat.lt_of_lt_of_le hj.1 hle.n, hj.2⟩ e
  lt i hi := by
    have hi' : γ'.live i := ⟨Nat.lt_of_lt_of_le hi.1 hle.n, hi.2⟩
    obtain ⟨a, b, c⟩ := hI'.lt i hi'
    refine ⟨a, b, fun o hf => ?_⟩
    rcases hf with hf | ⟨j, hj1, hj2, e⟩
    · exact c o hf
    · have hi0 : i < γ.n := hi.1
      have := hI'.inj i j hi' hj2 e
      omega
  tok t ht := by
    have ht' := Nat.lt_of_lt_of_le ht hle.tn
    obtain ⟨a, b, c, d⟩ := hI'.tok t ht'
    refine ⟨?_, b, fun o ho hf => ?_, d⟩
    · rw [htoks, ← htk t (by rw [hI.tn]; exact ht)]
      exact a
    · rcases hf with hf | ⟨j, hj1, hj2, e⟩
      · exact c o ho hf
      · exact hI'.tob t j ht' hj2 e
  tinj t u ht hu e := hI'.tinj t u (Nat.lt_of_lt_of_le ht hle.tn) (Nat.lt_of_lt_of_le hu hle.tn) e
  tob t i ht hi := hI'.tob t i (Nat.lt_of_lt_of_le ht hle.tn) ⟨Nat.lt_of_lt_of_le hi.1 hle.n, hi.2⟩
  Flt b o hf := by
    rcases hf with hf | ⟨j, hj1, hj2, rfl⟩
    · exact hI'.Flt b o hf
    · exact (hI'.lt j hj2).2.1
  base := hI'.base
  ty p hp := (hI.ty p (hty ▸ hp)).monoV hle.back.toLeV
  gl p hp := (hI.gl p (hgl ▸ hp)).monoV hle.back.toLeV

theorem layAllBy_get {f : AV → Option AV} : ∀ {l l' : List AV}, layAllBy f l = some l' → l.length = l'.length ∧ ∀ (j : Nat) u', l'[j]? = some u' → ∃ u, l[j]? = some u ∧ f u = some u'
  | [], l', h => by cases h; exact ⟨rfl, fun j u' hu => by simp at hu⟩
  | v :: r, l', h => by
    simp only [layAllBy, Option.bind_eq_some_iff, Option.map_eq_some_iff] at h
    obtain ⟨u, hu, q, hq, rfl⟩ := h
    obtain ⟨h1, h2⟩ := layAllBy_get hq
    refine ⟨by simp [h1], fun j u' hu' => ?_⟩
    cases j with
    | zero => simp at hu'; subst hu'; exact ⟨v, rfl, hu⟩
    | succ j => simp at hu'; exact h2 j u' hu'

theorem layAllBy_app {f : AV → Option AV} : ∀ {a b a' b' : List AV}, layAllBy f a = some a' → layAllBy f b = some b' → layAllBy f (a ++ b) = some (a' ++ b')
  | [], b, a', b', h, k => by cases h; exact k
  | v :: r, b, a', b', h, k => by
    simp only [layAllBy, Option.bind_eq_some_iff, Option.map_eq_some_iff] at h
    obtain ⟨u, hu, q, hq, rfl⟩ := h
    simp only [List.cons_append, layAllBy, hu, Option.bind_some, layAllBy_app hq k, Option.map_some]

/-- what a cell is when it is laid down: of one cell, and old -/
def LayGood (n : Nat) (f : AV → Option AV) : Prop := ∀ v u, f v = some u → v.one = true → u.one = true ∧ u.flat.length = v.flat.length

theorem layV_one {h : List AObj} {b : Nat} : ∀ {n : Nat} {v u : AV}, layV n h b v = some u → v.one = true → u.one = true
  | 0, _, _, h', _ => by cases h'
  | n + 1, v, u, h', h1 => by
    simp only [layV] at h'
    split at h'
    · cases h'; exact h1
    · split at h'
      · split at h'
        · cases h'
        · simp only [Option.bind_eq_some_iff, Option.map_eq_some_iff] at h'
          obtain ⟨_, _, _, _, _, _, rfl⟩ := h'
          rfl
      · simp only [Option.map_eq_some_iff] at h'
        obtain ⟨_, _, rfl⟩ := h'
        rfl
      · simp only [Option.map_eq_some_iff] at h'
        obtain ⟨_, _, rfl⟩ := h'
        rfl
      · cases h'

theorem layV_other {h : List AObj} {b : Nat} : ∀ {n : Nat} {v u : AV}, layV n h b v = some u → v.one = false → v.old b = true ∧ u = v
  | 0, _, _, h', _ => by cases h'
  | n + 1, v, u, h', h1 => by
    simp only [layV] at h'
    split at h'
    · rename_i ho; cases h'; exact ⟨ho, rfl⟩
    · split at h' <;> first | (cases h1; done) | (cases h'; done)

/-- an element's cells, laid down -/
theorem layEl_flat {f : AV → Option AV} (hf : ∀ v u, f v = some u → v.one = true → u.one = true) {v u : AV} (h : layEl f v = some u) (h1 : allOne v.flat = true) : layAllBy f v.flat = some u.flat ∧ allOne u.flat = true ∧ u.flat.length = v.flat.length := by
  have other : v.flat = [v] → f v = some u → layAllBy f v.flat = some u.flat ∧ allOne u.flat = true ∧ u.flat.length = v.flat.length := fun e hv => by
    have hv1 : v.one = true := by rw [e] at h1; simpa [allOne] using h1
    have hu1 := hf v u hv hv1
    rw [e, one_flat hu1]
    simp [layAllBy, hv, allOne, hu1]
  cases v <;> try (exact other rfl h)
  rename_i cs
  simp only [layEl, Option.map_eq_some_iff] at h
  obtain ⟨us, hus, rfl⟩ := h
  obtain ⟨e1, e2⟩ := layAllBy_get hus
  simp only [AV.flat] at h1 ⊢
  refine ⟨hus, allOne_of fun j u' hu' => ?_, e1.symm⟩
  obtain ⟨u, hu, hfu⟩ := e2 j u' hu'
  exact hf u u' hfu (allOne_get h1 hu)

theorem layEls_flat {f : AV → Option AV} (hf : ∀ v u, f v = some u → v.one = true → u.one = true) {sz : Nat} : ∀ {es us : List AV}, layAllBy (layEl f) es = some us → allOneAll es = true → allSize sz es = true →
    layAllBy f (flatAll es) = some (flatAll us) ∧ allOneAll us = true ∧ allSize sz us = true ∧ us.length = es.length
  | [], us, h, _, _ => by cases h; exact ⟨rfl, rfl, rfl, rfl⟩
  | v :: r, us, h, h1, hs => by
    simp only [layAllBy, Option.bind_eq_some_iff, Option.map_eq_some_iff] at h
    obtain ⟨u, hu, q, hq, rfl⟩ := h
    simp only [allOneAll, allSize, Bool.and_eq_true] at h1 hs
    obtain ⟨a1, a2, a3⟩ := layEl_flat hf hu h1.1
    obtain ⟨b1, b2, b3, b4⟩ := layEls_flat hf hq h1.2 hs.2
    refine ⟨by simp only [flatAll]; exact layAllBy_app a1 b1, by simp only [allOneAll, a2, b2, Bool.and_self], ?_, by simp [b4]⟩
    simp only [allSize, a3, hs.1, b3, Bool.and_self]

/-- a slice of the call's own heap, laid down: its cells, each as a function says -/
theorem layMs_ok {s2 : Sg} (hI' : Inv P γ' s2 w') {i g off len cp sz : Nat} {ag : Option Nat} {c : Value} {cs es us : List AV} {f : AV → Option AV} (hv : VR γ' w' (.ms i g off len cp sz) c) (hib : ¬ i < γ.n) (hsz : sz = ag.getD 1) (hcs : getCells s2.heap i g = some cs) (hes : chunk len ag (cs.drop off) = some es)
    (hf : ∀ v u, f v = some u → v.one = true → u.one = true) (hf2 : ∀ v u c, VR γ' w' v c → v.one = true → f v = some u → VR (γ.back γ') w' u c) (hus : layAllBy (layEl f) es = some us) : VR (γ.back γ') w' (.vec us .shut) c := by
  subst hsz
  have ho := getCells_some hcs
  obtain ⟨k0, k1, k2, row, e1, fr, k3, k4, k5, k6⟩ := hI'.obj i _ ho
  have hin := hI'.live ho (by intro e; cases e)
  have hd1 : allOne (cs.drop off) = true := allOne_of fun j u hu => by rw [List.getElem?_drop] at hu; exact allOne_get k2 hu
  obtain ⟨c1, c2, c3, c4⟩ := chunk_ok hes hd1
  rw [List.length_drop] at c4
  have hfl := flatAll_length c2
  cases hv with
  | ms _ _ _ _ _ _ a cap w1 w2 w3 w4 =>
  obtain ⟨rfl, _⟩ := w4 k1
  subst c1
  have hget : ∀ {j : Nat} {u : AV}, (flatAll es)[j]? = some u → cs[off + j]? = some u ∧ off + j < row.size := fun {j u} hu => by
    have hj := lt_of_getElem? hu
    rw [c3, List.getElem?_take] at hu
    split at hu
    · rw [List.getElem?_drop] at hu
      exact ⟨hu, by have := lt_of_getElem? hu; omega⟩
    · cases hu
  have hones : allOneAll es = true := by
    refine allOneAll_of ?_
    rw [c3]
    refine allOne_of fun j u hu => ?_
    rw [List.getElem?_take] at hu
    split at hu
    · exact allOne_get hd1 hu
    · cases hu
  obtain ⟨d1, d2, d3, d4⟩ := layEls_flat hf hus hones c2
  obtain ⟨g1, g2⟩ := layAllBy_get d1
  rw [← d4]
  refine .vec us .shut _ off cap (ag.getD 1) (fun j => row.getD (off + j) undef) (by rw [d4]; exact Nat.le_trans w3.1 w3.2.1) d3 d2 ?_ ?_ trivial
  · intro j hj
    refine ⟨.inr ⟨i, Nat.le_of_not_lt hib, hin, rfl⟩, ?_⟩
    rw [← g1] at hj
    have hu : (flatAll es)[j]? = some (flatAll es)[j] := List.getElem?_eq_getElem hj
    obtain ⟨_, hlt⟩ := hget hu
    rw [cell?_row k3, Array.getElem?_eq_getElem hlt]
    simp [Array.getD, hlt]
  · intro j u' hu'
    obtain ⟨u, hu, hfu⟩ := g2 j u' hu'
    obtain ⟨h1, hlt⟩ := hget hu
    have : row.getD (off + j) undef = row[off + j] := by simp [Array.getD, hlt]
    rw [this]
    exact hf2 u u' _ (k6 _ u _ h1 (Array.getElem?_eq_getElem hlt)) (allOne_get k2 h1) hfu

/-- cells that are never written any more, laid down -/
theorem layVec_ok {es us : List AV} {tl : Tail} {c : Value} {f : AV → Option AV} (hv : VR γ' w' (.vec es tl) c)
    (hf : ∀ v u, f v = some u → v.one = true → u.one = true) (hf2 : ∀ v u c, VR γ' w' v c → v.one = true → f v = some u → VR (γ.back γ') w' u c) (hus : layAllBy (layEl f) es = some us) : VR (γ.back γ') w' (.vec us .shut) c := by
  cases hv with
  | vecNil _ ht => cases hus; exact .vecNil .shut trivial
  | vecE a => cases hus; exact .vecE a
  | vec _ _ b o cap sz cs h1 h2 h3 hl h5 ht =>
    obtain ⟨d1, d2, d3, d4⟩ := layEls_flat hf hus h3 h2
    obtain ⟨g1, g2⟩ := layAllBy_get d1
    rw [← d4]
    refine .vec us .shut b o cap sz cs (by rw [d4]; exact h1) d3 d2 ?_ ?_ trivial
    · intro j hj
      obtain ⟨a1, a2⟩ := hl j (by rw [g1]; exact hj)
      exact ⟨.inl a1, a2⟩
    · intro j u' hu'
      obtain ⟨u, hu, hfu⟩ := g2 j u' hu'
      exact hf2 u u' _ (h5 j u hu) (allOne_get (allOne_flatAll h3) hu) hfu

theorem layEl_ok {v u : AV} {c : Value} {f : AV → Option AV} (hv : VR γ' w' v c) (h1 : allOne v.flat = true) (hf : ∀ v u, f v = some u → v.one = true → u.one = true) (hf2 : ∀ v u c, VR γ' w' v c → v.one = true → f v = some u → VR (γ.back γ') w' u c) (h : layEl f v = some u) : VR (γ.back γ') w' u c := by
  have other : v.flat = [v] → f v = some u → VR (γ.back γ') w' u c := fun e hu => hf2 v u c hv (by rw [e] at h1; simpa [allOne] using h1) hu
  cases v <;> try (exact other rfl h)
  rename_i cs
  simp only [layEl, Option.map_eq_some_iff] at h
  obtain ⟨us, hus, rfl⟩ := h
  obtain ⟨e1, e2⟩ := layAllBy_get hus
  cases hv with
  | agg _ cs' g1 g2 g3 =>
  simp only [AV.flat] at h1
  refine .agg us cs' (by rw [← e1]; exact g1) (allOne_of fun j u' hu' => ?_) fun j u' x hu' hx => ?_
  · obtain ⟨u, hu, hfu⟩ := e2 j u' hu'
    exact hf u u' hfu (allOne_get h1 hu)
  · obtain ⟨u, hu, hfu⟩ := e2 j u' hu'
    exact hf2 u u' x (g3 j u x hu hx) (allOne_get h1 hu) hfu

theorem layV_ok {s2 : Sg} (hI' : Inv P γ' s2 w') : ∀ {n : Nat} {v u : AV} {c : Value}, VR γ' w' v c → v.one = true → layV n s2.heap γ.n v = some u → VR (γ.back γ') w' u c
  | 0, _, _, _, _, _, h => by cases h
  | n + 1, v, u, c, hv, h1, h => by
    simp only [layV] at h
    split at h
    · rename_i hold
      cases h
      exact hv.cut (cut_back γ γ') hold
    · split at h
      · rename_i i g off len cp sz
        split at h
        · cases h
        · rename_i hib
          simp only [Option.bind_eq_some_iff, Option.map_eq_some_iff] at h
          obtain ⟨cs, hcs, es, hes, us, hus, rfl⟩ := h
          refine layMs_ok hI' hv (fun e => hib (by rw [Nat.blt_eq]; exact e)) ?_ hcs hes (fun v u => layV_one) (fun v u c hv h1 h => layV_ok hI' hv h1 h) hus
          split
          · rename_i e; exact Nat.eq_of_beq_eq_true e
          · rfl
      · simp only [Option.map_eq_some_iff] at h
        obtain ⟨us, hus, rfl⟩ := h
        exact layVec_ok hv (fun v u => layV_one) (fun v u c hv h1 h => layV_ok hI' hv h1 h) hus
      · simp only [Option.map_eq_some_iff] at h
        obtain ⟨u', hu', rfl⟩ := h
        cases hv with
        | iface _ _ v' g1 g2 =>
        have hk := layEl_flat (fun v u => layV_one) hu' g1
        exact .iface _ _ v' hk.2.1 (layEl_ok g2 g1 (fun v u => layV_one) (fun v u c hv h1 h => layV_ok hI' hv h1 h) hu')
      · cases h

/-- a result that leaves -/
theorem layOne_ok {s2 : Sg} (hI' : Inv P γ' s2 w') {k : Option (Option Nat)} {v u : AV} {c : Value} (hv : VR γ' w' v c) (h : layOne s2.heap γ.n k v = some u) (hold : u.old γ.n = true) : VR (γ.back γ') w' u c := by
  have other : (∀ cs, v ≠ .agg cs) → layEl (layV 16 s2.heap γ.n) v.weak = some u → VR (γ.back γ') w' u c := fun e h => by
    have hl : layEl (layV 16 s2.heap γ.n) v.weak = layV 16 s2.heap γ.n v.weak := by cases v <;> first | rfl | exact absurd rfl (e _)
    rw [hl] at h
    cases h1 : v.weak.one with
    | true => exact layV_ok hI' hv.weak h1 h
    | false =>
      obtain ⟨ho, rfl⟩ := layV_other h h1
      exact hv.weak.cut (cut_back γ γ') ho
  cases v <;> try (exact other (fun _ e => by cases e) (by simpa [layOne] using h))
  case ms i g off len cp sz =>
    simp only [layOne] at h
    split at h
    · cases h
      exact hv.cut (cut_back γ γ') hold
    · rename_i hib
      simp only [Option.bind_eq_some_iff] at h
      obtain ⟨ag, hag, h⟩ := h
      split at h
      · rename_i hsz
        simp only [Option.bind_eq_some_iff, Option.map_eq_some_iff] at h
        obtain ⟨cs, hcs, es, hes, us, hus, rfl⟩ := h
        exact layMs_ok hI' hv (fun e => hib (by rw [Nat.blt_eq]; exact e)) (Nat.eq_of_beq_eq_true hsz) hcs hes (fun v u => layV_one) (fun v u c hv h1 h => layV_ok hI' hv h1 h) hus
      · cases h
  case agg cs =>
    have h1 : allOne (AV.agg cs).flat = true := by cases hv with | agg _ _ _ g2 _ => exact g2
    exact layEl_ok hv h1 (fun v u => layV_one) (fun v u c hv h1 h => layV_ok hI' hv h1 h) (by simpa [layOne, layEl] using h)

theorem lay_ok {s2 : Sg} (hI' : Inv P γ' s2 w') : ∀ {vs : List AV} {ks : List ARes} {l : List AV} {cs : List Value}, VRs γ' w' vs cs.toArray → lay s2.heap γ.n vs ks = some l → AV.oldAll γ.n l = true → VRs (γ.back γ') w' l cs.toArray
  | [], ks, l, cs, hv, h, ho => by
    have : l = [] := by cases ks <;> simp [lay] at h <;> exact h
    subst this
    exact ⟨hv.1, fun j u x hu => by simp at hu⟩
  | v :: r, [], l, cs, hv, h, ho => by cases h
  | v :: r, a :: ks, l, [], hv, h, ho => by have := hv.1; simp at this
  | v :: r, a :: ks, l, c :: cs, hv, h, ho => by
    simp only [lay, Option.bind_eq_some_iff, Option.some.injEq] at h
    obtain ⟨u, hu, l', hl', rfl⟩ := h
    simp only [AV.oldAll, Bool.and_eq_true] at ho
    have h0 : VR (γ.back γ') w' u c := by
      have hvc := hv.2 0 v c rfl rfl
      unfold layRes at hu
      split at hu
      · rename_i hc
        simp only [Bool.and_eq_true] at hc
        cases v <;> simp [AV.isNilsl] at hc
        cases hu
        cases hvc
        exact .nilsl
      · exact layOne_ok hI' hvc hu ho.1
    have hr : VRs γ' w' r cs.toArray := ⟨by have := hv.1; simpa using this, fun j u x hu hx => hv.2 (j + 1) u x (by simpa using hu) (by simpa using hx)⟩
    have ih := lay_ok hI' hr hl' ho.2
    refine ⟨by have := ih.1; simpa using this, fun j u x hu hx => ?_⟩
    cases j with
    | zero => simp at hu hx; subst hu; subst hx; exact h0
    | succ j => exact ih.2 j u x (by simpa using hu) (by simpa using hx)

theorem leave_ok {m : CallMode} {b : Bar} {s2 s' : Sg} {vs l : List AV} {ks : List ARes} {cs : List Value} (hI : Inv P γ s w) (hle : Le γ w γ' w') (hI' : Inv P γ' s2 w') (hk : Keeps (b.into m s) s s2) (hv : VRs γ' w' vs cs.toArray) (h : leave m s vs ks s2 = some (l, s')) :
    ∃ γ'', Le γ w γ'' w' ∧ Inv P γ'' s' w' ∧ VRs γ'' w' l cs.toArray := by
  have hn : s.heap.length = γ.n := hI.n
  cases m with
  | raw =>
    simp only [leave, Option.some.injEq, Prod.mk.injEq] at h
    obtain ⟨rfl, rfl⟩ := h
    exact ⟨γ', hle, hI', hv⟩
  | pure =>
    simp only [leave, Option.bind_eq_some_iff] at h
    obtain ⟨l', hl', h⟩ := h
    split at h
    · rename_i hold
      simp only [Option.some.injEq, Prod.mk.injEq] at h
      obtain ⟨rfl, rfl⟩ := h
      rw [hn] at hl' hold
      refine ⟨γ.back γ', hle.back, hI.back hle hI' hn rfl rfl rfl (fun i o ho => ⟨?_, old_start hI ho⟩) (fun t ht => hk.tk t ht ht), lay_ok hI' hv hl' hold⟩
      have hi := lt_of_getElem? ho
      rw [hk.hp i hi hi]
      exact ho
    · cases h
  | eff =>
    simp only [leave, Option.bind_eq_some_iff] at h
    obtain ⟨l', hl', h⟩ := h
    split at h
    · rename_i hold
      simp only [Option.some.injEq, Prod.mk.injEq] at h
      obtain ⟨rfl, rfl⟩ := h
      rw [hn] at hl' hold
      have hlen := hk.len
      refine ⟨γ.back γ', hle.back, hI.back hle hI' (by simp; omega) rfl rfl rfl (fun i o ho => ?_) (fun t ht => hk.tk t ht ht), lay_ok hI' hv hl' hold⟩
      rw [List.getElem?_take] at ho
      split at ho
      · rename_i hi
        refine ⟨ho, ?_⟩
        have := hk.es s.heap.length List.mem_cons_self (Nat.le_refl _) i hi (fun o' ho' => by rw [hn]; exact old_start hI ho') o ho
        rw [hn] at this
        exact this
      · cases ho
    · cases h

end Go.Am

/-
  The abstract machine: objects that get their places ahead; what there was ahead of a region.
-/
namespace Go.Am
open Go.RowKit (Below)

variable {P : Program} {γ γ' γ'' : Gh} {w w' : World} {s : Sg}

/-- an operation makes one object at most -/
theorem evE_push {b : Bar} {loc pers : Env} {p : EOp} {v : AV} {s' : Sg} (h : evE b loc pers s p = some (v, s')) : s'.heap.length = s.heap.length ∨ ∃ o, s' = s.push o := by
  have app : ∀ {mu ag bytes v ys r}, evAppend b s mu ag bytes v ys = some (r, s') → s'.heap.length = s.heap.length ∨ ∃ o, s' = s.push o := fun {mu ag bytes v ys r} h => by
    unfold evAppend at h
    split at h
    · split at h
      · cases h; exact .inl rfl
      · split at h
        · split at h
          · cases h; exact .inr ⟨_, rfl⟩
          · cases h; exact .inl rfl
        · cases h
    · split at h
      · cases h; exact .inl rfl
      · split at h
        · split at h
          · split at h <;> cases h
            · exact .inr ⟨_, rfl⟩
            · exact .inl rfl
          · split at h
            · simp only [Option.bind_eq_some_iff] at h
              obtain ⟨n', _, h⟩ := h
              split at h
              · cases h; exact .inl rfl
              · cases h
            · cases h
          · cases h
        · cases h
    · split at h
      · simp only [Option.bind_eq_some_iff] at h
        obtain ⟨cs, hcs, h⟩ := h
        split at h
        · cases h; exact .inl (by simp [length_setAt])
        · split at h
          · simp only [Option.map_eq_some_iff, Prod.mk.injEq] at h
            obtain ⟨cs', hw, _, rfl⟩ := h
            exact .inl (by simp [length_setAt])
          · cases h
      · cases h
    · cases h
  cases p with
  | alloc z => cases h; exact .inr ⟨_, rfl⟩
  | box x =>
    simp only [evE, Option.bind_eq_some_iff, Option.map_eq_some_iff, Prod.mk.injEq] at h
    obtain ⟨_, _, _, _, _, rfl⟩ := h
    exact .inr ⟨_, rfl⟩
  | buildMs sz z len parts =>
    simp only [evE, Option.map_eq_some_iff, Prod.mk.injEq] at h
    obtain ⟨_, _, _, rfl⟩ := h
    exact .inr ⟨_, rfl⟩
  | store n a x =>
    simp only [evE, Option.bind_eq_some_iff] at h
    obtain ⟨u, hu, d, hd, h⟩ := h
    split at h
    · simp only [Option.bind_eq_some_iff] at h
      obtain ⟨l, hl, cs, hcs, h⟩ := h
      split at h
      · simp only [Option.map_eq_some_iff, Prod.mk.injEq] at h
        obtain ⟨cs', hw, _, rfl⟩ := h
        exact .inl (by simp [length_setAt])
      · cases h
    · cases h
  | append mu ag bytes x y =>
    simp only [evE, Option.bind_eq_some_iff] at h
    obtain ⟨u, hu, d, hd, ys, hys, h⟩ := h
    split at h
    · exact app h
    · cases h
  | makeSl mu bytes z l c =>
    simp only [evE, Option.bind_eq_some_iff] at h
    obtain ⟨_, _, _, _, h⟩ := h
    split at h
    · split at h
      · cases h
      · split at h
        · split at h
          · simp only [Option.some.injEq, Prod.mk.injEq] at h
            obtain ⟨_, rfl⟩ := h
            exact .inr ⟨_, rfl⟩
          · split at h
            · simp only [Option.some.injEq, Prod.mk.injEq] at h
              obtain ⟨_, rfl⟩ := h
              exact .inl rfl
            · cases h
        · cases h
    · cases h
  | growz bytes z x y =>
    simp only [evE, Option.bind_eq_some_iff] at h
    obtain ⟨_, _, _, _, h⟩ := h
    split at h
    · split at h
      · simp only [Option.some.injEq, Prod.mk.injEq] at h
        obtain ⟨_, rfl⟩ := h
        exact .inr ⟨_, rfl⟩
      · cases h
    · cases h
  | clear z x =>
    simp only [evE, Option.bind_eq_some_iff] at h
    obtain ⟨u, hu, h⟩ := h
    split at h
    · simp only [Option.some.injEq, Prod.mk.injEq] at h
      obtain ⟨_, rfl⟩ := h
      exact .inl rfl
    · simp only [Option.some.injEq, Prod.mk.injEq] at h
      obtain ⟨_, rfl⟩ := h
      exact .inl rfl
    · split at h
      · simp only [Option.bind_eq_some_iff, Option.map_eq_some_iff, Prod.mk.injEq] at h
        obtain ⟨cs, hcs, cs', hw, _, rfl⟩ := h
        exact .inl (by simp [length_setAt])
      · cases h
    · cases h
  | copy _ _ _ => cases h
  | rangeS x =>
    simp only [evE, Option.bind_eq_some_iff, Option.map_eq_some_iff, Prod.mk.injEq] at h
    obtain ⟨_, _, _, _, _, rfl⟩ := h
    exact .inr ⟨_, rfl⟩
  | nextS x =>
    simp only [evE, Option.bind_eq_some_iff] at h
    obtain ⟨u, hu, h⟩ := h
    split at h
    · split at h
      · simp only [Option.bind_eq_some_iff] at h
        obtain ⟨q, hq, h⟩ := h
        split at h
        · split at h
          · cases h
          · simp only [Option.some.injEq, Prod.mk.injEq] at h
            obtain ⟨_, rfl⟩ := h
            exact .inl (by simp [length_setAt])
        · simp only [Option.some.injEq, Prod.mk.injEq] at h
          obtain ⟨_, rfl⟩ := h
          exact .inl rfl
      · cases h
    · cases h
  | makeMap => cases h; exact .inr ⟨_, rfl⟩
  | mapPut str m k x =>
    simp only [evE, Option.bind_eq_some_iff] at h
    obtain ⟨u, _, q, _, d, _, h⟩ := h
    cases u <;> try (simp at h; done)
    simp only [Option.bind_eq_some_iff] at h
    obtain ⟨es, hes, y, _, h⟩ := h
    split at h
    · simp only [Option.map_eq_some_iff, Prod.mk.injEq] at h
      obtain ⟨es', hs, _, rfl⟩ := h
      exact .inl (by simp [length_setAt])
    · cases h

/-- an object at another name -/
theorem objOk_move (h : Cut γ' γ'') {i j : Nat} {o : AObj} (ho : ObjOk P γ' w i o) (hold : o.old γ''.n = true) (hne : o ≠ .pend) (h1 : γ''.lv j) (h2 : γ''.ob j = γ'.ob i) (h3 : γ''.ge j = γ'.ge i) : ObjOk P γ'' w j o := by
  cases o with
  | cells cs g =>
    obtain ⟨_, k1, k2, c, e, fr, k3, k4, k5, k6⟩ := ho
    simp only [AObj.old] at hold
    exact ⟨h1, by rw [h3]; exact k1, k2, c, e, fr, by rw [h2]; exact k3, k4, k5, fun j u x hu hx => (k6 j u x hu hx).cut h (oldAll_get hold hu)⟩
  | mapo es =>
    obtain ⟨_, k1, en, clk, k3, es0, hp, hk, k4, k6⟩ := ho
    simp only [AObj.old, List.all_eq_true, Bool.and_eq_true] at hold
    exact ⟨h1, by rw [h3]; exact k1, en, clk, by rw [h2]; exact k3, es0, hp, hk, k4, fun j u x hu hx => by
      obtain ⟨a, b, c, d⟩ := k6 j u x hu hx
      have := hold u (hp.mem_iff.2 (List.mem_of_getElem? hu))
      exact ⟨a.cut h this.1, b.cut h this.2, c, d⟩⟩
  | siter l p =>
    obtain ⟨_, k1, bs, k3, k4⟩ := ho
    exact ⟨h1, by rw [h3]; exact k1, bs, by rw [h2]; exact k3, k4⟩
  | pend => exact absurd rfl hne
  | dead => exact h1
  | loopo ts cs ps aops bops bz =>
    obtain ⟨_, k1, k2, r, k3, k4⟩ := ho
    exact ⟨h1, by rw [h3]; exact k1, k2, r, by rw [h2]; exact k3, { k4 with tmps := fun j t u ht hu => let ⟨c, a, b⟩ := k4.tmps j t u ht hu; ⟨c, a, b.cut h (oldAll_get hold hu)⟩ }⟩
  | defo =>
    obtain ⟨_, k1, k3⟩ := ho
    exact ⟨h1, by rw [h3]; exact k1, by rw [h2]; exact k3⟩

/-- a new object gets the place that was kept for it -/
theorem fill_of_push {o : AObj} {i : Nat} {v u : AV} {c : Value} (hI : Inv P γ s w) (hle : Le γ w γ' w') (hI' : Inv P γ' (s.push o) w') (hp : s.heap[i]? = some .pend) (hne : o ≠ .pend) (hold : o.old s.heap.length = true) (hv : VR γ' w' v c) (hr : renum s.heap.length i v = some u) :
    ∃ γ'', Le γ w γ'' w' ∧ Inv P γ'' { s with heap := setAt s.heap i o } w' ∧ VR γ'' w' u c := by
  have hn : s.heap.length = γ.n := hI.n
  have hn' : γ'.n = γ.n + 1 := by rw [← hI'.n]; simp [Sg.push, hn]
  have hin : i < γ.n := hn ▸ lt_of_getElem? hp
  have hget : ∀ {j : Nat} {o' : AObj}, s.heap[j]? = some o' → (s.push o).heap[j]? = some o' := fun {j o'} h => by
    simp only [Sg.push, List.getElem?_append, if_pos (lt_of_getElem? h)]; exact h
  have hpi : ¬ γ'.lv i := hI'.obj i _ (hget hp)
  have hpi0 : ¬ γ.lv i := hI.obj i _ hp
  have hlast : (s.push o).heap[γ.n]? = some o := by rw [← hn]; simp [Sg.push]
  have hlive : γ'.live γ.n := hI'.live hlast hne
  rw [hn] at hold hr
  let g2 : Gh := { γ' with n := γ.n, ob := upd γ'.ob i (γ'.ob γ.n), ge := upd γ'.ge i (γ'.ge γ.n), lv := upd γ'.lv i True }
  have hcut : Cut γ' g2 := ⟨rfl, fun j hj hjn => by
    have hji : j ≠ i := fun e => hpi (e ▸ hj.2)
    exact ⟨⟨hjn, by show upd γ'.lv i True j; rw [upd_ne _ _ hji]; exact hj.2⟩, upd_ne _ _ hji, upd_ne _ _ hji⟩, fun _ _ h => h⟩
  have nm : ∀ {j}, g2.live j → γ'.live (if j = i then γ.n else j) ∧ g2.ob j = γ'.ob (if j = i then γ.n else j) := fun {j} hj => by
    by_cases e : j = i
    · subst e
      rw [if_pos rfl]
      exact ⟨hlive, upd_same _ _ _⟩
    · rw [if_neg e]
      have h2 : upd γ'.lv i True j := hj.2
      rw [upd_ne _ _ e] at h2
      exact ⟨⟨by have h1 : j < γ.n := hj.1; omega, h2⟩, upd_ne _ _ e⟩
  have lold : ∀ {j}, γ.live j → j ≠ i := fun {j} hj e => hpi0 (e ▸ hj.2)
  have li : g2.live i := ⟨hin, by show upd γ'.lv i True i; rw [upd_same]; trivial⟩
  have hle2 : Le γ w g2 w' :=
    { base := hle.base, n := Nat.le_refl _
      lv := fun j hj => by show upd γ'.lv i True j; rw [upd_ne _ _ (lold hj)]; exact hle.lv j hj
      ge := fun j hj => by show _ ≤ upd γ'.ge i _ j; rw [upd_ne _ _ (lold hj)]; exact hle.ge j hj
      ob := fun j hj e => by
        have e1 : upd γ'.ge i (γ'.ge γ.n) j = γ.ge j := e
        rw [upd_ne _ _ (lold hj)] at e1
        show upd γ'.ob i _ j = _
        rw [upd_ne _ _ (lold hj)]
        exact hle.ob j hj e1
      tn := hle.tn, tv := hle.tv, tb := hle.tb, F := hle.F, sz := hle.sz, below := hle.below
      fr := fun b hb => by
        obtain ⟨a1, a2, a3⟩ := hle.fr b hb
        exact ⟨⟨a1.1, fun j hj e => by
          obtain ⟨n1, n2⟩ := nm hj
          exact a1.2.1 _ n1 (n2.symm.trans e), a1.2.2⟩, a2, a3⟩ }
  refine ⟨g2, hle2, ?_, ?_⟩
  · exact
    { n := by simp [length_setAt, hn, g2], tn := hI'.tn
      obj := fun j o' hj => by
        simp only [getElem?_setAt] at hj
        split at hj
        · rename_i e
          subst e
          rw [if_pos (lt_of_getElem? hp)] at hj
          cases hj
          exact objOk_move hcut (hI'.obj _ _ hlast) hold hne li.2 (upd_same _ _ _) (upd_same _ _ _)
        · rename_i e
          have hjn : j < γ.n := hn ▸ lt_of_getElem? hj
          refine objOk_cut hcut (hI'.obj j o' (hget hj)) (old_start hI hj) (by omega) hjn fun h => ?_
          have h2 : upd γ'.lv i True j := h
          rwa [upd_ne _ _ e] at h2
      inj := fun j k hj hk e => by
        obtain ⟨n1, n2⟩ := nm hj
        obtain ⟨n3, n4⟩ := nm hk
        rw [n2, n4] at e
        have := hI'.inj _ _ n1 n3 e
        have h1 : j < γ.n := hj.1
        have h2 : k < γ.n := hk.1
        split at this <;> split at this <;> omega
      lt := fun j hj => by
        obtain ⟨n1, n2⟩ := nm hj
        rw [n2]
        exact hI'.lt _ n1
      tok := hI'.tok, tinj := hI'.tinj
      tob := fun t j ht hj => by
        obtain ⟨n1, n2⟩ := nm hj
        rw [n2]
        exact hI'.tob t _ ht n1
      Flt := hI'.Flt, base := hI'.base, ty := fun p hp => (hI.ty p hp).monoV hle2.toLeV, gl := fun p hp => (hI.gl p hp).monoV hle2.toLeV }
  · have zz : ∀ {g o : Nat} {q : Bool}, (q && (Nat.beq g 0 && Nat.beq o 0)) = true → q = true ∧ g = 0 ∧ o = 0 := fun {g o q} h => by
      simp only [Bool.and_eq_true] at h
      exact ⟨h.1, Nat.eq_of_beq_eq_true h.2.1, Nat.eq_of_beq_eq_true h.2.2⟩
    cases hv <;> simp only [renum] at hr <;> try (cases hr; done)
    case ptr j g o a h1 h2 h3 =>
      split at hr
      · rename_i hc
        obtain ⟨c1, rfl, rfl⟩ := zz hc
        have := Nat.eq_of_beq_eq_true c1
        subst this
        cases hr
        refine .ptr i 0 0 a li (Nat.zero_le _) ?_
        show upd γ'.ge i _ i = 0 → a = ⟨upd γ'.ob i _ i, 0, none⟩
        rw [upd_same, upd_same]
        exact h3
      · cases hr
    case ms j g o len cp sz a cap h1 h2 h3 h4 =>
      split at hr
      · rename_i hc
        obtain ⟨c1, rfl, rfl⟩ := zz hc
        have := Nat.eq_of_beq_eq_true c1
        subst this
        cases hr
        refine .ms i 0 0 len cp sz a cap li (Nat.zero_le _) h3 ?_
        show upd γ'.ge i _ i = 0 → a = ⟨upd γ'.ob i _ i, 0, none⟩ ∧ ∃ (c : Array Value) (e : TypeId) (fr : Nat × Nat), w'.heap[upd γ'.ob i _ i]? = some (.cells c e fr) ∧ _
        rw [upd_same, upd_same]
        exact h4
      · cases hr
    case map j r h1 h2 =>
      split at hr
      · rename_i c1
        have := Nat.eq_of_beq_eq_true c1
        subst this
        cases hr
        refine .map i r li ?_
        show upd γ'.ge i _ i = 0 → r = upd γ'.ob i _ i
        rw [upd_same, upd_same]
        exact h2
      · cases hr

/-- places are kept -/
theorem Inv.keep (hI : Inv P γ s w) (k : Nat) : ∃ γ', Le γ w γ' w ∧ Inv P γ' (s.keep k) w := by
  let g2 : Gh := { γ with n := γ.n + k, lv := fun i => i < γ.n ∧ γ.lv i }
  have hl : ∀ {i}, g2.live i → γ.live i := fun {i} h => h.2
  have hl' : ∀ {i}, γ.live i → g2.live i := fun {i} h => ⟨by have := h.1; show i < γ.n + k; omega, h⟩
  have hle : Le γ w g2 w :=
    { Le.refl γ w with
      n := Nat.le_add_right _ _
      lv := fun i h => h
      fr := fun b hb => ⟨⟨hb.1, fun i hi => hb.2.1 i (hl hi), hb.2.2⟩, .inl rfl, fun _ h => h⟩ }
  refine ⟨g2, hle, ?_⟩
  exact
    { n := by simp [Sg.keep, hI.n, g2], tn := hI.tn
      obj := fun i o hi => by
        simp only [Sg.keep, List.getElem?_append] at hi
        split at hi
        · rename_i hlt
          have hlt' : i < γ.n := hI.n ▸ hlt
          exact (hI.obj i o hi).mono hle ⟨fun h => h.2, fun h => ⟨hlt', h⟩⟩ rfl rfl rfl
        · rename_i hge
          rw [List.getElem?_replicate] at hi
          split at hi
          · cases hi
            intro h
            have := hI.n
            have h1 := h.1
            omega
          · cases hi
      inj := fun i j hi hj => hI.inj i j (hl hi) (hl hj)
      lt := fun i hi => hI.lt i (hl hi)
      tok := hI.tok, tinj := hI.tinj
      tob := fun t i ht hi => hI.tob t i ht (hl hi)
      Flt := hI.Flt, base := hI.base, ty := fun p hp => (hI.ty p hp).monoV hle.toLeV, gl := fun p hp => (hI.gl p hp).monoV hle.toLeV }

/-- with nothing but what there was -/
def Gh.cut (γ : Gh) (n t : Nat) : Gh := { γ with n := n, tn := t }

theorem Inv.cut (hI : Inv P γ s w) {n t : Nat} (hn : n ≤ s.heap.length) (ht : t ≤ s.toks.length) (hold : ∀ (i : Nat) o, i < n → s.heap[i]? = some o → o.old n = true) : Inv P (γ.cut n t) (s.cut n t) w ∧ Cut γ (γ.cut n t) := by
  have e1 : s.heap.length = γ.n := hI.n
  have e2 : s.toks.length = γ.tn := hI.tn
  have hcut : Cut γ (γ.cut n t) := ⟨rfl, fun j hj hjn => ⟨⟨hjn, hj.2⟩, rfl, rfl⟩, fun _ _ h => h⟩
  have hl : ∀ {i}, (γ.cut n t).live i → γ.live i := fun {i} h => ⟨by have h1 : i < n := h.1; omega, h.2⟩
  refine ⟨?_, hcut⟩
  exact
    { n := by simp [Sg.cut, Gh.cut]; omega
      tn := by simp [Sg.cut, Gh.cut]; omega
      obj := fun i o hi => by
        simp only [Sg.cut, List.getElem?_take] at hi
        split at hi
        · rename_i hin
          exact objOk_cut hcut (hI.obj i o hi) (hold i o hin hi) (by have := lt_of_getElem? hi; omega) hin fun h => h
        · cases hi
      inj := fun i j hi hj => hI.inj i j (hl hi) (hl hj)
      lt := fun i hi => hI.lt i (hl hi)
      tok := fun u hu => by
        have hu' : u < t := hu
        obtain ⟨a, b⟩ := hI.tok u (by omega)
        exact ⟨by simp only [Sg.cut, List.getElem?_take, if_pos hu']; exact a, b⟩
      tinj := fun u v hu hv => hI.tinj u v (by have h1 : u < t := hu; omega) (by have h1 : v < t := hv; omega)
      tob := fun u i hu hi => hI.tob u i (by have h1 : u < t := hu; omega) (hl hi)
      Flt := hI.Flt, base := hI.base, ty := (fun p hp => by cases hp), gl := fun p hp => ⟨(hI.gl p hp).1.cut hcut ((hI.gl p hp).2 n), (hI.gl p hp).2⟩ }

mutual
theorem old_le {n m : Nat} (h : n ≤ m) : ∀ v : AV, v.old n = true → v.old m = true
  | .undef, e => by simp [AV.old] at e
  | .bool _, _ => rfl
  | .int _ _, _ => rfl
  | .flt _ _, _ => rfl
  | .cplx _ _ _, _ => rfl
  | .str _, _ => rfl
  | .nilptr, _ => rfl
  | .ptr j _ _, e => by simp only [AV.old, Nat.blt_eq] at e ⊢; omega
  | .pin v, e => by simp only [AV.old] at e ⊢; exact old_le h v e
  | .nilsl, _ => rfl
  | .vec es tl, e => by
    simp only [AV.old, Bool.and_eq_true] at e ⊢
    exact ⟨e.1, oldAll_le h es e.2⟩
  | .ms j _ _ _ _ _, e => by simp only [AV.old, Nat.blt_eq] at e ⊢; omega
  | .nilmap, _ => rfl
  | .map j, e => by simp only [AV.old, Nat.blt_eq] at e ⊢; omega
  | .yield j, e => by simp only [AV.old, Nat.blt_eq] at e ⊢; omega
  | .func _ a b, e => by
    simp only [AV.old, Bool.and_eq_true] at e ⊢
    exact ⟨oldAll_le h a e.1, oldAll_le h b e.2⟩
  | .nilfunc, _ => rfl
  | .iface _ v, e => by simp only [AV.old] at e ⊢; exact old_le h v e
  | .nilif, _ => rfl
  | .agg cs, e => by simp only [AV.old] at e ⊢; exact oldAll_le h cs e
  | .tup cs, e => by simp only [AV.old] at e ⊢; exact oldAll_le h cs e
theorem oldAll_le {n m : Nat} (h : n ≤ m) : ∀ l : List AV, AV.oldAll n l = true → AV.oldAll m l = true
  | [], _ => by simp [AV.oldAll]
  | v :: r, e => by
    simp only [AV.oldAll, Bool.and_eq_true] at e ⊢
    exact ⟨old_le h v e.1, oldAll_le h r e.2⟩
end

theorem objOld_le {n m : Nat} (h : n ≤ m) {o : AObj} (e : o.old n = true) : o.old m = true := by
  cases o with
  | cells cs g => exact oldAll_le h cs e
  | mapo es =>
    simp only [AObj.old, List.all_eq_true, Bool.and_eq_true] at e ⊢
    exact fun x hx => ⟨old_le h _ (e x hx).1, old_le h _ (e x hx).2⟩
  | siter l p => rfl
  | pend => rfl
  | dead => rfl
  | loopo ts cs ps aops bops bz => exact oldAll_le h cs e
  | defo => rfl

theorem SameRow.cells {x y : Option Obj} (h : SameRow x y) {c : Array Value} {e : TypeId} {fr : Nat × Nat} (hx : x = some (.cells c e fr)) : ∃ fr', y = some (.cells c e fr') ∧ (FrOk fr c.size → FrOk fr' c.size) := by
  rcases h with rfl | ⟨c', e', f1, f2, h1, h2, hf⟩
  · exact ⟨fr, hx, id⟩
  · rw [hx] at h1
    cases h1
    exact ⟨f2, h2, hf⟩

theorem SameRow.other {x y : Option Obj} (h : SameRow x y) {o : Obj} (hx : x = some o) (ho : ∀ c e fr, o ≠ .cells c e fr) : y = some o := by
  rcases h with rfl | ⟨c', e', f1, f2, h1, h2, _⟩
  · exact hx
  · rw [hx] at h1
    cases h1
    exact absurd rfl (ho _ _ _)

/-- what was left away comes back -/
theorem Inv.uncut (hI : Inv P γ s w) {n t : Nat} (hn : n ≤ s.heap.length) (ht : t ≤ s.toks.length) (hle : Le (γ.cut n t) w γ' w') (hI' : Inv P γ' (s.cut n t) w') :
    ∃ γ'', Le γ w γ'' w' ∧ Inv P γ'' s w' ∧ ∀ {v c}, VR γ' w' v c → v.old n = true → VR γ'' w' v c := by
  have e1 : s.heap.length = γ.n := hI.n
  have e2 : s.toks.length = γ.tn := hI.tn
  have e3 : γ'.n = n := by rw [← hI'.n]; simp [Sg.cut]; omega
  have e4 : γ'.tn = t := by rw [← hI'.tn]; simp [Sg.cut]; omega
  let g2 : Gh :=
    { n := γ.n, tn := γ.tn, base := γ'.base, F := γ'.F
      ob := fun i => if i < n then γ'.ob i else γ.ob i
      ge := fun i => if i < n then γ'.ge i else γ.ge i
      lv := fun i => if i < n then γ'.lv i else γ.lv i
      tb := fun u => if u < t then γ'.tb u else γ.tb u
      te := fun u => if u < t then γ'.te u else γ.te u
      ts := fun u => if u < t then γ'.ts u else γ.ts u
      tv := fun u => if u < t then γ'.tv u else γ.tv u }
  have lo : ∀ {i}, i < n → g2.ob i = γ'.ob i ∧ g2.ge i = γ'.ge i ∧ (g2.lv i ↔ γ'.lv i) := fun {i} h => ⟨if_pos h, if_pos h, by show (if i < n then _ else _) ↔ _; rw [if_pos h]⟩
  have hi : ∀ {i}, ¬ i < n → g2.ob i = γ.ob i ∧ g2.ge i = γ.ge i ∧ (g2.lv i ↔ γ.lv i) := fun {i} h => ⟨if_neg h, if_neg h, by show (if i < n then _ else _) ↔ _; rw [if_neg h]⟩
  have tlo : ∀ {u}, u < t → g2.tb u = γ'.tb u ∧ g2.te u = γ'.te u ∧ g2.ts u = γ'.ts u ∧ g2.tv u = γ'.tv u := fun {u} h => ⟨if_pos h, if_pos h, if_pos h, if_pos h⟩
  have thi : ∀ {u}, ¬ u < t → g2.tb u = γ.tb u ∧ g2.te u = γ.te u ∧ g2.ts u = γ.ts u ∧ g2.tv u = γ.tv u := fun {u} h => ⟨if_neg h, if_neg h, if_neg h, if_neg h⟩
  -- what lies beyond is not known of
  have fo : ∀ {i}, ¬ i < n → γ.live i → Foreign (γ.cut n t) w (γ.ob i) := fun {i} hni hli => ⟨(hI.lt i hli).2.1, fun j hj e => by
    have hjn : j < n := hj.1
    have := hI.inj j i ⟨by omega, hj.2⟩ hli e
    omega, fun u hu e => hI.tob u i (by have : u < t := hu; omega) hli e⟩
  have fot : ∀ {u}, ¬ u < t → u < γ.tn → Foreign (γ.cut n t) w (γ.tb u) := fun {u} hnu hu => by
    obtain ⟨_, _, _, d, e', fr', f, g⟩ := hI.tok u hu
    exact ⟨(Array.getElem?_eq_some_iff.1 f).1, fun j hj e => hI.tob u j hu ⟨by have : j < n := hj.1; omega, hj.2⟩ e.symm, fun v hv e => by
      have hvt : v < t := hv
      have := hI.tinj v u (by omega) hu e
      omega⟩
  have live2 : ∀ {i}, g2.live i → (i < n ∧ γ'.live i) ∨ (¬ i < n ∧ γ.live i) := fun {i} h => by
    by_cases hin : i < n
    · exact .inl ⟨hin, by omega, (lo hin).2.2.1 h.2⟩
    · exact .inr ⟨hin, h.1, (hi hin).2.2.1 h.2⟩
  have tok2 : ∀ {u}, u < g2.tn → (u < t ∧ u < γ'.tn) ∨ (¬ u < t ∧ u < γ.tn) := fun {u} h => by
    by_cases hut : u < t
    · exact .inl ⟨hut, by omega⟩
    · exact .inr ⟨hut, h⟩
  have hleV : LeV γ w g2 w' :=
    { base := hle.base, n := Nat.le_refl _
      lv := fun i h => by
        by_cases hin : i < n
        · exact (lo hin).2.2.2 (hle.lv i ⟨hin, h.2⟩)
        · exact (hi hin).2.2.2 h.2
      ge := fun i h => by
        by_cases hin : i < n
        · rw [(lo hin).2.1]; exact hle.ge i ⟨hin, h.2⟩
        · rw [(hi hin).2.1]; exact Nat.le_refl _
      ob := fun i h e => by
        by_cases hin : i < n
        · rw [(lo hin).2.1] at e; rw [(lo hin).1]; exact hle.ob i ⟨hin, h.2⟩ e
        · exact (hi hin).1
      tn := Nat.le_refl _
      tv := fun u hu => by
        by_cases hut : u < t
        · rw [(tlo hut).2.2.2]; exact hle.tv u hut
        · rw [(thi hut).2.2.2]; exact Nat.le_refl _
      tb := fun u hu e => by
        by_cases hut : u < t
        · rw [(tlo hut).2.2.2] at e
          rw [(tlo hut).1, (tlo hut).2.1, (tlo hut).2.2.1]
          exact hle.tb u hut e
        · rw [(thi hut).1, (thi hut).2.1, (thi hut).2.2.1]
          exact ⟨rfl, rfl, rfl⟩
      F := hle.F, sz := hle.sz }
  have hcut : Cut γ' g2 := ⟨rfl, fun j hj hjn => by
    have hjn' : j < n := by have := hj.1; omega
    exact ⟨⟨hjn, (lo hjn').2.2.2 hj.2⟩, (lo hjn').1, (lo hjn').2.1⟩, fun _ _ h => h⟩
  have hnot : ∀ {b}, Foreign γ w b → Foreign (γ.cut n t) w b := fun {b} hb => ⟨hb.1, fun j hj => hb.2.1 j ⟨by have : j < n := hj.1; omega, hj.2⟩, fun u hu => hb.2.2 u (by have : u < t := hu; omega)⟩
  have hle2 : Le γ w g2 w' :=
    { hleV with
      below := hle.below
      fr := fun b hb => by
        obtain ⟨a1, a2, a3⟩ := hle.fr b (hnot hb)
        refine ⟨⟨a1.1, fun i hli e => ?_, fun u hu e => ?_⟩, a2, a3⟩
        · rcases live2 hli with ⟨h1, h2⟩ | ⟨h1, h2⟩
          · rw [(lo h1).1] at e; exact a1.2.1 i h2 e
          · rw [(hi h1).1] at e; exact hb.2.1 i h2 e
        · rcases tok2 hu with ⟨h1, h2⟩ | ⟨h1, h2⟩
          · rw [(tlo h1).1] at e; exact a1.2.2 u h2 e
          · rw [(thi h1).1] at e; exact hb.2.2 u h2 e }
  refine ⟨g2, hle2, ?_, fun {v c} hv ho => hv.cut hcut (old_le (by show n ≤ γ.n; omega) v ho)⟩
  exact
    { n := e1, tn := e2
      obj := fun i o ho => by
        by_cases hin : i < n
        · have ho' : (s.cut n t).heap[i]? = some o := by simp only [Sg.cut, List.getElem?_take, if_pos hin]; exact ho
          exact objOk_cut hcut (hI'.obj i o ho') (objOld_le (by show γ'.n ≤ γ.n; omega) (old_start hI' ho')) (by omega) (by show i < γ.n; omega) fun h => (lo hin).2.2.1 h
        · have hobj := hI.obj i o ho
          obtain ⟨o1, o2, o3⟩ := hi hin
          by_cases hne : o = .pend
          · subst hne
            exact fun h => hobj (o3.1 h)
          · have hli := hI.live ho hne
            obtain ⟨f1, f2, f3⟩ := hle.fr _ (fo hin hli)
            cases o with
            | cells cs g =>
              obtain ⟨k0, k1, k2, c, e, fr, k3, k4, k5, k6⟩ := hobj
              obtain ⟨fr', hr, hfo⟩ := f2.cells k3
              have hb := (hI.lt i hli).1
              exact ⟨o3.2 k0, by rw [o2]; exact k1, k2, c, e, fr', by rw [o1]; exact hr, k4, hfo k5, fun j u x hu hx => (k6 j u x hu hx).monoV hleV⟩
            | mapo es =>
              obtain ⟨k0, k1, en, clk, k3, es0, hp, hk, k4, k6⟩ := hobj
              exact ⟨o3.2 k0, by rw [o2]; exact k1, en, clk, by rw [o1]; exact f2.other k3 (fun _ _ _ e => by cases e), es0, hp, hk, k4, fun j u x hu hx => let ⟨a, b, c, d⟩ := k6 j u x hu hx; ⟨a.monoV hleV, b.monoV hleV, c, d⟩⟩
            | siter l p =>
              obtain ⟨k0, k1, bs, k3, k4⟩ := hobj
              exact ⟨o3.2 k0, by rw [o2]; exact k1, bs, by rw [o1]; exact f2.other k3 (fun _ _ _ e => by cases e), k4⟩
            | pend => exact absurd rfl hne
            | dead => exact o3.2 hobj
            | loopo ts cs ps aops bops bz =>
              obtain ⟨k0, k1, k2, r, k3, k4⟩ := hobj
              exact ⟨o3.2 k0, by rw [o2]; exact k1, k2, r, by rw [o1]; exact f2.other k3 (fun _ _ _ e => by cases e), { k4 with tmps := fun j t u ht hu => let ⟨c, a, b⟩ := k4.tmps j t u ht hu; ⟨c, a, b.monoV hleV⟩ }⟩
            | defo =>
              obtain ⟨k0, k1, k3⟩ := hobj
              exact ⟨o3.2 k0, by rw [o2]; exact k1, by rw [o1]; exact f2.other k3 (fun _ _ _ e => by cases e)⟩
      inj := fun i j h1 h2 e => by
        rcases live2 h1 with ⟨a1, a2⟩ | ⟨a1, a2⟩ <;> rcases live2 h2 with ⟨b1, b2⟩ | ⟨b1, b2⟩
        · rw [(lo a1).1, (lo b1).1] at e; exact hI'.inj i j a2 b2 e
        · rw [(lo a1).1, (hi b1).1] at e
          exact absurd e ((hle.fr _ (fo b1 b2)).1.2.1 i a2)
        · rw [(hi a1).1, (lo b1).1] at e
          exact absurd e.symm ((hle.fr _ (fo a1 a2)).1.2.1 j b2)
        · rw [(hi a1).1, (hi b1).1] at e; exact hI.inj i j a2 b2 e
      lt := fun i h1 => by
        rcases live2 h1 with ⟨a1, a2⟩ | ⟨a1, a2⟩
        · rw [(lo a1).1]; exact hI'.lt i a2
        · rw [(hi a1).1]
          obtain ⟨x, y, z⟩ := hI.lt i a2
          obtain ⟨f1, f2, f3⟩ := hle.fr _ (fo a1 a2)
          exact ⟨by show γ'.base ≤ _; rw [hle.base]; exact x, f1.1, fun o hf => z o (f3 o hf)⟩
      tok := fun u h1 => by
        rcases tok2 h1 with ⟨a1, a2⟩ | ⟨a1, a2⟩
        · obtain ⟨b1, b2, b3, b4⟩ := tlo a1
          rw [b1, b2, b3, b4]
          obtain ⟨c1, c2, c3, c4⟩ := hI'.tok u a2
          refine ⟨?_, c2, c3, c4⟩
          simp only [Sg.cut, List.getElem?_take, if_pos a1] at c1
          exact c1
        · obtain ⟨b1, b2, b3, b4⟩ := thi a1
          rw [b1, b2, b3, b4]
          obtain ⟨c1, c2, c3, d, e', fr', f, g1, g3⟩ := hI.tok u a2
          obtain ⟨f1, f2, f3⟩ := hle.fr _ (fot a1 a2)
          obtain ⟨fr2, hr, hfo⟩ := f2.cells f
          exact ⟨c1, by show γ'.base ≤ _; rw [hle.base]; exact c2, fun o ho hf => c3 o ho (f3 o hf), d, e', fr2, hr, g1, hfo g3⟩
      tinj := fun u v h1 h2 e => by
        rcases tok2 h1 with ⟨a1, a2⟩ | ⟨a1, a2⟩ <;> rcases tok2 h2 with ⟨b1, b2⟩ | ⟨b1, b2⟩
        · rw [(tlo a1).1, (tlo b1).1] at e; exact hI'.tinj u v a2 b2 e
        · rw [(tlo a1).1, (thi b1).1] at e
          exact absurd e ((hle.fr _ (fot b1 b2)).1.2.2 u a2)
        · rw [(thi a1).1, (tlo b1).1] at e
          exact absurd e.symm ((hle.fr _ (fot a1 a2)).1.2.2 v b2)
        · rw [(thi a1).1, (thi b1).1] at e; exact hI.tinj u v a2 b2 e
      tob := fun u i h1 h2 e => by
        rcases tok2 h1 with ⟨a1, a2⟩ | ⟨a1, a2⟩ <;> rcases live2 h2 with ⟨b1, b2⟩ | ⟨b1, b2⟩
        · rw [(tlo a1).1, (lo b1).1] at e; exact hI'.tob u i a2 b2 e
        · rw [(tlo a1).1, (hi b1).1] at e
          exact (hle.fr _ (fo b1 b2)).1.2.2 u a2 e
        · rw [(thi a1).1, (lo b1).1] at e
          exact (hle.fr _ (fot a1 a2)).1.2.1 i b2 e.symm
        · rw [(thi a1).1, (hi b1).1] at e; exact hI.tob u i a2 b2 e
      Flt := hI'.Flt
      base := hI'.base
      ty := fun p hp => (hI.ty p hp).monoV hleV, gl := fun p hp => (hI.gl p hp).monoV hleV }

end Go.Am
