/-
  Parts are the same just where the document says: TemplateSame answers true, whatever the two texts and the groups, and leaves them as they were.
-/
import Derived.Test.YtdbjemmoaldelaaTmplC
import Derived.Test.YtdbjemmoaldelaaSameB
import Derived.Test.YtdbjemmoaldelaaRows
import Derived.Test.YtdbjemmoaldelaaMachC

namespace Go.Tpl
open Go Go.Am Go.Proofs

-- ---------------------------------------------------------------- more fuel, the same; enough fuel, an answer

theorem model_succ (t : List UInt8) (gr : Int) : ∀ n, (∀ ends d i out r, partsM t gr n ends d i out = some r → partsM t gr (n + 1) ends d i out = some r) ∧ (∀ a d i r, dollarM t gr n a d i = some r → dollarM t gr (n + 1) a d i = some r) := by
  intro n
  induction n with
  | zero =>
    constructor
    · intro ends d i out r h; simp [partsM] at h
    · intro a d i r h; simp [dollarM] at h
  | succ n ih =>
    obtain ⟨ihp, ihd⟩ := ih
    constructor
    · intro ends d i out r h
      rw [partsM] at h ⊢
      cases hc : t[i]? with
      | none => simp only [hc] at h ⊢; exact h
      | some c =>
        simp only [hc] at h ⊢
        by_cases h1 : c ∈ ends
        · rw [if_pos h1] at h ⊢; exact h
        · rw [if_neg h1] at h ⊢
          by_cases h2 : c.toNat = 92
          · rw [if_pos h2] at h ⊢
            cases he : t[i + 1]? with
            | none => simp only [he] at h ⊢; exact h
            | some e => simp only [he] at h ⊢; exact ihp _ _ _ _ _ h
          · rw [if_neg h2] at h ⊢
            by_cases h3 : c.toNat = 36
            · rw [if_pos h3] at h ⊢
              cases hd : dollarM t gr n i d (i + 1) with
              | none => simp [hd] at h
              | some x =>
                rw [ihd _ _ _ _ hd]
                cases x with
                | error a => simp only [hd] at h ⊢; exact h
                | ok y =>
                  obtain ⟨p, j⟩ := y
                  simp only [hd] at h ⊢
                  exact ihp _ _ _ _ _ h
            · rw [if_neg h3] at h ⊢; exact ihp _ _ _ _ _ h
    · intro a d i r h
      rw [dollarM] at h ⊢
      by_cases h1 : stands t i [36] = true
      · rw [if_pos h1] at h ⊢; exact h
      rw [if_neg h1] at h ⊢
      by_cases h2 : stands t i [123] = false
      · rw [if_pos h2] at h ⊢; exact h
      rw [if_neg h2] at h ⊢
      by_cases h3 : ¬ (i + 1 < (numM t 3 (i + 1) 0).2 ∧ ((numM t 3 (i + 1) 0).1 : Int) ≤ gr)
      · rw [if_pos h3] at h ⊢; exact h
      rw [if_neg h3] at h ⊢
      by_cases h4 : stands t (numM t 3 (i + 1) 0).2 [58, 45] = true
      · rw [if_pos h4] at h ⊢
        by_cases h5 : d < 10
        · rw [if_pos h5] at h ⊢
          cases hp : partsM t gr n [125] (d + 1) ((numM t 3 (i + 1) 0).2 + 2) [] with
          | none => simp [hp] at h
          | some x =>
            rw [ihp _ _ _ _ _ hp]
            simp only [hp] at h ⊢
            exact h
        · rw [if_neg h5] at h ⊢; exact h
      rw [if_neg h4] at h ⊢
      by_cases h6 : stands t (numM t 3 (i + 1) 0).2 [58, 43] = true
      · rw [if_pos h6] at h ⊢
        by_cases h5 : d < 10
        · rw [if_pos h5] at h ⊢
          cases hp : partsM t gr n [58, 125] (d + 1) ((numM t 3 (i + 1) 0).2 + 2) [] with
          | none => simp [hp] at h
          | some x =>
            rw [ihp _ _ _ _ _ hp]
            cases x with
            | error a => simp only [hp] at h ⊢; exact h
            | ok y =>
              obtain ⟨yes, k⟩ := y
              simp only [hp] at h ⊢
              by_cases h7 : stands t k [58] = true
              · rw [if_pos h7] at h ⊢
                cases hp2 : partsM t gr n [125] (d + 1) (k + 1) [] with
                | none => simp [hp2] at h
                | some z =>
                  rw [ihp _ _ _ _ _ hp2]
                  simp only [hp2] at h ⊢
                  exact h
              · rw [if_neg h7] at h ⊢; exact h
        · rw [if_neg h5] at h ⊢; exact h
      rw [if_neg h6] at h ⊢
      exact h

theorem parts_mono {t : List UInt8} {gr : Int} {n n' : Nat} (hn : n ≤ n') {ends : List UInt8} {d i : Nat} {out : List Tp} {r : PRes} (h : partsM t gr n ends d i out = some r) : partsM t gr n' ends d i out = some r := by
  induction hn with
  | refl => exact h
  | step _ ih => exact (model_succ t gr _).1 _ _ _ _ _ ih

theorem dollar_mono {t : List UInt8} {gr : Int} {n n' : Nat} (hn : n ≤ n') {a d i : Nat} {r : DRes} (h : dollarM t gr n a d i = some r) : dollarM t gr n' a d i = some r := by
  induction hn with
  | refl => exact h
  | step _ ih => exact (model_succ t gr _).2 _ _ _ _ ih

theorem close_some (t : List UInt8) (a : Nat) (p : Tp) (k : Nat) : ∃ r, closeM t a p k = some r := by
  simp only [closeM]
  split <;> exact ⟨_, rfl⟩

theorem model_total (t : List UInt8) (gr : Int) : ∀ k, (∀ ends d i out, i ≤ t.length → t.length - i < k → ∃ n r, partsM t gr n ends d i out = some r) ∧ (∀ a d i, i ≤ t.length → t.length - i < k → ∃ n r, dollarM t gr n a d i = some r) := by
  intro k
  induction k with
  | zero => exact ⟨fun _ _ _ _ _ h => by omega, fun _ _ _ _ h => by omega⟩
  | succ k ih =>
    obtain ⟨ihp, ihd⟩ := ih
    have hD : ∀ a d i, i ≤ t.length → t.length - i < k + 1 → ∃ n r, dollarM t gr n a d i = some r := by
      intro a d i hi hk
      have g3 := numM_ge t 3 (i + 1) 0
      by_cases h1 : stands t i [36] = true
      · exact ⟨1, _, by rw [dollarM, if_pos h1]⟩
      by_cases h2 : stands t i [123] = false
      · by_cases h3 : i < (numM t 2 i 0).2 ∧ ((numM t 2 i 0).1 : Int) ≤ gr
        · exact ⟨1, _, by rw [dollarM, if_neg h1, if_pos h2, if_pos h3]⟩
        · exact ⟨1, _, by rw [dollarM, if_neg h1, if_pos h2, if_neg h3]⟩
      have h2' : stands t i [123] = true := by simpa using h2
      have l1 := stands_lt (by simp) h2'
      simp only [List.length_singleton] at l1
      have l3 := numM_le t 3 (i + 1) 0 (by omega)
      by_cases h3 : ¬ (i + 1 < (numM t 3 (i + 1) 0).2 ∧ ((numM t 3 (i + 1) 0).1 : Int) ≤ gr)
      · exact ⟨1, _, by rw [dollarM, if_neg h1, if_neg h2, if_pos h3]⟩
      by_cases h4 : stands t (numM t 3 (i + 1) 0).2 [58, 45] = true
      · have l4 := stands_lt (by simp) h4
        simp only [List.length_cons, List.length_nil] at l4
        by_cases h5 : d < 10
        · obtain ⟨n, r, hr⟩ := ihp [125] (d + 1) ((numM t 3 (i + 1) 0).2 + 2) [] (by omega) (by omega)
          cases r with
          | error a => exact ⟨n + 1, _, by rw [dollarM, if_neg h1, if_neg h2, if_neg h3, if_pos h4, if_pos h5, hr]⟩
          | ok x => exact ⟨n + 1, _, by rw [dollarM, if_neg h1, if_neg h2, if_neg h3, if_pos h4, if_pos h5, hr]; exact (close_some ..).choose_spec⟩
        · exact ⟨1, _, by rw [dollarM, if_neg h1, if_neg h2, if_neg h3, if_pos h4, if_neg h5]⟩
      by_cases h6 : stands t (numM t 3 (i + 1) 0).2 [58, 43] = true
      · have l4 := stands_lt (by simp) h6
        simp only [List.length_cons, List.length_nil] at l4
        by_cases h5 : d < 10
        · obtain ⟨n, r, hr⟩ := ihp [58, 125] (d + 1) ((numM t 3 (i + 1) 0).2 + 2) [] (by omega) (by omega)
          cases r with
          | error a => exact ⟨n + 1, _, by rw [dollarM, if_neg h1, if_neg h2, if_neg h3, if_neg h4, if_pos h6, if_pos h5, hr]⟩
          | ok x =>
            obtain ⟨yes, j⟩ := x
            have hj := (model_ge t gr n).1 _ _ _ _ _ _ hr
            by_cases h7 : stands t j [58] = true
            · have l5 := stands_lt (by simp) h7
              simp only [List.length_singleton] at l5
              obtain ⟨n2, r2, hr2⟩ := ihp [125] (d + 1) (j + 1) [] (by omega) (by omega)
              have m1 := parts_mono (show n ≤ n + n2 by omega) hr
              have m2 := parts_mono (show n2 ≤ n + n2 by omega) hr2
              cases r2 with
              | error a => exact ⟨n + n2 + 1, _, by rw [dollarM, if_neg h1, if_neg h2, if_neg h3, if_neg h4, if_pos h6, if_pos h5, m1]; simp only; rw [if_pos h7, m2]⟩
              | ok x => exact ⟨n + n2 + 1, _, by rw [dollarM, if_neg h1, if_neg h2, if_neg h3, if_neg h4, if_pos h6, if_pos h5, m1]; simp only; rw [if_pos h7, m2]; exact (close_some ..).choose_spec⟩
            · exact ⟨n + 1, _, by rw [dollarM, if_neg h1, if_neg h2, if_neg h3, if_neg h4, if_pos h6, if_pos h5, hr]; simp only; rw [if_neg h7]⟩
        · exact ⟨1, _, by rw [dollarM, if_neg h1, if_neg h2, if_neg h3, if_neg h4, if_pos h6, if_neg h5]⟩
      exact ⟨1, _, by rw [dollarM, if_neg h1, if_neg h2, if_neg h3, if_neg h4, if_neg h6]; exact (close_some ..).choose_spec⟩
    refine ⟨?_, hD⟩
    intro ends d i out hi hk
    cases hc : t[i]? with
    | none => exact ⟨1, _, by rw [partsM, hc]⟩
    | some c =>
      have hlt := lt_of_getElem? hc
      by_cases h1 : c ∈ ends
      · exact ⟨1, _, by rw [partsM, hc]; simp only; rw [if_pos h1]⟩
      by_cases h2 : c.toNat = 92
      · cases he : t[i + 1]? with
        | none => exact ⟨1, _, by rw [partsM, hc]; simp only; rw [if_neg h1, if_pos h2, he]⟩
        | some e =>
          have hlt2 := lt_of_getElem? he
          obtain ⟨n, r, hr⟩ := ihp ends d (i + 2) (addM out (.lit [e])) (by omega) (by omega)
          exact ⟨n + 1, r, by rw [partsM, hc]; simp only; rw [if_neg h1, if_pos h2, he]; exact hr⟩
      by_cases h3 : c.toNat = 36
      · obtain ⟨n, r, hr⟩ := ihd i d (i + 1) (by omega) (by omega)
        cases r with
        | error a => exact ⟨n + 1, _, by rw [partsM, hc]; simp only; rw [if_neg h1, if_neg h2, if_pos h3, hr]⟩
        | ok x =>
          obtain ⟨p, j⟩ := x
          have hj := (model_wt t gr n).2 _ _ _ _ _ hr (by omega)
          obtain ⟨n2, r2, hr2⟩ := ihp ends d j (addM out p) (by omega) (by omega)
          have m1 := dollar_mono (show n ≤ n + n2 by omega) hr
          have m2 := parts_mono (show n2 ≤ n + n2 by omega) hr2
          exact ⟨n + n2 + 1, r2, by rw [partsM, hc]; simp only; rw [if_neg h1, if_neg h2, if_pos h3, m1]; exact m2⟩
      · obtain ⟨n, r, hr⟩ := ihp ends d (i + 1) (addM out (.lit [c])) (by omega) (by omega)
        exact ⟨n + 1, r, by rw [partsM, hc]; simp only; rw [if_neg h1, if_neg h2, if_neg h3]; exact hr⟩

/-- each text is a template, or is not -/
theorem parse_total (t : List UInt8) (gr : Int) : ∃ n r, partsM t gr n [] 1 0 [] = some r := (model_total t gr (t.length + 1)).1 _ _ _ _ (Nat.zero_le _) (by omega)

end Go.Tpl

namespace Go.Tpl
open Go Go.Am Go.Proofs

theorem o_bldG {call : CallFn} {b : Bar} {r : List AOper} {loc : Env} {fr : Fr} {s : Sg} {Q : Ex → Env → Fr → Sg → Prop} {x y : AOpd} {t : Nat} {v : AV} {j : Int} (hx : x.ev loc fr.pers = some v) (hs : v.stored = some [v]) (hy : y.ev loc fr.pers = some (.int .i64 j))
    (hr : OkO call b r ((t, .agg [v, .int .i64 j, .bool false, .int .i64 0]) :: loc) fr s Q) : OkO call b (⟨some t, .v (.build gz [(0, 1, x), (1, 1, y)]), none⟩ :: r) loc fr s Q := by
  refine o_w rfl ?_ hr
  have hj : (AV.int .i64 j).stored = some [.int .i64 j] := rfl
  simp only [evV, fillParts, hx, hy, Option.bind_some, hs, hj, List.length_singleton, Nat.beq_refl, if_true, writeAt, Option.map_some]

theorem rparts_ok (t : List UInt8) (gr : Int) (ht : t.length < 2 ^ 30) : ∀ n, RPartsOk t gr n := by
  intro n
  induction n using Nat.strongRecOn with
  | _ n ih =>
    intro br co d i hd hbc
    have hD : ∀ k, k < n → ∀ at', ∃ N, RDollarAt t gr k at' d N := by
      intro k hk at'
      cases k with
      | zero => exact ⟨0, fun res h => by simp [dollarM] at h⟩
      | succ k => exact rdollar_ok t gr k ht (ih k (by omega)) at' d hd
    cases hp : partsM t gr n (endsB br co) d i [] with
    | none => exact ⟨0, fun res h => by rw [hp] at h; cases h⟩
    | some res0 =>
      by_cases hi : i ≤ t.length
      · obtain ⟨N, hN⟩ := rparts_loop t gr ht n br co hbc d hD n (Nat.le_refl n) i [] res0 hp hi ⟨Nat.zero_le _, fun q hq => by simp at hq⟩
        refine ⟨N + 5, ?_⟩
        intro res hres _ m hm s
        rw [hp] at hres
        cases hres
        obtain ⟨m, rfl⟩ : ∃ m', m = m' + 1 := ⟨m - 1, by omega⟩
        have g0 := getCells_push (.cells gz 0) (getCells_new s (tx t gr) 0)
        have g1 := getCells_new (s.push (.cells (tx t gr) 0)) gz 0
        have lA : s.heap.length < (s.push (.cells (tx t gr) 0)).heap.length := by rw [Sg.push_len]; omega
        have hst : PSt t gr s s.heap.length (s.push (.cells (tx t gr) 0)).heap.length ((s.push (.cells (tx t gr) 0)).push (.cells gz 0)) := ⟨((Old.refl s).push _).push _, g0, g1, Nat.le_refl _, lA⟩
        (apply f_wp rfl rfl; (repeat (first | exact Shape.nil | (apply Shape.cons; conv => lhs; whnf))))
        ((repeat refine c_seq ?_); refine c_region ?_; (repeat (first | ((first | apply o_move rfl rfl | apply o_easy1 rfl rfl rfl | apply o_ld rfl rfl (by assumption) (by first | rfl | assumption)); conv => lhs; whnf) | apply o_no rfl | refine o_b rfl rfl rfl (by constructor; omega) ?_ | refine o_f rfl rfl rfl (by constructor; omega) ?_ | refine o_s rfl rfl rfl (by constructor; first | omega | assumption) ?_ | refine o_t rfl rfl rfl (by constructor; assumption) ?_ | (apply o_easy rfl rfl rfl; conv => lhs; whnf) | apply o_non rfl)))
        refine o_box (v := .agg (tx t gr)) (l := tx t gr) rfl rfl rfl ?_
        refine o_alloc rfl ?_
        (apply o_end; (repeat (first | exact OutS.nil | exact GetS.hit | exact PutS.hit | apply GetS.miss rfl | apply PutS.miss rfl | apply OutS.cons | apply OutS.skip rfl)))
        ((repeat refine c_seq ?_); refine c_region ?_; (repeat (first | ((first | apply o_move rfl rfl | apply o_easy1 rfl rfl rfl | apply o_ld rfl rfl (by assumption) (by first | rfl | assumption)); conv => lhs; whnf) | apply o_no rfl | refine o_b rfl rfl rfl (by constructor; omega) ?_ | refine o_f rfl rfl rfl (by constructor; omega) ?_ | refine o_s rfl rfl rfl (by constructor; first | omega | assumption) ?_ | refine o_t rfl rfl rfl (by constructor; assumption) ?_ | (apply o_easy rfl rfl rfl; conv => lhs; whnf) | apply o_non rfl)); apply o_end; (repeat (first | exact OutS.nil | exact GetS.hit | exact PutS.hit | apply GetS.miss rfl | apply PutS.miss rfl | apply OutS.cons | apply OutS.skip rfl)))
        ((repeat refine c_seq ?_); refine c_block ?_)
        refine c_loop (x := lp15_0) ?_
        generalize (s.push (.cells (tx t gr) 0)).push (.cells gz 0) = s1 at hst ⊢
        generalize (s.push (.cells (tx t gr) 0)).heap.length = R at hst ⊢
        generalize hX : s.heap.length = X at hst ⊢
        refine hN m m (by omega) (by omega) X R s s1 .nilsl _ _ _ _ _ _ _ _ _ _ _ hst (.inl ⟨rfl, rfl⟩) ?_ ?_
        · intro out' j v' s2 y18 y12 y34 y35 y46 y53 y67 y71 y13 y81 he hj hst2 hv2
          subst he
          obtain ⟨e1, e2, e3⟩ := hv2.defd
          have hvs : v'.stored = some [v'] := by
            rcases hv2 with ⟨_, rfl⟩ | ⟨o, g, rs, rfl, _⟩ <;> rfl
          ((repeat refine c_seq ?_); refine c_region ?_; (repeat (first | ((first | apply o_move rfl rfl | apply o_easy1 rfl rfl rfl | apply o_ld rfl rfl (by assumption) (by first | rfl | assumption)); conv => lhs; whnf) | apply o_no rfl | refine o_b rfl rfl rfl (by constructor; omega) ?_ | refine o_f rfl rfl rfl (by constructor; omega) ?_ | refine o_s rfl rfl rfl (by constructor; first | omega | assumption) ?_ | refine o_t rfl rfl rfl (by constructor; assumption) ?_ | (apply o_easy rfl rfl rfl; conv => lhs; whnf) | apply o_non rfl)))
          refine o_move rfl e1 rfl ?_
          (repeat (first | ((first | apply o_move rfl rfl | apply o_easy1 rfl rfl rfl | apply o_ld rfl rfl (by assumption) (by first | rfl | assumption)); conv => lhs; whnf) | apply o_no rfl | refine o_b rfl rfl rfl (by constructor; omega) ?_ | refine o_f rfl rfl rfl (by constructor; omega) ?_ | refine o_s rfl rfl rfl (by constructor; first | omega | assumption) ?_ | refine o_t rfl rfl rfl (by constructor; assumption) ?_ | (apply o_easy rfl rfl rfl; conv => lhs; whnf) | apply o_non rfl))
          refine o_bldG e1 hvs rfl ?_
          refine o_st (v := .agg [v', .int .i64 j, .bool false, .int .i64 0]) rfl rfl rfl (got_stored e2 e3) hst2.r rfl rfl (cs' := [v', .int .i64 j, .bool false, .int .i64 0]) rfl ?_
          (apply o_end; (repeat (first | exact OutS.nil | exact GetS.hit | exact PutS.hit | apply GetS.miss rfl | apply PutS.miss rfl | apply OutS.cons | apply OutS.skip rfl)))
          refine c_ret (rparts_end hst2 rfl rfl ⟨hst2.old.put _ (by have := hst2.lo; have := hst2.xr; omega), hj, v', rfl, ?_⟩)
          have := hst2.lo
          have := hst2.xr
          rcases hv2 with hv2 | ⟨o, g, rs, f1, f2, f3, f4⟩
          · exact .inl hv2
          · exact .inr ⟨o, g, rs, f1, by omega, getCells_put_ne (by omega) f3, f4.mono (fun i hi _ => ⟨by omega, Sg.put_get _ _ _ (by omega)⟩)⟩
        · intro a pers s2 he hp10 hst2
          subst he
          exact rparts_end hst2 hp10 rfl ⟨hst2.old.put _ (by have := hst2.lo; have := hst2.xr; omega), rfl⟩
      · exact ⟨0, fun res h h' => absurd h' hi⟩

/-- what the reference's Parse leaves -/
theorem rparse_spec (t : List UInt8) (gr : Int) (ht : t.length < 2 ^ 30) (n : Nat) (res : PRes) (hres : partsM t gr n [] 1 0 [] = some res) : ∃ N, ∀ m, N ≤ m → ∀ s a0 a2, a0.weak = .vec (Am.byteCells t) .shut → a2.weak = .vec [] .shut →
    OkF (callF T m bb 10 [a0, .int .i64 gr, a2] s) (RPQ t s res) := by
  obtain ⟨N, hN⟩ := rparts_ok t gr ht n false false 1 0 (by omega) (fun h => by cases h)
  refine ⟨N + 5, ?_⟩
  intro m hm s a0 a2 h0 h2
  obtain ⟨m, rfl⟩ : ∃ m', m = m' + 1 := ⟨m - 1, by omega⟩
  have hw0 : AV.weakAll [a0, .int .i64 gr, a2] = [.vec (Am.byteCells t) .shut, .int .i64 gr, .vec [] .shut] := by
    simp only [AV.weakAll, h0, h2]
    rfl
  apply f_wp rfl rfl
  · show Shape (bindArgs (AV.weakAll [a0, .int .i64 gr, a2]) _) _
    rw [hw0]
    repeat (first | exact Shape.nil | (apply Shape.cons; conv => lhs; whnf))
  ((repeat refine c_seq ?_); refine c_region ?_; (repeat (first | ((first | apply o_move rfl rfl | apply o_easy1 rfl rfl rfl | apply o_ld rfl rfl (by assumption) (by first | rfl | assumption)); conv => lhs; whnf) | apply o_no rfl | refine o_b rfl rfl rfl (by constructor; omega) ?_ | refine o_f rfl rfl rfl (by constructor; omega) ?_ | refine o_s rfl rfl rfl (by constructor; first | omega | assumption) ?_ | refine o_t rfl rfl rfl (by constructor; assumption) ?_ | (apply o_easy rfl rfl rfl; conv => lhs; whnf) | apply o_non rfl)))
  refine o_alloc rfl ?_
  (apply o_end; (repeat (first | exact OutS.nil | exact GetS.hit | exact PutS.hit | apply GetS.miss rfl | apply PutS.miss rfl | apply OutS.cons | apply OutS.skip rfl)))
  ((repeat refine c_seq ?_); refine c_region ?_; (repeat (first | ((first | apply o_move rfl rfl | apply o_easy1 rfl rfl rfl | apply o_ld rfl rfl (by assumption) (by first | rfl | assumption)); conv => lhs; whnf) | apply o_no rfl | refine o_b rfl rfl rfl (by constructor; omega) ?_ | refine o_f rfl rfl rfl (by constructor; omega) ?_ | refine o_s rfl rfl rfl (by constructor; first | omega | assumption) ?_ | refine o_t rfl rfl rfl (by constructor; assumption) ?_ | (apply o_easy rfl rfl rfl; conv => lhs; whnf) | apply o_non rfl)))
  refine o_bs rfl rfl (bytesOf_cells t) ?_
  (repeat (first | ((first | apply o_move rfl rfl | apply o_easy1 rfl rfl rfl | apply o_ld rfl rfl (by assumption) (by first | rfl | assumption)); conv => lhs; whnf) | apply o_no rfl | refine o_b rfl rfl rfl (by constructor; omega) ?_ | refine o_f rfl rfl rfl (by constructor; omega) ?_ | refine o_s rfl rfl rfl (by constructor; first | omega | assumption) ?_ | refine o_t rfl rfl rfl (by constructor; assumption) ?_ | (apply o_easy rfl rfl rfl; conv => lhs; whnf) | apply o_non rfl))
  refine o_alloc rfl ?_
  have g0 := getCells_push (.cells [.str [], .int .i64 0, .nilsl] 0) (getCells_new s gz 0)
  have g1 := getCells_new (s.push (.cells gz 0)) [.str [], .int .i64 0, .nilsl] 0
  have lA : s.heap.length < (s.push (.cells gz 0)).heap.length := by rw [Sg.push_len]; omega
  refine o_st (v := .agg (tx t gr)) rfl rfl rfl rfl g1 rfl rfl (cs' := tx t gr) rfl ?_
  (apply o_end; (repeat (first | exact OutS.nil | exact GetS.hit | exact PutS.hit | apply GetS.miss rfl | apply PutS.miss rfl | apply OutS.cons | apply OutS.skip rfl)))
  have h3 := getCells_put (cs' := tx t gr) (g' := 0) g1
  have h4 := getCells_put_ne (i := (s.push (.cells gz 0)).heap.length) (o := .cells (tx t gr) 0) (by omega) g0
  have hold := (((Old.refl s).push (.cells gz 0)).push (.cells [.str [], .int .i64 0, .nilsl] 0)).put (i := (s.push (.cells gz 0)).heap.length) (.cells (tx t gr) 0) (by omega)
  generalize ((s.push (.cells gz 0)).push (.cells [.str [], .int .i64 0, .nilsl] 0)).put (s.push (.cells gz 0)).heap.length (.cells (tx t gr) 0) = s1 at h3 h4 hold ⊢
  generalize (s.push (.cells gz 0)).heap.length = Y at h3 ⊢
  ((repeat refine c_seq ?_); refine c_region ?_; (repeat (first | ((first | apply o_move rfl rfl | apply o_easy1 rfl rfl rfl | apply o_ld rfl rfl (by assumption) (by first | rfl | assumption)); conv => lhs; whnf) | apply o_no rfl | refine o_b rfl rfl rfl (by constructor; omega) ?_ | refine o_f rfl rfl rfl (by constructor; omega) ?_ | refine o_s rfl rfl rfl (by constructor; first | omega | assumption) ?_ | refine o_t rfl rfl rfl (by constructor; assumption) ?_ | (apply o_easy rfl rfl rfl; conv => lhs; whnf) | apply o_non rfl)))
  refine o_callw (l := [.agg (tx t gr), .int .i64 ((0 : Nat) : Int), .bool false, .bool false, .int .i64 ((1 : Nat) : Int)]) rfl rfl ((hN res hres (Nat.zero_le _) m (by omega) s1).mono ?_)
  have hlt := getCells_lt h4
  cases res with
  | error a =>
    rintro o s2 ⟨hold2, rfl⟩
    have h5 := getCells_at h4 (hold2.old _ hlt)
    refine o_st (v := .agg (gbad a)) rfl rfl rfl rfl h5 rfl rfl (cs' := gbad a) rfl ?_
    (apply o_end; (repeat (first | exact OutS.nil | exact GetS.hit | exact PutS.hit | apply GetS.miss rfl | apply PutS.miss rfl | apply OutS.cons | apply OutS.skip rfl)))
    exact c_ret (fin_ret (.inl rfl) (read_cell rfl (getCells_put h5) (partOf_all rfl) read_nil) rfl ⟨(hold.trans hold2).put _ (Nat.le_refl _), rfl⟩)
  | ok x =>
    obtain ⟨l, j⟩ := x
    rintro o s2 ⟨hold2, hj, v, rfl, hv⟩
    have h5 := getCells_at h4 (hold2.old _ hlt)
    obtain ⟨_, _, e3, e4⟩ := hv.one
    refine o_st (v := .agg [v, .int .i64 j, .bool false, .int .i64 0]) rfl rfl rfl (got_stored e3 e4) h5 rfl rfl (cs' := [v, .int .i64 j, .bool false, .int .i64 0]) rfl ?_
    (apply o_end; (repeat (first | exact OutS.nil | exact GetS.hit | exact PutS.hit | apply GetS.miss rfl | apply PutS.miss rfl | apply OutS.cons | apply OutS.skip rfl)))
    refine c_ret (fin_ret (.inl rfl) (read_cell rfl (getCells_put h5) (partOf_all rfl) read_nil) rfl ⟨(hold.trans hold2).put _ (Nat.le_refl _), hj, v, rfl, hv.mono (fun i hi _ => ⟨by omega, Sg.put_get _ _ _ (by omega)⟩)⟩)

end Go.Tpl

namespace Go.Tpl
open Go Go.Am Go.Proofs

mutual
/-- are two parts the same? -/
def eqT : Tp → Tp → Bool
  | .lit a, .lit b => a == b
  | .group n, .group m => n == m
  | .els n a, .els m b => n == m && eqL a b
  | .ifs n a b, .ifs m c d => n == m && (eqL a c && eqL b d)
  | _, _ => false
def eqL : List Tp → List Tp → Bool
  | [], [] => true
  | p :: r, q :: s => eqT p q && eqL r s
  | _, _ => false
end

def Tp.yes : Tp → List Tp
  | .ifs _ y _ => y
  | _ => []
def Tp.no : Tp → List Tp
  | .els _ n => n
  | .ifs _ _ n => n
  | _ => []

mutual
theorem eqT_refl : ∀ p : Tp, eqT p p = true
  | .lit a => by simp [eqT]
  | .group n => by simp [eqT]
  | .els n a => by simp [eqT, eqL_refl a]
  | .ifs n a b => by simp [eqT, eqL_refl a, eqL_refl b]
theorem eqL_refl : ∀ l : List Tp, eqL l l = true
  | [] => by simp [eqL]
  | p :: r => by simp [eqL, eqT_refl p, eqL_refl r]
end

theorem eqL_nil : eqL [] [] = true := by simp [eqL]

theorem eqT_eq (p q : Tp) : eqT p q = ((((decide (p.kind = q.kind) && decide (p.text = q.text)) && decide (p.num = q.num)) && eqL p.yes q.yes) && eqL p.no q.no) := by
  cases p <;> cases q <;> simp [eqT, Tp.kind, Tp.text, Tp.num, Tp.yes, Tp.no, eqL_nil, Bool.and_assoc]
  all_goals (try rfl)
  all_goals (try (rename_i a b; by_cases h : a = b <;> simp [h]))

theorem eqL_len : ∀ (a b : List Tp), a.length ≠ b.length → eqL a b = false
  | [], [], h => absurd rfl h
  | [], _ :: _, _ => by simp [eqL]
  | _ :: _, [], _ => by simp [eqL]
  | p :: r, q :: s, h => by
    simp only [eqL, eqL_len r s (by simpa using h), Bool.and_false]

theorem eqL_app : ∀ (a b c d : List Tp), a.length = b.length → eqL (a ++ c) (b ++ d) = (eqL a b && eqL c d)
  | [], [], c, d, _ => by simp [eqL]
  | [], _ :: _, _, _, h => by simp at h
  | _ :: _, [], _, _, h => by simp at h
  | p :: r, q :: s, c, d, h => by
    simp only [List.cons_append, eqL, eqL_app r s c d (by simpa using h), Bool.and_assoc]

theorem cells_kids (p : Tp) : ∃ u v, p.cells[3]? = some u ∧ p.cells[4]? = some v ∧ u.weak = .vec (avs p.yes) .shut ∧ v.weak = .vec (avs p.no) .shut ∧ u.one = true ∧ v.one = true ∧ u.def? = some u ∧ v.def? = some v := by
  cases p with
  | lit t => exact ⟨.nilsl, .nilsl, rfl, rfl, rfl, rfl, rfl, rfl, rfl, rfl⟩
  | group n => exact ⟨.nilsl, .nilsl, rfl, rfl, rfl, rfl, rfl, rfl, rfl, rfl⟩
  | els n no => exact ⟨.nilsl, .vec (avs no) .shut, rfl, rfl, rfl, rfl, rfl, rfl, rfl, rfl⟩
  | ifs n yes no => exact ⟨.vec (avs yes) .shut, .vec (avs no) .shut, rfl, rfl, rfl, rfl, rfl, rfl, rfl, rfl⟩

theorem CellR.kids {h : List AObj} {A : Nat → Prop} {p : Tp} {cs : List AV} (hc : CellR h A p cs) : ∃ u v, cs[3]? = some u ∧ cs[4]? = some v ∧ ValR h A p.yes u ∧ ValR h A p.no v := by
  cases p with
  | lit t => simp only [CellR] at hc; subst hc; exact ⟨.nilsl, .nilsl, rfl, rfl, .inl ⟨rfl, rfl⟩, .inl ⟨rfl, rfl⟩⟩
  | group n => simp only [CellR] at hc; subst hc; exact ⟨.nilsl, .nilsl, rfl, rfl, .inl ⟨rfl, rfl⟩, .inl ⟨rfl, rfl⟩⟩
  | els n no =>
    simp only [CellR] at hc
    obtain ⟨v, rfl, hv⟩ := hc
    exact ⟨.nilsl, v, rfl, rfl, .inl ⟨rfl, rfl⟩, hv⟩
  | ifs n yes no =>
    simp only [CellR] at hc
    obtain ⟨u, v, rfl, hu, hv⟩ := hc
    exact ⟨u, v, rfl, rfl, hu, hv⟩

/-- one of a row -/
theorem RowR.at {h : List AObj} {A : Nat → Prop} {q : Tp} {r : List Tp} : ∀ {d : List Tp} {rs : List AV}, RowR h A (d ++ q :: r) rs → ∃ r0 c r1, rs = r0 ++ (c ++ r1) ∧ r0.length = d.length * 5 ∧ CellR h A q c
  | [], rs, hc => by
    simp only [List.nil_append, RowR] at hc
    obtain ⟨c1, c2, rfl, h1, _⟩ := hc
    exact ⟨[], c1, c2, rfl, rfl, h1⟩
  | p :: d, rs, hc => by
    simp only [List.cons_append, RowR] at hc
    obtain ⟨c1, c2, rfl, h1, h2⟩ := hc
    obtain ⟨r0, c, r1, rfl, h3, h4⟩ := RowR.at h2
    have := h1.facts.1
    exact ⟨c1 ++ r0, c, r1, by simp, by simp [h3, this]; omega, h4⟩

section
variable {call : CallFn} {b : Bar} {g : Option (Nat × Bool)} {r : List AOper} {loc : Env} {fr : Fr} {s : Sg} {v : AV} {Q : Ex → Env → Fr → Sg → Prop} {x y : AOpd} {t : Nat}
theorem o_fapin {off : Nat} {cs : List AV} (hg : wantedA loc fr.pers g = some true) (hx : x.ev loc fr.pers = some (.pin (.agg cs))) (hp : cs[off]? = some v) (hr : OkO call b r ((t, .pin v) :: loc) fr s Q) : OkO call b (⟨some t, .v (.fieldAddr off none x), g⟩ :: r) loc fr s Q := by
  refine o_w hg ?_ hr
  simp only [evV, hx, Option.bind_some, AV.agg?, partOf, hp, Option.map_some]
theorem o_ldpin1 (hg : wantedA loc fr.pers g = some true) (hx : x.ev loc fr.pers = some (.pin v)) (h1 : v.one = true) (hr : OkO call b r ((t, v) :: loc) fr s Q) : OkO call b (⟨some t, .v (.load none x), g⟩ :: r) loc fr s Q :=
  o_w hg (load_pin hx h1) hr
theorem o_sneq_t {p q : List UInt8} (hg : wantedA loc fr.pers g = some true) (hx : x.ev loc fr.pers = some (.str p)) (hy : y.ev loc fr.pers = some (.str q)) (h : p ≠ q) (hr : OkO call b r ((t, .bool true) :: loc) fr s Q) : OkO call b (⟨some t, .v (.bin .neq x y), g⟩ :: r) loc fr s Q := by
  refine o_w hg ?_ hr
  simp only [evV, hx, hy, evBin, strBin, Option.bind_some, beq_eq_false_iff_ne.mpr h, Bool.not_false]
theorem o_sneq_f {p q : List UInt8} (hg : wantedA loc fr.pers g = some true) (hx : x.ev loc fr.pers = some (.str p)) (hy : y.ev loc fr.pers = some (.str q)) (h : p = q) (hr : OkO call b r ((t, .bool false) :: loc) fr s Q) : OkO call b (⟨some t, .v (.bin .neq x y), g⟩ :: r) loc fr s Q := by
  refine o_w hg ?_ hr
  simp only [evV, hx, hy, evBin, strBin, Option.bind_some, h, beq_self_eq_true, Bool.not_true]
end

def SameAt (l l2 : List Tp) (N : Nat) : Prop := ∀ m, N ≤ m → ∀ b s A a c, a.weak = .vec (avs l) .shut → ValR s.heap A l2 c → callF T m b 12 [a, c] s = some (.ret (.bool (eqL l l2)), s)

/-- the loop 0 of function 12 -/
def lp12_0 : ACode := .seq (.seq (.region [⟨(some 13), .v (.move (.tmp 5)), none⟩, ⟨(some 14), .v (.move (.tmp 0)), none⟩, ⟨(some 15), .v (.len 1 (.tmp 14)), none⟩, ⟨(some 16), .v (.bin .lss (.tmp 13) (.tmp 15)), none⟩] [16]) (.cond (.tmp 16) (.skip) (.exit 0))) (.seq (.block 1 (.seq (.drawn [⟨(some 19), .v (.move (.tmp 0)), none⟩, ⟨(some 20), .v (.move (.tmp 5)), none⟩, ⟨(some 21), .v (.indexAddrS (some 5) (.tmp 19) (.tmp 20)), none⟩, ⟨(some 22), .v (.fieldAddr 3 none (.tmp 21)), none⟩, ⟨(some 23), .v (.load none (.tmp 22)), none⟩, ⟨(some 24), .v (.move (.tmp 1)), none⟩, ⟨(some 25), .v (.move (.tmp 5)), none⟩, ⟨(some 26), .v (.indexAddrS (some 5) (.tmp 24) (.tmp 25)), none⟩, ⟨(some 27), .v (.fieldAddr 3 none (.tmp 26)), none⟩, ⟨(some 28), .v (.load none (.tmp 27)), none⟩, ⟨(some 29), .call 12 [(.tmp 23), (.tmp 28)], none⟩, ⟨(some 6), .v (.move (.tmp 29)), none⟩] [6] []) (.seq (.drawn [⟨(some 30), .v (.move (.tmp 0)), none⟩, ⟨(some 31), .v (.move (.tmp 5)), none⟩, ⟨(some 32), .v (.indexAddrS (some 5) (.tmp 30) (.tmp 31)), none⟩, ⟨(some 33), .v (.fieldAddr 4 none (.tmp 32)), none⟩, ⟨(some 34), .v (.load none (.tmp 33)), none⟩, ⟨(some 35), .v (.move (.tmp 1)), none⟩, ⟨(some 36), .v (.move (.tmp 5)), none⟩, ⟨(some 37), .v (.indexAddrS (some 5) (.tmp 35) (.tmp 36)), none⟩, ⟨(some 38), .v (.fieldAddr 4 none (.tmp 37)), none⟩, ⟨(some 39), .v (.load none (.tmp 38)), none⟩, ⟨(some 40), .call 12 [(.tmp 34), (.tmp 39)], none⟩, ⟨(some 7), .v (.move (.tmp 40)), none⟩] [7] []) (.seq (.drawn [⟨(some 41), .v (.move (.tmp 6)), none⟩, ⟨(some 42), .v (.un .not (.tmp 41)), none⟩, ⟨(some 43), .v (.move (.tmp 42)), none⟩, ⟨(some 44), .v (.move (.tmp 7)), (some (43, false))⟩, ⟨(some 45), .v (.un .not (.tmp 44)), (some (43, false))⟩, ⟨(some 46), .v (.pick (.tmp 43) (.const (.bool true)) (.tmp 45)), none⟩, ⟨(some 47), .v (.move (.tmp 46)), none⟩, ⟨(some 48), .v (.move (.tmp 0)), (some (47, false))⟩, ⟨(some 49), .v (.move (.tmp 5)), (some (47, false))⟩, ⟨(some 50), .v (.indexAddrS (some 5) (.tmp 48) (.tmp 49)), (some (47, false))⟩, ⟨(some 51), .v (.fieldAddr 0 none (.tmp 50)), (some (47, false))⟩, ⟨(some 52), .v (.load none (.tmp 51)), (some (47, false))⟩, ⟨(some 53), .v (.move (.tmp 1)), (some (47, false))⟩, ⟨(some 54), .v (.move (.tmp 5)), (some (47, false))⟩, ⟨(some 55), .v (.indexAddrS (some 5) (.tmp 53) (.tmp 54)), (some (47, false))⟩, ⟨(some 56), .v (.fieldAddr 0 none (.tmp 55)), (some (47, false))⟩, ⟨(some 57), .v (.load none (.tmp 56)), (some (47, false))⟩, ⟨(some 58), .v (.bin .neq (.tmp 52) (.tmp 57)), (some (47, false))⟩, ⟨(some 59), .v (.pick (.tmp 47) (.const (.bool true)) (.tmp 58)), none⟩, ⟨(some 60), .v (.move (.tmp 59)), none⟩, ⟨(some 61), .v (.move (.tmp 0)), (some (60, false))⟩, ⟨(some 62), .v (.move (.tmp 5)), (some (60, false))⟩, ⟨(some 63), .v (.indexAddrS (some 5) (.tmp 61) (.tmp 62)), (some (60, false))⟩, ⟨(some 64), .v (.fieldAddr 1 none (.tmp 63)), (some (60, false))⟩, ⟨(some 65), .v (.load none (.tmp 64)), (some (60, false))⟩, ⟨(some 66), .v (.move (.tmp 1)), (some (60, false))⟩, ⟨(some 67), .v (.move (.tmp 5)), (some (60, false))⟩, ⟨(some 68), .v (.indexAddrS (some 5) (.tmp 66) (.tmp 67)), (some (60, false))⟩, ⟨(some 69), .v (.fieldAddr 1 none (.tmp 68)), (some (60, false))⟩, ⟨(some 70), .v (.load none (.tmp 69)), (some (60, false))⟩, ⟨(some 71), .v (.bin .neq (.tmp 65) (.tmp 70)), (some (60, false))⟩, ⟨(some 72), .v (.pick (.tmp 60) (.const (.bool true)) (.tmp 71)), none⟩, ⟨(some 73), .v (.move (.tmp 72)), none⟩, ⟨(some 74), .v (.move (.tmp 0)), (some (73, false))⟩, ⟨(some 75), .v (.move (.tmp 5)), (some (73, false))⟩, ⟨(some 76), .v (.indexAddrS (some 5) (.tmp 74) (.tmp 75)), (some (73, false))⟩, ⟨(some 77), .v (.fieldAddr 2 none (.tmp 76)), (some (73, false))⟩, ⟨(some 78), .v (.load none (.tmp 77)), (some (73, false))⟩, ⟨(some 79), .v (.move (.tmp 1)), (some (73, false))⟩, ⟨(some 80), .v (.move (.tmp 5)), (some (73, false))⟩, ⟨(some 81), .v (.indexAddrS (some 5) (.tmp 79) (.tmp 80)), (some (73, false))⟩, ⟨(some 82), .v (.fieldAddr 2 none (.tmp 81)), (some (73, false))⟩, ⟨(some 83), .v (.load none (.tmp 82)), (some (73, false))⟩, ⟨(some 84), .v (.bin .neq (.tmp 78) (.tmp 83)), (some (73, false))⟩, ⟨(some 85), .v (.pick (.tmp 73) (.const (.bool true)) (.tmp 84)), none⟩] [85] []) (.cond (.tmp 85) (.seq (.region [⟨(some 4), .v (.move (.const (.bool false))), none⟩] [4]) (.ret)) (.skip)))))) (.region [⟨(some 17), .v (.move (.tmp 5)), none⟩, ⟨(some 18), .v (.bin .add (.tmp 17) (.const (.int .i64 1))), none⟩, ⟨(some 5), .v (.move (.tmp 18)), none⟩] [5]))

abbrev fr12 (va vc : AV) (k : Nat) (x16 x6 x7 x85 : AV) : Fr := ⟨[(0, va), (1, vc), (4, .bool false), (12, .bool false), (5, .int .i64 k), (16, x16), (6, x6), (7, x7), (85, x85)], [], .off⟩

end Go.Tpl

namespace Go.Tpl
open Go Go.Am Go.Proofs

set_option maxHeartbeats 4000000 in
theorem same_loop (m : Nat) (b : Bar) (l l2 : List Tp) (N : Nat) (hN : ∀ p ∈ l, (∀ x, SameAt p.yes x N) ∧ (∀ x, SameAt p.no x N)) (hm : N ≤ m) (hll : l.length < 2 ^ 40) (s : Sg) (A : Nat → Prop) (i2 g2 : Nat) (rs : List AV) (hc : getCells s.heap i2 g2 = some rs) (hr : RowR s.heap A l2 rs) (hlen : l.length = l2.length) {Q : Ex → Fr → Sg → Prop}
    (hq : ∀ k x16 x6 x7 x85, eqL l l2 = true → Q (.exit 0) (fr12 (.vec (avs l) .shut) (.ms i2 g2 0 l2.length 5) k x16 x6 x7 x85) s)
    (hbad : eqL l l2 = false → ∀ pers, (Env.get pers 4).def? = some (.bool false) → Q .ret ⟨pers, [], .off⟩ s) :
    ∀ (rest d1 d2 rest2 : List Tp) (k L : Nat) (x16 x6 x7 x85 : AV), l = d1 ++ rest → l2 = d2 ++ rest2 → d1.length = d2.length → k = d1.length → eqL d1 d2 = true → rest.length + 1 ≤ L →
      OkL L (fun fr s => ACode.run (loopN m) (callF T m) b lp12_0 fr s) (fr12 (.vec (avs l) .shut) (.ms i2 g2 0 l2.length 5) k x16 x6 x7 x85) s Q := by
  have hal := avs_len l
  intro rest
  induction rest with
  | nil =>
    intro d1 d2 rest2 k L x16 x6 x7 x85 hl hl2 hd hk he hL
    obtain ⟨L, rfl⟩ : ∃ L', L = L' + 1 := ⟨L - 1, by omega⟩
    have hkl : k = l.length := by rw [hl, hk]; simp
    have hr2 : rest2 = [] := by
      have h1 : l2.length = d2.length + rest2.length := by rw [hl2]; simp
      have h2 : l.length = d1.length := by rw [hl]; simp
      exact List.length_eq_zero_iff.mp (by omega)
    apply l_round
    ((repeat refine c_seq ?_); refine c_region ?_; (repeat (first | ((first | apply o_move rfl rfl | apply o_easy1 rfl rfl rfl | apply o_ld rfl rfl (by assumption) (by first | rfl | assumption)); conv => lhs; whnf) | apply o_no rfl | refine o_b rfl rfl rfl (by constructor; omega) ?_ | refine o_f rfl rfl rfl (by constructor; omega) ?_ | refine o_s rfl rfl rfl (by constructor; first | omega | assumption) ?_ | refine o_t rfl rfl rfl (by constructor; assumption) ?_ | (apply o_easy rfl rfl rfl; conv => lhs; whnf) | apply o_non rfl)); apply o_end; (repeat (first | exact OutS.nil | exact GetS.hit | exact PutS.hit | apply GetS.miss rfl | apply PutS.miss rfl | apply OutS.cons | apply OutS.skip rfl)))
    ((repeat refine c_seq ?_); refine c_else rfl ?_)
    refine c_exit (hq _ _ _ _ _ ?_)
    rw [hl, hl2, hr2, List.append_nil, List.append_nil]
    exact he
  | cons p rest ih =>
    intro d1 d2 rest2 k L x16 x6 x7 x85 hl hl2 hd hk he hL
    obtain ⟨L, rfl⟩ : ∃ L', L = L' + 1 := ⟨L - 1, by omega⟩
    cases rest2 with
    | nil =>
      have h1 : l.length = d1.length + (rest.length + 1) := by rw [hl]; simp
      have h2 : l2.length = d2.length := by rw [hl2]; simp
      omega
    | cons q rest2 =>
      have hkl : k < l.length := by rw [hl, hk]; simp
      have hget : l[k]? = some p := by rw [hl, hk]; simp
      obtain ⟨hN1, hN2⟩ := hN p (by rw [hl]; simp)
      have hr' := hr
      rw [hl2] at hr'
      obtain ⟨r0, c, r1, hrs, hr0, hcq⟩ := RowR.at hr'
      obtain ⟨f1, f2, f3, f4, _, _⟩ := hcq.facts
      obtain ⟨qy, qn, g3, g4, hqy, hqn⟩ := hcq.kids
      obtain ⟨py, pn, e3, e4, w3, w4, o3, o4, d3, d4⟩ := cells_kids p
      obtain ⟨n3, _⟩ := hqy.one
      obtain ⟨n4, _⟩ := hqn.one
      have part : ∀ f v, f < 5 → c[f]? = some v → partOf rs (0 + k * 5 + f) none = some v := by
        intro f v hf hv
        show rs[0 + k * 5 + f]? = _
        rw [hrs, List.getElem?_append_right (by omega), List.getElem?_append_left (by omega), show 0 + k * 5 + f - r0.length = f by omega]
        exact hv
      have k0 := part 0 _ (by omega) f2
      have k1 := part 1 _ (by omega) f3
      have k2 := part 2 _ (by omega) f4
      have k3 := part 3 _ (by omega) g3
      have k4 := part 4 _ (by omega) g4
      have hy := hN1 q.yes m (by omega) b s A py qy w3 hqy
      have hn := hN2 q.no m (by omega) b s A pn qn w4 hqn
      have heq : eqL l l2 = (eqT p q && eqL rest rest2) := by
        rw [hl, hl2, eqL_app d1 d2 _ _ hd, he]
        simp [eqL]
      have hT := eqT_eq p q
      apply l_round
      ((repeat refine c_seq ?_); refine c_region ?_; (repeat (first | ((first | apply o_move rfl rfl | apply o_easy1 rfl rfl rfl | apply o_ld rfl rfl (by assumption) (by first | rfl | assumption)); conv => lhs; whnf) | apply o_no rfl | refine o_b rfl rfl rfl (by constructor; omega) ?_ | refine o_f rfl rfl rfl (by constructor; omega) ?_ | refine o_s rfl rfl rfl (by constructor; first | omega | assumption) ?_ | refine o_t rfl rfl rfl (by constructor; assumption) ?_ | (apply o_easy rfl rfl rfl; conv => lhs; whnf) | apply o_non rfl)); apply o_end; (repeat (first | exact OutS.nil | exact GetS.hit | exact PutS.hit | apply GetS.miss rfl | apply PutS.miss rfl | apply OutS.cons | apply OutS.skip rfl)))
      ((repeat refine c_seq ?_); refine c_if rfl ?_)
      refine c_skip ?_
      ((repeat refine c_seq ?_); refine c_block ?_)
      -- the first templates
      ((repeat refine c_seq ?_); refine c_drawn ?_; (repeat (first | ((first | apply o_move rfl rfl | apply o_easy1 rfl rfl rfl | apply o_ld rfl rfl (by assumption) (by first | rfl | assumption)); conv => lhs; whnf) | apply o_no rfl | refine o_b rfl rfl rfl (by constructor; omega) ?_ | refine o_f rfl rfl rfl (by constructor; omega) ?_ | refine o_s rfl rfl rfl (by constructor; first | omega | assumption) ?_ | refine o_t rfl rfl rfl (by constructor; assumption) ?_ | (apply o_easy rfl rfl rfl; conv => lhs; whnf) | apply o_non rfl)))
      refine o_ixvec (j := k) rfl rfl rfl rfl (avs_get hget) (beq_of (cells_len p)) ?_
      refine o_fapin rfl rfl e3 ?_
      refine o_ldpin1 rfl rfl o3 ?_
      (repeat (first | ((first | apply o_move rfl rfl | apply o_easy1 rfl rfl rfl | apply o_ld rfl rfl (by assumption) (by first | rfl | assumption)); conv => lhs; whnf) | apply o_no rfl | refine o_b rfl rfl rfl (by constructor; omega) ?_ | refine o_f rfl rfl rfl (by constructor; omega) ?_ | refine o_s rfl rfl rfl (by constructor; first | omega | assumption) ?_ | refine o_t rfl rfl rfl (by constructor; assumption) ?_ | (apply o_easy rfl rfl rfl; conv => lhs; whnf) | apply o_non rfl))
      refine o_ixms (j := k) rfl rfl rfl rfl (by omega) hc rfl ?_
      (repeat (first | ((first | apply o_move rfl rfl | apply o_easy1 rfl rfl rfl | apply o_ld rfl rfl (by assumption) (by first | rfl | assumption)); conv => lhs; whnf) | apply o_no rfl | refine o_b rfl rfl rfl (by constructor; omega) ?_ | refine o_f rfl rfl rfl (by constructor; omega) ?_ | refine o_s rfl rfl rfl (by constructor; first | omega | assumption) ?_ | refine o_t rfl rfl rfl (by constructor; assumption) ?_ | (apply o_easy rfl rfl rfl; conv => lhs; whnf) | apply o_non rfl))
      refine o_call rfl (evAll2 d3 n3) hy ?_
      (repeat (first | ((first | apply o_move rfl rfl | apply o_easy1 rfl rfl rfl | apply o_ld rfl rfl (by assumption) (by first | rfl | assumption)); conv => lhs; whnf) | apply o_no rfl | refine o_b rfl rfl rfl (by constructor; omega) ?_ | refine o_f rfl rfl rfl (by constructor; omega) ?_ | refine o_s rfl rfl rfl (by constructor; first | omega | assumption) ?_ | refine o_t rfl rfl rfl (by constructor; assumption) ?_ | (apply o_easy rfl rfl rfl; conv => lhs; whnf) | apply o_non rfl))
      (apply d_end rfl; (repeat (first | exact OutS.nil | exact GetS.hit | exact PutS.hit | apply GetS.miss rfl | apply PutS.miss rfl | apply OutS.cons | apply OutS.skip rfl)))
      -- the others
      ((repeat refine c_seq ?_); refine c_drawn ?_; (repeat (first | ((first | apply o_move rfl rfl | apply o_easy1 rfl rfl rfl | apply o_ld rfl rfl (by assumption) (by first | rfl | assumption)); conv => lhs; whnf) | apply o_no rfl | refine o_b rfl rfl rfl (by constructor; omega) ?_ | refine o_f rfl rfl rfl (by constructor; omega) ?_ | refine o_s rfl rfl rfl (by constructor; first | omega | assumption) ?_ | refine o_t rfl rfl rfl (by constructor; assumption) ?_ | (apply o_easy rfl rfl rfl; conv => lhs; whnf) | apply o_non rfl)))
      refine o_ixvec (j := k) rfl rfl rfl rfl (avs_get hget) (beq_of (cells_len p)) ?_
      refine o_fapin rfl rfl e4 ?_
      refine o_ldpin1 rfl rfl o4 ?_
      (repeat (first | ((first | apply o_move rfl rfl | apply o_easy1 rfl rfl rfl | apply o_ld rfl rfl (by assumption) (by first | rfl | assumption)); conv => lhs; whnf) | apply o_no rfl | refine o_b rfl rfl rfl (by constructor; omega) ?_ | refine o_f rfl rfl rfl (by constructor; omega) ?_ | refine o_s rfl rfl rfl (by constructor; first | omega | assumption) ?_ | refine o_t rfl rfl rfl (by constructor; assumption) ?_ | (apply o_easy rfl rfl rfl; conv => lhs; whnf) | apply o_non rfl))
      refine o_ixms (j := k) rfl rfl rfl rfl (by omega) hc rfl ?_
      (repeat (first | ((first | apply o_move rfl rfl | apply o_easy1 rfl rfl rfl | apply o_ld rfl rfl (by assumption) (by first | rfl | assumption)); conv => lhs; whnf) | apply o_no rfl | refine o_b rfl rfl rfl (by constructor; omega) ?_ | refine o_f rfl rfl rfl (by constructor; omega) ?_ | refine o_s rfl rfl rfl (by constructor; first | omega | assumption) ?_ | refine o_t rfl rfl rfl (by constructor; assumption) ?_ | (apply o_easy rfl rfl rfl; conv => lhs; whnf) | apply o_non rfl))
      refine o_call rfl (evAll2 d4 n4) hn ?_
      (repeat (first | ((first | apply o_move rfl rfl | apply o_easy1 rfl rfl rfl | apply o_ld rfl rfl (by assumption) (by first | rfl | assumption)); conv => lhs; whnf) | apply o_no rfl | refine o_b rfl rfl rfl (by constructor; omega) ?_ | refine o_f rfl rfl rfl (by constructor; omega) ?_ | refine o_s rfl rfl rfl (by constructor; first | omega | assumption) ?_ | refine o_t rfl rfl rfl (by constructor; assumption) ?_ | (apply o_easy rfl rfl rfl; conv => lhs; whnf) | apply o_non rfl))
      (apply d_end rfl; (repeat (first | exact OutS.nil | exact GetS.hit | exact PutS.hit | apply GetS.miss rfl | apply PutS.miss rfl | apply OutS.cons | apply OutS.skip rfl)))
      cases hyv : eqL p.yes q.yes with
      | false =>
        have hf : eqL l l2 = false := by rw [heq, hT, hyv]; simp
        ((repeat refine c_seq ?_); refine c_drawn ?_; (repeat (first | ((first | apply o_move rfl rfl | apply o_easy1 rfl rfl rfl | apply o_ld rfl rfl (by assumption) (by first | rfl | assumption)); conv => lhs; whnf) | apply o_no rfl | refine o_b rfl rfl rfl (by constructor; omega) ?_ | refine o_f rfl rfl rfl (by constructor; omega) ?_ | refine o_s rfl rfl rfl (by constructor; first | omega | assumption) ?_ | refine o_t rfl rfl rfl (by constructor; assumption) ?_ | (apply o_easy rfl rfl rfl; conv => lhs; whnf) | apply o_non rfl)); apply d_end rfl; (repeat (first | exact OutS.nil | exact GetS.hit | exact PutS.hit | apply GetS.miss rfl | apply PutS.miss rfl | apply OutS.cons | apply OutS.skip rfl)))
        ((repeat refine c_seq ?_); refine c_if rfl ?_)
        ((repeat refine c_seq ?_); refine c_region ?_; (repeat (first | ((first | apply o_move rfl rfl | apply o_easy1 rfl rfl rfl | apply o_ld rfl rfl (by assumption) (by first | rfl | assumption)); conv => lhs; whnf) | apply o_no rfl | refine o_b rfl rfl rfl (by constructor; omega) ?_ | refine o_f rfl rfl rfl (by constructor; omega) ?_ | refine o_s rfl rfl rfl (by constructor; first | omega | assumption) ?_ | refine o_t rfl rfl rfl (by constructor; assumption) ?_ | (apply o_easy rfl rfl rfl; conv => lhs; whnf) | apply o_non rfl)); apply o_end; (repeat (first | exact OutS.nil | exact GetS.hit | exact PutS.hit | apply GetS.miss rfl | apply PutS.miss rfl | apply OutS.cons | apply OutS.skip rfl)))
        exact c_ret (hbad hf _ rfl)
      | true =>
        cases hnv : eqL p.no q.no with
        | false =>
          have hf : eqL l l2 = false := by rw [heq, hT, hnv]; simp
          ((repeat refine c_seq ?_); refine c_drawn ?_; (repeat (first | ((first | apply o_move rfl rfl | apply o_easy1 rfl rfl rfl | apply o_ld rfl rfl (by assumption) (by first | rfl | assumption)); conv => lhs; whnf) | apply o_no rfl | refine o_b rfl rfl rfl (by constructor; omega) ?_ | refine o_f rfl rfl rfl (by constructor; omega) ?_ | refine o_s rfl rfl rfl (by constructor; first | omega | assumption) ?_ | refine o_t rfl rfl rfl (by constructor; assumption) ?_ | (apply o_easy rfl rfl rfl; conv => lhs; whnf) | apply o_non rfl)); apply d_end rfl; (repeat (first | exact OutS.nil | exact GetS.hit | exact PutS.hit | apply GetS.miss rfl | apply PutS.miss rfl | apply OutS.cons | apply OutS.skip rfl)))
          ((repeat refine c_seq ?_); refine c_if rfl ?_)
          ((repeat refine c_seq ?_); refine c_region ?_; (repeat (first | ((first | apply o_move rfl rfl | apply o_easy1 rfl rfl rfl | apply o_ld rfl rfl (by assumption) (by first | rfl | assumption)); conv => lhs; whnf) | apply o_no rfl | refine o_b rfl rfl rfl (by constructor; omega) ?_ | refine o_f rfl rfl rfl (by constructor; omega) ?_ | refine o_s rfl rfl rfl (by constructor; first | omega | assumption) ?_ | refine o_t rfl rfl rfl (by constructor; assumption) ?_ | (apply o_easy rfl rfl rfl; conv => lhs; whnf) | apply o_non rfl)); apply o_end; (repeat (first | exact OutS.nil | exact GetS.hit | exact PutS.hit | apply GetS.miss rfl | apply PutS.miss rfl | apply OutS.cons | apply OutS.skip rfl)))
          exact c_ret (hbad hf _ rfl)
        | true =>
          by_cases h0 : p.kind = q.kind
          · by_cases h1 : p.text = q.text
            · by_cases h2 : p.num = q.num
              · ((repeat refine c_seq ?_); refine c_drawn ?_; (repeat (first | ((first | apply o_move rfl rfl | apply o_easy1 rfl rfl rfl | apply o_ld rfl rfl (by assumption) (by first | rfl | assumption)); conv => lhs; whnf) | apply o_no rfl | refine o_b rfl rfl rfl (by constructor; omega) ?_ | refine o_f rfl rfl rfl (by constructor; omega) ?_ | refine o_s rfl rfl rfl (by constructor; first | omega | assumption) ?_ | refine o_t rfl rfl rfl (by constructor; assumption) ?_ | (apply o_easy rfl rfl rfl; conv => lhs; whnf) | apply o_non rfl)))
                refine o_ixvec (j := k) rfl rfl rfl rfl (avs_get hget) (beq_of (cells_len p)) ?_
                refine o_fapin rfl rfl (cells_0 p) ?_
                refine o_ldpin1 rfl rfl rfl ?_
                (repeat (first | ((first | apply o_move rfl rfl | apply o_easy1 rfl rfl rfl | apply o_ld rfl rfl (by assumption) (by first | rfl | assumption)); conv => lhs; whnf) | apply o_no rfl | refine o_b rfl rfl rfl (by constructor; omega) ?_ | refine o_f rfl rfl rfl (by constructor; omega) ?_ | refine o_s rfl rfl rfl (by constructor; first | omega | assumption) ?_ | refine o_t rfl rfl rfl (by constructor; assumption) ?_ | (apply o_easy rfl rfl rfl; conv => lhs; whnf) | apply o_non rfl))
                refine o_ixms (j := k) rfl rfl rfl rfl (by omega) hc rfl ?_
                (repeat (first | ((first | apply o_move rfl rfl | apply o_easy1 rfl rfl rfl | apply o_ld rfl rfl (by assumption) (by first | rfl | assumption)); conv => lhs; whnf) | apply o_no rfl | refine o_b rfl rfl rfl (by constructor; omega) ?_ | refine o_f rfl rfl rfl (by constructor; omega) ?_ | refine o_s rfl rfl rfl (by constructor; first | omega | assumption) ?_ | refine o_t rfl rfl rfl (by constructor; assumption) ?_ | (apply o_easy rfl rfl rfl; conv => lhs; whnf) | apply o_non rfl))
                refine o_ixvec (j := k) rfl rfl rfl rfl (avs_get hget) (beq_of (cells_len p)) ?_
                refine o_fapin rfl rfl (cells_1 p) ?_
                refine o_ldpin1 rfl rfl rfl ?_
                (repeat (first | ((first | apply o_move rfl rfl | apply o_easy1 rfl rfl rfl | apply o_ld rfl rfl (by assumption) (by first | rfl | assumption)); conv => lhs; whnf) | apply o_no rfl | refine o_b rfl rfl rfl (by constructor; omega) ?_ | refine o_f rfl rfl rfl (by constructor; omega) ?_ | refine o_s rfl rfl rfl (by constructor; first | omega | assumption) ?_ | refine o_t rfl rfl rfl (by constructor; assumption) ?_ | (apply o_easy rfl rfl rfl; conv => lhs; whnf) | apply o_non rfl))
                refine o_ixms (j := k) rfl rfl rfl rfl (by omega) hc rfl ?_
                (first | ((first | apply o_move rfl rfl | apply o_easy1 rfl rfl rfl | apply o_ld rfl rfl (by assumption) (by first | rfl | assumption)); conv => lhs; whnf) | apply o_no rfl | refine o_b rfl rfl rfl (by constructor; omega) ?_ | refine o_f rfl rfl rfl (by constructor; omega) ?_ | refine o_s rfl rfl rfl (by constructor; first | omega | assumption) ?_ | refine o_t rfl rfl rfl (by constructor; assumption) ?_ | (apply o_easy rfl rfl rfl; conv => lhs; whnf) | apply o_non rfl)
                (first | ((first | apply o_move rfl rfl | apply o_easy1 rfl rfl rfl | apply o_ld rfl rfl (by assumption) (by first | rfl | assumption)); conv => lhs; whnf) | apply o_no rfl | refine o_b rfl rfl rfl (by constructor; omega) ?_ | refine o_f rfl rfl rfl (by constructor; omega) ?_ | refine o_s rfl rfl rfl (by constructor; first | omega | assumption) ?_ | refine o_t rfl rfl rfl (by constructor; assumption) ?_ | (apply o_easy rfl rfl rfl; conv => lhs; whnf) | apply o_non rfl)
                refine o_sneq_f rfl rfl rfl h1 ?_
                (repeat (first | ((first | apply o_move rfl rfl | apply o_easy1 rfl rfl rfl | apply o_ld rfl rfl (by assumption) (by first | rfl | assumption)); conv => lhs; whnf) | apply o_no rfl | refine o_b rfl rfl rfl (by constructor; omega) ?_ | refine o_f rfl rfl rfl (by constructor; omega) ?_ | refine o_s rfl rfl rfl (by constructor; first | omega | assumption) ?_ | refine o_t rfl rfl rfl (by constructor; assumption) ?_ | (apply o_easy rfl rfl rfl; conv => lhs; whnf) | apply o_non rfl))
                refine o_ixvec (j := k) rfl rfl rfl rfl (avs_get hget) (beq_of (cells_len p)) ?_
                refine o_fapin rfl rfl (cells_n p) ?_
                refine o_ldpin1 rfl rfl rfl ?_
                (repeat (first | ((first | apply o_move rfl rfl | apply o_easy1 rfl rfl rfl | apply o_ld rfl rfl (by assumption) (by first | rfl | assumption)); conv => lhs; whnf) | apply o_no rfl | refine o_b rfl rfl rfl (by constructor; omega) ?_ | refine o_f rfl rfl rfl (by constructor; omega) ?_ | refine o_s rfl rfl rfl (by constructor; first | omega | assumption) ?_ | refine o_t rfl rfl rfl (by constructor; assumption) ?_ | (apply o_easy rfl rfl rfl; conv => lhs; whnf) | apply o_non rfl))
                refine o_ixms (j := k) rfl rfl rfl rfl (by omega) hc rfl ?_
                (repeat (first | ((first | apply o_move rfl rfl | apply o_easy1 rfl rfl rfl | apply o_ld rfl rfl (by assumption) (by first | rfl | assumption)); conv => lhs; whnf) | apply o_no rfl | refine o_b rfl rfl rfl (by constructor; omega) ?_ | refine o_f rfl rfl rfl (by constructor; omega) ?_ | refine o_s rfl rfl rfl (by constructor; first | omega | assumption) ?_ | refine o_t rfl rfl rfl (by constructor; assumption) ?_ | (apply o_easy rfl rfl rfl; conv => lhs; whnf) | apply o_non rfl))
                (repeat (first | ((first | apply o_move rfl rfl | apply o_easy1 rfl rfl rfl | apply o_ld rfl rfl (by assumption) (by first | rfl | assumption)); conv => lhs; whnf) | apply o_no rfl | refine o_b rfl rfl rfl (by constructor; omega) ?_ | refine o_f rfl rfl rfl (by constructor; omega) ?_ | refine o_s rfl rfl rfl (by constructor; first | omega | assumption) ?_ | refine o_t rfl rfl rfl (by constructor; assumption) ?_ | (apply o_easy rfl rfl rfl; conv => lhs; whnf) | apply o_non rfl))
                (apply d_end rfl; (repeat (first | exact OutS.nil | exact GetS.hit | exact PutS.hit | apply GetS.miss rfl | apply PutS.miss rfl | apply OutS.cons | apply OutS.skip rfl)))
                ((repeat refine c_seq ?_); refine c_else rfl ?_)
                refine c_skip ?_
                ((repeat refine c_seq ?_); refine c_region ?_; (repeat (first | ((first | apply o_move rfl rfl | apply o_easy1 rfl rfl rfl | apply o_ld rfl rfl (by assumption) (by first | rfl | assumption)); conv => lhs; whnf) | apply o_no rfl | refine o_b rfl rfl rfl (by constructor; omega) ?_ | refine o_f rfl rfl rfl (by constructor; omega) ?_ | refine o_s rfl rfl rfl (by constructor; first | omega | assumption) ?_ | refine o_t rfl rfl rfl (by constructor; assumption) ?_ | (apply o_easy rfl rfl rfl; conv => lhs; whnf) | apply o_non rfl)); apply o_end; (repeat (first | exact OutS.nil | exact GetS.hit | exact PutS.hit | apply GetS.miss rfl | apply PutS.miss rfl | apply OutS.cons | apply OutS.skip rfl)))
                refine ih (d1 ++ [p]) (d2 ++ [q]) rest2 (k + 1) L _ _ _ _ (by rw [hl]; simp) (by rw [hl2]; simp) (by simp [hd]) (by simp [hk]) ?_ (by simp at hL ⊢; omega)
                rw [eqL_app d1 d2 _ _ hd, he]
                simp [eqL, hT, hyv, hnv, h0, h1, h2]
              · have hf : eqL l l2 = false := by rw [heq, hT]; simp [h2]
                ((repeat refine c_seq ?_); refine c_drawn ?_; (repeat (first | ((first | apply o_move rfl rfl | apply o_easy1 rfl rfl rfl | apply o_ld rfl rfl (by assumption) (by first | rfl | assumption)); conv => lhs; whnf) | apply o_no rfl | refine o_b rfl rfl rfl (by constructor; omega) ?_ | refine o_f rfl rfl rfl (by constructor; omega) ?_ | refine o_s rfl rfl rfl (by constructor; first | omega | assumption) ?_ | refine o_t rfl rfl rfl (by constructor; assumption) ?_ | (apply o_easy rfl rfl rfl; conv => lhs; whnf) | apply o_non rfl)))
                refine o_ixvec (j := k) rfl rfl rfl rfl (avs_get hget) (beq_of (cells_len p)) ?_
                refine o_fapin rfl rfl (cells_0 p) ?_
                refine o_ldpin1 rfl rfl rfl ?_
                (repeat (first | ((first | apply o_move rfl rfl | apply o_easy1 rfl rfl rfl | apply o_ld rfl rfl (by assumption) (by first | rfl | assumption)); conv => lhs; whnf) | apply o_no rfl | refine o_b rfl rfl rfl (by constructor; omega) ?_ | refine o_f rfl rfl rfl (by constructor; omega) ?_ | refine o_s rfl rfl rfl (by constructor; first | omega | assumption) ?_ | refine o_t rfl rfl rfl (by constructor; assumption) ?_ | (apply o_easy rfl rfl rfl; conv => lhs; whnf) | apply o_non rfl))
                refine o_ixms (j := k) rfl rfl rfl rfl (by omega) hc rfl ?_
                (repeat (first | ((first | apply o_move rfl rfl | apply o_easy1 rfl rfl rfl | apply o_ld rfl rfl (by assumption) (by first | rfl | assumption)); conv => lhs; whnf) | apply o_no rfl | refine o_b rfl rfl rfl (by constructor; omega) ?_ | refine o_f rfl rfl rfl (by constructor; omega) ?_ | refine o_s rfl rfl rfl (by constructor; first | omega | assumption) ?_ | refine o_t rfl rfl rfl (by constructor; assumption) ?_ | (apply o_easy rfl rfl rfl; conv => lhs; whnf) | apply o_non rfl))
                refine o_ixvec (j := k) rfl rfl rfl rfl (avs_get hget) (beq_of (cells_len p)) ?_
                refine o_fapin rfl rfl (cells_1 p) ?_
                refine o_ldpin1 rfl rfl rfl ?_
                (repeat (first | ((first | apply o_move rfl rfl | apply o_easy1 rfl rfl rfl | apply o_ld rfl rfl (by assumption) (by first | rfl | assumption)); conv => lhs; whnf) | apply o_no rfl | refine o_b rfl rfl rfl (by constructor; omega) ?_ | refine o_f rfl rfl rfl (by constructor; omega) ?_ | refine o_s rfl rfl rfl (by constructor; first | omega | assumption) ?_ | refine o_t rfl rfl rfl (by constructor; assumption) ?_ | (apply o_easy rfl rfl rfl; conv => lhs; whnf) | apply o_non rfl))
                refine o_ixms (j := k) rfl rfl rfl rfl (by omega) hc rfl ?_
                (first | ((first | apply o_move rfl rfl | apply o_easy1 rfl rfl rfl | apply o_ld rfl rfl (by assumption) (by first | rfl | assumption)); conv => lhs; whnf) | apply o_no rfl | refine o_b rfl rfl rfl (by constructor; omega) ?_ | refine o_f rfl rfl rfl (by constructor; omega) ?_ | refine o_s rfl rfl rfl (by constructor; first | omega | assumption) ?_ | refine o_t rfl rfl rfl (by constructor; assumption) ?_ | (apply o_easy rfl rfl rfl; conv => lhs; whnf) | apply o_non rfl)
                (first | ((first | apply o_move rfl rfl | apply o_easy1 rfl rfl rfl | apply o_ld rfl rfl (by assumption) (by first | rfl | assumption)); conv => lhs; whnf) | apply o_no rfl | refine o_b rfl rfl rfl (by constructor; omega) ?_ | refine o_f rfl rfl rfl (by constructor; omega) ?_ | refine o_s rfl rfl rfl (by constructor; first | omega | assumption) ?_ | refine o_t rfl rfl rfl (by constructor; assumption) ?_ | (apply o_easy rfl rfl rfl; conv => lhs; whnf) | apply o_non rfl)
                refine o_sneq_f rfl rfl rfl h1 ?_
                (repeat (first | ((first | apply o_move rfl rfl | apply o_easy1 rfl rfl rfl | apply o_ld rfl rfl (by assumption) (by first | rfl | assumption)); conv => lhs; whnf) | apply o_no rfl | refine o_b rfl rfl rfl (by constructor; omega) ?_ | refine o_f rfl rfl rfl (by constructor; omega) ?_ | refine o_s rfl rfl rfl (by constructor; first | omega | assumption) ?_ | refine o_t rfl rfl rfl (by constructor; assumption) ?_ | (apply o_easy rfl rfl rfl; conv => lhs; whnf) | apply o_non rfl))
                refine o_ixvec (j := k) rfl rfl rfl rfl (avs_get hget) (beq_of (cells_len p)) ?_
                refine o_fapin rfl rfl (cells_n p) ?_
                refine o_ldpin1 rfl rfl rfl ?_
                (repeat (first | ((first | apply o_move rfl rfl | apply o_easy1 rfl rfl rfl | apply o_ld rfl rfl (by assumption) (by first | rfl | assumption)); conv => lhs; whnf) | apply o_no rfl | refine o_b rfl rfl rfl (by constructor; omega) ?_ | refine o_f rfl rfl rfl (by constructor; omega) ?_ | refine o_s rfl rfl rfl (by constructor; first | omega | assumption) ?_ | refine o_t rfl rfl rfl (by constructor; assumption) ?_ | (apply o_easy rfl rfl rfl; conv => lhs; whnf) | apply o_non rfl))
                refine o_ixms (j := k) rfl rfl rfl rfl (by omega) hc rfl ?_
                (repeat (first | ((first | apply o_move rfl rfl | apply o_easy1 rfl rfl rfl | apply o_ld rfl rfl (by assumption) (by first | rfl | assumption)); conv => lhs; whnf) | apply o_no rfl | refine o_b rfl rfl rfl (by constructor; omega) ?_ | refine o_f rfl rfl rfl (by constructor; omega) ?_ | refine o_s rfl rfl rfl (by constructor; first | omega | assumption) ?_ | refine o_t rfl rfl rfl (by constructor; assumption) ?_ | (apply o_easy rfl rfl rfl; conv => lhs; whnf) | apply o_non rfl))
                (repeat (first | ((first | apply o_move rfl rfl | apply o_easy1 rfl rfl rfl | apply o_ld rfl rfl (by assumption) (by first | rfl | assumption)); conv => lhs; whnf) | apply o_no rfl | refine o_b rfl rfl rfl (by constructor; omega) ?_ | refine o_f rfl rfl rfl (by constructor; omega) ?_ | refine o_s rfl rfl rfl (by constructor; first | omega | assumption) ?_ | refine o_t rfl rfl rfl (by constructor; assumption) ?_ | (apply o_easy rfl rfl rfl; conv => lhs; whnf) | apply o_non rfl))
                (apply d_end rfl; (repeat (first | exact OutS.nil | exact GetS.hit | exact PutS.hit | apply GetS.miss rfl | apply PutS.miss rfl | apply OutS.cons | apply OutS.skip rfl)))
                ((repeat refine c_seq ?_); refine c_if rfl ?_)
                ((repeat refine c_seq ?_); refine c_region ?_; (repeat (first | ((first | apply o_move rfl rfl | apply o_easy1 rfl rfl rfl | apply o_ld rfl rfl (by assumption) (by first | rfl | assumption)); conv => lhs; whnf) | apply o_no rfl | refine o_b rfl rfl rfl (by constructor; omega) ?_ | refine o_f rfl rfl rfl (by constructor; omega) ?_ | refine o_s rfl rfl rfl (by constructor; first | omega | assumption) ?_ | refine o_t rfl rfl rfl (by constructor; assumption) ?_ | (apply o_easy rfl rfl rfl; conv => lhs; whnf) | apply o_non rfl)); apply o_end; (repeat (first | exact OutS.nil | exact GetS.hit | exact PutS.hit | apply GetS.miss rfl | apply PutS.miss rfl | apply OutS.cons | apply OutS.skip rfl)))
                exact c_ret (hbad hf _ rfl)
            · have hf : eqL l l2 = false := by rw [heq, hT]; simp [h1]
              ((repeat refine c_seq ?_); refine c_drawn ?_; (repeat (first | ((first | apply o_move rfl rfl | apply o_easy1 rfl rfl rfl | apply o_ld rfl rfl (by assumption) (by first | rfl | assumption)); conv => lhs; whnf) | apply o_no rfl | refine o_b rfl rfl rfl (by constructor; omega) ?_ | refine o_f rfl rfl rfl (by constructor; omega) ?_ | refine o_s rfl rfl rfl (by constructor; first | omega | assumption) ?_ | refine o_t rfl rfl rfl (by constructor; assumption) ?_ | (apply o_easy rfl rfl rfl; conv => lhs; whnf) | apply o_non rfl)))
              refine o_ixvec (j := k) rfl rfl rfl rfl (avs_get hget) (beq_of (cells_len p)) ?_
              refine o_fapin rfl rfl (cells_0 p) ?_
              refine o_ldpin1 rfl rfl rfl ?_
              (repeat (first | ((first | apply o_move rfl rfl | apply o_easy1 rfl rfl rfl | apply o_ld rfl rfl (by assumption) (by first | rfl | assumption)); conv => lhs; whnf) | apply o_no rfl | refine o_b rfl rfl rfl (by constructor; omega) ?_ | refine o_f rfl rfl rfl (by constructor; omega) ?_ | refine o_s rfl rfl rfl (by constructor; first | omega | assumption) ?_ | refine o_t rfl rfl rfl (by constructor; assumption) ?_ | (apply o_easy rfl rfl rfl; conv => lhs; whnf) | apply o_non rfl))
              refine o_ixms (j := k) rfl rfl rfl rfl (by omega) hc rfl ?_
              (repeat (first | ((first | apply o_move rfl rfl | apply o_easy1 rfl rfl rfl | apply o_ld rfl rfl (by assumption) (by first | rfl | assumption)); conv => lhs; whnf) | apply o_no rfl | refine o_b rfl rfl rfl (by constructor; omega) ?_ | refine o_f rfl rfl rfl (by constructor; omega) ?_ | refine o_s rfl rfl rfl (by constructor; first | omega | assumption) ?_ | refine o_t rfl rfl rfl (by constructor; assumption) ?_ | (apply o_easy rfl rfl rfl; conv => lhs; whnf) | apply o_non rfl))
              refine o_ixvec (j := k) rfl rfl rfl rfl (avs_get hget) (beq_of (cells_len p)) ?_
              refine o_fapin rfl rfl (cells_1 p) ?_
              refine o_ldpin1 rfl rfl rfl ?_
              (repeat (first | ((first | apply o_move rfl rfl | apply o_easy1 rfl rfl rfl | apply o_ld rfl rfl (by assumption) (by first | rfl | assumption)); conv => lhs; whnf) | apply o_no rfl | refine o_b rfl rfl rfl (by constructor; omega) ?_ | refine o_f rfl rfl rfl (by constructor; omega) ?_ | refine o_s rfl rfl rfl (by constructor; first | omega | assumption) ?_ | refine o_t rfl rfl rfl (by constructor; assumption) ?_ | (apply o_easy rfl rfl rfl; conv => lhs; whnf) | apply o_non rfl))
              refine o_ixms (j := k) rfl rfl rfl rfl (by omega) hc rfl ?_
              (first | ((first | apply o_move rfl rfl | apply o_easy1 rfl rfl rfl | apply o_ld rfl rfl (by assumption) (by first | rfl | assumption)); conv => lhs; whnf) | apply o_no rfl | refine o_b rfl rfl rfl (by constructor; omega) ?_ | refine o_f rfl rfl rfl (by constructor; omega) ?_ | refine o_s rfl rfl rfl (by constructor; first | omega | assumption) ?_ | refine o_t rfl rfl rfl (by constructor; assumption) ?_ | (apply o_easy rfl rfl rfl; conv => lhs; whnf) | apply o_non rfl)
              (first | ((first | apply o_move rfl rfl | apply o_easy1 rfl rfl rfl | apply o_ld rfl rfl (by assumption) (by first | rfl | assumption)); conv => lhs; whnf) | apply o_no rfl | refine o_b rfl rfl rfl (by constructor; omega) ?_ | refine o_f rfl rfl rfl (by constructor; omega) ?_ | refine o_s rfl rfl rfl (by constructor; first | omega | assumption) ?_ | refine o_t rfl rfl rfl (by constructor; assumption) ?_ | (apply o_easy rfl rfl rfl; conv => lhs; whnf) | apply o_non rfl)
              refine o_sneq_t rfl rfl rfl h1 ?_
              (repeat (first | ((first | apply o_move rfl rfl | apply o_easy1 rfl rfl rfl | apply o_ld rfl rfl (by assumption) (by first | rfl | assumption)); conv => lhs; whnf) | apply o_no rfl | refine o_b rfl rfl rfl (by constructor; omega) ?_ | refine o_f rfl rfl rfl (by constructor; omega) ?_ | refine o_s rfl rfl rfl (by constructor; first | omega | assumption) ?_ | refine o_t rfl rfl rfl (by constructor; assumption) ?_ | (apply o_easy rfl rfl rfl; conv => lhs; whnf) | apply o_non rfl))
              (apply d_end rfl; (repeat (first | exact OutS.nil | exact GetS.hit | exact PutS.hit | apply GetS.miss rfl | apply PutS.miss rfl | apply OutS.cons | apply OutS.skip rfl)))
              ((repeat refine c_seq ?_); refine c_if rfl ?_)
              ((repeat refine c_seq ?_); refine c_region ?_; (repeat (first | ((first | apply o_move rfl rfl | apply o_easy1 rfl rfl rfl | apply o_ld rfl rfl (by assumption) (by first | rfl | assumption)); conv => lhs; whnf) | apply o_no rfl | refine o_b rfl rfl rfl (by constructor; omega) ?_ | refine o_f rfl rfl rfl (by constructor; omega) ?_ | refine o_s rfl rfl rfl (by constructor; first | omega | assumption) ?_ | refine o_t rfl rfl rfl (by constructor; assumption) ?_ | (apply o_easy rfl rfl rfl; conv => lhs; whnf) | apply o_non rfl)); apply o_end; (repeat (first | exact OutS.nil | exact GetS.hit | exact PutS.hit | apply GetS.miss rfl | apply PutS.miss rfl | apply OutS.cons | apply OutS.skip rfl)))
              exact c_ret (hbad hf _ rfl)
          · have hf : eqL l l2 = false := by rw [heq, hT]; simp [h0]
            ((repeat refine c_seq ?_); refine c_drawn ?_; (repeat (first | ((first | apply o_move rfl rfl | apply o_easy1 rfl rfl rfl | apply o_ld rfl rfl (by assumption) (by first | rfl | assumption)); conv => lhs; whnf) | apply o_no rfl | refine o_b rfl rfl rfl (by constructor; omega) ?_ | refine o_f rfl rfl rfl (by constructor; omega) ?_ | refine o_s rfl rfl rfl (by constructor; first | omega | assumption) ?_ | refine o_t rfl rfl rfl (by constructor; assumption) ?_ | (apply o_easy rfl rfl rfl; conv => lhs; whnf) | apply o_non rfl)))
            refine o_ixvec (j := k) rfl rfl rfl rfl (avs_get hget) (beq_of (cells_len p)) ?_
            refine o_fapin rfl rfl (cells_0 p) ?_
            refine o_ldpin1 rfl rfl rfl ?_
            (repeat (first | ((first | apply o_move rfl rfl | apply o_easy1 rfl rfl rfl | apply o_ld rfl rfl (by assumption) (by first | rfl | assumption)); conv => lhs; whnf) | apply o_no rfl | refine o_b rfl rfl rfl (by constructor; omega) ?_ | refine o_f rfl rfl rfl (by constructor; omega) ?_ | refine o_s rfl rfl rfl (by constructor; first | omega | assumption) ?_ | refine o_t rfl rfl rfl (by constructor; assumption) ?_ | (apply o_easy rfl rfl rfl; conv => lhs; whnf) | apply o_non rfl))
            refine o_ixms (j := k) rfl rfl rfl rfl (by omega) hc rfl ?_
            (repeat (first | ((first | apply o_move rfl rfl | apply o_easy1 rfl rfl rfl | apply o_ld rfl rfl (by assumption) (by first | rfl | assumption)); conv => lhs; whnf) | apply o_no rfl | refine o_b rfl rfl rfl (by constructor; omega) ?_ | refine o_f rfl rfl rfl (by constructor; omega) ?_ | refine o_s rfl rfl rfl (by constructor; first | omega | assumption) ?_ | refine o_t rfl rfl rfl (by constructor; assumption) ?_ | (apply o_easy rfl rfl rfl; conv => lhs; whnf) | apply o_non rfl))
            (apply d_end rfl; (repeat (first | exact OutS.nil | exact GetS.hit | exact PutS.hit | apply GetS.miss rfl | apply PutS.miss rfl | apply OutS.cons | apply OutS.skip rfl)))
            ((repeat refine c_seq ?_); refine c_if rfl ?_)
            ((repeat refine c_seq ?_); refine c_region ?_; (repeat (first | ((first | apply o_move rfl rfl | apply o_easy1 rfl rfl rfl | apply o_ld rfl rfl (by assumption) (by first | rfl | assumption)); conv => lhs; whnf) | apply o_no rfl | refine o_b rfl rfl rfl (by constructor; omega) ?_ | refine o_f rfl rfl rfl (by constructor; omega) ?_ | refine o_s rfl rfl rfl (by constructor; first | omega | assumption) ?_ | refine o_t rfl rfl rfl (by constructor; assumption) ?_ | (apply o_easy rfl rfl rfl; conv => lhs; whnf) | apply o_non rfl)); apply o_end; (repeat (first | exact OutS.nil | exact GetS.hit | exact PutS.hit | apply GetS.miss rfl | apply PutS.miss rfl | apply OutS.cons | apply OutS.skip rfl)))
            exact c_ret (hbad hf _ rfl)


end Go.Tpl

namespace Go.Tpl
open Go Go.Am Go.Proofs

theorem same_ok (l : List Tp) (N : Nat) (hN : ∀ p ∈ l, (∀ x, SameAt p.yes x N) ∧ (∀ x, SameAt p.no x N)) (hll : l.length < 2 ^ 40) (l2 : List Tp) : SameAt l l2 (N + l.length + 10) := by
  intro m hm b s A a c ha hv
  obtain ⟨m, rfl⟩ : ∃ m', m = m' + 1 := ⟨m - 1, by omega⟩
  have hal := avs_len l
  apply fin_eq
  rcases hv with ⟨rfl, rfl⟩ | ⟨i2, g2, rs, rfl, _, hc, hr⟩
  · have hw0 : AV.weakAll [a, .nilsl] = [.vec (avs l) .shut, .vec [] .shut] := by
      simp only [AV.weakAll, ha]; rfl
    apply f_wp rfl rfl
    · show Shape (bindArgs (AV.weakAll [a, .nilsl]) _) _
      rw [hw0]
      repeat (first | exact Shape.nil | (apply Shape.cons; conv => lhs; whnf))
    cases l with
    | nil =>
      ((repeat refine c_seq ?_); refine c_region ?_; (repeat (first | ((first | apply o_move rfl rfl | apply o_easy1 rfl rfl rfl | apply o_ld rfl rfl (by assumption) (by first | rfl | assumption)); conv => lhs; whnf) | apply o_no rfl | refine o_b rfl rfl rfl (by constructor; omega) ?_ | refine o_f rfl rfl rfl (by constructor; omega) ?_ | refine o_s rfl rfl rfl (by constructor; first | omega | assumption) ?_ | refine o_t rfl rfl rfl (by constructor; assumption) ?_ | (apply o_easy rfl rfl rfl; conv => lhs; whnf) | apply o_non rfl)); apply o_end; (repeat (first | exact OutS.nil | exact GetS.hit | exact PutS.hit | apply GetS.miss rfl | apply PutS.miss rfl | apply OutS.cons | apply OutS.skip rfl)))
      ((repeat refine c_seq ?_); refine c_region ?_; (repeat (first | ((first | apply o_move rfl rfl | apply o_easy1 rfl rfl rfl | apply o_ld rfl rfl (by assumption) (by first | rfl | assumption)); conv => lhs; whnf) | apply o_no rfl | refine o_b rfl rfl rfl (by constructor; omega) ?_ | refine o_f rfl rfl rfl (by constructor; omega) ?_ | refine o_s rfl rfl rfl (by constructor; first | omega | assumption) ?_ | refine o_t rfl rfl rfl (by constructor; assumption) ?_ | (apply o_easy rfl rfl rfl; conv => lhs; whnf) | apply o_non rfl)); apply o_end; (repeat (first | exact OutS.nil | exact GetS.hit | exact PutS.hit | apply GetS.miss rfl | apply PutS.miss rfl | apply OutS.cons | apply OutS.skip rfl)))
      ((repeat refine c_seq ?_); refine c_else rfl ?_)
      refine c_skip ?_
      ((repeat refine c_seq ?_); refine c_region ?_; (repeat (first | ((first | apply o_move rfl rfl | apply o_easy1 rfl rfl rfl | apply o_ld rfl rfl (by assumption) (by first | rfl | assumption)); conv => lhs; whnf) | apply o_no rfl | refine o_b rfl rfl rfl (by constructor; omega) ?_ | refine o_f rfl rfl rfl (by constructor; omega) ?_ | refine o_s rfl rfl rfl (by constructor; first | omega | assumption) ?_ | refine o_t rfl rfl rfl (by constructor; assumption) ?_ | (apply o_easy rfl rfl rfl; conv => lhs; whnf) | apply o_non rfl)); apply o_end; (repeat (first | exact OutS.nil | exact GetS.hit | exact PutS.hit | apply GetS.miss rfl | apply PutS.miss rfl | apply OutS.cons | apply OutS.skip rfl)))
      ((repeat refine c_seq ?_); refine c_block ?_)
      refine c_loop (x := lp12_0) ?_
      obtain ⟨m, rfl⟩ : ∃ m', m = m' + 1 := ⟨m - 1, by omega⟩
      apply l_round
      ((repeat refine c_seq ?_); refine c_region ?_; (repeat (first | ((first | apply o_move rfl rfl | apply o_easy1 rfl rfl rfl | apply o_ld rfl rfl (by assumption) (by first | rfl | assumption)); conv => lhs; whnf) | apply o_no rfl | refine o_b rfl rfl rfl (by constructor; omega) ?_ | refine o_f rfl rfl rfl (by constructor; omega) ?_ | refine o_s rfl rfl rfl (by constructor; first | omega | assumption) ?_ | refine o_t rfl rfl rfl (by constructor; assumption) ?_ | (apply o_easy rfl rfl rfl; conv => lhs; whnf) | apply o_non rfl)); apply o_end; (repeat (first | exact OutS.nil | exact GetS.hit | exact PutS.hit | apply GetS.miss rfl | apply PutS.miss rfl | apply OutS.cons | apply OutS.skip rfl)))
      ((repeat refine c_seq ?_); refine c_else rfl ?_)
      refine c_exit ?_
      ((repeat refine c_seq ?_); refine c_region ?_; (repeat (first | ((first | apply o_move rfl rfl | apply o_easy1 rfl rfl rfl | apply o_ld rfl rfl (by assumption) (by first | rfl | assumption)); conv => lhs; whnf) | apply o_no rfl | refine o_b rfl rfl rfl (by constructor; omega) ?_ | refine o_f rfl rfl rfl (by constructor; omega) ?_ | refine o_s rfl rfl rfl (by constructor; first | omega | assumption) ?_ | refine o_t rfl rfl rfl (by constructor; assumption) ?_ | (apply o_easy rfl rfl rfl; conv => lhs; whnf) | apply o_non rfl)); apply o_end; (repeat (first | exact OutS.nil | exact GetS.hit | exact PutS.hit | apply GetS.miss rfl | apply PutS.miss rfl | apply OutS.cons | apply OutS.skip rfl)))
      exact c_ret ⟨_, _, rfl, by rw [eqL_nil]; rfl, rfl⟩
    | cons p r =>
      have he : eqL (p :: r) [] = false := by simp [eqL]
      have hpos : (p :: r).length = r.length + 1 := rfl
      rw [he]
      ((repeat refine c_seq ?_); refine c_region ?_; (repeat (first | ((first | apply o_move rfl rfl | apply o_easy1 rfl rfl rfl | apply o_ld rfl rfl (by assumption) (by first | rfl | assumption)); conv => lhs; whnf) | apply o_no rfl | refine o_b rfl rfl rfl (by constructor; omega) ?_ | refine o_f rfl rfl rfl (by constructor; omega) ?_ | refine o_s rfl rfl rfl (by constructor; first | omega | assumption) ?_ | refine o_t rfl rfl rfl (by constructor; assumption) ?_ | (apply o_easy rfl rfl rfl; conv => lhs; whnf) | apply o_non rfl)); apply o_end; (repeat (first | exact OutS.nil | exact GetS.hit | exact PutS.hit | apply GetS.miss rfl | apply PutS.miss rfl | apply OutS.cons | apply OutS.skip rfl)))
      ((repeat refine c_seq ?_); refine c_region ?_; (repeat (first | ((first | apply o_move rfl rfl | apply o_easy1 rfl rfl rfl | apply o_ld rfl rfl (by assumption) (by first | rfl | assumption)); conv => lhs; whnf) | apply o_no rfl | refine o_b rfl rfl rfl (by constructor; omega) ?_ | refine o_f rfl rfl rfl (by constructor; omega) ?_ | refine o_s rfl rfl rfl (by constructor; first | omega | assumption) ?_ | refine o_t rfl rfl rfl (by constructor; assumption) ?_ | (apply o_easy rfl rfl rfl; conv => lhs; whnf) | apply o_non rfl)); apply o_end; (repeat (first | exact OutS.nil | exact GetS.hit | exact PutS.hit | apply GetS.miss rfl | apply PutS.miss rfl | apply OutS.cons | apply OutS.skip rfl)))
      ((repeat refine c_seq ?_); refine c_if rfl ?_)
      ((repeat refine c_seq ?_); refine c_region ?_; (repeat (first | ((first | apply o_move rfl rfl | apply o_easy1 rfl rfl rfl | apply o_ld rfl rfl (by assumption) (by first | rfl | assumption)); conv => lhs; whnf) | apply o_no rfl | refine o_b rfl rfl rfl (by constructor; omega) ?_ | refine o_f rfl rfl rfl (by constructor; omega) ?_ | refine o_s rfl rfl rfl (by constructor; first | omega | assumption) ?_ | refine o_t rfl rfl rfl (by constructor; assumption) ?_ | (apply o_easy rfl rfl rfl; conv => lhs; whnf) | apply o_non rfl)); apply o_end; (repeat (first | exact OutS.nil | exact GetS.hit | exact PutS.hit | apply GetS.miss rfl | apply PutS.miss rfl | apply OutS.cons | apply OutS.skip rfl)))
      exact c_ret ⟨_, _, rfl, rfl, rfl⟩
  · have hw0 : AV.weakAll [a, .ms i2 g2 0 l2.length 5] = [.vec (avs l) .shut, .ms i2 g2 0 l2.length 5] := by
      simp only [AV.weakAll, ha]; rfl
    apply f_wp rfl rfl
    · show Shape (bindArgs (AV.weakAll [a, .ms i2 g2 0 l2.length 5]) _) _
      rw [hw0]
      repeat (first | exact Shape.nil | (apply Shape.cons; conv => lhs; whnf))
    by_cases hlen : l.length = l2.length
    · ((repeat refine c_seq ?_); refine c_region ?_; (repeat (first | ((first | apply o_move rfl rfl | apply o_easy1 rfl rfl rfl | apply o_ld rfl rfl (by assumption) (by first | rfl | assumption)); conv => lhs; whnf) | apply o_no rfl | refine o_b rfl rfl rfl (by constructor; omega) ?_ | refine o_f rfl rfl rfl (by constructor; omega) ?_ | refine o_s rfl rfl rfl (by constructor; first | omega | assumption) ?_ | refine o_t rfl rfl rfl (by constructor; assumption) ?_ | (apply o_easy rfl rfl rfl; conv => lhs; whnf) | apply o_non rfl)); apply o_end; (repeat (first | exact OutS.nil | exact GetS.hit | exact PutS.hit | apply GetS.miss rfl | apply PutS.miss rfl | apply OutS.cons | apply OutS.skip rfl)))
      ((repeat refine c_seq ?_); refine c_region ?_; (repeat (first | ((first | apply o_move rfl rfl | apply o_easy1 rfl rfl rfl | apply o_ld rfl rfl (by assumption) (by first | rfl | assumption)); conv => lhs; whnf) | apply o_no rfl | refine o_b rfl rfl rfl (by constructor; omega) ?_ | refine o_f rfl rfl rfl (by constructor; omega) ?_ | refine o_s rfl rfl rfl (by constructor; first | omega | assumption) ?_ | refine o_t rfl rfl rfl (by constructor; assumption) ?_ | (apply o_easy rfl rfl rfl; conv => lhs; whnf) | apply o_non rfl)); apply o_end; (repeat (first | exact OutS.nil | exact GetS.hit | exact PutS.hit | apply GetS.miss rfl | apply PutS.miss rfl | apply OutS.cons | apply OutS.skip rfl)))
      ((repeat refine c_seq ?_); refine c_else rfl ?_)
      refine c_skip ?_
      ((repeat refine c_seq ?_); refine c_region ?_; (repeat (first | ((first | apply o_move rfl rfl | apply o_easy1 rfl rfl rfl | apply o_ld rfl rfl (by assumption) (by first | rfl | assumption)); conv => lhs; whnf) | apply o_no rfl | refine o_b rfl rfl rfl (by constructor; omega) ?_ | refine o_f rfl rfl rfl (by constructor; omega) ?_ | refine o_s rfl rfl rfl (by constructor; first | omega | assumption) ?_ | refine o_t rfl rfl rfl (by constructor; assumption) ?_ | (apply o_easy rfl rfl rfl; conv => lhs; whnf) | apply o_non rfl)); apply o_end; (repeat (first | exact OutS.nil | exact GetS.hit | exact PutS.hit | apply GetS.miss rfl | apply PutS.miss rfl | apply OutS.cons | apply OutS.skip rfl)))
      ((repeat refine c_seq ?_); refine c_block ?_)
      refine c_loop (x := lp12_0) ?_
      refine same_loop m _ l l2 N hN (by omega) hll s A i2 g2 rs hc hr hlen ?_ ?_ l [] [] l2 0 m _ _ _ _ rfl rfl rfl rfl eqL_nil (by omega)
      · intro k x16 x6 x7 x85 he
        rw [he]
        ((repeat refine c_seq ?_); refine c_region ?_; (repeat (first | ((first | apply o_move rfl rfl | apply o_easy1 rfl rfl rfl | apply o_ld rfl rfl (by assumption) (by first | rfl | assumption)); conv => lhs; whnf) | apply o_no rfl | refine o_b rfl rfl rfl (by constructor; omega) ?_ | refine o_f rfl rfl rfl (by constructor; omega) ?_ | refine o_s rfl rfl rfl (by constructor; first | omega | assumption) ?_ | refine o_t rfl rfl rfl (by constructor; assumption) ?_ | (apply o_easy rfl rfl rfl; conv => lhs; whnf) | apply o_non rfl)); apply o_end; (repeat (first | exact OutS.nil | exact GetS.hit | exact PutS.hit | apply GetS.miss rfl | apply PutS.miss rfl | apply OutS.cons | apply OutS.skip rfl)))
        exact c_ret ⟨_, _, rfl, rfl, rfl⟩
      · intro he pers hp
        rw [he]
        exact fin_ret (.inl rfl) (read_tmp hp read_nil) (leave_pure (lay_cons rfl lay_nil) rfl) ⟨rfl, rfl⟩
    · rw [eqL_len l l2 hlen]
      ((repeat refine c_seq ?_); refine c_region ?_; (repeat (first | ((first | apply o_move rfl rfl | apply o_easy1 rfl rfl rfl | apply o_ld rfl rfl (by assumption) (by first | rfl | assumption)); conv => lhs; whnf) | apply o_no rfl | refine o_b rfl rfl rfl (by constructor; omega) ?_ | refine o_f rfl rfl rfl (by constructor; omega) ?_ | refine o_s rfl rfl rfl (by constructor; first | omega | assumption) ?_ | refine o_t rfl rfl rfl (by constructor; assumption) ?_ | (apply o_easy rfl rfl rfl; conv => lhs; whnf) | apply o_non rfl)); apply o_end; (repeat (first | exact OutS.nil | exact GetS.hit | exact PutS.hit | apply GetS.miss rfl | apply PutS.miss rfl | apply OutS.cons | apply OutS.skip rfl)))
      ((repeat refine c_seq ?_); refine c_region ?_; (repeat (first | ((first | apply o_move rfl rfl | apply o_easy1 rfl rfl rfl | apply o_ld rfl rfl (by assumption) (by first | rfl | assumption)); conv => lhs; whnf) | apply o_no rfl | refine o_b rfl rfl rfl (by constructor; omega) ?_ | refine o_f rfl rfl rfl (by constructor; omega) ?_ | refine o_s rfl rfl rfl (by constructor; first | omega | assumption) ?_ | refine o_t rfl rfl rfl (by constructor; assumption) ?_ | (apply o_easy rfl rfl rfl; conv => lhs; whnf) | apply o_non rfl)); apply o_end; (repeat (first | exact OutS.nil | exact GetS.hit | exact PutS.hit | apply GetS.miss rfl | apply PutS.miss rfl | apply OutS.cons | apply OutS.skip rfl)))
      ((repeat refine c_seq ?_); refine c_if rfl ?_)
      ((repeat refine c_seq ?_); refine c_region ?_; (repeat (first | ((first | apply o_move rfl rfl | apply o_easy1 rfl rfl rfl | apply o_ld rfl rfl (by assumption) (by first | rfl | assumption)); conv => lhs; whnf) | apply o_no rfl | refine o_b rfl rfl rfl (by constructor; omega) ?_ | refine o_f rfl rfl rfl (by constructor; omega) ?_ | refine o_s rfl rfl rfl (by constructor; first | omega | assumption) ?_ | refine o_t rfl rfl rfl (by constructor; assumption) ?_ | (apply o_easy rfl rfl rfl; conv => lhs; whnf) | apply o_non rfl)); apply o_end; (repeat (first | exact OutS.nil | exact GetS.hit | exact PutS.hit | apply GetS.miss rfl | apply PutS.miss rfl | apply OutS.cons | apply OutS.skip rfl)))
      exact c_ret ⟨_, _, rfl, rfl, rfl⟩

theorem SameAt.mono {l l2 : List Tp} {N N' : Nat} (h : SameAt l l2 N) (hn : N ≤ N') : SameAt l l2 N' := fun m hm => h m (by omega)

theorem same_nil : ∀ x, SameAt [] x 10 := fun x => same_ok [] 0 (fun p hp => by simp at hp) (by simp) x

mutual
theorem psame_ok : ∀ p : Tp, p.fine → ∃ N, (∀ x, SameAt p.yes x N) ∧ (∀ x, SameAt p.no x N)
  | .lit t, _ => ⟨10, same_nil, same_nil⟩
  | .group n, _ => ⟨10, same_nil, same_nil⟩
  | .els n no, h => by
    simp only [Tp.fine] at h
    obtain ⟨N, hN⟩ := lsame_ok no h.2
    exact ⟨N + no.length + 10, fun x => (same_nil x).mono (by omega), fun x => same_ok no N hN h.1 x⟩
  | .ifs n yes no, h => by
    simp only [Tp.fine] at h
    obtain ⟨N, hN⟩ := lsame_ok yes h.1.2
    obtain ⟨N', hN'⟩ := lsame_ok no h.2.2
    exact ⟨(N + yes.length + 10) + (N' + no.length + 10), fun x => (same_ok yes N hN h.1.1 x).mono (by omega), fun x => (same_ok no N' hN' h.2.1 x).mono (by omega)⟩
theorem lsame_ok : ∀ l : List Tp, fineL l → ∃ N, ∀ p ∈ l, (∀ x, SameAt p.yes x N) ∧ (∀ x, SameAt p.no x N)
  | [], _ => ⟨0, fun p hp => by simp at hp⟩
  | p :: r, h => by
    simp only [fineL] at h
    obtain ⟨N, hN⟩ := psame_ok p h.1
    obtain ⟨N', hN'⟩ := lsame_ok r h.2
    refine ⟨N + N', fun q hq => ?_⟩
    rcases List.mem_cons.mp hq with rfl | hq
    · exact ⟨fun x => (hN.1 x).mono (by omega), fun x => (hN.2 x).mono (by omega)⟩
    · exact ⟨fun x => ((hN' q hq).1 x).mono (by omega), fun x => ((hN' q hq).2 x).mono (by omega)⟩
end

/-- the law's same: of a template and of the reference's -/
theorem same_spec (l : List Tp) (hl : l.length < 2 ^ 40) (hf : fineL l) : ∃ N, ∀ x, SameAt l x N := by
  obtain ⟨N, hN⟩ := lsame_ok l hf
  exact ⟨_, fun x => same_ok l N hN hl x⟩

end Go.Tpl

namespace Go.Tpl
open Go Go.Am Go.Proofs

def S11At (l l2 : List Tp) (N : Nat) : Prop := ∀ m, N ≤ m → ∀ b s a c, a.weak = .vec (avs l) .shut → c.weak = .vec (avs l2) .shut → callF T m b 11 [a, c] s = some (.ret (.bool (eqL l l2)), s)

theorem s17_spec (m : Nat) (b : Bar) (s : Sg) (p q : Tp) (N : Nat) (hm : N ≤ m) (h1 : S11At p.yes q.yes N) (h2 : S11At p.no q.no N) : callF T (m + 1) b 17 [.agg p.cells, .agg q.cells] s = some (.ret (.bool (eqT p q)), s) := by
  have hT := eqT_eq p q
  obtain ⟨py, pn, e3, e4, w3, w4, _, _, d3, d4⟩ := cells_kids p
  obtain ⟨qy, qn, g3, g4, v3, v4, _, _, f3, f4⟩ := cells_kids q
  have k0 : partOf p.cells 0 none = some (.int .i64 p.kind) := cells_0 p
  have j0 : partOf q.cells 0 none = some (.int .i64 q.kind) := cells_0 q
  have k1 : partOf p.cells 1 none = some (.str p.text) := cells_1 p
  have j1 : partOf q.cells 1 none = some (.str q.text) := cells_1 q
  have k2 := cells_n p
  have j2 := cells_n q
  have k3 : partOf p.cells 3 none = some py := e3
  have j3 : partOf q.cells 3 none = some qy := g3
  have k4 : partOf p.cells 4 none = some pn := e4
  have j4 : partOf q.cells 4 none = some qn := g4
  have c1 := getCells_push (.cells q.cells 0) (getCells_new s p.cells 0)
  have c2 := getCells_new (s.push (.cells p.cells 0)) q.cells 0
  have hy := h1 m hm (b.into .pure s) ((s.push (.cells p.cells 0)).push (.cells q.cells 0)) py qy w3 v3
  have hn := h2 m hm (b.into .pure s) ((s.push (.cells p.cells 0)).push (.cells q.cells 0)) pn qn w4 v4
  by_cases t0 : p.kind = q.kind
  · by_cases t1 : p.text = q.text
    · by_cases t2 : p.num = q.num
      · have hT2 : eqT p q = (eqL p.yes q.yes && eqL p.no q.no) := by rw [hT]; simp [t0, t1, t2]
        rw [hT2]
        (apply f_of rfl rfl; (repeat (first | exact Shape.nil | (apply Shape.cons; conv => lhs; whnf))))
        ((repeat refine c_seq ?_); refine c_region ?_; (repeat (first | ((first | apply o_move rfl rfl | apply o_easy1 rfl rfl rfl | apply o_ld rfl rfl (by assumption) (by first | rfl | assumption)); conv => lhs; whnf) | apply o_no rfl | refine o_b rfl rfl rfl (by constructor; omega) ?_ | refine o_f rfl rfl rfl (by constructor; omega) ?_ | refine o_s rfl rfl rfl (by constructor; first | omega | assumption) ?_ | refine o_t rfl rfl rfl (by constructor; assumption) ?_ | (apply o_easy rfl rfl rfl; conv => lhs; whnf) | apply o_non rfl)))
        refine o_box (v := .agg p.cells) (l := p.cells) rfl rfl (stored_av p) ?_
        refine o_box (v := .agg q.cells) (l := q.cells) rfl rfl (stored_av q) ?_
        (repeat (first | ((first | apply o_move rfl rfl | apply o_easy1 rfl rfl rfl | apply o_ld rfl rfl (by assumption) (by first | rfl | assumption)); conv => lhs; whnf) | apply o_no rfl | refine o_b rfl rfl rfl (by constructor; omega) ?_ | refine o_f rfl rfl rfl (by constructor; omega) ?_ | refine o_s rfl rfl rfl (by constructor; first | omega | assumption) ?_ | refine o_t rfl rfl rfl (by constructor; assumption) ?_ | (apply o_easy rfl rfl rfl; conv => lhs; whnf) | apply o_non rfl))
        (apply o_end; (repeat (first | exact OutS.nil | exact GetS.hit | exact PutS.hit | apply GetS.miss rfl | apply PutS.miss rfl | apply OutS.cons | apply OutS.skip rfl)))
        ((repeat refine c_seq ?_); refine c_region ?_; (repeat (first | ((first | apply o_move rfl rfl | apply o_easy1 rfl rfl rfl | apply o_ld rfl rfl (by assumption) (by first | rfl | assumption)); conv => lhs; whnf) | apply o_no rfl | refine o_b rfl rfl rfl (by constructor; omega) ?_ | refine o_f rfl rfl rfl (by constructor; omega) ?_ | refine o_s rfl rfl rfl (by constructor; first | omega | assumption) ?_ | refine o_t rfl rfl rfl (by constructor; assumption) ?_ | (apply o_easy rfl rfl rfl; conv => lhs; whnf) | apply o_non rfl)))
        refine o_call rfl (evAll2 d3 f3) hy ?_
        cases eqL p.yes q.yes with
        | true =>
          (repeat (first | ((first | apply o_move rfl rfl | apply o_easy1 rfl rfl rfl | apply o_ld rfl rfl (by assumption) (by first | rfl | assumption)); conv => lhs; whnf) | apply o_no rfl | refine o_b rfl rfl rfl (by constructor; omega) ?_ | refine o_f rfl rfl rfl (by constructor; omega) ?_ | refine o_s rfl rfl rfl (by constructor; first | omega | assumption) ?_ | refine o_t rfl rfl rfl (by constructor; assumption) ?_ | (apply o_easy rfl rfl rfl; conv => lhs; whnf) | apply o_non rfl))
          refine o_call rfl (evAll2 d4 f4) hn ?_
          (repeat (first | ((first | apply o_move rfl rfl | apply o_easy1 rfl rfl rfl | apply o_ld rfl rfl (by assumption) (by first | rfl | assumption)); conv => lhs; whnf) | apply o_no rfl | refine o_b rfl rfl rfl (by constructor; omega) ?_ | refine o_f rfl rfl rfl (by constructor; omega) ?_ | refine o_s rfl rfl rfl (by constructor; first | omega | assumption) ?_ | refine o_t rfl rfl rfl (by constructor; assumption) ?_ | (apply o_easy rfl rfl rfl; conv => lhs; whnf) | apply o_non rfl))
          (apply o_end; (repeat (first | exact OutS.nil | exact GetS.hit | exact PutS.hit | apply GetS.miss rfl | apply PutS.miss rfl | apply OutS.cons | apply OutS.skip rfl)))
          exact c_ret rfl
        | false =>
          (repeat (first | ((first | apply o_move rfl rfl | apply o_easy1 rfl rfl rfl | apply o_ld rfl rfl (by assumption) (by first | rfl | assumption)); conv => lhs; whnf) | apply o_no rfl | refine o_b rfl rfl rfl (by constructor; omega) ?_ | refine o_f rfl rfl rfl (by constructor; omega) ?_ | refine o_s rfl rfl rfl (by constructor; first | omega | assumption) ?_ | refine o_t rfl rfl rfl (by constructor; assumption) ?_ | (apply o_easy rfl rfl rfl; conv => lhs; whnf) | apply o_non rfl))
          (apply o_end; (repeat (first | exact OutS.nil | exact GetS.hit | exact PutS.hit | apply GetS.miss rfl | apply PutS.miss rfl | apply OutS.cons | apply OutS.skip rfl)))
          exact c_ret rfl
      · have hT2 : eqT p q = false := by rw [hT]; simp [t2]
        rw [hT2]
        (apply f_of rfl rfl; (repeat (first | exact Shape.nil | (apply Shape.cons; conv => lhs; whnf))))
        ((repeat refine c_seq ?_); refine c_region ?_; (repeat (first | ((first | apply o_move rfl rfl | apply o_easy1 rfl rfl rfl | apply o_ld rfl rfl (by assumption) (by first | rfl | assumption)); conv => lhs; whnf) | apply o_no rfl | refine o_b rfl rfl rfl (by constructor; omega) ?_ | refine o_f rfl rfl rfl (by constructor; omega) ?_ | refine o_s rfl rfl rfl (by constructor; first | omega | assumption) ?_ | refine o_t rfl rfl rfl (by constructor; assumption) ?_ | (apply o_easy rfl rfl rfl; conv => lhs; whnf) | apply o_non rfl)))
        refine o_box (v := .agg p.cells) (l := p.cells) rfl rfl (stored_av p) ?_
        refine o_box (v := .agg q.cells) (l := q.cells) rfl rfl (stored_av q) ?_
        (repeat (first | ((first | apply o_move rfl rfl | apply o_easy1 rfl rfl rfl | apply o_ld rfl rfl (by assumption) (by first | rfl | assumption)); conv => lhs; whnf) | apply o_no rfl | refine o_b rfl rfl rfl (by constructor; omega) ?_ | refine o_f rfl rfl rfl (by constructor; omega) ?_ | refine o_s rfl rfl rfl (by constructor; first | omega | assumption) ?_ | refine o_t rfl rfl rfl (by constructor; assumption) ?_ | (apply o_easy rfl rfl rfl; conv => lhs; whnf) | apply o_non rfl))
        (apply o_end; (repeat (first | exact OutS.nil | exact GetS.hit | exact PutS.hit | apply GetS.miss rfl | apply PutS.miss rfl | apply OutS.cons | apply OutS.skip rfl)))
        ((repeat refine c_seq ?_); refine c_region ?_; (repeat (first | ((first | apply o_move rfl rfl | apply o_easy1 rfl rfl rfl | apply o_ld rfl rfl (by assumption) (by first | rfl | assumption)); conv => lhs; whnf) | apply o_no rfl | refine o_b rfl rfl rfl (by constructor; omega) ?_ | refine o_f rfl rfl rfl (by constructor; omega) ?_ | refine o_s rfl rfl rfl (by constructor; first | omega | assumption) ?_ | refine o_t rfl rfl rfl (by constructor; assumption) ?_ | (apply o_easy rfl rfl rfl; conv => lhs; whnf) | apply o_non rfl)))
        (apply o_end; (repeat (first | exact OutS.nil | exact GetS.hit | exact PutS.hit | apply GetS.miss rfl | apply PutS.miss rfl | apply OutS.cons | apply OutS.skip rfl)))
        exact c_ret rfl
    · have hT2 : eqT p q = false := by rw [hT]; simp [t1]
      have t1 : p.text ≠ q.text := t1
      rw [hT2]
      (apply f_of rfl rfl; (repeat (first | exact Shape.nil | (apply Shape.cons; conv => lhs; whnf))))
      ((repeat refine c_seq ?_); refine c_region ?_; (repeat (first | ((first | apply o_move rfl rfl | apply o_easy1 rfl rfl rfl | apply o_ld rfl rfl (by assumption) (by first | rfl | assumption)); conv => lhs; whnf) | apply o_no rfl | refine o_b rfl rfl rfl (by constructor; omega) ?_ | refine o_f rfl rfl rfl (by constructor; omega) ?_ | refine o_s rfl rfl rfl (by constructor; first | omega | assumption) ?_ | refine o_t rfl rfl rfl (by constructor; assumption) ?_ | (apply o_easy rfl rfl rfl; conv => lhs; whnf) | apply o_non rfl)))
      refine o_box (v := .agg p.cells) (l := p.cells) rfl rfl (stored_av p) ?_
      refine o_box (v := .agg q.cells) (l := q.cells) rfl rfl (stored_av q) ?_
      (repeat (first | ((first | apply o_move rfl rfl | apply o_easy1 rfl rfl rfl | apply o_ld rfl rfl (by assumption) (by first | rfl | assumption)); conv => lhs; whnf) | apply o_no rfl | refine o_b rfl rfl rfl (by constructor; omega) ?_ | refine o_f rfl rfl rfl (by constructor; omega) ?_ | refine o_s rfl rfl rfl (by constructor; first | omega | assumption) ?_ | refine o_t rfl rfl rfl (by constructor; assumption) ?_ | (apply o_easy rfl rfl rfl; conv => lhs; whnf) | apply o_non rfl))
      (apply o_end; (repeat (first | exact OutS.nil | exact GetS.hit | exact PutS.hit | apply GetS.miss rfl | apply PutS.miss rfl | apply OutS.cons | apply OutS.skip rfl)))
      ((repeat refine c_seq ?_); refine c_region ?_; (repeat (first | ((first | apply o_move rfl rfl | apply o_easy1 rfl rfl rfl | apply o_ld rfl rfl (by assumption) (by first | rfl | assumption)); conv => lhs; whnf) | apply o_no rfl | refine o_b rfl rfl rfl (by constructor; omega) ?_ | refine o_f rfl rfl rfl (by constructor; omega) ?_ | refine o_s rfl rfl rfl (by constructor; first | omega | assumption) ?_ | refine o_t rfl rfl rfl (by constructor; assumption) ?_ | (apply o_easy rfl rfl rfl; conv => lhs; whnf) | apply o_non rfl)))
      (apply o_end; (repeat (first | exact OutS.nil | exact GetS.hit | exact PutS.hit | apply GetS.miss rfl | apply PutS.miss rfl | apply OutS.cons | apply OutS.skip rfl)))
      exact c_ret rfl
  · have hT2 : eqT p q = false := by rw [hT]; simp [t0]
    rw [hT2]
    (apply f_of rfl rfl; (repeat (first | exact Shape.nil | (apply Shape.cons; conv => lhs; whnf))))
    ((repeat refine c_seq ?_); refine c_region ?_; (repeat (first | ((first | apply o_move rfl rfl | apply o_easy1 rfl rfl rfl | apply o_ld rfl rfl (by assumption) (by first | rfl | assumption)); conv => lhs; whnf) | apply o_no rfl | refine o_b rfl rfl rfl (by constructor; omega) ?_ | refine o_f rfl rfl rfl (by constructor; omega) ?_ | refine o_s rfl rfl rfl (by constructor; first | omega | assumption) ?_ | refine o_t rfl rfl rfl (by constructor; assumption) ?_ | (apply o_easy rfl rfl rfl; conv => lhs; whnf) | apply o_non rfl)))
    refine o_box (v := .agg p.cells) (l := p.cells) rfl rfl (stored_av p) ?_
    refine o_box (v := .agg q.cells) (l := q.cells) rfl rfl (stored_av q) ?_
    (repeat (first | ((first | apply o_move rfl rfl | apply o_easy1 rfl rfl rfl | apply o_ld rfl rfl (by assumption) (by first | rfl | assumption)); conv => lhs; whnf) | apply o_no rfl | refine o_b rfl rfl rfl (by constructor; omega) ?_ | refine o_f rfl rfl rfl (by constructor; omega) ?_ | refine o_s rfl rfl rfl (by constructor; first | omega | assumption) ?_ | refine o_t rfl rfl rfl (by constructor; assumption) ?_ | (apply o_easy rfl rfl rfl; conv => lhs; whnf) | apply o_non rfl))
    (apply o_end; (repeat (first | exact OutS.nil | exact GetS.hit | exact PutS.hit | apply GetS.miss rfl | apply PutS.miss rfl | apply OutS.cons | apply OutS.skip rfl)))
    ((repeat refine c_seq ?_); refine c_region ?_; (repeat (first | ((first | apply o_move rfl rfl | apply o_easy1 rfl rfl rfl | apply o_ld rfl rfl (by assumption) (by first | rfl | assumption)); conv => lhs; whnf) | apply o_no rfl | refine o_b rfl rfl rfl (by constructor; omega) ?_ | refine o_f rfl rfl rfl (by constructor; omega) ?_ | refine o_s rfl rfl rfl (by constructor; first | omega | assumption) ?_ | refine o_t rfl rfl rfl (by constructor; assumption) ?_ | (apply o_easy rfl rfl rfl; conv => lhs; whnf) | apply o_non rfl)))
    (apply o_end; (repeat (first | exact OutS.nil | exact GetS.hit | exact PutS.hit | apply GetS.miss rfl | apply PutS.miss rfl | apply OutS.cons | apply OutS.skip rfl)))
    exact c_ret rfl


/-- the loop 0 of function 16 -/
def lp16_0 : ACode := .seq (.region [⟨(some 18), .v (.bin .lss (.tmp 17) (.tmp 16)), none⟩] [18]) (.seq (.cond (.tmp 18) (.skip) (.exit 0)) (.seq (.block 1 (.seq (.region [⟨(some 19), .v (.move (.tmp 17)), none⟩, ⟨(some 20), .v (.indexAddrS (some 5) (.tmp 15) (.tmp 17)), none⟩, ⟨(some 21), .v (.load (some 5) (.tmp 20)), none⟩, ⟨(some 8), .e (.alloc [(.int .i64 0), (.str []), (.int .i64 0), .nilsl, .nilsl]), none⟩, ⟨(some 7), .v (.move (.tmp 19)), none⟩, ⟨none, .e (.store 5 (.tmp 8) (.tmp 21)), none⟩] [8, 7]) (.seq (.region [⟨(some 22), .v (.move (.tmp 1)), none⟩, ⟨(some 23), .v (.move (.tmp 7)), none⟩, ⟨(some 24), .v (.indexAddrS (some 5) (.tmp 22) (.tmp 23)), none⟩, ⟨(some 25), .v (.load (some 5) (.tmp 24)), none⟩, ⟨(some 9), .e (.alloc [(.int .i64 0), (.str []), (.int .i64 0), .nilsl, .nilsl]), none⟩, ⟨none, .e (.store 5 (.tmp 9) (.tmp 25)), none⟩] [9]) (.seq (.region [⟨(some 26), .v (.move (.tmp 2)), none⟩, ⟨(some 27), .v (.load (some 5) (.tmp 8)), none⟩, ⟨(some 28), .v (.load (some 5) (.tmp 9)), none⟩, ⟨(some 29), .callv (.tmp 26) [(.tmp 27), (.tmp 28)], none⟩, ⟨(some 30), .v (.un .not (.tmp 29)), none⟩] [30]) (.cond (.tmp 30) (.seq (.region [⟨(some 6), .v (.move (.const (.bool false))), none⟩] [6]) (.ret)) (.skip)))))) (.region [⟨(some 31), .v (.bin .add (.tmp 17) (.const (.int .i64 1))), none⟩, ⟨(some 17), .v (.move (.tmp 31)), none⟩] [17])))

abbrev fr16 (va vc : AV) (k len : Nat) (x18 x7 x8 x9 x30 : AV) : Fr := ⟨[(0, va), (1, vc), (2, .func 17 [] []), (6, .bool false), (14, .bool false), (17, .int .i64 k), (16, .int .i64 len), (18, x18), (15, va), (7, x7), (8, x8), (9, x9), (30, x30)], [], .off⟩

set_option maxHeartbeats 1000000 in
theorem s16_loop (m : Nat) (b : Bar) (l l2 : List Tp) (N : Nat) (hN : ∀ p ∈ l, ∀ x, S11At p.yes x N ∧ S11At p.no x N) (hm : N ≤ m) (hll : l.length < 2 ^ 40) (hlen : l.length = l2.length) {Q : Ex → Fr → Sg → Prop}
    (hq : ∀ k x18 x7 x8 x9 x30 s', eqL l l2 = true → Q (.exit 0) (fr16 (.vec (avs l) .shut) (.vec (avs l2) .shut) k l.length x18 x7 x8 x9 x30) s')
    (hbad : eqL l l2 = false → ∀ pers s', (Env.get pers 6).def? = some (.bool false) → Q .ret ⟨pers, [], .off⟩ s') :
    ∀ (rest d1 d2 rest2 : List Tp) (k L : Nat) (x18 x7 x8 x9 x30 : AV) (s : Sg), l = d1 ++ rest → l2 = d2 ++ rest2 → d1.length = d2.length → k = d1.length → eqL d1 d2 = true → rest.length + 1 ≤ L → b.w ≤ s.heap.length →
      OkL L (fun fr s => ACode.run (loopN (m + 1)) (callF T (m + 1)) b lp16_0 fr s) (fr16 (.vec (avs l) .shut) (.vec (avs l2) .shut) k l.length x18 x7 x8 x9 x30) s Q := by
  have hal := avs_len l
  intro rest
  induction rest with
  | nil =>
    intro d1 d2 rest2 k L x18 x7 x8 x9 x30 s hl hl2 hd hk he hL hw
    obtain ⟨L, rfl⟩ : ∃ L', L = L' + 1 := ⟨L - 1, by omega⟩
    have hkl : k = l.length := by rw [hl, hk]; simp
    have hr2 : rest2 = [] := by
      have h1 : l2.length = d2.length + rest2.length := by rw [hl2]; simp
      have h2 : l.length = d1.length := by rw [hl]; simp
      exact List.length_eq_zero_iff.mp (by omega)
    apply l_round
    ((repeat refine c_seq ?_); refine c_region ?_; (repeat (first | ((first | apply o_move rfl rfl | apply o_easy1 rfl rfl rfl | apply o_ld rfl rfl (by assumption) (by first | rfl | assumption)); conv => lhs; whnf) | apply o_no rfl | refine o_b rfl rfl rfl (by constructor; omega) ?_ | refine o_f rfl rfl rfl (by constructor; omega) ?_ | refine o_s rfl rfl rfl (by constructor; first | omega | assumption) ?_ | refine o_t rfl rfl rfl (by constructor; assumption) ?_ | (apply o_easy rfl rfl rfl; conv => lhs; whnf) | apply o_non rfl)); apply o_end; (repeat (first | exact OutS.nil | exact GetS.hit | exact PutS.hit | apply GetS.miss rfl | apply PutS.miss rfl | apply OutS.cons | apply OutS.skip rfl)))
    ((repeat refine c_seq ?_); refine c_else rfl ?_)
    refine c_exit (hq _ _ _ _ _ _ _ ?_)
    rw [hl, hl2, hr2, List.append_nil, List.append_nil]
    exact he
  | cons p rest ih =>
    intro d1 d2 rest2 k L x18 x7 x8 x9 x30 s hl hl2 hd hk he hL hw
    obtain ⟨L, rfl⟩ : ∃ L', L = L' + 1 := ⟨L - 1, by omega⟩
    cases rest2 with
    | nil =>
      have h1 : l.length = d1.length + (rest.length + 1) := by rw [hl]; simp
      have h2 : l2.length = d2.length := by rw [hl2]; simp
      omega
    | cons q rest2 =>
      have hkl : k < l.length := by rw [hl, hk]; simp
      have hget : l[k]? = some p := by rw [hl, hk]; simp
      have hget2 : l2[k]? = some q := by rw [hl2, hk, hd]; simp
      have hN1 := hN p (by rw [hl]; simp)
      have heq : eqL l l2 = (eqT p q && eqL rest rest2) := by
        rw [hl, hl2, eqL_app d1 d2 _ _ hd, he]
        simp [eqL]
      have hallp := partOf_all (cells_len p)
      have hallq := partOf_all (cells_len q)
      have hc0 := getCells_new s zc 0
      have hc := getCells_put (cs' := p.cells) (g' := 0) hc0
      have hw2 : b.w ≤ ((s.push (.cells zc 0)).put s.heap.length (.cells p.cells 0)).heap.length := by rw [Sg.put_len, Sg.push_len]; omega
      apply l_round
      ((repeat refine c_seq ?_); refine c_region ?_; (repeat (first | ((first | apply o_move rfl rfl | apply o_easy1 rfl rfl rfl | apply o_ld rfl rfl (by assumption) (by first | rfl | assumption)); conv => lhs; whnf) | apply o_no rfl | refine o_b rfl rfl rfl (by constructor; omega) ?_ | refine o_f rfl rfl rfl (by constructor; omega) ?_ | refine o_s rfl rfl rfl (by constructor; first | omega | assumption) ?_ | refine o_t rfl rfl rfl (by constructor; assumption) ?_ | (apply o_easy rfl rfl rfl; conv => lhs; whnf) | apply o_non rfl)); apply o_end; (repeat (first | exact OutS.nil | exact GetS.hit | exact PutS.hit | apply GetS.miss rfl | apply PutS.miss rfl | apply OutS.cons | apply OutS.skip rfl)))
      ((repeat refine c_seq ?_); refine c_if rfl ?_)
      refine c_skip ?_
      ((repeat refine c_seq ?_); refine c_block ?_)
      ((repeat refine c_seq ?_); refine c_region ?_; (repeat (first | ((first | apply o_move rfl rfl | apply o_easy1 rfl rfl rfl | apply o_ld rfl rfl (by assumption) (by first | rfl | assumption)); conv => lhs; whnf) | apply o_no rfl | refine o_b rfl rfl rfl (by constructor; omega) ?_ | refine o_f rfl rfl rfl (by constructor; omega) ?_ | refine o_s rfl rfl rfl (by constructor; first | omega | assumption) ?_ | refine o_t rfl rfl rfl (by constructor; assumption) ?_ | (apply o_easy rfl rfl rfl; conv => lhs; whnf) | apply o_non rfl)))
      refine o_ixvec (j := k) rfl rfl rfl rfl (avs_get hget) (beq_of (cells_len p)) ?_
      refine o_ldpin rfl rfl (beq_of (cells_len p)) ?_
      refine o_alloc rfl ?_
      (repeat (first | ((first | apply o_move rfl rfl | apply o_easy1 rfl rfl rfl | apply o_ld rfl rfl (by assumption) (by first | rfl | assumption)); conv => lhs; whnf) | apply o_no rfl | refine o_b rfl rfl rfl (by constructor; omega) ?_ | refine o_f rfl rfl rfl (by constructor; omega) ?_ | refine o_s rfl rfl rfl (by constructor; first | omega | assumption) ?_ | refine o_t rfl rfl rfl (by constructor; assumption) ?_ | (apply o_easy rfl rfl rfl; conv => lhs; whnf) | apply o_non rfl))
      refine o_st (v := .agg p.cells) rfl rfl rfl (stored_av p) hc0 (beq_of (cells_len p)) (lets_of (blt_no hw) (fun e => cells_old e p)) (cs' := p.cells) (wr_all p) ?_
      (apply o_end; (repeat (first | exact OutS.nil | exact GetS.hit | exact PutS.hit | apply GetS.miss rfl | apply PutS.miss rfl | apply OutS.cons | apply OutS.skip rfl)))
      generalize (s.push (.cells zc 0)).put s.heap.length (.cells p.cells 0) = s2 at hc hw2 ⊢
      generalize s.heap.length = i8 at hc ⊢
      have hd0 := getCells_new s2 zc 0
      have hd1 := getCells_put (cs' := q.cells) (g' := 0) hd0
      have hlt := getCells_lt hc
      have hc3 := getCells_put_ne (i := s2.heap.length) (o := .cells q.cells 0) (by omega) (getCells_push (.cells zc 0) hc)
      have hw3 : b.w ≤ ((s2.push (.cells zc 0)).put s2.heap.length (.cells q.cells 0)).heap.length := by rw [Sg.put_len, Sg.push_len]; omega
      ((repeat refine c_seq ?_); refine c_region ?_; (repeat (first | ((first | apply o_move rfl rfl | apply o_easy1 rfl rfl rfl | apply o_ld rfl rfl (by assumption) (by first | rfl | assumption)); conv => lhs; whnf) | apply o_no rfl | refine o_b rfl rfl rfl (by constructor; omega) ?_ | refine o_f rfl rfl rfl (by constructor; omega) ?_ | refine o_s rfl rfl rfl (by constructor; first | omega | assumption) ?_ | refine o_t rfl rfl rfl (by constructor; assumption) ?_ | (apply o_easy rfl rfl rfl; conv => lhs; whnf) | apply o_non rfl)))
      refine o_ixvec (j := k) rfl rfl rfl rfl (avs_get hget2) (beq_of (cells_len q)) ?_
      refine o_ldpin rfl rfl (beq_of (cells_len q)) ?_
      refine o_alloc rfl ?_
      refine o_st (v := .agg q.cells) rfl rfl rfl (stored_av q) hd0 (beq_of (cells_len q)) (lets_of (blt_no hw2) (fun e => cells_old e q)) (cs' := q.cells) (wr_all q) ?_
      (apply o_end; (repeat (first | exact OutS.nil | exact GetS.hit | exact PutS.hit | apply GetS.miss rfl | apply PutS.miss rfl | apply OutS.cons | apply OutS.skip rfl)))
      generalize (s2.push (.cells zc 0)).put s2.heap.length (.cells q.cells 0) = s3 at hc3 hd1 hw3 ⊢
      generalize s2.heap.length = i9 at hd1 ⊢
      ((repeat refine c_seq ?_); refine c_region ?_; (repeat (first | ((first | apply o_move rfl rfl | apply o_easy1 rfl rfl rfl | apply o_ld rfl rfl (by assumption) (by first | rfl | assumption)); conv => lhs; whnf) | apply o_no rfl | refine o_b rfl rfl rfl (by constructor; omega) ?_ | refine o_f rfl rfl rfl (by constructor; omega) ?_ | refine o_s rfl rfl rfl (by constructor; first | omega | assumption) ?_ | refine o_t rfl rfl rfl (by constructor; assumption) ?_ | (apply o_easy rfl rfl rfl; conv => lhs; whnf) | apply o_non rfl)))
      refine o_callv rfl rfl rfl rfl (s17_spec m _ s3 p q N hm (hN1 q.yes).1 (hN1 q.no).2) ?_
      cases hT : eqT p q with
      | true =>
        (repeat (first | ((first | apply o_move rfl rfl | apply o_easy1 rfl rfl rfl | apply o_ld rfl rfl (by assumption) (by first | rfl | assumption)); conv => lhs; whnf) | apply o_no rfl | refine o_b rfl rfl rfl (by constructor; omega) ?_ | refine o_f rfl rfl rfl (by constructor; omega) ?_ | refine o_s rfl rfl rfl (by constructor; first | omega | assumption) ?_ | refine o_t rfl rfl rfl (by constructor; assumption) ?_ | (apply o_easy rfl rfl rfl; conv => lhs; whnf) | apply o_non rfl))
        (apply o_end; (repeat (first | exact OutS.nil | exact GetS.hit | exact PutS.hit | apply GetS.miss rfl | apply PutS.miss rfl | apply OutS.cons | apply OutS.skip rfl)))
        ((repeat refine c_seq ?_); refine c_else rfl ?_)
        refine c_skip ?_
        ((repeat refine c_seq ?_); refine c_region ?_; (repeat (first | ((first | apply o_move rfl rfl | apply o_easy1 rfl rfl rfl | apply o_ld rfl rfl (by assumption) (by first | rfl | assumption)); conv => lhs; whnf) | apply o_no rfl | refine o_b rfl rfl rfl (by constructor; omega) ?_ | refine o_f rfl rfl rfl (by constructor; omega) ?_ | refine o_s rfl rfl rfl (by constructor; first | omega | assumption) ?_ | refine o_t rfl rfl rfl (by constructor; assumption) ?_ | (apply o_easy rfl rfl rfl; conv => lhs; whnf) | apply o_non rfl)); apply o_end; (repeat (first | exact OutS.nil | exact GetS.hit | exact PutS.hit | apply GetS.miss rfl | apply PutS.miss rfl | apply OutS.cons | apply OutS.skip rfl)))
        refine ih (d1 ++ [p]) (d2 ++ [q]) rest2 (k + 1) L _ _ _ _ _ s3 (by rw [hl]; simp) (by rw [hl2]; simp) (by simp [hd]) (by simp [hk]) ?_ (by simp at hL ⊢; omega) hw3
        rw [eqL_app d1 d2 _ _ hd, he]
        simp [eqL, hT]
      | false =>
        (repeat (first | ((first | apply o_move rfl rfl | apply o_easy1 rfl rfl rfl | apply o_ld rfl rfl (by assumption) (by first | rfl | assumption)); conv => lhs; whnf) | apply o_no rfl | refine o_b rfl rfl rfl (by constructor; omega) ?_ | refine o_f rfl rfl rfl (by constructor; omega) ?_ | refine o_s rfl rfl rfl (by constructor; first | omega | assumption) ?_ | refine o_t rfl rfl rfl (by constructor; assumption) ?_ | (apply o_easy rfl rfl rfl; conv => lhs; whnf) | apply o_non rfl))
        (apply o_end; (repeat (first | exact OutS.nil | exact GetS.hit | exact PutS.hit | apply GetS.miss rfl | apply PutS.miss rfl | apply OutS.cons | apply OutS.skip rfl)))
        ((repeat refine c_seq ?_); refine c_if rfl ?_)
        ((repeat refine c_seq ?_); refine c_region ?_; (repeat (first | ((first | apply o_move rfl rfl | apply o_easy1 rfl rfl rfl | apply o_ld rfl rfl (by assumption) (by first | rfl | assumption)); conv => lhs; whnf) | apply o_no rfl | refine o_b rfl rfl rfl (by constructor; omega) ?_ | refine o_f rfl rfl rfl (by constructor; omega) ?_ | refine o_s rfl rfl rfl (by constructor; first | omega | assumption) ?_ | refine o_t rfl rfl rfl (by constructor; assumption) ?_ | (apply o_easy rfl rfl rfl; conv => lhs; whnf) | apply o_non rfl)); apply o_end; (repeat (first | exact OutS.nil | exact GetS.hit | exact PutS.hit | apply GetS.miss rfl | apply PutS.miss rfl | apply OutS.cons | apply OutS.skip rfl)))
        refine c_ret (hbad ?_ _ _ rfl)
        rw [heq, hT, Bool.false_and]

end Go.Tpl

namespace Go.Tpl
open Go Go.Am Go.Proofs

theorem s16_spec (m : Nat) (b : Bar) (s : Sg) (l l2 : List Tp) (N : Nat) (hN : ∀ p ∈ l, ∀ x, S11At p.yes x N ∧ S11At p.no x N) (hm : N + l.length + 1 ≤ m) (hll : l.length < 2 ^ 40) :
    callF T (m + 2) b 16 [.vec (avs l) .shut, .vec (avs l2) .shut, .func 17 [] []] s = some (.ret (.bool (eqL l l2)), s) := by
  have hal := avs_len l
  have hal2 := avs_len l2
  apply fin_eq
  (apply f_wp rfl rfl; (repeat (first | exact Shape.nil | (apply Shape.cons; conv => lhs; whnf))))
  by_cases hlen : l.length = l2.length
  · ((repeat refine c_seq ?_); refine c_region ?_; (repeat (first | ((first | apply o_move rfl rfl | apply o_easy1 rfl rfl rfl | apply o_ld rfl rfl (by assumption) (by first | rfl | assumption)); conv => lhs; whnf) | apply o_no rfl | refine o_b rfl rfl rfl (by constructor; omega) ?_ | refine o_f rfl rfl rfl (by constructor; omega) ?_ | refine o_s rfl rfl rfl (by constructor; first | omega | assumption) ?_ | refine o_t rfl rfl rfl (by constructor; assumption) ?_ | (apply o_easy rfl rfl rfl; conv => lhs; whnf) | apply o_non rfl)); apply o_end; (repeat (first | exact OutS.nil | exact GetS.hit | exact PutS.hit | apply GetS.miss rfl | apply PutS.miss rfl | apply OutS.cons | apply OutS.skip rfl)))
    ((repeat refine c_seq ?_); refine c_region ?_; (repeat (first | ((first | apply o_move rfl rfl | apply o_easy1 rfl rfl rfl | apply o_ld rfl rfl (by assumption) (by first | rfl | assumption)); conv => lhs; whnf) | apply o_no rfl | refine o_b rfl rfl rfl (by constructor; omega) ?_ | refine o_f rfl rfl rfl (by constructor; omega) ?_ | refine o_s rfl rfl rfl (by constructor; first | omega | assumption) ?_ | refine o_t rfl rfl rfl (by constructor; assumption) ?_ | (apply o_easy rfl rfl rfl; conv => lhs; whnf) | apply o_non rfl)); apply o_end; (repeat (first | exact OutS.nil | exact GetS.hit | exact PutS.hit | apply GetS.miss rfl | apply PutS.miss rfl | apply OutS.cons | apply OutS.skip rfl)))
    ((repeat refine c_seq ?_); refine c_else rfl ?_)
    refine c_skip ?_
    ((repeat refine c_seq ?_); refine c_region ?_; (repeat (first | ((first | apply o_move rfl rfl | apply o_easy1 rfl rfl rfl | apply o_ld rfl rfl (by assumption) (by first | rfl | assumption)); conv => lhs; whnf) | apply o_no rfl | refine o_b rfl rfl rfl (by constructor; omega) ?_ | refine o_f rfl rfl rfl (by constructor; omega) ?_ | refine o_s rfl rfl rfl (by constructor; first | omega | assumption) ?_ | refine o_t rfl rfl rfl (by constructor; assumption) ?_ | (apply o_easy rfl rfl rfl; conv => lhs; whnf) | apply o_non rfl)); apply o_end; (repeat (first | exact OutS.nil | exact GetS.hit | exact PutS.hit | apply GetS.miss rfl | apply PutS.miss rfl | apply OutS.cons | apply OutS.skip rfl)))
    ((repeat refine c_seq ?_); refine c_block ?_)
    refine c_loop (x := lp16_0) ?_
    have X := fun Q hq hb => s16_loop m (b.into .pure s) l l2 N hN (by omega) hll hlen (Q := Q) hq hb l [] [] l2 0 (m + 1) .undef .undef .undef .undef .undef s rfl rfl rfl rfl eqL_nil (by omega) (Nat.le_refl _)
    rw [← hal] at X
    refine X _ ?_ ?_
    · intro k x18 x7 x8 x9 x30 s' he
      rw [he]
      ((repeat refine c_seq ?_); refine c_region ?_; (repeat (first | ((first | apply o_move rfl rfl | apply o_easy1 rfl rfl rfl | apply o_ld rfl rfl (by assumption) (by first | rfl | assumption)); conv => lhs; whnf) | apply o_no rfl | refine o_b rfl rfl rfl (by constructor; omega) ?_ | refine o_f rfl rfl rfl (by constructor; omega) ?_ | refine o_s rfl rfl rfl (by constructor; first | omega | assumption) ?_ | refine o_t rfl rfl rfl (by constructor; assumption) ?_ | (apply o_easy rfl rfl rfl; conv => lhs; whnf) | apply o_non rfl)); apply o_end; (repeat (first | exact OutS.nil | exact GetS.hit | exact PutS.hit | apply GetS.miss rfl | apply PutS.miss rfl | apply OutS.cons | apply OutS.skip rfl)))
      exact c_ret (fin_ret (.inl rfl) (read_tmp rfl read_nil) (leave_pure (lay_cons rfl lay_nil) rfl) ⟨rfl, rfl⟩)
    · intro he pers s' hp
      rw [he]
      exact fin_ret (.inl rfl) (read_tmp hp read_nil) (leave_pure (lay_cons rfl lay_nil) rfl) ⟨rfl, rfl⟩
  · rw [eqL_len l l2 hlen]
    ((repeat refine c_seq ?_); refine c_region ?_; (repeat (first | ((first | apply o_move rfl rfl | apply o_easy1 rfl rfl rfl | apply o_ld rfl rfl (by assumption) (by first | rfl | assumption)); conv => lhs; whnf) | apply o_no rfl | refine o_b rfl rfl rfl (by constructor; omega) ?_ | refine o_f rfl rfl rfl (by constructor; omega) ?_ | refine o_s rfl rfl rfl (by constructor; first | omega | assumption) ?_ | refine o_t rfl rfl rfl (by constructor; assumption) ?_ | (apply o_easy rfl rfl rfl; conv => lhs; whnf) | apply o_non rfl)); apply o_end; (repeat (first | exact OutS.nil | exact GetS.hit | exact PutS.hit | apply GetS.miss rfl | apply PutS.miss rfl | apply OutS.cons | apply OutS.skip rfl)))
    ((repeat refine c_seq ?_); refine c_region ?_; (repeat (first | ((first | apply o_move rfl rfl | apply o_easy1 rfl rfl rfl | apply o_ld rfl rfl (by assumption) (by first | rfl | assumption)); conv => lhs; whnf) | apply o_no rfl | refine o_b rfl rfl rfl (by constructor; omega) ?_ | refine o_f rfl rfl rfl (by constructor; omega) ?_ | refine o_s rfl rfl rfl (by constructor; first | omega | assumption) ?_ | refine o_t rfl rfl rfl (by constructor; assumption) ?_ | (apply o_easy rfl rfl rfl; conv => lhs; whnf) | apply o_non rfl)); apply o_end; (repeat (first | exact OutS.nil | exact GetS.hit | exact PutS.hit | apply GetS.miss rfl | apply PutS.miss rfl | apply OutS.cons | apply OutS.skip rfl)))
    ((repeat refine c_seq ?_); refine c_if rfl ?_)
    ((repeat refine c_seq ?_); refine c_region ?_; (repeat (first | ((first | apply o_move rfl rfl | apply o_easy1 rfl rfl rfl | apply o_ld rfl rfl (by assumption) (by first | rfl | assumption)); conv => lhs; whnf) | apply o_no rfl | refine o_b rfl rfl rfl (by constructor; omega) ?_ | refine o_f rfl rfl rfl (by constructor; omega) ?_ | refine o_s rfl rfl rfl (by constructor; first | omega | assumption) ?_ | refine o_t rfl rfl rfl (by constructor; assumption) ?_ | (apply o_easy rfl rfl rfl; conv => lhs; whnf) | apply o_non rfl)); apply o_end; (repeat (first | exact OutS.nil | exact GetS.hit | exact PutS.hit | apply GetS.miss rfl | apply PutS.miss rfl | apply OutS.cons | apply OutS.skip rfl)))
    exact c_ret ⟨_, _, rfl, rfl, rfl⟩

theorem s11_ok (l : List Tp) (N : Nat) (hN : ∀ p ∈ l, ∀ x, S11At p.yes x N ∧ S11At p.no x N) (hll : l.length < 2 ^ 40) (l2 : List Tp) : S11At l l2 (N + l.length + 10) := by
  intro m hm b s a c ha hc
  obtain ⟨m, rfl⟩ : ∃ m', m = m' + 3 := ⟨m - 3, by omega⟩
  have hs := s16_spec m (b.into .pure s) s l l2 N hN (by omega) hll
  apply fin_eq
  have hw0 : AV.weakAll [a, c] = [.vec (avs l) .shut, .vec (avs l2) .shut] := by simp only [AV.weakAll, ha, hc]
  apply f_wp rfl rfl
  · show Shape (bindArgs (AV.weakAll [a, c]) _) _
    rw [hw0]
    repeat (first | exact Shape.nil | (apply Shape.cons; conv => lhs; whnf))
  ((repeat refine c_seq ?_); refine c_region ?_; (repeat (first | ((first | apply o_move rfl rfl | apply o_easy1 rfl rfl rfl | apply o_ld rfl rfl (by assumption) (by first | rfl | assumption)); conv => lhs; whnf) | apply o_no rfl | refine o_b rfl rfl rfl (by constructor; omega) ?_ | refine o_f rfl rfl rfl (by constructor; omega) ?_ | refine o_s rfl rfl rfl (by constructor; first | omega | assumption) ?_ | refine o_t rfl rfl rfl (by constructor; assumption) ?_ | (apply o_easy rfl rfl rfl; conv => lhs; whnf) | apply o_non rfl)); apply o_end; (repeat (first | exact OutS.nil | exact GetS.hit | exact PutS.hit | apply GetS.miss rfl | apply PutS.miss rfl | apply OutS.cons | apply OutS.skip rfl)))
  ((repeat refine c_seq ?_); refine c_region ?_; (repeat (first | ((first | apply o_move rfl rfl | apply o_easy1 rfl rfl rfl | apply o_ld rfl rfl (by assumption) (by first | rfl | assumption)); conv => lhs; whnf) | apply o_no rfl | refine o_b rfl rfl rfl (by constructor; omega) ?_ | refine o_f rfl rfl rfl (by constructor; omega) ?_ | refine o_s rfl rfl rfl (by constructor; first | omega | assumption) ?_ | refine o_t rfl rfl rfl (by constructor; assumption) ?_ | (apply o_easy rfl rfl rfl; conv => lhs; whnf) | apply o_non rfl)))
  refine o_call rfl rfl hs ?_
  (repeat (first | ((first | apply o_move rfl rfl | apply o_easy1 rfl rfl rfl | apply o_ld rfl rfl (by assumption) (by first | rfl | assumption)); conv => lhs; whnf) | apply o_no rfl | refine o_b rfl rfl rfl (by constructor; omega) ?_ | refine o_f rfl rfl rfl (by constructor; omega) ?_ | refine o_s rfl rfl rfl (by constructor; first | omega | assumption) ?_ | refine o_t rfl rfl rfl (by constructor; assumption) ?_ | (apply o_easy rfl rfl rfl; conv => lhs; whnf) | apply o_non rfl))
  (apply o_end; (repeat (first | exact OutS.nil | exact GetS.hit | exact PutS.hit | apply GetS.miss rfl | apply PutS.miss rfl | apply OutS.cons | apply OutS.skip rfl)))
  exact c_ret ⟨_, _, rfl, rfl, rfl⟩

theorem S11At.mono {l l2 : List Tp} {N N' : Nat} (h : S11At l l2 N) (hn : N ≤ N') : S11At l l2 N' := fun m hm => h m (by omega)

theorem s11_nil : ∀ x, S11At [] x 10 := fun x => s11_ok [] 0 (fun p hp => by simp at hp) (by simp) x

mutual
theorem p11_ok : ∀ p : Tp, p.fine → ∃ N, ∀ x, S11At p.yes x N ∧ S11At p.no x N
  | .lit t, _ => ⟨10, fun x => ⟨s11_nil x, s11_nil x⟩⟩
  | .group n, _ => ⟨10, fun x => ⟨s11_nil x, s11_nil x⟩⟩
  | .els n no, h => by
    simp only [Tp.fine] at h
    obtain ⟨N, hN⟩ := l11_ok no h.2
    exact ⟨N + no.length + 10, fun x => ⟨(s11_nil x).mono (by omega), s11_ok no N hN h.1 x⟩⟩
  | .ifs n yes no, h => by
    simp only [Tp.fine] at h
    obtain ⟨N, hN⟩ := l11_ok yes h.1.2
    obtain ⟨N', hN'⟩ := l11_ok no h.2.2
    exact ⟨(N + yes.length + 10) + (N' + no.length + 10), fun x => ⟨(s11_ok yes N hN h.1.1 x).mono (by omega), (s11_ok no N' hN' h.2.1 x).mono (by omega)⟩⟩
theorem l11_ok : ∀ l : List Tp, fineL l → ∃ N, ∀ p ∈ l, ∀ x, S11At p.yes x N ∧ S11At p.no x N
  | [], _ => ⟨0, fun p hp => by simp at hp⟩
  | p :: r, h => by
    simp only [fineL] at h
    obtain ⟨N, hN⟩ := p11_ok p h.1
    obtain ⟨N', hN'⟩ := l11_ok r h.2
    refine ⟨N + N', fun q hq x => ?_⟩
    rcases List.mem_cons.mp hq with rfl | hq
    · exact ⟨(hN x).1.mono (by omega), (hN x).2.mono (by omega)⟩
    · exact ⟨(hN' q hq x).1.mono (by omega), (hN' q hq x).2.mono (by omega)⟩
end

/-- template.Same -/
theorem s11_spec (l : List Tp) (hl : l.length < 2 ^ 40) (hf : fineL l) : ∃ N, ∀ x, S11At l x N := by
  obtain ⟨N, hN⟩ := l11_ok l hf
  exact ⟨_, fun x => s11_ok l N hN hl x⟩

theorem fine_of {t : List UInt8} {gr : Int} {n : Nat} {x : List Tp} {j : Nat} (h : partsM t gr n [] 1 0 [] = some (.ok (x, j))) (ht : t.length ≤ 1000) : x.length < 2 ^ 40 ∧ fineL x := by
  have hw := ((model_wt t gr n).1 _ _ _ _ _ _ h (Nat.zero_le _))
  simp only [wtL] at hw
  have hln := len_wt x
  exact ⟨by omega, fineL_wt x (by omega)⟩

theorem samelaw_true (a b : List UInt8) (gr : Int) : ∃ n, callF T n bar0 6 [.vec (Am.byteCells a) .shut, .vec (Am.byteCells b) .shut, .int .i64 gr] sg0 = some (.ret (.bool true), sg0) := by
  have hba := Am.byteCells_length a
  have hbb := Am.byteCells_length b
  by_cases h1 : a.length > 1000
  · refine ⟨400 + 1, ?_⟩
    generalize hm : 400 = m
    (apply f_of rfl rfl; (repeat (first | exact Shape.nil | (apply Shape.cons; conv => lhs; whnf))))
    ((repeat refine c_seq ?_); refine c_region ?_; (repeat (first | ((first | apply o_move rfl rfl | apply o_easy1 rfl rfl rfl | apply o_ld rfl rfl (by assumption) (by first | rfl | assumption)); conv => lhs; whnf) | apply o_no rfl | refine o_b rfl rfl rfl (by constructor; omega) ?_ | refine o_f rfl rfl rfl (by constructor; omega) ?_ | refine o_s rfl rfl rfl (by constructor; first | omega | assumption) ?_ | refine o_t rfl rfl rfl (by constructor; assumption) ?_ | (apply o_easy rfl rfl rfl; conv => lhs; whnf) | apply o_non rfl)); apply o_end; (repeat (first | exact OutS.nil | exact GetS.hit | exact PutS.hit | apply GetS.miss rfl | apply PutS.miss rfl | apply OutS.cons | apply OutS.skip rfl)))
    ((repeat refine c_seq ?_); refine c_region ?_; (repeat (first | ((first | apply o_move rfl rfl | apply o_easy1 rfl rfl rfl | apply o_ld rfl rfl (by assumption) (by first | rfl | assumption)); conv => lhs; whnf) | apply o_no rfl | refine o_b rfl rfl rfl (by constructor; omega) ?_ | refine o_f rfl rfl rfl (by constructor; omega) ?_ | refine o_s rfl rfl rfl (by constructor; first | omega | assumption) ?_ | refine o_t rfl rfl rfl (by constructor; assumption) ?_ | (apply o_easy rfl rfl rfl; conv => lhs; whnf) | apply o_non rfl)))
    refine o_call rfl rfl (awake' m (by omega)) ?_
    (repeat (first | ((first | apply o_move rfl rfl | apply o_easy1 rfl rfl rfl | apply o_ld rfl rfl (by assumption) (by first | rfl | assumption)); conv => lhs; whnf) | apply o_no rfl | refine o_b rfl rfl rfl (by constructor; omega) ?_ | refine o_f rfl rfl rfl (by constructor; omega) ?_ | refine o_s rfl rfl rfl (by constructor; first | omega | assumption) ?_ | refine o_t rfl rfl rfl (by constructor; assumption) ?_ | (apply o_easy rfl rfl rfl; conv => lhs; whnf) | apply o_non rfl))
    (apply o_end; (repeat (first | exact OutS.nil | exact GetS.hit | exact PutS.hit | apply GetS.miss rfl | apply PutS.miss rfl | apply OutS.cons | apply OutS.skip rfl)))
    ((repeat refine c_seq ?_); refine c_region ?_; (repeat (first | ((first | apply o_move rfl rfl | apply o_easy1 rfl rfl rfl | apply o_ld rfl rfl (by assumption) (by first | rfl | assumption)); conv => lhs; whnf) | apply o_no rfl | refine o_b rfl rfl rfl (by constructor; omega) ?_ | refine o_f rfl rfl rfl (by constructor; omega) ?_ | refine o_s rfl rfl rfl (by constructor; first | omega | assumption) ?_ | refine o_t rfl rfl rfl (by constructor; assumption) ?_ | (apply o_easy rfl rfl rfl; conv => lhs; whnf) | apply o_non rfl)); apply o_end; (repeat (first | exact OutS.nil | exact GetS.hit | exact PutS.hit | apply GetS.miss rfl | apply PutS.miss rfl | apply OutS.cons | apply OutS.skip rfl)))
    ((repeat refine c_seq ?_); refine c_else rfl ?_)
    refine c_skip ?_
    ((repeat refine c_seq ?_); refine c_region ?_; (repeat (first | ((first | apply o_move rfl rfl | apply o_easy1 rfl rfl rfl | apply o_ld rfl rfl (by assumption) (by first | rfl | assumption)); conv => lhs; whnf) | apply o_no rfl | refine o_b rfl rfl rfl (by constructor; omega) ?_ | refine o_f rfl rfl rfl (by constructor; omega) ?_ | refine o_s rfl rfl rfl (by constructor; first | omega | assumption) ?_ | refine o_t rfl rfl rfl (by constructor; assumption) ?_ | (apply o_easy rfl rfl rfl; conv => lhs; whnf) | apply o_non rfl)); apply o_end; (repeat (first | exact OutS.nil | exact GetS.hit | exact PutS.hit | apply GetS.miss rfl | apply PutS.miss rfl | apply OutS.cons | apply OutS.skip rfl)))
    ((repeat refine c_seq ?_); refine c_if rfl ?_)
    ((repeat refine c_seq ?_); refine c_region ?_; (repeat (first | ((first | apply o_move rfl rfl | apply o_easy1 rfl rfl rfl | apply o_ld rfl rfl (by assumption) (by first | rfl | assumption)); conv => lhs; whnf) | apply o_no rfl | refine o_b rfl rfl rfl (by constructor; omega) ?_ | refine o_f rfl rfl rfl (by constructor; omega) ?_ | refine o_s rfl rfl rfl (by constructor; first | omega | assumption) ?_ | refine o_t rfl rfl rfl (by constructor; assumption) ?_ | (apply o_easy rfl rfl rfl; conv => lhs; whnf) | apply o_non rfl)); apply o_end; (repeat (first | exact OutS.nil | exact GetS.hit | exact PutS.hit | apply GetS.miss rfl | apply PutS.miss rfl | apply OutS.cons | apply OutS.skip rfl)))
    exact c_ret rfl
  by_cases h2 : b.length > 1000
  · refine ⟨400 + 1, ?_⟩
    generalize hm : 400 = m
    (apply f_of rfl rfl; (repeat (first | exact Shape.nil | (apply Shape.cons; conv => lhs; whnf))))
    ((repeat refine c_seq ?_); refine c_region ?_; (repeat (first | ((first | apply o_move rfl rfl | apply o_easy1 rfl rfl rfl | apply o_ld rfl rfl (by assumption) (by first | rfl | assumption)); conv => lhs; whnf) | apply o_no rfl | refine o_b rfl rfl rfl (by constructor; omega) ?_ | refine o_f rfl rfl rfl (by constructor; omega) ?_ | refine o_s rfl rfl rfl (by constructor; first | omega | assumption) ?_ | refine o_t rfl rfl rfl (by constructor; assumption) ?_ | (apply o_easy rfl rfl rfl; conv => lhs; whnf) | apply o_non rfl)); apply o_end; (repeat (first | exact OutS.nil | exact GetS.hit | exact PutS.hit | apply GetS.miss rfl | apply PutS.miss rfl | apply OutS.cons | apply OutS.skip rfl)))
    ((repeat refine c_seq ?_); refine c_region ?_; (repeat (first | ((first | apply o_move rfl rfl | apply o_easy1 rfl rfl rfl | apply o_ld rfl rfl (by assumption) (by first | rfl | assumption)); conv => lhs; whnf) | apply o_no rfl | refine o_b rfl rfl rfl (by constructor; omega) ?_ | refine o_f rfl rfl rfl (by constructor; omega) ?_ | refine o_s rfl rfl rfl (by constructor; first | omega | assumption) ?_ | refine o_t rfl rfl rfl (by constructor; assumption) ?_ | (apply o_easy rfl rfl rfl; conv => lhs; whnf) | apply o_non rfl)))
    refine o_call rfl rfl (awake' m (by omega)) ?_
    (repeat (first | ((first | apply o_move rfl rfl | apply o_easy1 rfl rfl rfl | apply o_ld rfl rfl (by assumption) (by first | rfl | assumption)); conv => lhs; whnf) | apply o_no rfl | refine o_b rfl rfl rfl (by constructor; omega) ?_ | refine o_f rfl rfl rfl (by constructor; omega) ?_ | refine o_s rfl rfl rfl (by constructor; first | omega | assumption) ?_ | refine o_t rfl rfl rfl (by constructor; assumption) ?_ | (apply o_easy rfl rfl rfl; conv => lhs; whnf) | apply o_non rfl))
    (apply o_end; (repeat (first | exact OutS.nil | exact GetS.hit | exact PutS.hit | apply GetS.miss rfl | apply PutS.miss rfl | apply OutS.cons | apply OutS.skip rfl)))
    ((repeat refine c_seq ?_); refine c_region ?_; (repeat (first | ((first | apply o_move rfl rfl | apply o_easy1 rfl rfl rfl | apply o_ld rfl rfl (by assumption) (by first | rfl | assumption)); conv => lhs; whnf) | apply o_no rfl | refine o_b rfl rfl rfl (by constructor; omega) ?_ | refine o_f rfl rfl rfl (by constructor; omega) ?_ | refine o_s rfl rfl rfl (by constructor; first | omega | assumption) ?_ | refine o_t rfl rfl rfl (by constructor; assumption) ?_ | (apply o_easy rfl rfl rfl; conv => lhs; whnf) | apply o_non rfl)); apply o_end; (repeat (first | exact OutS.nil | exact GetS.hit | exact PutS.hit | apply GetS.miss rfl | apply PutS.miss rfl | apply OutS.cons | apply OutS.skip rfl)))
    ((repeat refine c_seq ?_); refine c_else rfl ?_)
    refine c_skip ?_
    ((repeat refine c_seq ?_); refine c_region ?_; (repeat (first | ((first | apply o_move rfl rfl | apply o_easy1 rfl rfl rfl | apply o_ld rfl rfl (by assumption) (by first | rfl | assumption)); conv => lhs; whnf) | apply o_no rfl | refine o_b rfl rfl rfl (by constructor; omega) ?_ | refine o_f rfl rfl rfl (by constructor; omega) ?_ | refine o_s rfl rfl rfl (by constructor; first | omega | assumption) ?_ | refine o_t rfl rfl rfl (by constructor; assumption) ?_ | (apply o_easy rfl rfl rfl; conv => lhs; whnf) | apply o_non rfl)); apply o_end; (repeat (first | exact OutS.nil | exact GetS.hit | exact PutS.hit | apply GetS.miss rfl | apply PutS.miss rfl | apply OutS.cons | apply OutS.skip rfl)))
    ((repeat refine c_seq ?_); refine c_if rfl ?_)
    ((repeat refine c_seq ?_); refine c_region ?_; (repeat (first | ((first | apply o_move rfl rfl | apply o_easy1 rfl rfl rfl | apply o_ld rfl rfl (by assumption) (by first | rfl | assumption)); conv => lhs; whnf) | apply o_no rfl | refine o_b rfl rfl rfl (by constructor; omega) ?_ | refine o_f rfl rfl rfl (by constructor; omega) ?_ | refine o_s rfl rfl rfl (by constructor; first | omega | assumption) ?_ | refine o_t rfl rfl rfl (by constructor; assumption) ?_ | (apply o_easy rfl rfl rfl; conv => lhs; whnf) | apply o_non rfl)); apply o_end; (repeat (first | exact OutS.nil | exact GetS.hit | exact PutS.hit | apply GetS.miss rfl | apply PutS.miss rfl | apply OutS.cons | apply OutS.skip rfl)))
    exact c_ret rfl
  obtain ⟨n1, r1, hr1⟩ := parse_total a gr
  obtain ⟨n2, r2, hr2⟩ := parse_total b gr
  obtain ⟨N1, hN1⟩ := parse_spec a gr (by omega) n1 r1 hr1
  obtain ⟨N2, hN2⟩ := parse_spec b gr (by omega) n2 r2 hr2
  obtain ⟨N3, hN3⟩ := rparse_spec b gr (by omega) n2 r2 hr2
  obtain ⟨N4, hN4⟩ : ∃ N4, ∀ x j, r1 = .ok (x, j) → (∀ y, S11At x y N4) ∧ ∀ y, SameAt x y N4 := by
    cases r1 with
    | error e => exact ⟨0, fun x j h => by cases h⟩
    | ok q =>
      obtain ⟨x, j⟩ := q
      obtain ⟨f1, f2⟩ := fine_of hr1 (by omega)
      obtain ⟨M1, hM1⟩ := s11_spec x f1 f2
      obtain ⟨M2, hM2⟩ := same_spec x f1 f2
      refine ⟨M1 + M2, fun x' j' h => ?_⟩
      cases h
      exact ⟨fun y => (hM1 y).mono (by omega), fun y => (hM2 y).mono (by omega)⟩
  refine ⟨400 + N1 + N2 + N3 + N4 + 1, ?_⟩
  generalize hm : 400 + N1 + N2 + N3 + N4 = m
  have hp1 := hN1 m (by omega) (bar0.into .pure sg0) sg0 (.vec (Am.byteCells a) .shut) .nilsl rfl rfl
  have hp2 := hN2 m (by omega) (bar0.into .pure sg0) sg0 (.vec (Am.byteCells b) .shut) .nilsl rfl rfl
  have hp3 := hN3 m (by omega) sg0 (.vec (Am.byteCells b) .shut) .nilsl rfl rfl
  apply fin_eq
  (apply f_wp rfl rfl; (repeat (first | exact Shape.nil | (apply Shape.cons; conv => lhs; whnf))))
  ((repeat refine c_seq ?_); refine c_region ?_; (repeat (first | ((first | apply o_move rfl rfl | apply o_easy1 rfl rfl rfl | apply o_ld rfl rfl (by assumption) (by first | rfl | assumption)); conv => lhs; whnf) | apply o_no rfl | refine o_b rfl rfl rfl (by constructor; omega) ?_ | refine o_f rfl rfl rfl (by constructor; omega) ?_ | refine o_s rfl rfl rfl (by constructor; first | omega | assumption) ?_ | refine o_t rfl rfl rfl (by constructor; assumption) ?_ | (apply o_easy rfl rfl rfl; conv => lhs; whnf) | apply o_non rfl)); apply o_end; (repeat (first | exact OutS.nil | exact GetS.hit | exact PutS.hit | apply GetS.miss rfl | apply PutS.miss rfl | apply OutS.cons | apply OutS.skip rfl)))
  ((repeat refine c_seq ?_); refine c_region ?_; (repeat (first | ((first | apply o_move rfl rfl | apply o_easy1 rfl rfl rfl | apply o_ld rfl rfl (by assumption) (by first | rfl | assumption)); conv => lhs; whnf) | apply o_no rfl | refine o_b rfl rfl rfl (by constructor; omega) ?_ | refine o_f rfl rfl rfl (by constructor; omega) ?_ | refine o_s rfl rfl rfl (by constructor; first | omega | assumption) ?_ | refine o_t rfl rfl rfl (by constructor; assumption) ?_ | (apply o_easy rfl rfl rfl; conv => lhs; whnf) | apply o_non rfl)))
  refine o_call rfl rfl (awake' m (by omega)) ?_
  (repeat (first | ((first | apply o_move rfl rfl | apply o_easy1 rfl rfl rfl | apply o_ld rfl rfl (by assumption) (by first | rfl | assumption)); conv => lhs; whnf) | apply o_no rfl | refine o_b rfl rfl rfl (by constructor; omega) ?_ | refine o_f rfl rfl rfl (by constructor; omega) ?_ | refine o_s rfl rfl rfl (by constructor; first | omega | assumption) ?_ | refine o_t rfl rfl rfl (by constructor; assumption) ?_ | (apply o_easy rfl rfl rfl; conv => lhs; whnf) | apply o_non rfl))
  (apply o_end; (repeat (first | exact OutS.nil | exact GetS.hit | exact PutS.hit | apply GetS.miss rfl | apply PutS.miss rfl | apply OutS.cons | apply OutS.skip rfl)))
  ((repeat refine c_seq ?_); refine c_region ?_; (repeat (first | ((first | apply o_move rfl rfl | apply o_easy1 rfl rfl rfl | apply o_ld rfl rfl (by assumption) (by first | rfl | assumption)); conv => lhs; whnf) | apply o_no rfl | refine o_b rfl rfl rfl (by constructor; omega) ?_ | refine o_f rfl rfl rfl (by constructor; omega) ?_ | refine o_s rfl rfl rfl (by constructor; first | omega | assumption) ?_ | refine o_t rfl rfl rfl (by constructor; assumption) ?_ | (apply o_easy rfl rfl rfl; conv => lhs; whnf) | apply o_non rfl)); apply o_end; (repeat (first | exact OutS.nil | exact GetS.hit | exact PutS.hit | apply GetS.miss rfl | apply PutS.miss rfl | apply OutS.cons | apply OutS.skip rfl)))
  ((repeat refine c_seq ?_); refine c_else rfl ?_)
  refine c_skip ?_
  ((repeat refine c_seq ?_); refine c_region ?_; (repeat (first | ((first | apply o_move rfl rfl | apply o_easy1 rfl rfl rfl | apply o_ld rfl rfl (by assumption) (by first | rfl | assumption)); conv => lhs; whnf) | apply o_no rfl | refine o_b rfl rfl rfl (by constructor; omega) ?_ | refine o_f rfl rfl rfl (by constructor; omega) ?_ | refine o_s rfl rfl rfl (by constructor; first | omega | assumption) ?_ | refine o_t rfl rfl rfl (by constructor; assumption) ?_ | (apply o_easy rfl rfl rfl; conv => lhs; whnf) | apply o_non rfl)); apply o_end; (repeat (first | exact OutS.nil | exact GetS.hit | exact PutS.hit | apply GetS.miss rfl | apply PutS.miss rfl | apply OutS.cons | apply OutS.skip rfl)))
  ((repeat refine c_seq ?_); refine c_else rfl ?_)
  refine c_skip ?_
  ((repeat refine c_seq ?_); refine c_region ?_; (repeat (first | ((first | apply o_move rfl rfl | apply o_easy1 rfl rfl rfl | apply o_ld rfl rfl (by assumption) (by first | rfl | assumption)); conv => lhs; whnf) | apply o_no rfl | refine o_b rfl rfl rfl (by constructor; omega) ?_ | refine o_f rfl rfl rfl (by constructor; omega) ?_ | refine o_s rfl rfl rfl (by constructor; first | omega | assumption) ?_ | refine o_t rfl rfl rfl (by constructor; assumption) ?_ | (apply o_easy rfl rfl rfl; conv => lhs; whnf) | apply o_non rfl)))
  refine o_call rfl rfl hp1 ?_
  cases r1 with
  | error e1 =>
    cases r2 with
    | error e2 =>
      (repeat (first | ((first | apply o_move rfl rfl | apply o_easy1 rfl rfl rfl | apply o_ld rfl rfl (by assumption) (by first | rfl | assumption)); conv => lhs; whnf) | apply o_no rfl | refine o_b rfl rfl rfl (by constructor; omega) ?_ | refine o_f rfl rfl rfl (by constructor; omega) ?_ | refine o_s rfl rfl rfl (by constructor; first | omega | assumption) ?_ | refine o_t rfl rfl rfl (by constructor; assumption) ?_ | (apply o_easy rfl rfl rfl; conv => lhs; whnf) | apply o_non rfl))
      (apply o_end; (repeat (first | exact OutS.nil | exact GetS.hit | exact PutS.hit | apply GetS.miss rfl | apply PutS.miss rfl | apply OutS.cons | apply OutS.skip rfl)))
      ((repeat refine c_seq ?_); refine c_region ?_; (repeat (first | ((first | apply o_move rfl rfl | apply o_easy1 rfl rfl rfl | apply o_ld rfl rfl (by assumption) (by first | rfl | assumption)); conv => lhs; whnf) | apply o_no rfl | refine o_b rfl rfl rfl (by constructor; omega) ?_ | refine o_f rfl rfl rfl (by constructor; omega) ?_ | refine o_s rfl rfl rfl (by constructor; first | omega | assumption) ?_ | refine o_t rfl rfl rfl (by constructor; assumption) ?_ | (apply o_easy rfl rfl rfl; conv => lhs; whnf) | apply o_non rfl)))
      refine o_call rfl rfl hp2 ?_
      (repeat (first | ((first | apply o_move rfl rfl | apply o_easy1 rfl rfl rfl | apply o_ld rfl rfl (by assumption) (by first | rfl | assumption)); conv => lhs; whnf) | apply o_no rfl | refine o_b rfl rfl rfl (by constructor; omega) ?_ | refine o_f rfl rfl rfl (by constructor; omega) ?_ | refine o_s rfl rfl rfl (by constructor; first | omega | assumption) ?_ | refine o_t rfl rfl rfl (by constructor; assumption) ?_ | (apply o_easy rfl rfl rfl; conv => lhs; whnf) | apply o_non rfl))
      (apply o_end; (repeat (first | exact OutS.nil | exact GetS.hit | exact PutS.hit | apply GetS.miss rfl | apply PutS.miss rfl | apply OutS.cons | apply OutS.skip rfl)))
      ((repeat refine c_seq ?_); refine c_region ?_; (repeat (first | ((first | apply o_move rfl rfl | apply o_easy1 rfl rfl rfl | apply o_ld rfl rfl (by assumption) (by first | rfl | assumption)); conv => lhs; whnf) | apply o_no rfl | refine o_b rfl rfl rfl (by constructor; omega) ?_ | refine o_f rfl rfl rfl (by constructor; omega) ?_ | refine o_s rfl rfl rfl (by constructor; first | omega | assumption) ?_ | refine o_t rfl rfl rfl (by constructor; assumption) ?_ | (apply o_easy rfl rfl rfl; conv => lhs; whnf) | apply o_non rfl)))
      refine o_callw (l := [.vec (Am.byteCells b) .shut, .int .i64 gr, .nilsl]) rfl rfl (hp3.mono ?_)
      rintro o s2 ⟨hold2, rfl⟩
      refine o_alloc rfl ?_
      have hg0 := getCells_new s2 gz 0
      refine o_st (v := .agg (gbad e2)) rfl rfl rfl rfl hg0 rfl rfl (cs' := gbad e2) rfl ?_
      (apply o_end; (repeat (first | exact OutS.nil | exact GetS.hit | exact PutS.hit | apply GetS.miss rfl | apply PutS.miss rfl | apply OutS.cons | apply OutS.skip rfl)))
      have hG := getCells_put (cs' := gbad e2) (g' := 0) hg0
      generalize (s2.push (.cells gz 0)).put s2.heap.length (.cells (gbad e2) 0) = s4 at hG ⊢
      generalize s2.heap.length = G at hG ⊢
      ((repeat refine c_seq ?_); refine c_region ?_; (repeat (first | ((first | apply o_move rfl rfl | apply o_easy1 rfl rfl rfl | apply o_ld rfl rfl (by assumption) (by first | rfl | assumption)); conv => lhs; whnf) | apply o_no rfl | refine o_b rfl rfl rfl (by constructor; omega) ?_ | refine o_f rfl rfl rfl (by constructor; omega) ?_ | refine o_s rfl rfl rfl (by constructor; first | omega | assumption) ?_ | refine o_t rfl rfl rfl (by constructor; assumption) ?_ | (apply o_easy rfl rfl rfl; conv => lhs; whnf) | apply o_non rfl)); apply o_end; (repeat (first | exact OutS.nil | exact GetS.hit | exact PutS.hit | apply GetS.miss rfl | apply PutS.miss rfl | apply OutS.cons | apply OutS.skip rfl)))
      ((repeat refine c_seq ?_); refine c_if rfl ?_)
      ((repeat refine c_seq ?_); refine c_region ?_; (repeat (first | ((first | apply o_move rfl rfl | apply o_easy1 rfl rfl rfl | apply o_ld rfl rfl (by assumption) (by first | rfl | assumption)); conv => lhs; whnf) | apply o_no rfl | refine o_b rfl rfl rfl (by constructor; omega) ?_ | refine o_f rfl rfl rfl (by constructor; omega) ?_ | refine o_s rfl rfl rfl (by constructor; first | omega | assumption) ?_ | refine o_t rfl rfl rfl (by constructor; assumption) ?_ | (apply o_easy rfl rfl rfl; conv => lhs; whnf) | apply o_non rfl)); apply o_end; (repeat (first | exact OutS.nil | exact GetS.hit | exact PutS.hit | apply GetS.miss rfl | apply PutS.miss rfl | apply OutS.cons | apply OutS.skip rfl)))
      exact c_ret (fin_ret (.inl rfl) (read_tmp rfl read_nil) (leave_pure (lay_cons rfl lay_nil) rfl) ⟨rfl, rfl⟩)
    | ok y2 =>
      obtain ⟨y, j2⟩ := y2
      (repeat (first | ((first | apply o_move rfl rfl | apply o_easy1 rfl rfl rfl | apply o_ld rfl rfl (by assumption) (by first | rfl | assumption)); conv => lhs; whnf) | apply o_no rfl | refine o_b rfl rfl rfl (by constructor; omega) ?_ | refine o_f rfl rfl rfl (by constructor; omega) ?_ | refine o_s rfl rfl rfl (by constructor; first | omega | assumption) ?_ | refine o_t rfl rfl rfl (by constructor; assumption) ?_ | (apply o_easy rfl rfl rfl; conv => lhs; whnf) | apply o_non rfl))
      (apply o_end; (repeat (first | exact OutS.nil | exact GetS.hit | exact PutS.hit | apply GetS.miss rfl | apply PutS.miss rfl | apply OutS.cons | apply OutS.skip rfl)))
      ((repeat refine c_seq ?_); refine c_region ?_; (repeat (first | ((first | apply o_move rfl rfl | apply o_easy1 rfl rfl rfl | apply o_ld rfl rfl (by assumption) (by first | rfl | assumption)); conv => lhs; whnf) | apply o_no rfl | refine o_b rfl rfl rfl (by constructor; omega) ?_ | refine o_f rfl rfl rfl (by constructor; omega) ?_ | refine o_s rfl rfl rfl (by constructor; first | omega | assumption) ?_ | refine o_t rfl rfl rfl (by constructor; assumption) ?_ | (apply o_easy rfl rfl rfl; conv => lhs; whnf) | apply o_non rfl)))
      refine o_call rfl rfl hp2 ?_
      (repeat (first | ((first | apply o_move rfl rfl | apply o_easy1 rfl rfl rfl | apply o_ld rfl rfl (by assumption) (by first | rfl | assumption)); conv => lhs; whnf) | apply o_no rfl | refine o_b rfl rfl rfl (by constructor; omega) ?_ | refine o_f rfl rfl rfl (by constructor; omega) ?_ | refine o_s rfl rfl rfl (by constructor; first | omega | assumption) ?_ | refine o_t rfl rfl rfl (by constructor; assumption) ?_ | (apply o_easy rfl rfl rfl; conv => lhs; whnf) | apply o_non rfl))
      (apply o_end; (repeat (first | exact OutS.nil | exact GetS.hit | exact PutS.hit | apply GetS.miss rfl | apply PutS.miss rfl | apply OutS.cons | apply OutS.skip rfl)))
      ((repeat refine c_seq ?_); refine c_region ?_; (repeat (first | ((first | apply o_move rfl rfl | apply o_easy1 rfl rfl rfl | apply o_ld rfl rfl (by assumption) (by first | rfl | assumption)); conv => lhs; whnf) | apply o_no rfl | refine o_b rfl rfl rfl (by constructor; omega) ?_ | refine o_f rfl rfl rfl (by constructor; omega) ?_ | refine o_s rfl rfl rfl (by constructor; first | omega | assumption) ?_ | refine o_t rfl rfl rfl (by constructor; assumption) ?_ | (apply o_easy rfl rfl rfl; conv => lhs; whnf) | apply o_non rfl)))
      refine o_callw (l := [.vec (Am.byteCells b) .shut, .int .i64 gr, .nilsl]) rfl rfl (hp3.mono ?_)
      rintro o s2 ⟨hold2, hj, v, rfl, hv⟩
      obtain ⟨_, _, e3, e4⟩ := hv.one
      refine o_alloc rfl ?_
      have hg0 := getCells_new s2 gz 0
      refine o_st (v := .agg [v, .int .i64 j2, .bool false, .int .i64 0]) rfl rfl rfl (got_stored e3 e4) hg0 rfl rfl (cs' := [v, .int .i64 j2, .bool false, .int .i64 0]) rfl ?_
      (apply o_end; (repeat (first | exact OutS.nil | exact GetS.hit | exact PutS.hit | apply GetS.miss rfl | apply PutS.miss rfl | apply OutS.cons | apply OutS.skip rfl)))
      have hG := getCells_put (cs' := [v, .int .i64 j2, .bool false, .int .i64 0]) (g' := 0) hg0
      have hv4 : ValR ((s2.push (.cells gz 0)).put s2.heap.length (.cells [v, .int .i64 j2, .bool false, .int .i64 0] 0)).heap (fun _ => True) y v := hv.mono (fun i _ hil => ⟨trivial, by rw [Sg.put_get _ _ _ (by omega), Sg.push_get _ _ hil]⟩)
      generalize (s2.push (.cells gz 0)).put s2.heap.length (.cells [v, .int .i64 j2, .bool false, .int .i64 0] 0) = s4 at hG hv4 ⊢
      generalize s2.heap.length = G at hG ⊢
      ((repeat refine c_seq ?_); refine c_region ?_; (repeat (first | ((first | apply o_move rfl rfl | apply o_easy1 rfl rfl rfl | apply o_ld rfl rfl (by assumption) (by first | rfl | assumption)); conv => lhs; whnf) | apply o_no rfl | refine o_b rfl rfl rfl (by constructor; omega) ?_ | refine o_f rfl rfl rfl (by constructor; omega) ?_ | refine o_s rfl rfl rfl (by constructor; first | omega | assumption) ?_ | refine o_t rfl rfl rfl (by constructor; assumption) ?_ | (apply o_easy rfl rfl rfl; conv => lhs; whnf) | apply o_non rfl)); apply o_end; (repeat (first | exact OutS.nil | exact GetS.hit | exact PutS.hit | apply GetS.miss rfl | apply PutS.miss rfl | apply OutS.cons | apply OutS.skip rfl)))
      ((repeat refine c_seq ?_); refine c_if rfl ?_)
      ((repeat refine c_seq ?_); refine c_region ?_; (repeat (first | ((first | apply o_move rfl rfl | apply o_easy1 rfl rfl rfl | apply o_ld rfl rfl (by assumption) (by first | rfl | assumption)); conv => lhs; whnf) | apply o_no rfl | refine o_b rfl rfl rfl (by constructor; omega) ?_ | refine o_f rfl rfl rfl (by constructor; omega) ?_ | refine o_s rfl rfl rfl (by constructor; first | omega | assumption) ?_ | refine o_t rfl rfl rfl (by constructor; assumption) ?_ | (apply o_easy rfl rfl rfl; conv => lhs; whnf) | apply o_non rfl)); apply o_end; (repeat (first | exact OutS.nil | exact GetS.hit | exact PutS.hit | apply GetS.miss rfl | apply PutS.miss rfl | apply OutS.cons | apply OutS.skip rfl)))
      exact c_ret (fin_ret (.inl rfl) (read_tmp rfl read_nil) (leave_pure (lay_cons rfl lay_nil) rfl) ⟨rfl, rfl⟩)
  | ok x1 =>
    obtain ⟨x, j1⟩ := x1
    cases r2 with
    | error e2 =>
      (repeat (first | ((first | apply o_move rfl rfl | apply o_easy1 rfl rfl rfl | apply o_ld rfl rfl (by assumption) (by first | rfl | assumption)); conv => lhs; whnf) | apply o_no rfl | refine o_b rfl rfl rfl (by constructor; omega) ?_ | refine o_f rfl rfl rfl (by constructor; omega) ?_ | refine o_s rfl rfl rfl (by constructor; first | omega | assumption) ?_ | refine o_t rfl rfl rfl (by constructor; assumption) ?_ | (apply o_easy rfl rfl rfl; conv => lhs; whnf) | apply o_non rfl))
      (apply o_end; (repeat (first | exact OutS.nil | exact GetS.hit | exact PutS.hit | apply GetS.miss rfl | apply PutS.miss rfl | apply OutS.cons | apply OutS.skip rfl)))
      ((repeat refine c_seq ?_); refine c_region ?_; (repeat (first | ((first | apply o_move rfl rfl | apply o_easy1 rfl rfl rfl | apply o_ld rfl rfl (by assumption) (by first | rfl | assumption)); conv => lhs; whnf) | apply o_no rfl | refine o_b rfl rfl rfl (by constructor; omega) ?_ | refine o_f rfl rfl rfl (by constructor; omega) ?_ | refine o_s rfl rfl rfl (by constructor; first | omega | assumption) ?_ | refine o_t rfl rfl rfl (by constructor; assumption) ?_ | (apply o_easy rfl rfl rfl; conv => lhs; whnf) | apply o_non rfl)))
      refine o_call rfl rfl hp2 ?_
      (repeat (first | ((first | apply o_move rfl rfl | apply o_easy1 rfl rfl rfl | apply o_ld rfl rfl (by assumption) (by first | rfl | assumption)); conv => lhs; whnf) | apply o_no rfl | refine o_b rfl rfl rfl (by constructor; omega) ?_ | refine o_f rfl rfl rfl (by constructor; omega) ?_ | refine o_s rfl rfl rfl (by constructor; first | omega | assumption) ?_ | refine o_t rfl rfl rfl (by constructor; assumption) ?_ | (apply o_easy rfl rfl rfl; conv => lhs; whnf) | apply o_non rfl))
      (apply o_end; (repeat (first | exact OutS.nil | exact GetS.hit | exact PutS.hit | apply GetS.miss rfl | apply PutS.miss rfl | apply OutS.cons | apply OutS.skip rfl)))
      ((repeat refine c_seq ?_); refine c_region ?_; (repeat (first | ((first | apply o_move rfl rfl | apply o_easy1 rfl rfl rfl | apply o_ld rfl rfl (by assumption) (by first | rfl | assumption)); conv => lhs; whnf) | apply o_no rfl | refine o_b rfl rfl rfl (by constructor; omega) ?_ | refine o_f rfl rfl rfl (by constructor; omega) ?_ | refine o_s rfl rfl rfl (by constructor; first | omega | assumption) ?_ | refine o_t rfl rfl rfl (by constructor; assumption) ?_ | (apply o_easy rfl rfl rfl; conv => lhs; whnf) | apply o_non rfl)))
      refine o_callw (l := [.vec (Am.byteCells b) .shut, .int .i64 gr, .nilsl]) rfl rfl (hp3.mono ?_)
      rintro o s2 ⟨hold2, rfl⟩
      refine o_alloc rfl ?_
      have hg0 := getCells_new s2 gz 0
      refine o_st (v := .agg (gbad e2)) rfl rfl rfl rfl hg0 rfl rfl (cs' := gbad e2) rfl ?_
      (apply o_end; (repeat (first | exact OutS.nil | exact GetS.hit | exact PutS.hit | apply GetS.miss rfl | apply PutS.miss rfl | apply OutS.cons | apply OutS.skip rfl)))
      have hG := getCells_put (cs' := gbad e2) (g' := 0) hg0
      generalize (s2.push (.cells gz 0)).put s2.heap.length (.cells (gbad e2) 0) = s4 at hG ⊢
      generalize s2.heap.length = G at hG ⊢
      ((repeat refine c_seq ?_); refine c_region ?_; (repeat (first | ((first | apply o_move rfl rfl | apply o_easy1 rfl rfl rfl | apply o_ld rfl rfl (by assumption) (by first | rfl | assumption)); conv => lhs; whnf) | apply o_no rfl | refine o_b rfl rfl rfl (by constructor; omega) ?_ | refine o_f rfl rfl rfl (by constructor; omega) ?_ | refine o_s rfl rfl rfl (by constructor; first | omega | assumption) ?_ | refine o_t rfl rfl rfl (by constructor; assumption) ?_ | (apply o_easy rfl rfl rfl; conv => lhs; whnf) | apply o_non rfl)); apply o_end; (repeat (first | exact OutS.nil | exact GetS.hit | exact PutS.hit | apply GetS.miss rfl | apply PutS.miss rfl | apply OutS.cons | apply OutS.skip rfl)))
      ((repeat refine c_seq ?_); refine c_if rfl ?_)
      ((repeat refine c_seq ?_); refine c_region ?_; (repeat (first | ((first | apply o_move rfl rfl | apply o_easy1 rfl rfl rfl | apply o_ld rfl rfl (by assumption) (by first | rfl | assumption)); conv => lhs; whnf) | apply o_no rfl | refine o_b rfl rfl rfl (by constructor; omega) ?_ | refine o_f rfl rfl rfl (by constructor; omega) ?_ | refine o_s rfl rfl rfl (by constructor; first | omega | assumption) ?_ | refine o_t rfl rfl rfl (by constructor; assumption) ?_ | (apply o_easy rfl rfl rfl; conv => lhs; whnf) | apply o_non rfl)); apply o_end; (repeat (first | exact OutS.nil | exact GetS.hit | exact PutS.hit | apply GetS.miss rfl | apply PutS.miss rfl | apply OutS.cons | apply OutS.skip rfl)))
      exact c_ret (fin_ret (.inl rfl) (read_tmp rfl read_nil) (leave_pure (lay_cons rfl lay_nil) rfl) ⟨rfl, rfl⟩)
    | ok y2 =>
      obtain ⟨y, j2⟩ := y2
      obtain ⟨hS, hSm⟩ := hN4 x j1 rfl
      (repeat (first | ((first | apply o_move rfl rfl | apply o_easy1 rfl rfl rfl | apply o_ld rfl rfl (by assumption) (by first | rfl | assumption)); conv => lhs; whnf) | apply o_no rfl | refine o_b rfl rfl rfl (by constructor; omega) ?_ | refine o_f rfl rfl rfl (by constructor; omega) ?_ | refine o_s rfl rfl rfl (by constructor; first | omega | assumption) ?_ | refine o_t rfl rfl rfl (by constructor; assumption) ?_ | (apply o_easy rfl rfl rfl; conv => lhs; whnf) | apply o_non rfl))
      (apply o_end; (repeat (first | exact OutS.nil | exact GetS.hit | exact PutS.hit | apply GetS.miss rfl | apply PutS.miss rfl | apply OutS.cons | apply OutS.skip rfl)))
      ((repeat refine c_seq ?_); refine c_region ?_; (repeat (first | ((first | apply o_move rfl rfl | apply o_easy1 rfl rfl rfl | apply o_ld rfl rfl (by assumption) (by first | rfl | assumption)); conv => lhs; whnf) | apply o_no rfl | refine o_b rfl rfl rfl (by constructor; omega) ?_ | refine o_f rfl rfl rfl (by constructor; omega) ?_ | refine o_s rfl rfl rfl (by constructor; first | omega | assumption) ?_ | refine o_t rfl rfl rfl (by constructor; assumption) ?_ | (apply o_easy rfl rfl rfl; conv => lhs; whnf) | apply o_non rfl)))
      refine o_call rfl rfl hp2 ?_
      (repeat (first | ((first | apply o_move rfl rfl | apply o_easy1 rfl rfl rfl | apply o_ld rfl rfl (by assumption) (by first | rfl | assumption)); conv => lhs; whnf) | apply o_no rfl | refine o_b rfl rfl rfl (by constructor; omega) ?_ | refine o_f rfl rfl rfl (by constructor; omega) ?_ | refine o_s rfl rfl rfl (by constructor; first | omega | assumption) ?_ | refine o_t rfl rfl rfl (by constructor; assumption) ?_ | (apply o_easy rfl rfl rfl; conv => lhs; whnf) | apply o_non rfl))
      (apply o_end; (repeat (first | exact OutS.nil | exact GetS.hit | exact PutS.hit | apply GetS.miss rfl | apply PutS.miss rfl | apply OutS.cons | apply OutS.skip rfl)))
      ((repeat refine c_seq ?_); refine c_region ?_; (repeat (first | ((first | apply o_move rfl rfl | apply o_easy1 rfl rfl rfl | apply o_ld rfl rfl (by assumption) (by first | rfl | assumption)); conv => lhs; whnf) | apply o_no rfl | refine o_b rfl rfl rfl (by constructor; omega) ?_ | refine o_f rfl rfl rfl (by constructor; omega) ?_ | refine o_s rfl rfl rfl (by constructor; first | omega | assumption) ?_ | refine o_t rfl rfl rfl (by constructor; assumption) ?_ | (apply o_easy rfl rfl rfl; conv => lhs; whnf) | apply o_non rfl)))
      refine o_callw (l := [.vec (Am.byteCells b) .shut, .int .i64 gr, .nilsl]) rfl rfl (hp3.mono ?_)
      rintro o s2 ⟨hold2, hj, v, rfl, hv⟩
      obtain ⟨_, _, e3, e4⟩ := hv.one
      refine o_alloc rfl ?_
      have hg0 := getCells_new s2 gz 0
      refine o_st (v := .agg [v, .int .i64 j2, .bool false, .int .i64 0]) rfl rfl rfl (got_stored e3 e4) hg0 rfl rfl (cs' := [v, .int .i64 j2, .bool false, .int .i64 0]) rfl ?_
      (apply o_end; (repeat (first | exact OutS.nil | exact GetS.hit | exact PutS.hit | apply GetS.miss rfl | apply PutS.miss rfl | apply OutS.cons | apply OutS.skip rfl)))
      have hG := getCells_put (cs' := [v, .int .i64 j2, .bool false, .int .i64 0]) (g' := 0) hg0
      have hv4 : ValR ((s2.push (.cells gz 0)).put s2.heap.length (.cells [v, .int .i64 j2, .bool false, .int .i64 0] 0)).heap (fun _ => True) y v := hv.mono (fun i _ hil => ⟨trivial, by rw [Sg.put_get _ _ _ (by omega), Sg.push_get _ _ hil]⟩)
      generalize (s2.push (.cells gz 0)).put s2.heap.length (.cells [v, .int .i64 j2, .bool false, .int .i64 0] 0) = s4 at hG hv4 ⊢
      generalize s2.heap.length = G at hG ⊢
      have hd := hv4.one.1
      ((repeat refine c_seq ?_); refine c_region ?_; (repeat (first | ((first | apply o_move rfl rfl | apply o_easy1 rfl rfl rfl | apply o_ld rfl rfl (by assumption) (by first | rfl | assumption)); conv => lhs; whnf) | apply o_no rfl | refine o_b rfl rfl rfl (by constructor; omega) ?_ | refine o_f rfl rfl rfl (by constructor; omega) ?_ | refine o_s rfl rfl rfl (by constructor; first | omega | assumption) ?_ | refine o_t rfl rfl rfl (by constructor; assumption) ?_ | (apply o_easy rfl rfl rfl; conv => lhs; whnf) | apply o_non rfl)); apply o_end; (repeat (first | exact OutS.nil | exact GetS.hit | exact PutS.hit | apply GetS.miss rfl | apply PutS.miss rfl | apply OutS.cons | apply OutS.skip rfl)))
      ((repeat refine c_seq ?_); refine c_else rfl ?_)
      refine c_skip ?_
      ((repeat refine c_seq ?_); refine c_drawn ?_; (repeat (first | ((first | apply o_move rfl rfl | apply o_easy1 rfl rfl rfl | apply o_ld rfl rfl (by assumption) (by first | rfl | assumption)); conv => lhs; whnf) | apply o_no rfl | refine o_b rfl rfl rfl (by constructor; omega) ?_ | refine o_f rfl rfl rfl (by constructor; omega) ?_ | refine o_s rfl rfl rfl (by constructor; first | omega | assumption) ?_ | refine o_t rfl rfl rfl (by constructor; assumption) ?_ | (apply o_easy rfl rfl rfl; conv => lhs; whnf) | apply o_non rfl)))
      refine o_call rfl rfl (hS y m (by omega) _ s4 (.vec (avs x) .shut) (.vec (avs y) .shut) rfl rfl) ?_
      (repeat (first | ((first | apply o_move rfl rfl | apply o_easy1 rfl rfl rfl | apply o_ld rfl rfl (by assumption) (by first | rfl | assumption)); conv => lhs; whnf) | apply o_no rfl | refine o_b rfl rfl rfl (by constructor; omega) ?_ | refine o_f rfl rfl rfl (by constructor; omega) ?_ | refine o_s rfl rfl rfl (by constructor; first | omega | assumption) ?_ | refine o_t rfl rfl rfl (by constructor; assumption) ?_ | (apply o_easy rfl rfl rfl; conv => lhs; whnf) | apply o_non rfl))
      refine o_call rfl (evAll2 rfl hd) (hSm y m (by omega) _ s4 _ (.vec (avs x) .shut) v rfl hv4) ?_
      have hxx := hS x m (by omega) (bar0.into .pure sg0) s4 (.vec (avs x) .shut) (.vec (avs x) .shut) rfl rfl
      rw [eqL_refl] at hxx
      cases eqL x y with
      | true =>
        (repeat (first | ((first | apply o_move rfl rfl | apply o_easy1 rfl rfl rfl | apply o_ld rfl rfl (by assumption) (by first | rfl | assumption)); conv => lhs; whnf) | apply o_no rfl | refine o_b rfl rfl rfl (by constructor; omega) ?_ | refine o_f rfl rfl rfl (by constructor; omega) ?_ | refine o_s rfl rfl rfl (by constructor; first | omega | assumption) ?_ | refine o_t rfl rfl rfl (by constructor; assumption) ?_ | (apply o_easy rfl rfl rfl; conv => lhs; whnf) | apply o_non rfl))
        refine o_call rfl rfl hxx ?_
        (repeat (first | ((first | apply o_move rfl rfl | apply o_easy1 rfl rfl rfl | apply o_ld rfl rfl (by assumption) (by first | rfl | assumption)); conv => lhs; whnf) | apply o_no rfl | refine o_b rfl rfl rfl (by constructor; omega) ?_ | refine o_f rfl rfl rfl (by constructor; omega) ?_ | refine o_s rfl rfl rfl (by constructor; first | omega | assumption) ?_ | refine o_t rfl rfl rfl (by constructor; assumption) ?_ | (apply o_easy rfl rfl rfl; conv => lhs; whnf) | apply o_non rfl))
        (apply d_end rfl; (repeat (first | exact OutS.nil | exact GetS.hit | exact PutS.hit | apply GetS.miss rfl | apply PutS.miss rfl | apply OutS.cons | apply OutS.skip rfl)))
        exact c_ret (fin_ret (.inl rfl) (read_tmp rfl read_nil) (leave_pure (lay_cons rfl lay_nil) rfl) ⟨rfl, rfl⟩)
      | false =>
        (repeat (first | ((first | apply o_move rfl rfl | apply o_easy1 rfl rfl rfl | apply o_ld rfl rfl (by assumption) (by first | rfl | assumption)); conv => lhs; whnf) | apply o_no rfl | refine o_b rfl rfl rfl (by constructor; omega) ?_ | refine o_f rfl rfl rfl (by constructor; omega) ?_ | refine o_s rfl rfl rfl (by constructor; first | omega | assumption) ?_ | refine o_t rfl rfl rfl (by constructor; assumption) ?_ | (apply o_easy rfl rfl rfl; conv => lhs; whnf) | apply o_non rfl))
        refine o_call rfl rfl hxx ?_
        (repeat (first | ((first | apply o_move rfl rfl | apply o_easy1 rfl rfl rfl | apply o_ld rfl rfl (by assumption) (by first | rfl | assumption)); conv => lhs; whnf) | apply o_no rfl | refine o_b rfl rfl rfl (by constructor; omega) ?_ | refine o_f rfl rfl rfl (by constructor; omega) ?_ | refine o_s rfl rfl rfl (by constructor; first | omega | assumption) ?_ | refine o_t rfl rfl rfl (by constructor; assumption) ?_ | (apply o_easy rfl rfl rfl; conv => lhs; whnf) | apply o_non rfl))
        (apply d_end rfl; (repeat (first | exact OutS.nil | exact GetS.hit | exact PutS.hit | apply GetS.miss rfl | apply PutS.miss rfl | apply OutS.cons | apply OutS.skip rfl)))
        exact c_ret (fin_ret (.inl rfl) (read_tmp rfl read_nil) (leave_pure (lay_cons rfl lay_nil) rfl) ⟨rfl, rfl⟩)


end Go.Tpl

/-
  Parts are the same just where the document says: TemplateSame answers true, whatever the two texts and the groups, and leaves them as they were.
-/
namespace Go.Proofs.Ytdbjemmoaldelaa
open Go.ChangeShapes Go.WideShapes Go.ChangeAt Go.RowKit

theorem own : ownKnob Try.prog.godebug = none := by kernel_rfl
theorem laidOut : laidOutB Try.prog = true := by kernel_rfl
theorem rowed : mapsRowed Try.prog = true := by kernel_rfl
theorem full : ∀ t e, t < Try.prog.types.size → Try.prog.underlying t = some (.slice e) → 0 < Try.prog.cellsOf e := slices_full_of Try.prog (by kernel_rfl)
theorem cells5 : Try.prog.cellsOf 5 = 1 := by kernel_rfl

set_option maxRecDepth 100000 in
theorem same_lifted (os : Os) (started : os.Started) (H : Type) (enc : TypeId × Value → H) :
    ReturnsInHanded {} Try.checked os 6 .any (Rows.templateSameSpec.pre6 enc Try.prog Try.f6 Rows.templateSameRow.domain false) (Rows.templateSameSpec.post enc Try.prog Try.f6 false true false false) := by
  refine returnsInHanded_of_change (C := Try.checked) own started (by kernel_rfl) Try.func6
    (ChangeSpec.witness6 (enc := enc) (C := Try.checked) false ⟨#[], #[.slice none 0 0, .slice none 0 0, .int .i64 0], []⟩ 8 (by kernel_rfl) (by kernel_rfl) (by kernel_rfl) (by kernel_rfl)) ?_
  intro W base args ds gs before hval0 hW hcnd _
  have hval : ∀ (j : Nat) t v, Try.f6.params[j]? = some t → args[j]? = some v → Value.okWide Try.prog W .any base t v := hval0
  have hW' : DataW.Whole enc Try.prog Try.f6.params.toList Rows.templateSameSpec.vars false W args.toList ds gs before := hW
  obtain ⟨p, q, hA0, hV, rfl, hfz, hnd⟩ := hW
  have hA : DataW.TrodAll enc Try.prog W 0 (fun _ => true) true Try.f6.params.toList args.toList ds p := hA0
  have hts : ∀ t ∈ Try.f6.params.toList, t < Try.prog.types.size := of_decide_eq_true (by kernel_rfl)
  rw [Try.params6] at hA hval
  obtain ⟨v0, v1, v2, d0, d1, d2, p0, p1, p2, rfl, rfl, rfl, h0, h1, h2⟩ := trodAll_three hA
  have hgs : gs = [] ∧ q = [] := trodVars_none hV
  obtain ⟨rfl, rfl⟩ := hgs
  obtain ⟨a, hv0, _⟩ := Am.lay_bytes Try.underlying22 Try.underlying5 cells5 (hval 0 22 v0 rfl rfl) h0
  obtain ⟨b, hv1, _⟩ := Am.lay_bytes Try.underlying22 Try.underlying5 cells5 (hval 1 22 v1 rfl rfl) h1
  obtain ⟨gr, hv2, _⟩ := Am.lay_int Try.underlying3 (hval 2 3 v2 rfl rfl) h2
  obtain ⟨n, hn⟩ := Tpl.samelaw_true a b gr
  have hc := Am.law_true Tpl.tab_ok hn (Am.vrs_cons hv0 (Am.vrs_cons hv1 (Am.vrs_cons hv2 Am.vrs_nil))) Try.func6 rfl (by decide +kernel)
  exact hc.mono fun e W' he => ⟨_, he.1, Am.law_post laidOut rowed full hts rfl rfl Try.underlying4 hW' rfl rfl rfl he.2⟩

theorem templateSame : Rows.TemplateSameSaid :=
  OpenClaim.holds_of_wide 6 Try.f6 rfl rfl rfl rfl rfl rfl rfl ⟨rfl, rfl, rfl, rfl, rfl⟩ rfl rfl rfl rfl rfl (by kernel_rfl) Try.func6 (by kernel_rfl)
    (of_decide_eq_true (by kernel_rfl)) (by unfold Func.isWrapper; first | (rw [if_pos (by decide +kernel)]; kernel_rfl) | (rw [if_neg (by decide +kernel)]; exact ⟨rfl, rfl⟩))
    (fun os started H enc _ => same_lifted os started H enc)

#print axioms templateSame
end Go.Proofs.Ytdbjemmoaldelaa
