/-
  The reference of the template package: its functions, second part.
-/
import Derived.Test.YtdbjemmoaldelaaSameA
import Derived.Test.YtdbjemmoaldelaaTmplC

namespace Go.Tpl
open Go Go.Am Go.Proofs

set_option maxHeartbeats 4000000 in
theorem rdollar_ok (t : List UInt8) (gr : Int) (n : Nat) (ht : t.length < 2 ^ 30) (hP : RPartsOk t gr n) (at' d : Nat) (hd : d ≤ 10) : ∃ N, RDollarAt t gr (n + 1) at' d N := by
  obtain ⟨i, hi'⟩ : ∃ i, i = at' + 1 := ⟨_, rfl⟩
  obtain ⟨N1, h1⟩ : ∃ N1, d < 10 → RPartsAt t gr n true false (d + 1) ((numM t 3 (i + 1) 0).2 + 2) N1 := by
    by_cases h : d < 10
    · obtain ⟨N, h'⟩ := hP true false (d + 1) ((numM t 3 (i + 1) 0).2 + 2) (by omega) (fun _ => rfl); exact ⟨N, fun _ => h'⟩
    · exact ⟨0, fun h' => absurd h' h⟩
  obtain ⟨N2, h2⟩ : ∃ N2, d < 10 → RPartsAt t gr n true true (d + 1) ((numM t 3 (i + 1) 0).2 + 2) N2 := by
    by_cases h : d < 10
    · obtain ⟨N, h'⟩ := hP true true (d + 1) ((numM t 3 (i + 1) 0).2 + 2) (by omega) (fun _ => rfl); exact ⟨N, fun _ => h'⟩
    · exact ⟨0, fun h' => absurd h' h⟩
  obtain ⟨N3, h3⟩ : ∃ N3, d < 10 → RPartsAt t gr n true false (d + 1) ((match partsM t gr n [58, 125] (d + 1) ((numM t 3 (i + 1) 0).2 + 2) [] with | some (.ok (_, k)) => k | _ => 0) + 1) N3 := by
    by_cases h : d < 10
    · obtain ⟨N, h'⟩ := hP true false (d + 1) ((match partsM t gr n [58, 125] (d + 1) ((numM t 3 (i + 1) 0).2 + 2) [] with | some (.ok (_, k)) => k | _ => 0) + 1) (by omega) (fun _ => rfl); exact ⟨N, fun _ => h'⟩
    · exact ⟨0, fun h' => absurd h' h⟩
  refine ⟨N1 + N2 + N3 + t.length + 40, ?_⟩
  intro res hres hi0 hno m hm s
  rw [← hi'] at hres hi0 hno
  obtain ⟨m, rfl⟩ : ∃ m', m = m' + 10 := ⟨m - 10, by omega⟩
  simp only [dollarM, hno, Bool.false_eq_true, if_false] at hres
  (apply f_wp rfl rfl; (repeat (first | exact Shape.nil | (apply Shape.cons; conv => lhs; whnf))))
  ((repeat refine c_seq ?_); refine c_region ?_; (repeat (first | ((first | apply o_move rfl rfl | apply o_easy1 rfl rfl rfl | apply o_ld rfl rfl (by assumption) (by first | rfl | assumption)); conv => lhs; whnf) | apply o_no rfl | refine o_b rfl rfl rfl (by constructor; omega) ?_ | refine o_f rfl rfl rfl (by constructor; omega) ?_ | refine o_s rfl rfl rfl (by constructor; first | omega | assumption) ?_ | refine o_t rfl rfl rfl (by constructor; assumption) ?_ | (apply o_easy rfl rfl rfl; conv => lhs; whnf) | apply o_non rfl)))
  refine o_box (v := .agg (tx t gr)) (l := tx t gr) rfl rfl rfl ?_
  refine o_alloc rfl ?_
  (apply o_end; (repeat (first | exact OutS.nil | exact GetS.hit | exact PutS.hit | apply GetS.miss rfl | apply PutS.miss rfl | apply OutS.cons | apply OutS.skip rfl)))
  ((repeat refine c_seq ?_); refine c_region ?_; (repeat (first | ((first | apply o_move rfl rfl | apply o_easy1 rfl rfl rfl | apply o_ld rfl rfl (by assumption) (by first | rfl | assumption)); conv => lhs; whnf) | apply o_no rfl | refine o_b rfl rfl rfl (by constructor; omega) ?_ | refine o_f rfl rfl rfl (by constructor; omega) ?_ | refine o_s rfl rfl rfl (by constructor; first | omega | assumption) ?_ | refine o_t rfl rfl rfl (by constructor; assumption) ?_ | (apply o_easy rfl rfl rfl; conv => lhs; whnf) | apply o_non rfl)))
  refine o_alloc rfl ?_
  have g0 := getCells_push (.cells gz 0) (getCells_push (.cells gz 0) (getCells_new s (tx t gr) 0))
  have g1 := getCells_push (.cells gz 0) (getCells_new (s.push (.cells (tx t gr) 0)) gz 0)
  have g2 := getCells_new ((s.push (.cells (tx t gr) 0)).push (.cells gz 0)) gz 0
  have lA : s.heap.length < (s.push (.cells (tx t gr) 0)).heap.length := by rw [Sg.push_len]; omega
  have lB : (s.push (.cells (tx t gr) 0)).heap.length < ((s.push (.cells (tx t gr) 0)).push (.cells gz 0)).heap.length := by rw [Sg.push_len (s.push _)]; omega
  refine o_st (v := .agg (gbad at')) rfl rfl rfl rfl g2 rfl rfl (cs' := gbad at') rfl ?_
  (apply o_end; (repeat (first | exact OutS.nil | exact GetS.hit | exact PutS.hit | apply GetS.miss rfl | apply PutS.miss rfl | apply OutS.cons | apply OutS.skip rfl)))
  have hold := ((((Old.refl s).push (.cells (tx t gr) 0)).push (.cells gz 0)).push (.cells gz 0)).put (i := ((s.push (.cells (tx t gr) 0)).push (.cells gz 0)).heap.length) (.cells (gbad at') 0) (by omega)
  have g0' := getCells_put_ne (i := ((s.push (.cells (tx t gr) 0)).push (.cells gz 0)).heap.length) (o := .cells (gbad at') 0) (by omega) g0
  have g1' := getCells_put_ne (i := ((s.push (.cells (tx t gr) 0)).push (.cells gz 0)).heap.length) (o := .cells (gbad at') 0) (by omega) g1
  have g2' := getCells_put (cs' := gbad at') (g' := 0) g2
  generalize hs2 : (((s.push (.cells (tx t gr) 0)).push (.cells gz 0)).push (.cells gz 0)).put ((s.push (.cells (tx t gr) 0)).push (.cells gz 0)).heap.length (.cells (gbad at') 0) = s2 at hold g0' g1' g2' ⊢
  generalize ((s.push (.cells (tx t gr) 0)).push (.cells gz 0)).heap.length = Bd at g2' lB ⊢
  generalize (s.push (.cells (tx t gr) 0)).heap.length = R at g1' lA lB ⊢
  have D2 : RSt t gr at' s s.heap.length R Bd s2 := ⟨hold, g0', g1', g2', Nat.le_refl _, lA, lB⟩
  clear g0 g1 g2 g0' g1' g2' hs2 hold
  generalize hX : s.heap.length = X at D2 lA ⊢
  have hx := D2.x
  have hb := D2.bd
  ((repeat refine c_seq ?_); refine c_region ?_; (repeat (first | ((first | apply o_move rfl rfl | apply o_easy1 rfl rfl rfl | apply o_ld rfl rfl (by assumption) (by first | rfl | assumption)); conv => lhs; whnf) | apply o_no rfl | refine o_b rfl rfl rfl (by constructor; omega) ?_ | refine o_f rfl rfl rfl (by constructor; omega) ?_ | refine o_s rfl rfl rfl (by constructor; first | omega | assumption) ?_ | refine o_t rfl rfl rfl (by constructor; assumption) ?_ | (apply o_easy rfl rfl rfl; conv => lhs; whnf) | apply o_non rfl)); apply o_end; (repeat (first | exact OutS.nil | exact GetS.hit | exact PutS.hit | apply GetS.miss rfl | apply PutS.miss rfl | apply OutS.cons | apply OutS.skip rfl)))
  change OkC _ _ _ _ (fr23 t gr at' d X R Bd (.int .i64 ((at' : Int) + 1)) .undef .undef .undef .undef .undef .undef .undef .undef .undef .undef .undef .undef .undef .undef .undef .undef .undef .undef .undef) _ _
  rw [show ((at' : Int) + 1) = (i : Int) by omega]
  have his := is_spec (m + 8) bb s2 t [123] gr i hi0 (by omega) (by simp)
  cases hsb : stands t i [123] with
  | false =>
    simp only [hsb, if_true] at hres his
    ((repeat refine c_seq ?_); refine c_region ?_; (repeat (first | ((first | apply o_move rfl rfl | apply o_easy1 rfl rfl rfl | apply o_ld rfl rfl (by assumption) (by first | rfl | assumption)); conv => lhs; whnf) | apply o_no rfl | refine o_b rfl rfl rfl (by constructor; omega) ?_ | refine o_f rfl rfl rfl (by constructor; omega) ?_ | refine o_s rfl rfl rfl (by constructor; first | omega | assumption) ?_ | refine o_t rfl rfl rfl (by constructor; assumption) ?_ | (apply o_easy rfl rfl rfl; conv => lhs; whnf) | apply o_non rfl)))
    refine o_call rfl rfl his ?_
    (repeat (first | ((first | apply o_move rfl rfl | apply o_easy1 rfl rfl rfl | apply o_ld rfl rfl (by assumption) (by first | rfl | assumption)); conv => lhs; whnf) | apply o_no rfl | refine o_b rfl rfl rfl (by constructor; omega) ?_ | refine o_f rfl rfl rfl (by constructor; omega) ?_ | refine o_s rfl rfl rfl (by constructor; first | omega | assumption) ?_ | refine o_t rfl rfl rfl (by constructor; assumption) ?_ | (apply o_easy rfl rfl rfl; conv => lhs; whnf) | apply o_non rfl))
    (apply o_end; (repeat (first | exact OutS.nil | exact GetS.hit | exact PutS.hit | apply GetS.miss rfl | apply PutS.miss rfl | apply OutS.cons | apply OutS.skip rfl)))
    ((repeat refine c_seq ?_); refine c_if rfl ?_)
    ((repeat refine c_seq ?_); refine c_region ?_; (repeat (first | ((first | apply o_move rfl rfl | apply o_easy1 rfl rfl rfl | apply o_ld rfl rfl (by assumption) (by first | rfl | assumption)); conv => lhs; whnf) | apply o_no rfl | refine o_b rfl rfl rfl (by constructor; omega) ?_ | refine o_f rfl rfl rfl (by constructor; omega) ?_ | refine o_s rfl rfl rfl (by constructor; first | omega | assumption) ?_ | refine o_t rfl rfl rfl (by constructor; assumption) ?_ | (apply o_easy rfl rfl rfl; conv => lhs; whnf) | apply o_non rfl)); apply o_end; (repeat (first | exact OutS.nil | exact GetS.hit | exact PutS.hit | apply GetS.miss rfl | apply PutS.miss rfl | apply OutS.cons | apply OutS.skip rfl)))
    ((repeat refine c_seq ?_); refine c_region ?_; (repeat (first | ((first | apply o_move rfl rfl | apply o_easy1 rfl rfl rfl | apply o_ld rfl rfl (by assumption) (by first | rfl | assumption)); conv => lhs; whnf) | apply o_no rfl | refine o_b rfl rfl rfl (by constructor; omega) ?_ | refine o_f rfl rfl rfl (by constructor; omega) ?_ | refine o_s rfl rfl rfl (by constructor; first | omega | assumption) ?_ | refine o_t rfl rfl rfl (by constructor; assumption) ?_ | (apply o_easy rfl rfl rfl; conv => lhs; whnf) | apply o_non rfl)); apply o_end; (repeat (first | exact OutS.nil | exact GetS.hit | exact PutS.hit | apply GetS.miss rfl | apply PutS.miss rfl | apply OutS.cons | apply OutS.skip rfl)))
    ((repeat refine c_seq ?_); refine c_block ?_)
    refine c_loop (x := lp23_0) ?_
    refine num23_loop (m + 8) t gr at' d X R Bd i s2 hx (by omega) 2 _ i 0 _ (by omega) (by omega) (by omega) hi0 (by omega) ?_
    have hj := numM_le t 2 i 0 hi0
    have hge := numM_ge t 2 i 0
    generalize numM t 2 i 0 = nj at hres hj hge ⊢
    obtain ⟨v, j⟩ := nj
    dsimp only at hres hj hge ⊢
    by_cases hij : i < j
    · by_cases hle : (v : Int) ≤ gr
      · rw [if_pos ⟨hij, hle⟩] at hres
        cases hres
        ((repeat refine c_seq ?_); refine c_region ?_; (repeat (first | ((first | apply o_move rfl rfl | apply o_easy1 rfl rfl rfl | apply o_ld rfl rfl (by assumption) (by first | rfl | assumption)); conv => lhs; whnf) | apply o_no rfl | refine o_b rfl rfl rfl (by constructor; omega) ?_ | refine o_f rfl rfl rfl (by constructor; omega) ?_ | refine o_s rfl rfl rfl (by constructor; first | omega | assumption) ?_ | refine o_t rfl rfl rfl (by constructor; assumption) ?_ | (apply o_easy rfl rfl rfl; conv => lhs; whnf) | apply o_non rfl)); apply o_end; (repeat (first | exact OutS.nil | exact GetS.hit | exact PutS.hit | apply GetS.miss rfl | apply PutS.miss rfl | apply OutS.cons | apply OutS.skip rfl)))
        ((repeat refine c_seq ?_); refine c_else rfl ?_)
        refine c_skip ?_
        ((repeat refine c_seq ?_); refine c_region ?_; (repeat (first | ((first | apply o_move rfl rfl | apply o_easy1 rfl rfl rfl | apply o_ld rfl rfl (by assumption) (by first | rfl | assumption)); conv => lhs; whnf) | apply o_no rfl | refine o_b rfl rfl rfl (by constructor; omega) ?_ | refine o_f rfl rfl rfl (by constructor; omega) ?_ | refine o_s rfl rfl rfl (by constructor; first | omega | assumption) ?_ | refine o_t rfl rfl rfl (by constructor; assumption) ?_ | (apply o_easy rfl rfl rfl; conv => lhs; whnf) | apply o_non rfl)))
        refine o_st (v := .agg [.vec [.agg (Tp.group v).cells] (.exact true), .int .i64 j, .bool false, .int .i64 0]) rfl rfl rfl rfl D2.r rfl rfl (cs' := [.vec [.agg (Tp.group v).cells] (.exact true), .int .i64 j, .bool false, .int .i64 0]) rfl ?_
        (apply o_end; (repeat (first | exact OutS.nil | exact GetS.hit | exact PutS.hit | apply GetS.miss rfl | apply PutS.miss rfl | apply OutS.cons | apply OutS.skip rfl)))
        refine c_ret (rdollar_end D2 rfl rfl ⟨D2.old.put _ (by have := D2.lo; omega), hj, (Tp.group v).cells, true, rfl, ?_⟩)
        simp only [CellR, Tp.cells]
      · rw [if_neg (fun e => hle e.2)] at hres
        cases hres
        ((repeat refine c_seq ?_); refine c_region ?_; (repeat (first | ((first | apply o_move rfl rfl | apply o_easy1 rfl rfl rfl | apply o_ld rfl rfl (by assumption) (by first | rfl | assumption)); conv => lhs; whnf) | apply o_no rfl | refine o_b rfl rfl rfl (by constructor; omega) ?_ | refine o_f rfl rfl rfl (by constructor; omega) ?_ | refine o_s rfl rfl rfl (by constructor; first | omega | assumption) ?_ | refine o_t rfl rfl rfl (by constructor; assumption) ?_ | (apply o_easy rfl rfl rfl; conv => lhs; whnf) | apply o_non rfl)); apply o_end; (repeat (first | exact OutS.nil | exact GetS.hit | exact PutS.hit | apply GetS.miss rfl | apply PutS.miss rfl | apply OutS.cons | apply OutS.skip rfl)))
        ((repeat refine c_seq ?_); refine c_if rfl ?_)
        ((repeat refine c_seq ?_); refine c_region ?_; (repeat (first | ((first | apply o_move rfl rfl | apply o_easy1 rfl rfl rfl | apply o_ld rfl rfl (by assumption) (by first | rfl | assumption)); conv => lhs; whnf) | apply o_no rfl | refine o_b rfl rfl rfl (by constructor; omega) ?_ | refine o_f rfl rfl rfl (by constructor; omega) ?_ | refine o_s rfl rfl rfl (by constructor; first | omega | assumption) ?_ | refine o_t rfl rfl rfl (by constructor; assumption) ?_ | (apply o_easy rfl rfl rfl; conv => lhs; whnf) | apply o_non rfl)))
        refine o_st (v := .agg (gbad at')) rfl rfl rfl rfl D2.r rfl rfl (cs' := gbad at') rfl ?_
        (apply o_end; (repeat (first | exact OutS.nil | exact GetS.hit | exact PutS.hit | apply GetS.miss rfl | apply PutS.miss rfl | apply OutS.cons | apply OutS.skip rfl)))
        exact c_ret (rdollar_end D2 rfl rfl ⟨D2.old.put _ (by have := D2.lo; omega), rfl⟩)
    · rw [if_neg (fun e => hij e.1)] at hres
      cases hres
      have hji : j = i := by omega
      ((repeat refine c_seq ?_); refine c_region ?_; (repeat (first | ((first | apply o_move rfl rfl | apply o_easy1 rfl rfl rfl | apply o_ld rfl rfl (by assumption) (by first | rfl | assumption)); conv => lhs; whnf) | apply o_no rfl | refine o_b rfl rfl rfl (by constructor; omega) ?_ | refine o_f rfl rfl rfl (by constructor; omega) ?_ | refine o_s rfl rfl rfl (by constructor; first | omega | assumption) ?_ | refine o_t rfl rfl rfl (by constructor; assumption) ?_ | (apply o_easy rfl rfl rfl; conv => lhs; whnf) | apply o_non rfl)); apply o_end; (repeat (first | exact OutS.nil | exact GetS.hit | exact PutS.hit | apply GetS.miss rfl | apply PutS.miss rfl | apply OutS.cons | apply OutS.skip rfl)))
      ((repeat refine c_seq ?_); refine c_if rfl ?_)
      ((repeat refine c_seq ?_); refine c_region ?_; (repeat (first | ((first | apply o_move rfl rfl | apply o_easy1 rfl rfl rfl | apply o_ld rfl rfl (by assumption) (by first | rfl | assumption)); conv => lhs; whnf) | apply o_no rfl | refine o_b rfl rfl rfl (by constructor; omega) ?_ | refine o_f rfl rfl rfl (by constructor; omega) ?_ | refine o_s rfl rfl rfl (by constructor; first | omega | assumption) ?_ | refine o_t rfl rfl rfl (by constructor; assumption) ?_ | (apply o_easy rfl rfl rfl; conv => lhs; whnf) | apply o_non rfl)))
      refine o_st (v := .agg (gbad at')) rfl rfl rfl rfl D2.r rfl rfl (cs' := gbad at') rfl ?_
      (apply o_end; (repeat (first | exact OutS.nil | exact GetS.hit | exact PutS.hit | apply GetS.miss rfl | apply PutS.miss rfl | apply OutS.cons | apply OutS.skip rfl)))
      exact c_ret (rdollar_end D2 rfl rfl ⟨D2.old.put _ (by have := D2.lo; omega), rfl⟩)
  | true =>
    simp only [hsb, Bool.true_eq_false, if_false] at hres his
    have hi4 : i + 1 ≤ t.length := by have := stands_lt (by simp) hsb; simpa using this
    have hj := numM_le t 3 (i + 1) 0 hi4
    ((repeat refine c_seq ?_); refine c_region ?_; (repeat (first | ((first | apply o_move rfl rfl | apply o_easy1 rfl rfl rfl | apply o_ld rfl rfl (by assumption) (by first | rfl | assumption)); conv => lhs; whnf) | apply o_no rfl | refine o_b rfl rfl rfl (by constructor; omega) ?_ | refine o_f rfl rfl rfl (by constructor; omega) ?_ | refine o_s rfl rfl rfl (by constructor; first | omega | assumption) ?_ | refine o_t rfl rfl rfl (by constructor; assumption) ?_ | (apply o_easy rfl rfl rfl; conv => lhs; whnf) | apply o_non rfl)))
    refine o_call rfl rfl his ?_
    (repeat (first | ((first | apply o_move rfl rfl | apply o_easy1 rfl rfl rfl | apply o_ld rfl rfl (by assumption) (by first | rfl | assumption)); conv => lhs; whnf) | apply o_no rfl | refine o_b rfl rfl rfl (by constructor; omega) ?_ | refine o_f rfl rfl rfl (by constructor; omega) ?_ | refine o_s rfl rfl rfl (by constructor; first | omega | assumption) ?_ | refine o_t rfl rfl rfl (by constructor; assumption) ?_ | (apply o_easy rfl rfl rfl; conv => lhs; whnf) | apply o_non rfl))
    (apply o_end; (repeat (first | exact OutS.nil | exact GetS.hit | exact PutS.hit | apply GetS.miss rfl | apply PutS.miss rfl | apply OutS.cons | apply OutS.skip rfl)))
    ((repeat refine c_seq ?_); refine c_else rfl ?_)
    refine c_skip ?_
    by_cases hij : i + 1 < (numM t 3 (i + 1) 0).2
    · have hrf := refer30_yes (m + 3) bb t gr (i + 1) s2 (by omega) hi4 hij
      generalize numM t 3 (i + 1) 0 = nj at *
      obtain ⟨v, j⟩ := nj
      dsimp only at *
      by_cases hle : (v : Int) ≤ gr
      · rw [if_neg (fun e => e ⟨hij, hle⟩)] at hres
        rw [if_pos hle] at hrf
        ((repeat refine c_seq ?_); refine c_region ?_; (repeat (first | ((first | apply o_move rfl rfl | apply o_easy1 rfl rfl rfl | apply o_ld rfl rfl (by assumption) (by first | rfl | assumption)); conv => lhs; whnf) | apply o_no rfl | refine o_b rfl rfl rfl (by constructor; omega) ?_ | refine o_f rfl rfl rfl (by constructor; omega) ?_ | refine o_s rfl rfl rfl (by constructor; first | omega | assumption) ?_ | refine o_t rfl rfl rfl (by constructor; assumption) ?_ | (apply o_easy rfl rfl rfl; conv => lhs; whnf) | apply o_non rfl)))
        refine o_call (l := [.agg (tx t gr), .int .i64 ((i + 1 : Nat) : Int)]) rfl rfl hrf ?_
        (repeat (first | ((first | apply o_move rfl rfl | apply o_easy1 rfl rfl rfl | apply o_ld rfl rfl (by assumption) (by first | rfl | assumption)); conv => lhs; whnf) | apply o_no rfl | refine o_b rfl rfl rfl (by constructor; omega) ?_ | refine o_f rfl rfl rfl (by constructor; omega) ?_ | refine o_s rfl rfl rfl (by constructor; first | omega | assumption) ?_ | refine o_t rfl rfl rfl (by constructor; assumption) ?_ | (apply o_easy rfl rfl rfl; conv => lhs; whnf) | apply o_non rfl))
        (apply o_end; (repeat (first | exact OutS.nil | exact GetS.hit | exact PutS.hit | apply GetS.miss rfl | apply PutS.miss rfl | apply OutS.cons | apply OutS.skip rfl)))
        ((repeat refine c_seq ?_); refine c_region ?_; (repeat (first | ((first | apply o_move rfl rfl | apply o_easy1 rfl rfl rfl | apply o_ld rfl rfl (by assumption) (by first | rfl | assumption)); conv => lhs; whnf) | apply o_no rfl | refine o_b rfl rfl rfl (by constructor; omega) ?_ | refine o_f rfl rfl rfl (by constructor; omega) ?_ | refine o_s rfl rfl rfl (by constructor; first | omega | assumption) ?_ | refine o_t rfl rfl rfl (by constructor; assumption) ?_ | (apply o_easy rfl rfl rfl; conv => lhs; whnf) | apply o_non rfl)); apply o_end; (repeat (first | exact OutS.nil | exact GetS.hit | exact PutS.hit | apply GetS.miss rfl | apply PutS.miss rfl | apply OutS.cons | apply OutS.skip rfl)))
        ((repeat refine c_seq ?_); refine c_else rfl ?_)
        refine c_skip ?_
        ((repeat refine c_seq ?_); refine c_region ?_; (repeat (first | ((first | apply o_move rfl rfl | apply o_easy1 rfl rfl rfl | apply o_ld rfl rfl (by assumption) (by first | rfl | assumption)); conv => lhs; whnf) | apply o_no rfl | refine o_b rfl rfl rfl (by constructor; omega) ?_ | refine o_f rfl rfl rfl (by constructor; omega) ?_ | refine o_s rfl rfl rfl (by constructor; first | omega | assumption) ?_ | refine o_t rfl rfl rfl (by constructor; assumption) ?_ | (apply o_easy rfl rfl rfl; conv => lhs; whnf) | apply o_non rfl)))
        refine o_alloc rfl ?_
        have hc8 := getCells_new s2 zc 0
        have hBC := getCells_lt D2.bd
        refine o_st (v := .agg (Tp.group v).cells) rfl rfl rfl (stored_av _) hc8 rfl rfl (cs' := (Tp.group v).cells) rfl ?_
        (apply o_end; (repeat (first | exact OutS.nil | exact GetS.hit | exact PutS.hit | apply GetS.miss rfl | apply PutS.miss rfl | apply OutS.cons | apply OutS.skip rfl)))
        have hC3 := getCells_put (cs' := (Tp.group v).cells) (g' := 0) hc8
        have D3 := (D2.push (.cells zc 0)).put (.cells (Tp.group v).cells 0) hBC
        generalize (s2.push (.cells zc 0)).put s2.heap.length (.cells (Tp.group v).cells 0) = s3 at D3 hC3 ⊢
        generalize s2.heap.length = C at hC3 hBC ⊢
        have hx := D3.x
        have hb := D3.bd
        have his1 := is_spec (m + 8) bb s3 t [58, 45] gr j hj (by omega) (by simp)
        have his2 := is_spec (m + 8) bb s3 t [58, 43] gr j hj (by omega) (by simp)
        cases hsd : stands t j [58, 45] with
        | true =>
          have hse := stands_45_43 hsd
          rw [hsd] at his1
          rw [if_pos hsd] at hres
          ((repeat refine c_seq ?_); refine c_region ?_; (repeat (first | ((first | apply o_move rfl rfl | apply o_easy1 rfl rfl rfl | apply o_ld rfl rfl (by assumption) (by first | rfl | assumption)); conv => lhs; whnf) | apply o_no rfl | refine o_b rfl rfl rfl (by constructor; omega) ?_ | refine o_f rfl rfl rfl (by constructor; omega) ?_ | refine o_s rfl rfl rfl (by constructor; first | omega | assumption) ?_ | refine o_t rfl rfl rfl (by constructor; assumption) ?_ | (apply o_easy rfl rfl rfl; conv => lhs; whnf) | apply o_non rfl)))
          refine o_call rfl rfl his1 ?_
          (repeat (first | ((first | apply o_move rfl rfl | apply o_easy1 rfl rfl rfl | apply o_ld rfl rfl (by assumption) (by first | rfl | assumption)); conv => lhs; whnf) | apply o_no rfl | refine o_b rfl rfl rfl (by constructor; omega) ?_ | refine o_f rfl rfl rfl (by constructor; omega) ?_ | refine o_s rfl rfl rfl (by constructor; first | omega | assumption) ?_ | refine o_t rfl rfl rfl (by constructor; assumption) ?_ | (apply o_easy rfl rfl rfl; conv => lhs; whnf) | apply o_non rfl))
          (apply o_end; (repeat (first | exact OutS.nil | exact GetS.hit | exact PutS.hit | apply GetS.miss rfl | apply PutS.miss rfl | apply OutS.cons | apply OutS.skip rfl)))
          ((repeat refine c_seq ?_); refine c_if rfl ?_)
          by_cases hd10 : d < 10
          · rw [if_pos hd10] at hres
            ((repeat refine c_seq ?_); refine c_region ?_; (repeat (first | ((first | apply o_move rfl rfl | apply o_easy1 rfl rfl rfl | apply o_ld rfl rfl (by assumption) (by first | rfl | assumption)); conv => lhs; whnf) | apply o_no rfl | refine o_b rfl rfl rfl (by constructor; omega) ?_ | refine o_f rfl rfl rfl (by constructor; omega) ?_ | refine o_s rfl rfl rfl (by constructor; first | omega | assumption) ?_ | refine o_t rfl rfl rfl (by constructor; assumption) ?_ | (apply o_easy rfl rfl rfl; conv => lhs; whnf) | apply o_non rfl)); apply o_end; (repeat (first | exact OutS.nil | exact GetS.hit | exact PutS.hit | apply GetS.miss rfl | apply PutS.miss rfl | apply OutS.cons | apply OutS.skip rfl)))
            ((repeat refine c_seq ?_); refine c_else rfl ?_)
            refine c_skip ?_
            ((repeat refine c_seq ?_); refine c_region ?_; (repeat (first | ((first | apply o_move rfl rfl | apply o_easy1 rfl rfl rfl | apply o_ld rfl rfl (by assumption) (by first | rfl | assumption)); conv => lhs; whnf) | apply o_no rfl | refine o_b rfl rfl rfl (by constructor; omega) ?_ | refine o_f rfl rfl rfl (by constructor; omega) ?_ | refine o_s rfl rfl rfl (by constructor; first | omega | assumption) ?_ | refine o_t rfl rfl rfl (by constructor; assumption) ?_ | (apply o_easy rfl rfl rfl; conv => lhs; whnf) | apply o_non rfl)))
            refine o_st rfl rfl rfl rfl hC3 rfl rfl (cs' := [.int .i64 3, .str [], .int .i64 v, .nilsl, .nilsl]) rfl ?_
            (apply o_end; (repeat (first | exact OutS.nil | exact GetS.hit | exact PutS.hit | apply GetS.miss rfl | apply PutS.miss rfl | apply OutS.cons | apply OutS.skip rfl)))
            have D4 := D3.put (.cells [.int .i64 3, .str [], .int .i64 v, .nilsl, .nilsl] 0) hBC
            have hC4 := getCells_put (cs' := [.int .i64 3, .str [], .int .i64 v, .nilsl, .nilsl]) (g' := 0) hC3
            generalize s3.put C (.cells [.int .i64 3, .str [], .int .i64 v, .nilsl, .nilsl] 0) = s4 at D4 hC4 ⊢
            have hx := D4.x
            have hb := D4.bd
            have his3 := is_spec (m + 8) bb s4 t [58, 43] gr j hj (by omega) (by simp)
            rw [hse] at his3
            ((repeat refine c_seq ?_); refine c_region ?_; (repeat (first | ((first | apply o_move rfl rfl | apply o_easy1 rfl rfl rfl | apply o_ld rfl rfl (by assumption) (by first | rfl | assumption)); conv => lhs; whnf) | apply o_no rfl | refine o_b rfl rfl rfl (by constructor; omega) ?_ | refine o_f rfl rfl rfl (by constructor; omega) ?_ | refine o_s rfl rfl rfl (by constructor; first | omega | assumption) ?_ | refine o_t rfl rfl rfl (by constructor; assumption) ?_ | (apply o_easy rfl rfl rfl; conv => lhs; whnf) | apply o_non rfl)))
            refine o_call rfl rfl his3 ?_
            (repeat (first | ((first | apply o_move rfl rfl | apply o_easy1 rfl rfl rfl | apply o_ld rfl rfl (by assumption) (by first | rfl | assumption)); conv => lhs; whnf) | apply o_no rfl | refine o_b rfl rfl rfl (by constructor; omega) ?_ | refine o_f rfl rfl rfl (by constructor; omega) ?_ | refine o_s rfl rfl rfl (by constructor; first | omega | assumption) ?_ | refine o_t rfl rfl rfl (by constructor; assumption) ?_ | (apply o_easy rfl rfl rfl; conv => lhs; whnf) | apply o_non rfl))
            (apply o_end; (repeat (first | exact OutS.nil | exact GetS.hit | exact PutS.hit | apply GetS.miss rfl | apply PutS.miss rfl | apply OutS.cons | apply OutS.skip rfl)))
            cases hp1 : partsM t gr n [125] (d + 1) (j + 2) [] with
            | none => simp [hp1] at hres
            | some r1 =>
              have hcall := h1 hd10 r1 hp1 (by have := stands_lt (by simp) hsd; simpa using this) (m + 9) (by omega) s4
              ((repeat refine c_seq ?_); refine c_region ?_; (repeat (first | ((first | apply o_move rfl rfl | apply o_easy1 rfl rfl rfl | apply o_ld rfl rfl (by assumption) (by first | rfl | assumption)); conv => lhs; whnf) | apply o_no rfl | refine o_b rfl rfl rfl (by constructor; omega) ?_ | refine o_f rfl rfl rfl (by constructor; omega) ?_ | refine o_s rfl rfl rfl (by constructor; first | omega | assumption) ?_ | refine o_t rfl rfl rfl (by constructor; assumption) ?_ | (apply o_easy rfl rfl rfl; conv => lhs; whnf) | apply o_non rfl)))
              refine o_callw (l := [.agg (tx t gr), .int .i64 ((j + 2 : Nat) : Int), .bool true, .bool false, .int .i64 ((d + 1 : Nat) : Int)]) rfl rfl (hcall.mono ?_)
              cases r1 with
              | error a =>
                simp only [hp1] at hres
                cases hres
                rintro o s5 ⟨hold5, rfl⟩
                have D5 := D4.call hold5
                refine o_alloc rfl ?_
                have hg0 := getCells_new s5 gz 0
                refine o_st (v := .agg (gbad a)) rfl rfl rfl rfl hg0 rfl rfl (cs' := gbad a) rfl ?_
                (apply o_end; (repeat (first | exact OutS.nil | exact GetS.hit | exact PutS.hit | apply GetS.miss rfl | apply PutS.miss rfl | apply OutS.cons | apply OutS.skip rfl)))
                have D6 := (D5.push (.cells gz 0)).put (.cells (gbad a) 0) (getCells_lt D5.bd)
                have hG := getCells_put (cs' := gbad a) (g' := 0) hg0
                generalize (s5.push (.cells gz 0)).put s5.heap.length (.cells (gbad a) 0) = s6 at D6 hG ⊢
                generalize s5.heap.length = G at hG ⊢
                ((repeat refine c_seq ?_); refine c_region ?_; (repeat (first | ((first | apply o_move rfl rfl | apply o_easy1 rfl rfl rfl | apply o_ld rfl rfl (by assumption) (by first | rfl | assumption)); conv => lhs; whnf) | apply o_no rfl | refine o_b rfl rfl rfl (by constructor; omega) ?_ | refine o_f rfl rfl rfl (by constructor; omega) ?_ | refine o_s rfl rfl rfl (by constructor; first | omega | assumption) ?_ | refine o_t rfl rfl rfl (by constructor; assumption) ?_ | (apply o_easy rfl rfl rfl; conv => lhs; whnf) | apply o_non rfl)); apply o_end; (repeat (first | exact OutS.nil | exact GetS.hit | exact PutS.hit | apply GetS.miss rfl | apply PutS.miss rfl | apply OutS.cons | apply OutS.skip rfl)))
                ((repeat refine c_seq ?_); refine c_if rfl ?_)
                ((repeat refine c_seq ?_); refine c_region ?_; (repeat (first | ((first | apply o_move rfl rfl | apply o_easy1 rfl rfl rfl | apply o_ld rfl rfl (by assumption) (by first | rfl | assumption)); conv => lhs; whnf) | apply o_no rfl | refine o_b rfl rfl rfl (by constructor; omega) ?_ | refine o_f rfl rfl rfl (by constructor; omega) ?_ | refine o_s rfl rfl rfl (by constructor; first | omega | assumption) ?_ | refine o_t rfl rfl rfl (by constructor; assumption) ?_ | (apply o_easy rfl rfl rfl; conv => lhs; whnf) | apply o_non rfl)))
                refine o_st (v := .agg (gbad a)) rfl rfl rfl rfl D6.r rfl rfl (cs' := gbad a) rfl ?_
                (apply o_end; (repeat (first | exact OutS.nil | exact GetS.hit | exact PutS.hit | apply GetS.miss rfl | apply PutS.miss rfl | apply OutS.cons | apply OutS.skip rfl)))
                exact c_ret (rdollar_end D6 rfl rfl ⟨D6.old.put _ (by have := D2.lo; omega), rfl⟩)
              | ok x =>
                obtain ⟨no, k⟩ := x
                simp only [hp1] at hres
                rintro o s5 ⟨hold5, hk, vn, rfl, hvn⟩
                have D5 := D4.call hold5
                have hlt4 := getCells_lt hC4
                have hC5 := getCells_at hC4 (hold5.old _ hlt4)
                obtain ⟨hd1, hd2, hd3, hd4⟩ := hvn.one
                have hsg := got_stored (k := (k : Int)) hd3 hd4
                have hg0 := getCells_new s5 gz 0
                refine o_alloc rfl ?_
                refine o_st (v := .agg [vn, .int .i64 k, .bool false, .int .i64 0]) rfl rfl rfl hsg hg0 rfl rfl (cs' := [vn, .int .i64 k, .bool false, .int .i64 0]) rfl ?_
                (apply o_end; (repeat (first | exact OutS.nil | exact GetS.hit | exact PutS.hit | apply GetS.miss rfl | apply PutS.miss rfl | apply OutS.cons | apply OutS.skip rfl)))
                have hlt5 := getCells_lt hC5
                have D6 := (D5.push (.cells gz 0)).put (.cells [vn, .int .i64 k, .bool false, .int .i64 0] 0) (getCells_lt D5.bd)
                have hG := getCells_put (cs' := [vn, .int .i64 k, .bool false, .int .i64 0]) (g' := 0) hg0
                have hC6 := getCells_put_ne (i := s5.heap.length) (o := .cells [vn, .int .i64 k, .bool false, .int .i64 0] 0) (by omega) (getCells_push (.cells gz 0) hC5)
                have hvn6 : ValR ((s5.push (.cells gz 0)).put s5.heap.length (.cells [vn, .int .i64 k, .bool false, .int .i64 0] 0)).heap (fun i => C < i) _ vn := hvn.mono (fun i hi hil => ⟨by omega, by rw [Sg.put_get _ _ _ (by omega), Sg.push_get _ _ hil]⟩)
                generalize (s5.push (.cells gz 0)).put s5.heap.length (.cells [vn, .int .i64 k, .bool false, .int .i64 0] 0) = s6 at D6 hC6 hG hvn6 ⊢
                generalize s5.heap.length = G at hG hlt5 ⊢
                have hx := D6.x
                have hb := D6.bd
                ((repeat refine c_seq ?_); refine c_region ?_; (repeat (first | ((first | apply o_move rfl rfl | apply o_easy1 rfl rfl rfl | apply o_ld rfl rfl (by assumption) (by first | rfl | assumption)); conv => lhs; whnf) | apply o_no rfl | refine o_b rfl rfl rfl (by constructor; omega) ?_ | refine o_f rfl rfl rfl (by constructor; omega) ?_ | refine o_s rfl rfl rfl (by constructor; first | omega | assumption) ?_ | refine o_t rfl rfl rfl (by constructor; assumption) ?_ | (apply o_easy rfl rfl rfl; conv => lhs; whnf) | apply o_non rfl)); apply o_end; (repeat (first | exact OutS.nil | exact GetS.hit | exact PutS.hit | apply GetS.miss rfl | apply PutS.miss rfl | apply OutS.cons | apply OutS.skip rfl)))
                ((repeat refine c_seq ?_); refine c_else rfl ?_)
                refine c_skip ?_
                ((repeat refine c_seq ?_); refine c_region ?_; (repeat (first | ((first | apply o_move rfl rfl | apply o_easy1 rfl rfl rfl | apply o_ld rfl rfl (by assumption) (by first | rfl | assumption)); conv => lhs; whnf) | apply o_no rfl | refine o_b rfl rfl rfl (by constructor; omega) ?_ | refine o_f rfl rfl rfl (by constructor; omega) ?_ | refine o_s rfl rfl rfl (by constructor; first | omega | assumption) ?_ | refine o_t rfl rfl rfl (by constructor; assumption) ?_ | (apply o_easy rfl rfl rfl; conv => lhs; whnf) | apply o_non rfl)))
                refine o_st rfl rfl hd1 hd2 hC6 rfl rfl (cs' := [.int .i64 3, .str [], .int .i64 v, .nilsl, vn]) rfl ?_
                (apply o_end; (repeat (first | exact OutS.nil | exact GetS.hit | exact PutS.hit | apply GetS.miss rfl | apply PutS.miss rfl | apply OutS.cons | apply OutS.skip rfl)))
                have D7 := D6.put (.cells [.int .i64 3, .str [], .int .i64 v, .nilsl, vn] 0) hBC
                have hC7 := getCells_put (cs' := [.int .i64 3, .str [], .int .i64 v, .nilsl, vn]) (g' := 0) hC6
                have hG7 := getCells_put_ne (i := C) (o := .cells [.int .i64 3, .str [], .int .i64 v, .nilsl, vn] 0) (by omega) hG
                have hvn7 : ValR (s6.put C (.cells [.int .i64 3, .str [], .int .i64 v, .nilsl, vn] 0)).heap (fun i => C < i) no vn := hvn6.mono (fun i hi _ => ⟨hi, Sg.put_get _ _ _ (by omega)⟩)
                generalize s6.put C (.cells [.int .i64 3, .str [], .int .i64 v, .nilsl, vn] 0) = s7 at D7 hC7 hG7 hvn7 ⊢
                ((repeat refine c_seq ?_); refine c_region ?_; (repeat (first | ((first | apply o_move rfl rfl | apply o_easy1 rfl rfl rfl | apply o_ld rfl rfl (by assumption) (by first | rfl | assumption)); conv => lhs; whnf) | apply o_no rfl | refine o_b rfl rfl rfl (by constructor; omega) ?_ | refine o_f rfl rfl rfl (by constructor; omega) ?_ | refine o_s rfl rfl rfl (by constructor; first | omega | assumption) ?_ | refine o_t rfl rfl rfl (by constructor; assumption) ?_ | (apply o_easy rfl rfl rfl; conv => lhs; whnf) | apply o_non rfl)); apply o_end; (repeat (first | exact OutS.nil | exact GetS.hit | exact PutS.hit | apply GetS.miss rfl | apply PutS.miss rfl | apply OutS.cons | apply OutS.skip rfl)))
                ((repeat refine c_seq ?_); refine c_region ?_; (repeat (first | ((first | apply o_move rfl rfl | apply o_easy1 rfl rfl rfl | apply o_ld rfl rfl (by assumption) (by first | rfl | assumption)); conv => lhs; whnf) | apply o_no rfl | refine o_b rfl rfl rfl (by constructor; omega) ?_ | refine o_f rfl rfl rfl (by constructor; omega) ?_ | refine o_s rfl rfl rfl (by constructor; first | omega | assumption) ?_ | refine o_t rfl rfl rfl (by constructor; assumption) ?_ | (apply o_easy rfl rfl rfl; conv => lhs; whnf) | apply o_non rfl)); apply o_end; (repeat (first | exact OutS.nil | exact GetS.hit | exact PutS.hit | apply GetS.miss rfl | apply PutS.miss rfl | apply OutS.cons | apply OutS.skip rfl)))
                ((repeat refine c_seq ?_); refine c_else rfl ?_)
                refine c_skip ?_
                have hcell : CellR s7.heap (fun i => C < i) (.els v no) [.int .i64 3, .str [], .int .i64 v, .nilsl, vn] := by
                  simp only [CellR]; exact ⟨vn, rfl, hvn7⟩
                obtain ⟨pp, hpp⟩ : ∃ pp, pp = Tp.els v no := ⟨_, rfl⟩
                rw [← hpp] at hres hcell
                obtain ⟨pc, hpc⟩ : ∃ pc, pc = [AV.int .i64 3, .str [], .int .i64 v, .nilsl, vn] := ⟨_, rfl⟩
                rw [← hpc] at hC7 hcell
                have hx := D7.x
                have hb := D7.bd
                have his := is_spec (m + 8) bb s7 t [125] gr k hk (by omega) (by simp)
                simp only [closeM] at hres
                cases hsc : stands t k [125] with
                | true =>
                  simp only [hsc, if_true] at hres his
                  cases hres
                  have hall := partOf_all hcell.facts.1
                  ((repeat refine c_seq ?_); refine c_region ?_; (repeat (first | ((first | apply o_move rfl rfl | apply o_easy1 rfl rfl rfl | apply o_ld rfl rfl (by assumption) (by first | rfl | assumption)); conv => lhs; whnf) | apply o_no rfl | refine o_b rfl rfl rfl (by constructor; omega) ?_ | refine o_f rfl rfl rfl (by constructor; omega) ?_ | refine o_s rfl rfl rfl (by constructor; first | omega | assumption) ?_ | refine o_t rfl rfl rfl (by constructor; assumption) ?_ | (apply o_easy rfl rfl rfl; conv => lhs; whnf) | apply o_non rfl)))
                  refine o_call rfl rfl his ?_
                  (repeat (first | ((first | apply o_move rfl rfl | apply o_easy1 rfl rfl rfl | apply o_ld rfl rfl (by assumption) (by first | rfl | assumption)); conv => lhs; whnf) | apply o_no rfl | refine o_b rfl rfl rfl (by constructor; omega) ?_ | refine o_f rfl rfl rfl (by constructor; omega) ?_ | refine o_s rfl rfl rfl (by constructor; first | omega | assumption) ?_ | refine o_t rfl rfl rfl (by constructor; assumption) ?_ | (apply o_easy rfl rfl rfl; conv => lhs; whnf) | apply o_non rfl))
                  (apply o_end; (repeat (first | exact OutS.nil | exact GetS.hit | exact PutS.hit | apply GetS.miss rfl | apply PutS.miss rfl | apply OutS.cons | apply OutS.skip rfl)))
                  ((repeat refine c_seq ?_); refine c_else rfl ?_)
                  refine c_skip ?_
                  ((repeat refine c_seq ?_); refine c_region ?_; (repeat (first | ((first | apply o_move rfl rfl | apply o_easy1 rfl rfl rfl | apply o_ld rfl rfl (by assumption) (by first | rfl | assumption)); conv => lhs; whnf) | apply o_no rfl | refine o_b rfl rfl rfl (by constructor; omega) ?_ | refine o_f rfl rfl rfl (by constructor; omega) ?_ | refine o_s rfl rfl rfl (by constructor; first | omega | assumption) ?_ | refine o_t rfl rfl rfl (by constructor; assumption) ?_ | (apply o_easy rfl rfl rfl; conv => lhs; whnf) | apply o_non rfl)))
                  refine o_bsl1 (cs := pc) rfl rfl hcell.stored (beq_of hcell.facts.1) ?_
                  (repeat (first | ((first | apply o_move rfl rfl | apply o_easy1 rfl rfl rfl | apply o_ld rfl rfl (by assumption) (by first | rfl | assumption)); conv => lhs; whnf) | apply o_no rfl | refine o_b rfl rfl rfl (by constructor; omega) ?_ | refine o_f rfl rfl rfl (by constructor; omega) ?_ | refine o_s rfl rfl rfl (by constructor; first | omega | assumption) ?_ | refine o_t rfl rfl rfl (by constructor; assumption) ?_ | (apply o_easy rfl rfl rfl; conv => lhs; whnf) | apply o_non rfl))
                  refine o_st (v := .agg [.vec [.agg pc] (.exact true), .int .i64 ((k + 1 : Nat) : Int), .bool false, .int .i64 0]) rfl rfl rfl rfl D7.r rfl rfl (cs' := [.vec [.agg pc] (.exact true), .int .i64 ((k + 1 : Nat) : Int), .bool false, .int .i64 0]) rfl ?_
                  (apply o_end; (repeat (first | exact OutS.nil | exact GetS.hit | exact PutS.hit | apply GetS.miss rfl | apply PutS.miss rfl | apply OutS.cons | apply OutS.skip rfl)))
                  refine c_ret (rdollar_end D7 rfl rfl ⟨D7.old.put _ (by have := D2.lo; omega), by have := stands_lt (by simp) hsc; simpa using this, pc, true, rfl, hcell.mono (fun i hi _ => ⟨by have := D2.lo; omega, Sg.put_get _ _ _ (by omega)⟩)⟩)
                | false =>
                  simp only [hsc, Bool.false_eq_true, if_false] at hres his
                  cases hres
                  ((repeat refine c_seq ?_); refine c_region ?_; (repeat (first | ((first | apply o_move rfl rfl | apply o_easy1 rfl rfl rfl | apply o_ld rfl rfl (by assumption) (by first | rfl | assumption)); conv => lhs; whnf) | apply o_no rfl | refine o_b rfl rfl rfl (by constructor; omega) ?_ | refine o_f rfl rfl rfl (by constructor; omega) ?_ | refine o_s rfl rfl rfl (by constructor; first | omega | assumption) ?_ | refine o_t rfl rfl rfl (by constructor; assumption) ?_ | (apply o_easy rfl rfl rfl; conv => lhs; whnf) | apply o_non rfl)))
                  refine o_call rfl rfl his ?_
                  (repeat (first | ((first | apply o_move rfl rfl | apply o_easy1 rfl rfl rfl | apply o_ld rfl rfl (by assumption) (by first | rfl | assumption)); conv => lhs; whnf) | apply o_no rfl | refine o_b rfl rfl rfl (by constructor; omega) ?_ | refine o_f rfl rfl rfl (by constructor; omega) ?_ | refine o_s rfl rfl rfl (by constructor; first | omega | assumption) ?_ | refine o_t rfl rfl rfl (by constructor; assumption) ?_ | (apply o_easy rfl rfl rfl; conv => lhs; whnf) | apply o_non rfl))
                  (apply o_end; (repeat (first | exact OutS.nil | exact GetS.hit | exact PutS.hit | apply GetS.miss rfl | apply PutS.miss rfl | apply OutS.cons | apply OutS.skip rfl)))
                  ((repeat refine c_seq ?_); refine c_if rfl ?_)
                  ((repeat refine c_seq ?_); refine c_region ?_; (repeat (first | ((first | apply o_move rfl rfl | apply o_easy1 rfl rfl rfl | apply o_ld rfl rfl (by assumption) (by first | rfl | assumption)); conv => lhs; whnf) | apply o_no rfl | refine o_b rfl rfl rfl (by constructor; omega) ?_ | refine o_f rfl rfl rfl (by constructor; omega) ?_ | refine o_s rfl rfl rfl (by constructor; first | omega | assumption) ?_ | refine o_t rfl rfl rfl (by constructor; assumption) ?_ | (apply o_easy rfl rfl rfl; conv => lhs; whnf) | apply o_non rfl)))
                  refine o_st (v := .agg (gbad at')) rfl rfl rfl rfl D7.r rfl rfl (cs' := gbad at') rfl ?_
                  (apply o_end; (repeat (first | exact OutS.nil | exact GetS.hit | exact PutS.hit | apply GetS.miss rfl | apply PutS.miss rfl | apply OutS.cons | apply OutS.skip rfl)))
                  exact c_ret (rdollar_end D7 rfl rfl ⟨D7.old.put _ (by have := D2.lo; omega), rfl⟩)
          · rw [if_neg hd10] at hres
            cases hres
            ((repeat refine c_seq ?_); refine c_region ?_; (repeat (first | ((first | apply o_move rfl rfl | apply o_easy1 rfl rfl rfl | apply o_ld rfl rfl (by assumption) (by first | rfl | assumption)); conv => lhs; whnf) | apply o_no rfl | refine o_b rfl rfl rfl (by constructor; omega) ?_ | refine o_f rfl rfl rfl (by constructor; omega) ?_ | refine o_s rfl rfl rfl (by constructor; first | omega | assumption) ?_ | refine o_t rfl rfl rfl (by constructor; assumption) ?_ | (apply o_easy rfl rfl rfl; conv => lhs; whnf) | apply o_non rfl)); apply o_end; (repeat (first | exact OutS.nil | exact GetS.hit | exact PutS.hit | apply GetS.miss rfl | apply PutS.miss rfl | apply OutS.cons | apply OutS.skip rfl)))
            ((repeat refine c_seq ?_); refine c_if rfl ?_)
            ((repeat refine c_seq ?_); refine c_region ?_; (repeat (first | ((first | apply o_move rfl rfl | apply o_easy1 rfl rfl rfl | apply o_ld rfl rfl (by assumption) (by first | rfl | assumption)); conv => lhs; whnf) | apply o_no rfl | refine o_b rfl rfl rfl (by constructor; omega) ?_ | refine o_f rfl rfl rfl (by constructor; omega) ?_ | refine o_s rfl rfl rfl (by constructor; first | omega | assumption) ?_ | refine o_t rfl rfl rfl (by constructor; assumption) ?_ | (apply o_easy rfl rfl rfl; conv => lhs; whnf) | apply o_non rfl)))
            refine o_st (v := .agg (gbad at')) rfl rfl rfl rfl D3.r rfl rfl (cs' := gbad at') rfl ?_
            (apply o_end; (repeat (first | exact OutS.nil | exact GetS.hit | exact PutS.hit | apply GetS.miss rfl | apply PutS.miss rfl | apply OutS.cons | apply OutS.skip rfl)))
            exact c_ret (rdollar_end D3 rfl rfl ⟨D3.old.put _ (by have := D2.lo; omega), rfl⟩)
        | false =>
          cases hse : stands t j [58, 43] with
          | true =>
            simp only [hsd, hse, Bool.false_eq_true, if_false, if_true] at hres his1 his2
            ((repeat refine c_seq ?_); refine c_region ?_; (repeat (first | ((first | apply o_move rfl rfl | apply o_easy1 rfl rfl rfl | apply o_ld rfl rfl (by assumption) (by first | rfl | assumption)); conv => lhs; whnf) | apply o_no rfl | refine o_b rfl rfl rfl (by constructor; omega) ?_ | refine o_f rfl rfl rfl (by constructor; omega) ?_ | refine o_s rfl rfl rfl (by constructor; first | omega | assumption) ?_ | refine o_t rfl rfl rfl (by constructor; assumption) ?_ | (apply o_easy rfl rfl rfl; conv => lhs; whnf) | apply o_non rfl)))
            refine o_call rfl rfl his1 ?_
            (repeat (first | ((first | apply o_move rfl rfl | apply o_easy1 rfl rfl rfl | apply o_ld rfl rfl (by assumption) (by first | rfl | assumption)); conv => lhs; whnf) | apply o_no rfl | refine o_b rfl rfl rfl (by constructor; omega) ?_ | refine o_f rfl rfl rfl (by constructor; omega) ?_ | refine o_s rfl rfl rfl (by constructor; first | omega | assumption) ?_ | refine o_t rfl rfl rfl (by constructor; assumption) ?_ | (apply o_easy rfl rfl rfl; conv => lhs; whnf) | apply o_non rfl))
            refine o_call rfl rfl his2 ?_
            (repeat (first | ((first | apply o_move rfl rfl | apply o_easy1 rfl rfl rfl | apply o_ld rfl rfl (by assumption) (by first | rfl | assumption)); conv => lhs; whnf) | apply o_no rfl | refine o_b rfl rfl rfl (by constructor; omega) ?_ | refine o_f rfl rfl rfl (by constructor; omega) ?_ | refine o_s rfl rfl rfl (by constructor; first | omega | assumption) ?_ | refine o_t rfl rfl rfl (by constructor; assumption) ?_ | (apply o_easy rfl rfl rfl; conv => lhs; whnf) | apply o_non rfl))
            (apply o_end; (repeat (first | exact OutS.nil | exact GetS.hit | exact PutS.hit | apply GetS.miss rfl | apply PutS.miss rfl | apply OutS.cons | apply OutS.skip rfl)))
            ((repeat refine c_seq ?_); refine c_if rfl ?_)
            by_cases hd10 : d < 10
            · rw [if_pos hd10] at hres
              ((repeat refine c_seq ?_); refine c_region ?_; (repeat (first | ((first | apply o_move rfl rfl | apply o_easy1 rfl rfl rfl | apply o_ld rfl rfl (by assumption) (by first | rfl | assumption)); conv => lhs; whnf) | apply o_no rfl | refine o_b rfl rfl rfl (by constructor; omega) ?_ | refine o_f rfl rfl rfl (by constructor; omega) ?_ | refine o_s rfl rfl rfl (by constructor; first | omega | assumption) ?_ | refine o_t rfl rfl rfl (by constructor; assumption) ?_ | (apply o_easy rfl rfl rfl; conv => lhs; whnf) | apply o_non rfl)); apply o_end; (repeat (first | exact OutS.nil | exact GetS.hit | exact PutS.hit | apply GetS.miss rfl | apply PutS.miss rfl | apply OutS.cons | apply OutS.skip rfl)))
              ((repeat refine c_seq ?_); refine c_else rfl ?_)
              refine c_skip ?_
              ((repeat refine c_seq ?_); refine c_region ?_; (repeat (first | ((first | apply o_move rfl rfl | apply o_easy1 rfl rfl rfl | apply o_ld rfl rfl (by assumption) (by first | rfl | assumption)); conv => lhs; whnf) | apply o_no rfl | refine o_b rfl rfl rfl (by constructor; omega) ?_ | refine o_f rfl rfl rfl (by constructor; omega) ?_ | refine o_s rfl rfl rfl (by constructor; first | omega | assumption) ?_ | refine o_t rfl rfl rfl (by constructor; assumption) ?_ | (apply o_easy rfl rfl rfl; conv => lhs; whnf) | apply o_non rfl)))
              refine o_st rfl rfl rfl rfl hC3 rfl rfl (cs' := [.int .i64 3, .str [], .int .i64 v, .nilsl, .nilsl]) rfl ?_
              (apply o_end; (repeat (first | exact OutS.nil | exact GetS.hit | exact PutS.hit | apply GetS.miss rfl | apply PutS.miss rfl | apply OutS.cons | apply OutS.skip rfl)))
              have D4 := D3.put (.cells [.int .i64 3, .str [], .int .i64 v, .nilsl, .nilsl] 0) hBC
              have hC4 := getCells_put (cs' := [.int .i64 3, .str [], .int .i64 v, .nilsl, .nilsl]) (g' := 0) hC3
              generalize s3.put C (.cells [.int .i64 3, .str [], .int .i64 v, .nilsl, .nilsl] 0) = s4 at D4 hC4 ⊢
              have hx := D4.x
              have hb := D4.bd
              have his3 := is_spec (m + 8) bb s4 t [58, 43] gr j hj (by omega) (by simp)
              rw [hse] at his3
              ((repeat refine c_seq ?_); refine c_region ?_; (repeat (first | ((first | apply o_move rfl rfl | apply o_easy1 rfl rfl rfl | apply o_ld rfl rfl (by assumption) (by first | rfl | assumption)); conv => lhs; whnf) | apply o_no rfl | refine o_b rfl rfl rfl (by constructor; omega) ?_ | refine o_f rfl rfl rfl (by constructor; omega) ?_ | refine o_s rfl rfl rfl (by constructor; first | omega | assumption) ?_ | refine o_t rfl rfl rfl (by constructor; assumption) ?_ | (apply o_easy rfl rfl rfl; conv => lhs; whnf) | apply o_non rfl)))
              refine o_call rfl rfl his3 ?_
              (repeat (first | ((first | apply o_move rfl rfl | apply o_easy1 rfl rfl rfl | apply o_ld rfl rfl (by assumption) (by first | rfl | assumption)); conv => lhs; whnf) | apply o_no rfl | refine o_b rfl rfl rfl (by constructor; omega) ?_ | refine o_f rfl rfl rfl (by constructor; omega) ?_ | refine o_s rfl rfl rfl (by constructor; first | omega | assumption) ?_ | refine o_t rfl rfl rfl (by constructor; assumption) ?_ | (apply o_easy rfl rfl rfl; conv => lhs; whnf) | apply o_non rfl))
              (apply o_end; (repeat (first | exact OutS.nil | exact GetS.hit | exact PutS.hit | apply GetS.miss rfl | apply PutS.miss rfl | apply OutS.cons | apply OutS.skip rfl)))
              cases hp1 : partsM t gr n [58, 125] (d + 1) (j + 2) [] with
              | none => simp [hp1] at hres
              | some r1 =>
                have hcall := h2 hd10 r1 hp1 (by have := stands_lt (by simp) hse; simpa using this) (m + 9) (by omega) s4
                ((repeat refine c_seq ?_); refine c_region ?_; (repeat (first | ((first | apply o_move rfl rfl | apply o_easy1 rfl rfl rfl | apply o_ld rfl rfl (by assumption) (by first | rfl | assumption)); conv => lhs; whnf) | apply o_no rfl | refine o_b rfl rfl rfl (by constructor; omega) ?_ | refine o_f rfl rfl rfl (by constructor; omega) ?_ | refine o_s rfl rfl rfl (by constructor; first | omega | assumption) ?_ | refine o_t rfl rfl rfl (by constructor; assumption) ?_ | (apply o_easy rfl rfl rfl; conv => lhs; whnf) | apply o_non rfl)))
                refine o_callw (l := [.agg (tx t gr), .int .i64 ((j + 2 : Nat) : Int), .bool true, .bool true, .int .i64 ((d + 1 : Nat) : Int)]) rfl rfl (hcall.mono ?_)
                cases r1 with
                | error a =>
                  simp only [hp1] at hres
                  cases hres
                  rintro o s5 ⟨hold5, rfl⟩
                  have D5 := D4.call hold5
                  refine o_alloc rfl ?_
                  have hg0 := getCells_new s5 gz 0
                  refine o_st (v := .agg (gbad a)) rfl rfl rfl rfl hg0 rfl rfl (cs' := gbad a) rfl ?_
                  (apply o_end; (repeat (first | exact OutS.nil | exact GetS.hit | exact PutS.hit | apply GetS.miss rfl | apply PutS.miss rfl | apply OutS.cons | apply OutS.skip rfl)))
                  have D6 := (D5.push (.cells gz 0)).put (.cells (gbad a) 0) (getCells_lt D5.bd)
                  have hG := getCells_put (cs' := gbad a) (g' := 0) hg0
                  generalize (s5.push (.cells gz 0)).put s5.heap.length (.cells (gbad a) 0) = s6 at D6 hG ⊢
                  generalize s5.heap.length = G at hG ⊢
                  ((repeat refine c_seq ?_); refine c_region ?_; (repeat (first | ((first | apply o_move rfl rfl | apply o_easy1 rfl rfl rfl | apply o_ld rfl rfl (by assumption) (by first | rfl | assumption)); conv => lhs; whnf) | apply o_no rfl | refine o_b rfl rfl rfl (by constructor; omega) ?_ | refine o_f rfl rfl rfl (by constructor; omega) ?_ | refine o_s rfl rfl rfl (by constructor; first | omega | assumption) ?_ | refine o_t rfl rfl rfl (by constructor; assumption) ?_ | (apply o_easy rfl rfl rfl; conv => lhs; whnf) | apply o_non rfl)); apply o_end; (repeat (first | exact OutS.nil | exact GetS.hit | exact PutS.hit | apply GetS.miss rfl | apply PutS.miss rfl | apply OutS.cons | apply OutS.skip rfl)))
                  ((repeat refine c_seq ?_); refine c_if rfl ?_)
                  ((repeat refine c_seq ?_); refine c_region ?_; (repeat (first | ((first | apply o_move rfl rfl | apply o_easy1 rfl rfl rfl | apply o_ld rfl rfl (by assumption) (by first | rfl | assumption)); conv => lhs; whnf) | apply o_no rfl | refine o_b rfl rfl rfl (by constructor; omega) ?_ | refine o_f rfl rfl rfl (by constructor; omega) ?_ | refine o_s rfl rfl rfl (by constructor; first | omega | assumption) ?_ | refine o_t rfl rfl rfl (by constructor; assumption) ?_ | (apply o_easy rfl rfl rfl; conv => lhs; whnf) | apply o_non rfl)))
                  refine o_st (v := .agg (gbad a)) rfl rfl rfl rfl D6.r rfl rfl (cs' := gbad a) rfl ?_
                  (apply o_end; (repeat (first | exact OutS.nil | exact GetS.hit | exact PutS.hit | apply GetS.miss rfl | apply PutS.miss rfl | apply OutS.cons | apply OutS.skip rfl)))
                  exact c_ret (rdollar_end D6 rfl rfl ⟨D6.old.put _ (by have := D2.lo; omega), rfl⟩)
                | ok x =>
                  obtain ⟨yes, k⟩ := x
                  simp only [hp1] at hres h3
                  rintro o s5 ⟨hold5, hk, vy, rfl, hvy⟩
                  have D5 := D4.call hold5
                  have hlt4 := getCells_lt hC4
                  have hC5 := getCells_at hC4 (hold5.old _ hlt4)
                  obtain ⟨he1, he2, he3, he4⟩ := hvy.one
                  have hsg := got_stored (k := (k : Int)) he3 he4
                  have hg0 := getCells_new s5 gz 0
                  refine o_alloc rfl ?_
                  refine o_st (v := .agg [vy, .int .i64 k, .bool false, .int .i64 0]) rfl rfl rfl hsg hg0 rfl rfl (cs' := [vy, .int .i64 k, .bool false, .int .i64 0]) rfl ?_
                  (apply o_end; (repeat (first | exact OutS.nil | exact GetS.hit | exact PutS.hit | apply GetS.miss rfl | apply PutS.miss rfl | apply OutS.cons | apply OutS.skip rfl)))
                  have hlt5 := getCells_lt hC5
                  have D6 := (D5.push (.cells gz 0)).put (.cells [vy, .int .i64 k, .bool false, .int .i64 0] 0) (getCells_lt D5.bd)
                  have hGy := getCells_put (cs' := [vy, .int .i64 k, .bool false, .int .i64 0]) (g' := 0) hg0
                  have hC6 := getCells_put_ne (i := s5.heap.length) (o := .cells [vy, .int .i64 k, .bool false, .int .i64 0] 0) (by omega) (getCells_push (.cells gz 0) hC5)
                  have hvy6 : ValR ((s5.push (.cells gz 0)).put s5.heap.length (.cells [vy, .int .i64 k, .bool false, .int .i64 0] 0)).heap (fun i => C < i) _ vy := hvy.mono (fun i hi hil => ⟨by omega, by rw [Sg.put_get _ _ _ (by omega), Sg.push_get _ _ hil]⟩)
                  generalize (s5.push (.cells gz 0)).put s5.heap.length (.cells [vy, .int .i64 k, .bool false, .int .i64 0] 0) = s6 at D6 hC6 hGy hvy6 ⊢
                  generalize s5.heap.length = Gy at hGy hlt5 ⊢
                  have hx := D6.x
                  have hb := D6.bd
                  ((repeat refine c_seq ?_); refine c_region ?_; (repeat (first | ((first | apply o_move rfl rfl | apply o_easy1 rfl rfl rfl | apply o_ld rfl rfl (by assumption) (by first | rfl | assumption)); conv => lhs; whnf) | apply o_no rfl | refine o_b rfl rfl rfl (by constructor; omega) ?_ | refine o_f rfl rfl rfl (by constructor; omega) ?_ | refine o_s rfl rfl rfl (by constructor; first | omega | assumption) ?_ | refine o_t rfl rfl rfl (by constructor; assumption) ?_ | (apply o_easy rfl rfl rfl; conv => lhs; whnf) | apply o_non rfl)); apply o_end; (repeat (first | exact OutS.nil | exact GetS.hit | exact PutS.hit | apply GetS.miss rfl | apply PutS.miss rfl | apply OutS.cons | apply OutS.skip rfl)))
                  ((repeat refine c_seq ?_); refine c_else rfl ?_)
                  refine c_skip ?_
                  ((repeat refine c_seq ?_); refine c_region ?_; (repeat (first | ((first | apply o_move rfl rfl | apply o_easy1 rfl rfl rfl | apply o_ld rfl rfl (by assumption) (by first | rfl | assumption)); conv => lhs; whnf) | apply o_no rfl | refine o_b rfl rfl rfl (by constructor; omega) ?_ | refine o_f rfl rfl rfl (by constructor; omega) ?_ | refine o_s rfl rfl rfl (by constructor; first | omega | assumption) ?_ | refine o_t rfl rfl rfl (by constructor; assumption) ?_ | (apply o_easy rfl rfl rfl; conv => lhs; whnf) | apply o_non rfl)))
                  refine o_st rfl rfl he1 he2 hC6 rfl rfl (cs' := [.int .i64 3, .str [], .int .i64 v, .nilsl, vy]) rfl ?_
                  (apply o_end; (repeat (first | exact OutS.nil | exact GetS.hit | exact PutS.hit | apply GetS.miss rfl | apply PutS.miss rfl | apply OutS.cons | apply OutS.skip rfl)))
                  have D7 := D6.put (.cells [.int .i64 3, .str [], .int .i64 v, .nilsl, vy] 0) hBC
                  have hC7 := getCells_put (cs' := [.int .i64 3, .str [], .int .i64 v, .nilsl, vy]) (g' := 0) hC6
                  have hG7 := getCells_put_ne (i := C) (o := .cells [.int .i64 3, .str [], .int .i64 v, .nilsl, vy] 0) (by omega) hGy
                  have hvy7 : ValR (s6.put C (.cells [.int .i64 3, .str [], .int .i64 v, .nilsl, vy] 0)).heap (fun i => C < i) yes vy := hvy6.mono (fun i hi _ => ⟨hi, Sg.put_get _ _ _ (by omega)⟩)
                  generalize s6.put C (.cells [.int .i64 3, .str [], .int .i64 v, .nilsl, vy] 0) = s7 at D7 hC7 hG7 hvy7 ⊢
                  ((repeat refine c_seq ?_); refine c_region ?_; (repeat (first | ((first | apply o_move rfl rfl | apply o_easy1 rfl rfl rfl | apply o_ld rfl rfl (by assumption) (by first | rfl | assumption)); conv => lhs; whnf) | apply o_no rfl | refine o_b rfl rfl rfl (by constructor; omega) ?_ | refine o_f rfl rfl rfl (by constructor; omega) ?_ | refine o_s rfl rfl rfl (by constructor; first | omega | assumption) ?_ | refine o_t rfl rfl rfl (by constructor; assumption) ?_ | (apply o_easy rfl rfl rfl; conv => lhs; whnf) | apply o_non rfl)); apply o_end; (repeat (first | exact OutS.nil | exact GetS.hit | exact PutS.hit | apply GetS.miss rfl | apply PutS.miss rfl | apply OutS.cons | apply OutS.skip rfl)))
                  ((repeat refine c_seq ?_); refine c_region ?_; (repeat (first | ((first | apply o_move rfl rfl | apply o_easy1 rfl rfl rfl | apply o_ld rfl rfl (by assumption) (by first | rfl | assumption)); conv => lhs; whnf) | apply o_no rfl | refine o_b rfl rfl rfl (by constructor; omega) ?_ | refine o_f rfl rfl rfl (by constructor; omega) ?_ | refine o_s rfl rfl rfl (by constructor; first | omega | assumption) ?_ | refine o_t rfl rfl rfl (by constructor; assumption) ?_ | (apply o_easy rfl rfl rfl; conv => lhs; whnf) | apply o_non rfl)); apply o_end; (repeat (first | exact OutS.nil | exact GetS.hit | exact PutS.hit | apply GetS.miss rfl | apply PutS.miss rfl | apply OutS.cons | apply OutS.skip rfl)))
                  ((repeat refine c_seq ?_); refine c_if rfl ?_)
                  ((repeat refine c_seq ?_); refine c_region ?_; (repeat (first | ((first | apply o_move rfl rfl | apply o_easy1 rfl rfl rfl | apply o_ld rfl rfl (by assumption) (by first | rfl | assumption)); conv => lhs; whnf) | apply o_no rfl | refine o_b rfl rfl rfl (by constructor; omega) ?_ | refine o_f rfl rfl rfl (by constructor; omega) ?_ | refine o_s rfl rfl rfl (by constructor; first | omega | assumption) ?_ | refine o_t rfl rfl rfl (by constructor; assumption) ?_ | (apply o_easy rfl rfl rfl; conv => lhs; whnf) | apply o_non rfl)))
                  refine o_st rfl rfl rfl rfl hC7 rfl rfl (cs' := [.int .i64 4, .str [], .int .i64 v, .nilsl, vy]) rfl ?_
                  (apply o_end; (repeat (first | exact OutS.nil | exact GetS.hit | exact PutS.hit | apply GetS.miss rfl | apply PutS.miss rfl | apply OutS.cons | apply OutS.skip rfl)))
                  have D8 := D7.put (.cells [.int .i64 4, .str [], .int .i64 v, .nilsl, vy] 0) hBC
                  have hC8 := getCells_put (cs' := [.int .i64 4, .str [], .int .i64 v, .nilsl, vy]) (g' := 0) hC7
                  have hG8 := getCells_put_ne (i := C) (o := .cells [.int .i64 4, .str [], .int .i64 v, .nilsl, vy] 0) (by omega) hG7
                  have hvy8 : ValR (s7.put C (.cells [.int .i64 4, .str [], .int .i64 v, .nilsl, vy] 0)).heap (fun i => C < i) yes vy := hvy7.mono (fun i hi _ => ⟨hi, Sg.put_get _ _ _ (by omega)⟩)
                  generalize s7.put C (.cells [.int .i64 4, .str [], .int .i64 v, .nilsl, vy] 0) = s8 at D8 hC8 hG8 hvy8 ⊢
                  ((repeat refine c_seq ?_); refine c_region ?_; (repeat (first | ((first | apply o_move rfl rfl | apply o_easy1 rfl rfl rfl | apply o_ld rfl rfl (by assumption) (by first | rfl | assumption)); conv => lhs; whnf) | apply o_no rfl | refine o_b rfl rfl rfl (by constructor; omega) ?_ | refine o_f rfl rfl rfl (by constructor; omega) ?_ | refine o_s rfl rfl rfl (by constructor; first | omega | assumption) ?_ | refine o_t rfl rfl rfl (by constructor; assumption) ?_ | (apply o_easy rfl rfl rfl; conv => lhs; whnf) | apply o_non rfl)))
                  refine o_st rfl rfl he1 he2 hC8 rfl rfl (cs' := [.int .i64 4, .str [], .int .i64 v, vy, vy]) rfl ?_
                  (apply o_end; (repeat (first | exact OutS.nil | exact GetS.hit | exact PutS.hit | apply GetS.miss rfl | apply PutS.miss rfl | apply OutS.cons | apply OutS.skip rfl)))
                  have D9 := D8.put (.cells [.int .i64 4, .str [], .int .i64 v, vy, vy] 0) hBC
                  have hC9 := getCells_put (cs' := [.int .i64 4, .str [], .int .i64 v, vy, vy]) (g' := 0) hC8
                  have hvy9 : ValR (s8.put C (.cells [.int .i64 4, .str [], .int .i64 v, vy, vy] 0)).heap (fun i => C < i) yes vy := hvy8.mono (fun i hi _ => ⟨hi, Sg.put_get _ _ _ (by omega)⟩)
                  generalize s8.put C (.cells [.int .i64 4, .str [], .int .i64 v, vy, vy] 0) = s9 at D9 hC9 hvy9 ⊢
                  have hx := D9.x
                  have hb := D9.bd
                  have his4 := is_spec (m + 8) bb s9 t [58] gr k hk (by omega) (by simp)
                  cases hsf : stands t k [58] with
                  | false =>
                    simp only [hsf, Bool.false_eq_true, if_false] at hres his4
                    cases hres
                    ((repeat refine c_seq ?_); refine c_region ?_; (repeat (first | ((first | apply o_move rfl rfl | apply o_easy1 rfl rfl rfl | apply o_ld rfl rfl (by assumption) (by first | rfl | assumption)); conv => lhs; whnf) | apply o_no rfl | refine o_b rfl rfl rfl (by constructor; omega) ?_ | refine o_f rfl rfl rfl (by constructor; omega) ?_ | refine o_s rfl rfl rfl (by constructor; first | omega | assumption) ?_ | refine o_t rfl rfl rfl (by constructor; assumption) ?_ | (apply o_easy rfl rfl rfl; conv => lhs; whnf) | apply o_non rfl)))
                    refine o_call rfl rfl his4 ?_
                    (repeat (first | ((first | apply o_move rfl rfl | apply o_easy1 rfl rfl rfl | apply o_ld rfl rfl (by assumption) (by first | rfl | assumption)); conv => lhs; whnf) | apply o_no rfl | refine o_b rfl rfl rfl (by constructor; omega) ?_ | refine o_f rfl rfl rfl (by constructor; omega) ?_ | refine o_s rfl rfl rfl (by constructor; first | omega | assumption) ?_ | refine o_t rfl rfl rfl (by constructor; assumption) ?_ | (apply o_easy rfl rfl rfl; conv => lhs; whnf) | apply o_non rfl))
                    (apply o_end; (repeat (first | exact OutS.nil | exact GetS.hit | exact PutS.hit | apply GetS.miss rfl | apply PutS.miss rfl | apply OutS.cons | apply OutS.skip rfl)))
                    ((repeat refine c_seq ?_); refine c_if rfl ?_)
                    ((repeat refine c_seq ?_); refine c_region ?_; (repeat (first | ((first | apply o_move rfl rfl | apply o_easy1 rfl rfl rfl | apply o_ld rfl rfl (by assumption) (by first | rfl | assumption)); conv => lhs; whnf) | apply o_no rfl | refine o_b rfl rfl rfl (by constructor; omega) ?_ | refine o_f rfl rfl rfl (by constructor; omega) ?_ | refine o_s rfl rfl rfl (by constructor; first | omega | assumption) ?_ | refine o_t rfl rfl rfl (by constructor; assumption) ?_ | (apply o_easy rfl rfl rfl; conv => lhs; whnf) | apply o_non rfl)))
                    refine o_st (v := .agg (gbad at')) rfl rfl rfl rfl D9.r rfl rfl (cs' := gbad at') rfl ?_
                    (apply o_end; (repeat (first | exact OutS.nil | exact GetS.hit | exact PutS.hit | apply GetS.miss rfl | apply PutS.miss rfl | apply OutS.cons | apply OutS.skip rfl)))
                    exact c_ret (rdollar_end D9 rfl rfl ⟨D9.old.put _ (by have := D2.lo; omega), rfl⟩)
                  | true =>
                    simp only [hsf, if_true] at hres his4
                    ((repeat refine c_seq ?_); refine c_region ?_; (repeat (first | ((first | apply o_move rfl rfl | apply o_easy1 rfl rfl rfl | apply o_ld rfl rfl (by assumption) (by first | rfl | assumption)); conv => lhs; whnf) | apply o_no rfl | refine o_b rfl rfl rfl (by constructor; omega) ?_ | refine o_f rfl rfl rfl (by constructor; omega) ?_ | refine o_s rfl rfl rfl (by constructor; first | omega | assumption) ?_ | refine o_t rfl rfl rfl (by constructor; assumption) ?_ | (apply o_easy rfl rfl rfl; conv => lhs; whnf) | apply o_non rfl)))
                    refine o_call rfl rfl his4 ?_
                    (repeat (first | ((first | apply o_move rfl rfl | apply o_easy1 rfl rfl rfl | apply o_ld rfl rfl (by assumption) (by first | rfl | assumption)); conv => lhs; whnf) | apply o_no rfl | refine o_b rfl rfl rfl (by constructor; omega) ?_ | refine o_f rfl rfl rfl (by constructor; omega) ?_ | refine o_s rfl rfl rfl (by constructor; first | omega | assumption) ?_ | refine o_t rfl rfl rfl (by constructor; assumption) ?_ | (apply o_easy rfl rfl rfl; conv => lhs; whnf) | apply o_non rfl))
                    (apply o_end; (repeat (first | exact OutS.nil | exact GetS.hit | exact PutS.hit | apply GetS.miss rfl | apply PutS.miss rfl | apply OutS.cons | apply OutS.skip rfl)))
                    ((repeat refine c_seq ?_); refine c_else rfl ?_)
                    refine c_skip ?_
                    cases hp2 : partsM t gr n [125] (d + 1) (k + 1) [] with
                    | none => simp [hp2] at hres
                    | some r2 =>
                      have hcall := h3 hd10 r2 hp2 (by have := stands_lt (by simp) hsf; simpa using this) (m + 9) (by omega) s9
                      have D4 := D9
                      have hC4 := hC9
                      ((repeat refine c_seq ?_); refine c_region ?_; (repeat (first | ((first | apply o_move rfl rfl | apply o_easy1 rfl rfl rfl | apply o_ld rfl rfl (by assumption) (by first | rfl | assumption)); conv => lhs; whnf) | apply o_no rfl | refine o_b rfl rfl rfl (by constructor; omega) ?_ | refine o_f rfl rfl rfl (by constructor; omega) ?_ | refine o_s rfl rfl rfl (by constructor; first | omega | assumption) ?_ | refine o_t rfl rfl rfl (by constructor; assumption) ?_ | (apply o_easy rfl rfl rfl; conv => lhs; whnf) | apply o_non rfl)))
                      refine o_callw (l := [.agg (tx t gr), .int .i64 ((k + 1 : Nat) : Int), .bool true, .bool false, .int .i64 ((d + 1 : Nat) : Int)]) rfl rfl (hcall.mono ?_)
                      cases r2 with
                      | error a =>
                        simp only [hp2] at hres
                        cases hres
                        rintro o s5 ⟨hold5, rfl⟩
                        have D5 := D4.call hold5
                        refine o_alloc rfl ?_
                        have hg0 := getCells_new s5 gz 0
                        refine o_st (v := .agg (gbad a)) rfl rfl rfl rfl hg0 rfl rfl (cs' := gbad a) rfl ?_
                        (apply o_end; (repeat (first | exact OutS.nil | exact GetS.hit | exact PutS.hit | apply GetS.miss rfl | apply PutS.miss rfl | apply OutS.cons | apply OutS.skip rfl)))
                        have D6 := (D5.push (.cells gz 0)).put (.cells (gbad a) 0) (getCells_lt D5.bd)
                        have hG := getCells_put (cs' := gbad a) (g' := 0) hg0
                        generalize (s5.push (.cells gz 0)).put s5.heap.length (.cells (gbad a) 0) = s6 at D6 hG ⊢
                        generalize s5.heap.length = G at hG ⊢
                        ((repeat refine c_seq ?_); refine c_region ?_; (repeat (first | ((first | apply o_move rfl rfl | apply o_easy1 rfl rfl rfl | apply o_ld rfl rfl (by assumption) (by first | rfl | assumption)); conv => lhs; whnf) | apply o_no rfl | refine o_b rfl rfl rfl (by constructor; omega) ?_ | refine o_f rfl rfl rfl (by constructor; omega) ?_ | refine o_s rfl rfl rfl (by constructor; first | omega | assumption) ?_ | refine o_t rfl rfl rfl (by constructor; assumption) ?_ | (apply o_easy rfl rfl rfl; conv => lhs; whnf) | apply o_non rfl)); apply o_end; (repeat (first | exact OutS.nil | exact GetS.hit | exact PutS.hit | apply GetS.miss rfl | apply PutS.miss rfl | apply OutS.cons | apply OutS.skip rfl)))
                        ((repeat refine c_seq ?_); refine c_if rfl ?_)
                        ((repeat refine c_seq ?_); refine c_region ?_; (repeat (first | ((first | apply o_move rfl rfl | apply o_easy1 rfl rfl rfl | apply o_ld rfl rfl (by assumption) (by first | rfl | assumption)); conv => lhs; whnf) | apply o_no rfl | refine o_b rfl rfl rfl (by constructor; omega) ?_ | refine o_f rfl rfl rfl (by constructor; omega) ?_ | refine o_s rfl rfl rfl (by constructor; first | omega | assumption) ?_ | refine o_t rfl rfl rfl (by constructor; assumption) ?_ | (apply o_easy rfl rfl rfl; conv => lhs; whnf) | apply o_non rfl)))
                        refine o_st (v := .agg (gbad a)) rfl rfl rfl rfl D6.r rfl rfl (cs' := gbad a) rfl ?_
                        (apply o_end; (repeat (first | exact OutS.nil | exact GetS.hit | exact PutS.hit | apply GetS.miss rfl | apply PutS.miss rfl | apply OutS.cons | apply OutS.skip rfl)))
                        exact c_ret (rdollar_end D6 rfl rfl ⟨D6.old.put _ (by have := D2.lo; omega), rfl⟩)
                      | ok x =>
                        obtain ⟨no, k⟩ := x
                        simp only [hp2] at hres
                        rintro o s5 ⟨hold5, hk, vn, rfl, hvn⟩
                        have D5 := D4.call hold5
                        have hlt4 := getCells_lt hC4
                        have hC5 := getCells_at hC4 (hold5.old _ hlt4)
                        obtain ⟨hd1, hd2, hd3, hd4⟩ := hvn.one
                        have hsg := got_stored (k := (k : Int)) hd3 hd4
                        have hg0 := getCells_new s5 gz 0
                        refine o_alloc rfl ?_
                        refine o_st (v := .agg [vn, .int .i64 k, .bool false, .int .i64 0]) rfl rfl rfl hsg hg0 rfl rfl (cs' := [vn, .int .i64 k, .bool false, .int .i64 0]) rfl ?_
                        (apply o_end; (repeat (first | exact OutS.nil | exact GetS.hit | exact PutS.hit | apply GetS.miss rfl | apply PutS.miss rfl | apply OutS.cons | apply OutS.skip rfl)))
                        have hlt5 := getCells_lt hC5
                        have D6 := (D5.push (.cells gz 0)).put (.cells [vn, .int .i64 k, .bool false, .int .i64 0] 0) (getCells_lt D5.bd)
                        have hG := getCells_put (cs' := [vn, .int .i64 k, .bool false, .int .i64 0]) (g' := 0) hg0
                        have hC6 := getCells_put_ne (i := s5.heap.length) (o := .cells [vn, .int .i64 k, .bool false, .int .i64 0] 0) (by omega) (getCells_push (.cells gz 0) hC5)
                        have hvn6 : ValR ((s5.push (.cells gz 0)).put s5.heap.length (.cells [vn, .int .i64 k, .bool false, .int .i64 0] 0)).heap (fun i => C < i) _ vn := hvn.mono (fun i hi hil => ⟨by omega, by rw [Sg.put_get _ _ _ (by omega), Sg.push_get _ _ hil]⟩)
                        have hvyz : ValR ((s5.push (.cells gz 0)).put s5.heap.length (.cells [vn, .int .i64 k, .bool false, .int .i64 0] 0)).heap (fun i => C < i) yes vy := (hvy9.mono (fun i hi hil => ⟨hi, hold5.old _ hil⟩)).mono (fun i hi hil => ⟨hi, by rw [Sg.put_get _ _ _ (by omega), Sg.push_get _ _ hil]⟩)
                        generalize (s5.push (.cells gz 0)).put s5.heap.length (.cells [vn, .int .i64 k, .bool false, .int .i64 0] 0) = s6 at D6 hC6 hG hvn6 hvyz ⊢
                        generalize s5.heap.length = G at hG hlt5 ⊢
                        have hx := D6.x
                        have hb := D6.bd
                        ((repeat refine c_seq ?_); refine c_region ?_; (repeat (first | ((first | apply o_move rfl rfl | apply o_easy1 rfl rfl rfl | apply o_ld rfl rfl (by assumption) (by first | rfl | assumption)); conv => lhs; whnf) | apply o_no rfl | refine o_b rfl rfl rfl (by constructor; omega) ?_ | refine o_f rfl rfl rfl (by constructor; omega) ?_ | refine o_s rfl rfl rfl (by constructor; first | omega | assumption) ?_ | refine o_t rfl rfl rfl (by constructor; assumption) ?_ | (apply o_easy rfl rfl rfl; conv => lhs; whnf) | apply o_non rfl)); apply o_end; (repeat (first | exact OutS.nil | exact GetS.hit | exact PutS.hit | apply GetS.miss rfl | apply PutS.miss rfl | apply OutS.cons | apply OutS.skip rfl)))
                        ((repeat refine c_seq ?_); refine c_else rfl ?_)
                        refine c_skip ?_
                        ((repeat refine c_seq ?_); refine c_region ?_; (repeat (first | ((first | apply o_move rfl rfl | apply o_easy1 rfl rfl rfl | apply o_ld rfl rfl (by assumption) (by first | rfl | assumption)); conv => lhs; whnf) | apply o_no rfl | refine o_b rfl rfl rfl (by constructor; omega) ?_ | refine o_f rfl rfl rfl (by constructor; omega) ?_ | refine o_s rfl rfl rfl (by constructor; first | omega | assumption) ?_ | refine o_t rfl rfl rfl (by constructor; assumption) ?_ | (apply o_easy rfl rfl rfl; conv => lhs; whnf) | apply o_non rfl)))
                        refine o_st rfl rfl hd1 hd2 hC6 rfl rfl (cs' := [.int .i64 4, .str [], .int .i64 v, vy, vn]) rfl ?_
                        (apply o_end; (repeat (first | exact OutS.nil | exact GetS.hit | exact PutS.hit | apply GetS.miss rfl | apply PutS.miss rfl | apply OutS.cons | apply OutS.skip rfl)))
                        have D7 := D6.put (.cells [.int .i64 4, .str [], .int .i64 v, vy, vn] 0) hBC
                        have hC7 := getCells_put (cs' := [.int .i64 4, .str [], .int .i64 v, vy, vn]) (g' := 0) hC6
                        have hG7 := getCells_put_ne (i := C) (o := .cells [.int .i64 4, .str [], .int .i64 v, vy, vn] 0) (by omega) hG
                        have hvn7 : ValR (s6.put C (.cells [.int .i64 4, .str [], .int .i64 v, vy, vn] 0)).heap (fun i => C < i) no vn := hvn6.mono (fun i hi _ => ⟨hi, Sg.put_get _ _ _ (by omega)⟩)
                        have hvy7 : ValR (s6.put C (.cells [.int .i64 4, .str [], .int .i64 v, vy, vn] 0)).heap (fun i => C < i) yes vy := hvyz.mono (fun i hi _ => ⟨hi, Sg.put_get _ _ _ (by omega)⟩)
                        generalize s6.put C (.cells [.int .i64 4, .str [], .int .i64 v, vy, vn] 0) = s7 at D7 hC7 hG7 hvn7 hvy7 ⊢
                        ((repeat refine c_seq ?_); refine c_region ?_; (repeat (first | ((first | apply o_move rfl rfl | apply o_easy1 rfl rfl rfl | apply o_ld rfl rfl (by assumption) (by first | rfl | assumption)); conv => lhs; whnf) | apply o_no rfl | refine o_b rfl rfl rfl (by constructor; omega) ?_ | refine o_f rfl rfl rfl (by constructor; omega) ?_ | refine o_s rfl rfl rfl (by constructor; first | omega | assumption) ?_ | refine o_t rfl rfl rfl (by constructor; assumption) ?_ | (apply o_easy rfl rfl rfl; conv => lhs; whnf) | apply o_non rfl)); apply o_end; (repeat (first | exact OutS.nil | exact GetS.hit | exact PutS.hit | apply GetS.miss rfl | apply PutS.miss rfl | apply OutS.cons | apply OutS.skip rfl)))
                        have hcell : CellR s7.heap (fun i => C < i) (.ifs v yes no) [.int .i64 4, .str [], .int .i64 v, vy, vn] := by
                          simp only [CellR]; exact ⟨vy, vn, rfl, hvy7, hvn7⟩
                        obtain ⟨pp, hpp⟩ : ∃ pp, pp = Tp.ifs v yes no := ⟨_, rfl⟩
                        rw [← hpp] at hres hcell
                        obtain ⟨pc, hpc⟩ : ∃ pc, pc = [AV.int .i64 4, .str [], .int .i64 v, vy, vn] := ⟨_, rfl⟩
                        rw [← hpc] at hC7 hcell
                        have hx := D7.x
                        have hb := D7.bd
                        have his := is_spec (m + 8) bb s7 t [125] gr k hk (by omega) (by simp)
                        simp only [closeM] at hres
                        cases hsc : stands t k [125] with
                        | true =>
                          simp only [hsc, if_true] at hres his
                          cases hres
                          have hall := partOf_all hcell.facts.1
                          ((repeat refine c_seq ?_); refine c_region ?_; (repeat (first | ((first | apply o_move rfl rfl | apply o_easy1 rfl rfl rfl | apply o_ld rfl rfl (by assumption) (by first | rfl | assumption)); conv => lhs; whnf) | apply o_no rfl | refine o_b rfl rfl rfl (by constructor; omega) ?_ | refine o_f rfl rfl rfl (by constructor; omega) ?_ | refine o_s rfl rfl rfl (by constructor; first | omega | assumption) ?_ | refine o_t rfl rfl rfl (by constructor; assumption) ?_ | (apply o_easy rfl rfl rfl; conv => lhs; whnf) | apply o_non rfl)))
                          refine o_call rfl rfl his ?_
                          (repeat (first | ((first | apply o_move rfl rfl | apply o_easy1 rfl rfl rfl | apply o_ld rfl rfl (by assumption) (by first | rfl | assumption)); conv => lhs; whnf) | apply o_no rfl | refine o_b rfl rfl rfl (by constructor; omega) ?_ | refine o_f rfl rfl rfl (by constructor; omega) ?_ | refine o_s rfl rfl rfl (by constructor; first | omega | assumption) ?_ | refine o_t rfl rfl rfl (by constructor; assumption) ?_ | (apply o_easy rfl rfl rfl; conv => lhs; whnf) | apply o_non rfl))
                          (apply o_end; (repeat (first | exact OutS.nil | exact GetS.hit | exact PutS.hit | apply GetS.miss rfl | apply PutS.miss rfl | apply OutS.cons | apply OutS.skip rfl)))
                          ((repeat refine c_seq ?_); refine c_else rfl ?_)
                          refine c_skip ?_
                          ((repeat refine c_seq ?_); refine c_region ?_; (repeat (first | ((first | apply o_move rfl rfl | apply o_easy1 rfl rfl rfl | apply o_ld rfl rfl (by assumption) (by first | rfl | assumption)); conv => lhs; whnf) | apply o_no rfl | refine o_b rfl rfl rfl (by constructor; omega) ?_ | refine o_f rfl rfl rfl (by constructor; omega) ?_ | refine o_s rfl rfl rfl (by constructor; first | omega | assumption) ?_ | refine o_t rfl rfl rfl (by constructor; assumption) ?_ | (apply o_easy rfl rfl rfl; conv => lhs; whnf) | apply o_non rfl)))
                          refine o_bsl1 (cs := pc) rfl rfl hcell.stored (beq_of hcell.facts.1) ?_
                          (repeat (first | ((first | apply o_move rfl rfl | apply o_easy1 rfl rfl rfl | apply o_ld rfl rfl (by assumption) (by first | rfl | assumption)); conv => lhs; whnf) | apply o_no rfl | refine o_b rfl rfl rfl (by constructor; omega) ?_ | refine o_f rfl rfl rfl (by constructor; omega) ?_ | refine o_s rfl rfl rfl (by constructor; first | omega | assumption) ?_ | refine o_t rfl rfl rfl (by constructor; assumption) ?_ | (apply o_easy rfl rfl rfl; conv => lhs; whnf) | apply o_non rfl))
                          refine o_st (v := .agg [.vec [.agg pc] (.exact true), .int .i64 ((k + 1 : Nat) : Int), .bool false, .int .i64 0]) rfl rfl rfl rfl D7.r rfl rfl (cs' := [.vec [.agg pc] (.exact true), .int .i64 ((k + 1 : Nat) : Int), .bool false, .int .i64 0]) rfl ?_
                          (apply o_end; (repeat (first | exact OutS.nil | exact GetS.hit | exact PutS.hit | apply GetS.miss rfl | apply PutS.miss rfl | apply OutS.cons | apply OutS.skip rfl)))
                          refine c_ret (rdollar_end D7 rfl rfl ⟨D7.old.put _ (by have := D2.lo; omega), by have := stands_lt (by simp) hsc; simpa using this, pc, true, rfl, hcell.mono (fun i hi _ => ⟨by have := D2.lo; omega, Sg.put_get _ _ _ (by omega)⟩)⟩)
                        | false =>
                          simp only [hsc, Bool.false_eq_true, if_false] at hres his
                          cases hres
                          ((repeat refine c_seq ?_); refine c_region ?_; (repeat (first | ((first | apply o_move rfl rfl | apply o_easy1 rfl rfl rfl | apply o_ld rfl rfl (by assumption) (by first | rfl | assumption)); conv => lhs; whnf) | apply o_no rfl | refine o_b rfl rfl rfl (by constructor; omega) ?_ | refine o_f rfl rfl rfl (by constructor; omega) ?_ | refine o_s rfl rfl rfl (by constructor; first | omega | assumption) ?_ | refine o_t rfl rfl rfl (by constructor; assumption) ?_ | (apply o_easy rfl rfl rfl; conv => lhs; whnf) | apply o_non rfl)))
                          refine o_call rfl rfl his ?_
                          (repeat (first | ((first | apply o_move rfl rfl | apply o_easy1 rfl rfl rfl | apply o_ld rfl rfl (by assumption) (by first | rfl | assumption)); conv => lhs; whnf) | apply o_no rfl | refine o_b rfl rfl rfl (by constructor; omega) ?_ | refine o_f rfl rfl rfl (by constructor; omega) ?_ | refine o_s rfl rfl rfl (by constructor; first | omega | assumption) ?_ | refine o_t rfl rfl rfl (by constructor; assumption) ?_ | (apply o_easy rfl rfl rfl; conv => lhs; whnf) | apply o_non rfl))
                          (apply o_end; (repeat (first | exact OutS.nil | exact GetS.hit | exact PutS.hit | apply GetS.miss rfl | apply PutS.miss rfl | apply OutS.cons | apply OutS.skip rfl)))
                          ((repeat refine c_seq ?_); refine c_if rfl ?_)
                          ((repeat refine c_seq ?_); refine c_region ?_; (repeat (first | ((first | apply o_move rfl rfl | apply o_easy1 rfl rfl rfl | apply o_ld rfl rfl (by assumption) (by first | rfl | assumption)); conv => lhs; whnf) | apply o_no rfl | refine o_b rfl rfl rfl (by constructor; omega) ?_ | refine o_f rfl rfl rfl (by constructor; omega) ?_ | refine o_s rfl rfl rfl (by constructor; first | omega | assumption) ?_ | refine o_t rfl rfl rfl (by constructor; assumption) ?_ | (apply o_easy rfl rfl rfl; conv => lhs; whnf) | apply o_non rfl)))
                          refine o_st (v := .agg (gbad at')) rfl rfl rfl rfl D7.r rfl rfl (cs' := gbad at') rfl ?_
                          (apply o_end; (repeat (first | exact OutS.nil | exact GetS.hit | exact PutS.hit | apply GetS.miss rfl | apply PutS.miss rfl | apply OutS.cons | apply OutS.skip rfl)))
                          exact c_ret (rdollar_end D7 rfl rfl ⟨D7.old.put _ (by have := D2.lo; omega), rfl⟩)
            · rw [if_neg hd10] at hres
              cases hres
              ((repeat refine c_seq ?_); refine c_region ?_; (repeat (first | ((first | apply o_move rfl rfl | apply o_easy1 rfl rfl rfl | apply o_ld rfl rfl (by assumption) (by first | rfl | assumption)); conv => lhs; whnf) | apply o_no rfl | refine o_b rfl rfl rfl (by constructor; omega) ?_ | refine o_f rfl rfl rfl (by constructor; omega) ?_ | refine o_s rfl rfl rfl (by constructor; first | omega | assumption) ?_ | refine o_t rfl rfl rfl (by constructor; assumption) ?_ | (apply o_easy rfl rfl rfl; conv => lhs; whnf) | apply o_non rfl)); apply o_end; (repeat (first | exact OutS.nil | exact GetS.hit | exact PutS.hit | apply GetS.miss rfl | apply PutS.miss rfl | apply OutS.cons | apply OutS.skip rfl)))
              ((repeat refine c_seq ?_); refine c_if rfl ?_)
              ((repeat refine c_seq ?_); refine c_region ?_; (repeat (first | ((first | apply o_move rfl rfl | apply o_easy1 rfl rfl rfl | apply o_ld rfl rfl (by assumption) (by first | rfl | assumption)); conv => lhs; whnf) | apply o_no rfl | refine o_b rfl rfl rfl (by constructor; omega) ?_ | refine o_f rfl rfl rfl (by constructor; omega) ?_ | refine o_s rfl rfl rfl (by constructor; first | omega | assumption) ?_ | refine o_t rfl rfl rfl (by constructor; assumption) ?_ | (apply o_easy rfl rfl rfl; conv => lhs; whnf) | apply o_non rfl)))
              refine o_st (v := .agg (gbad at')) rfl rfl rfl rfl D3.r rfl rfl (cs' := gbad at') rfl ?_
              (apply o_end; (repeat (first | exact OutS.nil | exact GetS.hit | exact PutS.hit | apply GetS.miss rfl | apply PutS.miss rfl | apply OutS.cons | apply OutS.skip rfl)))
              exact c_ret (rdollar_end D3 rfl rfl ⟨D3.old.put _ (by have := D2.lo; omega), rfl⟩)
          | false =>
            simp only [hsd, hse, Bool.false_eq_true, if_false] at hres his1 his2
            ((repeat refine c_seq ?_); refine c_region ?_; (repeat (first | ((first | apply o_move rfl rfl | apply o_easy1 rfl rfl rfl | apply o_ld rfl rfl (by assumption) (by first | rfl | assumption)); conv => lhs; whnf) | apply o_no rfl | refine o_b rfl rfl rfl (by constructor; omega) ?_ | refine o_f rfl rfl rfl (by constructor; omega) ?_ | refine o_s rfl rfl rfl (by constructor; first | omega | assumption) ?_ | refine o_t rfl rfl rfl (by constructor; assumption) ?_ | (apply o_easy rfl rfl rfl; conv => lhs; whnf) | apply o_non rfl)))
            refine o_call rfl rfl his1 ?_
            (repeat (first | ((first | apply o_move rfl rfl | apply o_easy1 rfl rfl rfl | apply o_ld rfl rfl (by assumption) (by first | rfl | assumption)); conv => lhs; whnf) | apply o_no rfl | refine o_b rfl rfl rfl (by constructor; omega) ?_ | refine o_f rfl rfl rfl (by constructor; omega) ?_ | refine o_s rfl rfl rfl (by constructor; first | omega | assumption) ?_ | refine o_t rfl rfl rfl (by constructor; assumption) ?_ | (apply o_easy rfl rfl rfl; conv => lhs; whnf) | apply o_non rfl))
            refine o_call rfl rfl his2 ?_
            (repeat (first | ((first | apply o_move rfl rfl | apply o_easy1 rfl rfl rfl | apply o_ld rfl rfl (by assumption) (by first | rfl | assumption)); conv => lhs; whnf) | apply o_no rfl | refine o_b rfl rfl rfl (by constructor; omega) ?_ | refine o_f rfl rfl rfl (by constructor; omega) ?_ | refine o_s rfl rfl rfl (by constructor; first | omega | assumption) ?_ | refine o_t rfl rfl rfl (by constructor; assumption) ?_ | (apply o_easy rfl rfl rfl; conv => lhs; whnf) | apply o_non rfl))
            (apply o_end; (repeat (first | exact OutS.nil | exact GetS.hit | exact PutS.hit | apply GetS.miss rfl | apply PutS.miss rfl | apply OutS.cons | apply OutS.skip rfl)))
            ((repeat refine c_seq ?_); refine c_else rfl ?_)
            refine c_skip ?_
            have hcell : CellR s3.heap (fun i => C < i) (.group v) (Tp.group v).cells := by simp only [CellR, Tp.cells]
            obtain ⟨pp, hpp⟩ : ∃ pp, pp = Tp.group v := ⟨_, rfl⟩
            obtain ⟨pc, hpc⟩ : ∃ pc, pc = (Tp.group v).cells := ⟨_, rfl⟩
            rw [← hpc] at hC3 hcell
            rw [← hpp] at hres hcell
            generalize j = k at *
            have hk := hj
            have D7 := D3
            have hC7 := hC3
            generalize s3 = s7 at D7 hC7 hx hb hcell ⊢
            have his := is_spec (m + 8) bb s7 t [125] gr k hk (by omega) (by simp)
            simp only [closeM] at hres
            cases hsc : stands t k [125] with
            | true =>
              simp only [hsc, if_true] at hres his
              cases hres
              have hall := partOf_all hcell.facts.1
              ((repeat refine c_seq ?_); refine c_region ?_; (repeat (first | ((first | apply o_move rfl rfl | apply o_easy1 rfl rfl rfl | apply o_ld rfl rfl (by assumption) (by first | rfl | assumption)); conv => lhs; whnf) | apply o_no rfl | refine o_b rfl rfl rfl (by constructor; omega) ?_ | refine o_f rfl rfl rfl (by constructor; omega) ?_ | refine o_s rfl rfl rfl (by constructor; first | omega | assumption) ?_ | refine o_t rfl rfl rfl (by constructor; assumption) ?_ | (apply o_easy rfl rfl rfl; conv => lhs; whnf) | apply o_non rfl)))
              refine o_call rfl rfl his ?_
              (repeat (first | ((first | apply o_move rfl rfl | apply o_easy1 rfl rfl rfl | apply o_ld rfl rfl (by assumption) (by first | rfl | assumption)); conv => lhs; whnf) | apply o_no rfl | refine o_b rfl rfl rfl (by constructor; omega) ?_ | refine o_f rfl rfl rfl (by constructor; omega) ?_ | refine o_s rfl rfl rfl (by constructor; first | omega | assumption) ?_ | refine o_t rfl rfl rfl (by constructor; assumption) ?_ | (apply o_easy rfl rfl rfl; conv => lhs; whnf) | apply o_non rfl))
              (apply o_end; (repeat (first | exact OutS.nil | exact GetS.hit | exact PutS.hit | apply GetS.miss rfl | apply PutS.miss rfl | apply OutS.cons | apply OutS.skip rfl)))
              ((repeat refine c_seq ?_); refine c_else rfl ?_)
              refine c_skip ?_
              ((repeat refine c_seq ?_); refine c_region ?_; (repeat (first | ((first | apply o_move rfl rfl | apply o_easy1 rfl rfl rfl | apply o_ld rfl rfl (by assumption) (by first | rfl | assumption)); conv => lhs; whnf) | apply o_no rfl | refine o_b rfl rfl rfl (by constructor; omega) ?_ | refine o_f rfl rfl rfl (by constructor; omega) ?_ | refine o_s rfl rfl rfl (by constructor; first | omega | assumption) ?_ | refine o_t rfl rfl rfl (by constructor; assumption) ?_ | (apply o_easy rfl rfl rfl; conv => lhs; whnf) | apply o_non rfl)))
              refine o_bsl1 (cs := pc) rfl rfl hcell.stored (beq_of hcell.facts.1) ?_
              (repeat (first | ((first | apply o_move rfl rfl | apply o_easy1 rfl rfl rfl | apply o_ld rfl rfl (by assumption) (by first | rfl | assumption)); conv => lhs; whnf) | apply o_no rfl | refine o_b rfl rfl rfl (by constructor; omega) ?_ | refine o_f rfl rfl rfl (by constructor; omega) ?_ | refine o_s rfl rfl rfl (by constructor; first | omega | assumption) ?_ | refine o_t rfl rfl rfl (by constructor; assumption) ?_ | (apply o_easy rfl rfl rfl; conv => lhs; whnf) | apply o_non rfl))
              refine o_st (v := .agg [.vec [.agg pc] (.exact true), .int .i64 ((k + 1 : Nat) : Int), .bool false, .int .i64 0]) rfl rfl rfl rfl D7.r rfl rfl (cs' := [.vec [.agg pc] (.exact true), .int .i64 ((k + 1 : Nat) : Int), .bool false, .int .i64 0]) rfl ?_
              (apply o_end; (repeat (first | exact OutS.nil | exact GetS.hit | exact PutS.hit | apply GetS.miss rfl | apply PutS.miss rfl | apply OutS.cons | apply OutS.skip rfl)))
              refine c_ret (rdollar_end D7 rfl rfl ⟨D7.old.put _ (by have := D2.lo; omega), by have := stands_lt (by simp) hsc; simpa using this, pc, true, rfl, hcell.mono (fun i hi _ => ⟨by have := D2.lo; omega, Sg.put_get _ _ _ (by omega)⟩)⟩)
            | false =>
              simp only [hsc, Bool.false_eq_true, if_false] at hres his
              cases hres
              ((repeat refine c_seq ?_); refine c_region ?_; (repeat (first | ((first | apply o_move rfl rfl | apply o_easy1 rfl rfl rfl | apply o_ld rfl rfl (by assumption) (by first | rfl | assumption)); conv => lhs; whnf) | apply o_no rfl | refine o_b rfl rfl rfl (by constructor; omega) ?_ | refine o_f rfl rfl rfl (by constructor; omega) ?_ | refine o_s rfl rfl rfl (by constructor; first | omega | assumption) ?_ | refine o_t rfl rfl rfl (by constructor; assumption) ?_ | (apply o_easy rfl rfl rfl; conv => lhs; whnf) | apply o_non rfl)))
              refine o_call rfl rfl his ?_
              (repeat (first | ((first | apply o_move rfl rfl | apply o_easy1 rfl rfl rfl | apply o_ld rfl rfl (by assumption) (by first | rfl | assumption)); conv => lhs; whnf) | apply o_no rfl | refine o_b rfl rfl rfl (by constructor; omega) ?_ | refine o_f rfl rfl rfl (by constructor; omega) ?_ | refine o_s rfl rfl rfl (by constructor; first | omega | assumption) ?_ | refine o_t rfl rfl rfl (by constructor; assumption) ?_ | (apply o_easy rfl rfl rfl; conv => lhs; whnf) | apply o_non rfl))
              (apply o_end; (repeat (first | exact OutS.nil | exact GetS.hit | exact PutS.hit | apply GetS.miss rfl | apply PutS.miss rfl | apply OutS.cons | apply OutS.skip rfl)))
              ((repeat refine c_seq ?_); refine c_if rfl ?_)
              ((repeat refine c_seq ?_); refine c_region ?_; (repeat (first | ((first | apply o_move rfl rfl | apply o_easy1 rfl rfl rfl | apply o_ld rfl rfl (by assumption) (by first | rfl | assumption)); conv => lhs; whnf) | apply o_no rfl | refine o_b rfl rfl rfl (by constructor; omega) ?_ | refine o_f rfl rfl rfl (by constructor; omega) ?_ | refine o_s rfl rfl rfl (by constructor; first | omega | assumption) ?_ | refine o_t rfl rfl rfl (by constructor; assumption) ?_ | (apply o_easy rfl rfl rfl; conv => lhs; whnf) | apply o_non rfl)))
              refine o_st (v := .agg (gbad at')) rfl rfl rfl rfl D7.r rfl rfl (cs' := gbad at') rfl ?_
              (apply o_end; (repeat (first | exact OutS.nil | exact GetS.hit | exact PutS.hit | apply GetS.miss rfl | apply PutS.miss rfl | apply OutS.cons | apply OutS.skip rfl)))
              exact c_ret (rdollar_end D7 rfl rfl ⟨D7.old.put _ (by have := D2.lo; omega), rfl⟩)
      · rw [if_pos (fun e => hle e.2)] at hres
        rw [if_neg hle] at hrf
        cases hres
        ((repeat refine c_seq ?_); refine c_region ?_; (repeat (first | ((first | apply o_move rfl rfl | apply o_easy1 rfl rfl rfl | apply o_ld rfl rfl (by assumption) (by first | rfl | assumption)); conv => lhs; whnf) | apply o_no rfl | refine o_b rfl rfl rfl (by constructor; omega) ?_ | refine o_f rfl rfl rfl (by constructor; omega) ?_ | refine o_s rfl rfl rfl (by constructor; first | omega | assumption) ?_ | refine o_t rfl rfl rfl (by constructor; assumption) ?_ | (apply o_easy rfl rfl rfl; conv => lhs; whnf) | apply o_non rfl)))
        refine o_call (l := [.agg (tx t gr), .int .i64 ((i + 1 : Nat) : Int)]) rfl rfl hrf ?_
        (repeat (first | ((first | apply o_move rfl rfl | apply o_easy1 rfl rfl rfl | apply o_ld rfl rfl (by assumption) (by first | rfl | assumption)); conv => lhs; whnf) | apply o_no rfl | refine o_b rfl rfl rfl (by constructor; omega) ?_ | refine o_f rfl rfl rfl (by constructor; omega) ?_ | refine o_s rfl rfl rfl (by constructor; first | omega | assumption) ?_ | refine o_t rfl rfl rfl (by constructor; assumption) ?_ | (apply o_easy rfl rfl rfl; conv => lhs; whnf) | apply o_non rfl))
        (apply o_end; (repeat (first | exact OutS.nil | exact GetS.hit | exact PutS.hit | apply GetS.miss rfl | apply PutS.miss rfl | apply OutS.cons | apply OutS.skip rfl)))
        ((repeat refine c_seq ?_); refine c_region ?_; (repeat (first | ((first | apply o_move rfl rfl | apply o_easy1 rfl rfl rfl | apply o_ld rfl rfl (by assumption) (by first | rfl | assumption)); conv => lhs; whnf) | apply o_no rfl | refine o_b rfl rfl rfl (by constructor; omega) ?_ | refine o_f rfl rfl rfl (by constructor; omega) ?_ | refine o_s rfl rfl rfl (by constructor; first | omega | assumption) ?_ | refine o_t rfl rfl rfl (by constructor; assumption) ?_ | (apply o_easy rfl rfl rfl; conv => lhs; whnf) | apply o_non rfl)); apply o_end; (repeat (first | exact OutS.nil | exact GetS.hit | exact PutS.hit | apply GetS.miss rfl | apply PutS.miss rfl | apply OutS.cons | apply OutS.skip rfl)))
        ((repeat refine c_seq ?_); refine c_if rfl ?_)
        ((repeat refine c_seq ?_); refine c_region ?_; (repeat (first | ((first | apply o_move rfl rfl | apply o_easy1 rfl rfl rfl | apply o_ld rfl rfl (by assumption) (by first | rfl | assumption)); conv => lhs; whnf) | apply o_no rfl | refine o_b rfl rfl rfl (by constructor; omega) ?_ | refine o_f rfl rfl rfl (by constructor; omega) ?_ | refine o_s rfl rfl rfl (by constructor; first | omega | assumption) ?_ | refine o_t rfl rfl rfl (by constructor; assumption) ?_ | (apply o_easy rfl rfl rfl; conv => lhs; whnf) | apply o_non rfl)))
        refine o_st (v := .agg (gbad at')) rfl rfl rfl rfl D2.r rfl rfl (cs' := gbad at') rfl ?_
        (apply o_end; (repeat (first | exact OutS.nil | exact GetS.hit | exact PutS.hit | apply GetS.miss rfl | apply PutS.miss rfl | apply OutS.cons | apply OutS.skip rfl)))
        exact c_ret (rdollar_end D2 rfl rfl ⟨D2.old.put _ (by have := D2.lo; omega), rfl⟩)
    · rw [if_pos (fun e => hij e.1)] at hres
      cases hres
      ((repeat refine c_seq ?_); refine c_region ?_; (repeat (first | ((first | apply o_move rfl rfl | apply o_easy1 rfl rfl rfl | apply o_ld rfl rfl (by assumption) (by first | rfl | assumption)); conv => lhs; whnf) | apply o_no rfl | refine o_b rfl rfl rfl (by constructor; omega) ?_ | refine o_f rfl rfl rfl (by constructor; omega) ?_ | refine o_s rfl rfl rfl (by constructor; first | omega | assumption) ?_ | refine o_t rfl rfl rfl (by constructor; assumption) ?_ | (apply o_easy rfl rfl rfl; conv => lhs; whnf) | apply o_non rfl)))
      refine o_callw (l := [.agg (tx t gr), .int .i64 ((i + 1 : Nat) : Int)]) rfl rfl ((refer30_no (m + 8) bb t gr (i + 1) s2 (by omega) hi4 (by omega) hij).mono ?_)
      rintro o s5 ⟨j', rfl, rfl⟩
      (repeat (first | ((first | apply o_move rfl rfl | apply o_easy1 rfl rfl rfl | apply o_ld rfl rfl (by assumption) (by first | rfl | assumption)); conv => lhs; whnf) | apply o_no rfl | refine o_b rfl rfl rfl (by constructor; omega) ?_ | refine o_f rfl rfl rfl (by constructor; omega) ?_ | refine o_s rfl rfl rfl (by constructor; first | omega | assumption) ?_ | refine o_t rfl rfl rfl (by constructor; assumption) ?_ | (apply o_easy rfl rfl rfl; conv => lhs; whnf) | apply o_non rfl))
      (apply o_end; (repeat (first | exact OutS.nil | exact GetS.hit | exact PutS.hit | apply GetS.miss rfl | apply PutS.miss rfl | apply OutS.cons | apply OutS.skip rfl)))
      ((repeat refine c_seq ?_); refine c_region ?_; (repeat (first | ((first | apply o_move rfl rfl | apply o_easy1 rfl rfl rfl | apply o_ld rfl rfl (by assumption) (by first | rfl | assumption)); conv => lhs; whnf) | apply o_no rfl | refine o_b rfl rfl rfl (by constructor; omega) ?_ | refine o_f rfl rfl rfl (by constructor; omega) ?_ | refine o_s rfl rfl rfl (by constructor; first | omega | assumption) ?_ | refine o_t rfl rfl rfl (by constructor; assumption) ?_ | (apply o_easy rfl rfl rfl; conv => lhs; whnf) | apply o_non rfl)); apply o_end; (repeat (first | exact OutS.nil | exact GetS.hit | exact PutS.hit | apply GetS.miss rfl | apply PutS.miss rfl | apply OutS.cons | apply OutS.skip rfl)))
      ((repeat refine c_seq ?_); refine c_if rfl ?_)
      ((repeat refine c_seq ?_); refine c_region ?_; (repeat (first | ((first | apply o_move rfl rfl | apply o_easy1 rfl rfl rfl | apply o_ld rfl rfl (by assumption) (by first | rfl | assumption)); conv => lhs; whnf) | apply o_no rfl | refine o_b rfl rfl rfl (by constructor; omega) ?_ | refine o_f rfl rfl rfl (by constructor; omega) ?_ | refine o_s rfl rfl rfl (by constructor; first | omega | assumption) ?_ | refine o_t rfl rfl rfl (by constructor; assumption) ?_ | (apply o_easy rfl rfl rfl; conv => lhs; whnf) | apply o_non rfl)))
      refine o_st (v := .agg (gbad at')) rfl rfl rfl rfl D2.r rfl rfl (cs' := gbad at') rfl ?_
      (apply o_end; (repeat (first | exact OutS.nil | exact GetS.hit | exact PutS.hit | apply GetS.miss rfl | apply PutS.miss rfl | apply OutS.cons | apply OutS.skip rfl)))
      exact c_ret (rdollar_end D2 rfl rfl ⟨D2.old.put _ (by have := D2.lo; omega), rfl⟩)


end Go.Tpl

namespace Go.Tpl
open Go Go.Am Go.Proofs

/-- the loop 0 of function 15 -/
def lp15_0 : ACode := .seq (.seq (.region [⟨(some 14), .v (.move (.tmp 1)), none⟩, ⟨(some 15), .v (.fieldAddr 0 none (.tmp 5)), none⟩, ⟨(some 16), .v (.load none (.tmp 15)), none⟩, ⟨(some 17), .v (.len 0 (.tmp 16)), none⟩, ⟨(some 18), .v (.bin .lss (.tmp 14) (.tmp 17)), none⟩] [18]) (.cond (.tmp 18) (.skip) (.exit 0))) (.block 1 (.seq (.region [⟨(some 19), .v (.fieldAddr 0 none (.tmp 5)), none⟩, ⟨(some 20), .v (.load none (.tmp 19)), none⟩, ⟨(some 21), .v (.move (.tmp 1)), none⟩, ⟨(some 22), .v (.indexS (.tmp 20) (.tmp 21)), none⟩, ⟨(some 12), .v (.move (.tmp 22)), none⟩] [12]) (.seq (.seq (.region [⟨(some 23), .v (.move (.tmp 2)), none⟩, ⟨(some 24), .v (.move (.tmp 23)), none⟩, ⟨(some 25), .v (.move (.tmp 12)), (some (24, true))⟩, ⟨(some 26), .v (.bin .eql (.tmp 25) (.const (.int .u8 125))), (some (24, true))⟩, ⟨(some 27), .v (.pick (.tmp 24) (.tmp 26) (.const (.bool false))), none⟩, ⟨(some 28), .v (.move (.tmp 27)), none⟩, ⟨(some 29), .v (.move (.tmp 3)), (some (28, false))⟩, ⟨(some 30), .v (.move (.tmp 29)), (some (28, false))⟩, ⟨(some 31), .v (.move (.tmp 12)), (some (30, true))⟩, ⟨(some 32), .v (.bin .eql (.tmp 31) (.const (.int .u8 58))), (some (30, true))⟩, ⟨(some 33), .v (.pick (.tmp 30) (.tmp 32) (.const (.bool false))), (some (28, false))⟩, ⟨(some 34), .v (.pick (.tmp 28) (.const (.bool true)) (.tmp 33)), none⟩] [34]) (.cond (.tmp 34) (.exit 0) (.skip))) (.seq (.region [⟨(some 35), .v (.move (.tmp 12)), none⟩] [35]) (.block 2 (.seq (.region [⟨(some 47), .v (.bin .eql (.tmp 35) (.const (.int .u8 92))), none⟩, ⟨(some 46), .v (.move (.tmp 47)), none⟩] [46]) (.cond (.tmp 46) (.seq (.seq (.region [⟨(some 48), .v (.move (.tmp 1)), none⟩, ⟨(some 49), .v (.bin .add (.tmp 48) (.const (.int .i64 1))), none⟩, ⟨(some 50), .v (.fieldAddr 0 none (.tmp 5)), none⟩, ⟨(some 51), .v (.load none (.tmp 50)), none⟩, ⟨(some 52), .v (.len 0 (.tmp 51)), none⟩, ⟨(some 53), .v (.bin .eql (.tmp 49) (.tmp 52)), none⟩] [53]) (.cond (.tmp 53) (.seq (.region [⟨(some 54), .v (.move (.tmp 1)), none⟩, ⟨(some 55), .v (.build [.nilsl, (.int .i64 0), (.bool false), (.int .i64 0)] [(2, 1, (.const (.bool true))), (3, 1, (.tmp 54))]), none⟩, ⟨none, .e (.store 4 (.tmp 10) (.tmp 55)), none⟩] []) (.ret)) (.skip))) (.seq (.region [⟨(some 56), .v (.move (.tmp 11)), none⟩, ⟨(some 57), .v (.fieldAddr 0 none (.tmp 5)), none⟩, ⟨(some 58), .v (.load none (.tmp 57)), none⟩, ⟨(some 59), .v (.move (.tmp 1)), none⟩, ⟨(some 60), .v (.bin .add (.tmp 59) (.const (.int .i64 1))), none⟩, ⟨(some 61), .v (.move (.tmp 1)), none⟩, ⟨(some 62), .v (.bin .add (.tmp 61) (.const (.int .i64 2))), none⟩, ⟨(some 63), .v (.sliceS (.tmp 58) (some (.tmp 60)) (some (.tmp 62))), none⟩, ⟨(some 64), .call 21 [(.tmp 56), (.tmp 63)], none⟩, ⟨(some 11), .v (.move (.tmp 64)), none⟩] [11]) (.region [⟨(some 65), .v (.move (.tmp 1)), none⟩, ⟨(some 66), .v (.bin .add (.tmp 65) (.const (.int .i64 2))), none⟩, ⟨(some 1), .v (.move (.tmp 66)), none⟩] [1]))) (.seq (.region [⟨(some 68), .v (.bin .eql (.tmp 35) (.const (.int .u8 36))), none⟩, ⟨(some 67), .v (.move (.tmp 68)), none⟩] [67]) (.cond (.tmp 67) (.seq (.seq (.region [⟨(some 69), .v (.load (some 3) (.tmp 5)), none⟩, ⟨(some 70), .v (.move (.tmp 1)), none⟩, ⟨(some 71), .call 22 [(.tmp 69), (.tmp 70), (.const (.str [36, 36]))], none⟩] [71]) (.cond (.tmp 71) (.seq (.region [⟨(some 72), .v (.move (.tmp 11)), none⟩, ⟨(some 73), .call 21 [(.tmp 72), (.const (.str [36]))], none⟩, ⟨(some 11), .v (.move (.tmp 73)), none⟩] [11]) (.seq (.region [⟨(some 74), .v (.move (.tmp 1)), none⟩, ⟨(some 75), .v (.bin .add (.tmp 74) (.const (.int .i64 2))), none⟩, ⟨(some 1), .v (.move (.tmp 75)), none⟩] [1]) (.exit 1))) (.skip))) (.seq (.region [⟨(some 76), .v (.load (some 3) (.tmp 5)), none⟩, ⟨(some 77), .v (.move (.tmp 1)), none⟩, ⟨(some 78), .v (.move (.tmp 4)), none⟩, ⟨(some 79), .call 23 [(.tmp 76), (.tmp 77), (.tmp 78)], none⟩, ⟨(some 13), .e (.alloc [.nilsl, (.int .i64 0), (.bool false), (.int .i64 0)]), none⟩, ⟨none, .e (.store 4 (.tmp 13) (.tmp 79)), none⟩] [13]) (.seq (.seq (.region [⟨(some 80), .v (.fieldAddr 2 none (.tmp 13)), none⟩, ⟨(some 81), .v (.load none (.tmp 80)), none⟩] [81]) (.cond (.tmp 81) (.seq (.region [⟨(some 82), .v (.load (some 4) (.tmp 13)), none⟩, ⟨none, .e (.store 4 (.tmp 10) (.tmp 82)), none⟩] []) (.ret)) (.skip))) (.seq (.region [⟨(some 83), .v (.move (.tmp 11)), none⟩, ⟨(some 84), .v (.fieldAddr 0 none (.tmp 13)), none⟩, ⟨(some 85), .v (.load none (.tmp 84)), none⟩, ⟨(some 86), .e (.append true (some 5) 80 (.tmp 83) (.tmp 85)), none⟩, ⟨(some 11), .v (.move (.tmp 86)), none⟩] [11]) (.region [⟨(some 87), .v (.fieldAddr 1 none (.tmp 13)), none⟩, ⟨(some 88), .v (.load none (.tmp 87)), none⟩, ⟨(some 1), .v (.move (.tmp 88)), none⟩] [1]))))) (.seq (.region [⟨(some 36), .v (.move (.tmp 11)), none⟩, ⟨(some 37), .v (.fieldAddr 0 none (.tmp 5)), none⟩, ⟨(some 38), .v (.load none (.tmp 37)), none⟩, ⟨(some 39), .v (.move (.tmp 1)), none⟩, ⟨(some 40), .v (.move (.tmp 1)), none⟩, ⟨(some 41), .v (.bin .add (.tmp 40) (.const (.int .i64 1))), none⟩, ⟨(some 42), .v (.sliceS (.tmp 38) (some (.tmp 39)) (some (.tmp 41))), none⟩, ⟨(some 43), .call 21 [(.tmp 36), (.tmp 42)], none⟩, ⟨(some 11), .v (.move (.tmp 43)), none⟩] [11]) (.region [⟨(some 44), .v (.move (.tmp 1)), none⟩, ⟨(some 45), .v (.bin .add (.tmp 44) (.const (.int .i64 1))), none⟩, ⟨(some 1), .v (.move (.tmp 45)), none⟩] [1])))))))))))
/-- a part of function 15 -/
def reg15 : ACode := .region [⟨(some 23), .v (.move (.tmp 2)), none⟩, ⟨(some 24), .v (.move (.tmp 23)), none⟩, ⟨(some 25), .v (.move (.tmp 12)), (some (24, true))⟩, ⟨(some 26), .v (.bin .eql (.tmp 25) (.const (.int .u8 125))), (some (24, true))⟩, ⟨(some 27), .v (.pick (.tmp 24) (.tmp 26) (.const (.bool false))), none⟩, ⟨(some 28), .v (.move (.tmp 27)), none⟩, ⟨(some 29), .v (.move (.tmp 3)), (some (28, false))⟩, ⟨(some 30), .v (.move (.tmp 29)), (some (28, false))⟩, ⟨(some 31), .v (.move (.tmp 12)), (some (30, true))⟩, ⟨(some 32), .v (.bin .eql (.tmp 31) (.const (.int .u8 58))), (some (30, true))⟩, ⟨(some 33), .v (.pick (.tmp 30) (.tmp 32) (.const (.bool false))), (some (28, false))⟩, ⟨(some 34), .v (.pick (.tmp 28) (.const (.bool true)) (.tmp 33)), none⟩] [34]

abbrev fr15 (t : List UInt8) (gr : Int) (br co : Bool) (d X R i : Nat) (x18 x12 x34 x35 x46 x53 v x67 x71 x13 x81 : AV) : Fr :=
  ⟨[(0, .agg (tx t gr)), (1, .int .i64 i), (2, .bool br), (3, .bool co), (4, .int .i64 d), (10, .ptr R 0 0), (5, .ptr X 0 0), (18, x18), (12, x12), (34, x34), (35, x35), (46, x46), (53, x53), (11, v), (67, x67), (71, x71), (13, x13), (81, x81)], [], .off⟩

theorem reg15_spec {lp : (Fr → Sg → Ran) → Fr → Sg → Ran} {call : CallFn} {s : Sg} {t : List UInt8} {gr : Int} {br co : Bool} {d X R i : Nat} {x18 x34 x35 x46 x53 v x67 x71 x13 x81 : AV} {c : UInt8} (hbc : co = true → br = true) {Q : Ex → Fr → Sg → Prop}
    (hq : Q .normal (fr15 t gr br co d X R i x18 (.int .u8 c.toNat) (.bool (decide (c ∈ endsB br co))) x35 x46 x53 v x67 x71 x13 x81) s) : OkC lp call bb reg15 (fr15 t gr br co d X R i x18 (.int .u8 c.toNat) x34 x35 x46 x53 v x67 x71 x13 x81) s Q := by
  have h125 : (c = 125) ↔ c.toNat = 125 := by rw [← UInt8.toNat_inj]; rfl
  have h58 : (c = 58) ↔ c.toNat = 58 := by rw [← UInt8.toNat_inj]; rfl
  cases br with
  | false =>
    cases co with
    | true => simp at hbc
    | false =>
      have e : decide (c ∈ endsB false false) = false := by simp [endsB]
      rw [e] at hq
      ((repeat refine c_seq ?_); refine c_region ?_; (repeat (first | ((first | apply o_move rfl rfl | apply o_easy1 rfl rfl rfl | apply o_ld rfl rfl (by assumption) (by first | rfl | assumption)); conv => lhs; whnf) | apply o_no rfl | refine o_b rfl rfl rfl (by constructor; omega) ?_ | refine o_f rfl rfl rfl (by constructor; omega) ?_ | refine o_s rfl rfl rfl (by constructor; first | omega | assumption) ?_ | refine o_t rfl rfl rfl (by constructor; assumption) ?_ | (apply o_easy rfl rfl rfl; conv => lhs; whnf) | apply o_non rfl)); apply o_end; (repeat (first | exact OutS.nil | exact GetS.hit | exact PutS.hit | apply GetS.miss rfl | apply PutS.miss rfl | apply OutS.cons | apply OutS.skip rfl)))
      exact hq
  | true =>
    by_cases h1 : c.toNat = 125
    · have e : decide (c ∈ endsB true co) = true := by
        have := h125.mpr h1
        cases co <;> simp [endsB, this]
      rw [e] at hq
      cases co <;>
      · ((repeat refine c_seq ?_); refine c_region ?_; (repeat (first | ((first | apply o_move rfl rfl | apply o_easy1 rfl rfl rfl | apply o_ld rfl rfl (by assumption) (by first | rfl | assumption)); conv => lhs; whnf) | apply o_no rfl | refine o_b rfl rfl rfl (by constructor; omega) ?_ | refine o_f rfl rfl rfl (by constructor; omega) ?_ | refine o_s rfl rfl rfl (by constructor; first | omega | assumption) ?_ | refine o_t rfl rfl rfl (by constructor; assumption) ?_ | (apply o_easy rfl rfl rfl; conv => lhs; whnf) | apply o_non rfl)); apply o_end; (repeat (first | exact OutS.nil | exact GetS.hit | exact PutS.hit | apply GetS.miss rfl | apply PutS.miss rfl | apply OutS.cons | apply OutS.skip rfl)))
        exact hq
    · cases co with
      | false =>
        have e : decide (c ∈ endsB true false) = false := by
          have : c ≠ 125 := fun e => h1 (h125.mp e)
          simp [endsB, this]
        rw [e] at hq
        ((repeat refine c_seq ?_); refine c_region ?_; (repeat (first | ((first | apply o_move rfl rfl | apply o_easy1 rfl rfl rfl | apply o_ld rfl rfl (by assumption) (by first | rfl | assumption)); conv => lhs; whnf) | apply o_no rfl | refine o_b rfl rfl rfl (by constructor; omega) ?_ | refine o_f rfl rfl rfl (by constructor; omega) ?_ | refine o_s rfl rfl rfl (by constructor; first | omega | assumption) ?_ | refine o_t rfl rfl rfl (by constructor; assumption) ?_ | (apply o_easy rfl rfl rfl; conv => lhs; whnf) | apply o_non rfl)); apply o_end; (repeat (first | exact OutS.nil | exact GetS.hit | exact PutS.hit | apply GetS.miss rfl | apply PutS.miss rfl | apply OutS.cons | apply OutS.skip rfl)))
        exact hq
      | true =>
        by_cases h2 : c.toNat = 58
        · have e : decide (c ∈ endsB true true) = true := by
            have := h58.mpr h2
            simp [endsB, this]
          rw [e] at hq
          ((repeat refine c_seq ?_); refine c_region ?_; (repeat (first | ((first | apply o_move rfl rfl | apply o_easy1 rfl rfl rfl | apply o_ld rfl rfl (by assumption) (by first | rfl | assumption)); conv => lhs; whnf) | apply o_no rfl | refine o_b rfl rfl rfl (by constructor; omega) ?_ | refine o_f rfl rfl rfl (by constructor; omega) ?_ | refine o_s rfl rfl rfl (by constructor; first | omega | assumption) ?_ | refine o_t rfl rfl rfl (by constructor; assumption) ?_ | (apply o_easy rfl rfl rfl; conv => lhs; whnf) | apply o_non rfl)); apply o_end; (repeat (first | exact OutS.nil | exact GetS.hit | exact PutS.hit | apply GetS.miss rfl | apply PutS.miss rfl | apply OutS.cons | apply OutS.skip rfl)))
          exact hq
        · have e : decide (c ∈ endsB true true) = false := by
            have a1 : c ≠ 125 := fun e => h1 (h125.mp e)
            have a2 : c ≠ 58 := fun e => h2 (h58.mp e)
            simp [endsB, a1, a2]
          rw [e] at hq
          ((repeat refine c_seq ?_); refine c_region ?_; (repeat (first | ((first | apply o_move rfl rfl | apply o_easy1 rfl rfl rfl | apply o_ld rfl rfl (by assumption) (by first | rfl | assumption)); conv => lhs; whnf) | apply o_no rfl | refine o_b rfl rfl rfl (by constructor; omega) ?_ | refine o_f rfl rfl rfl (by constructor; omega) ?_ | refine o_s rfl rfl rfl (by constructor; first | omega | assumption) ?_ | refine o_t rfl rfl rfl (by constructor; assumption) ?_ | (apply o_easy rfl rfl rfl; conv => lhs; whnf) | apply o_non rfl)); apply o_end; (repeat (first | exact OutS.nil | exact GetS.hit | exact PutS.hit | apply GetS.miss rfl | apply PutS.miss rfl | apply OutS.cons | apply OutS.skip rfl)))
          exact hq

/-- the row that Parts gathers -/
def InvV (R : Nat) (h : List AObj) (v : AV) (out : List Tp) : Prop := (out = [] ∧ v = .nilsl) ∨ ∃ o g rs, v = .ms o g 0 out.length 5 ∧ R < o ∧ getCells h o g = some rs ∧ RowR h (fun i => R < i ∧ i ≠ o) out rs

theorem InvV.defd {R : Nat} {h : List AObj} {v : AV} {out : List Tp} (hv : InvV R h v out) : v.def? = some v ∧ v.one = true ∧ v.kept = v := by
  rcases hv with ⟨_, rfl⟩ | ⟨o, g, rs, rfl, _⟩ <;> exact ⟨rfl, rfl, rfl⟩

theorem InvV.old {R : Nat} {s s' : Sg} {v : AV} {out : List Tp} (hv : InvV R s.heap v out) (k : Old s s') : InvV R s'.heap v out := by
  rcases hv with hv | ⟨o, g, rs, e1, e2, e3, e4⟩
  · exact .inl hv
  · exact .inr ⟨o, g, rs, e1, e2, getCells_at e3 (k.old _ (getCells_lt e3)), e4.mono (fun i hi hl => ⟨hi, k.old i hl⟩)⟩

/-- Parts' own objects -/
structure PSt (t : List UInt8) (gr : Int) (s : Sg) (X R : Nat) (s' : Sg) : Prop where
  old : Old s s'
  x : getCells s'.heap X 0 = some (tx t gr)
  r : getCells s'.heap R 0 = some gz
  lo : s.heap.length ≤ X
  xr : X < R

theorem PSt.call {t gr s X R s' s''} (h : PSt t gr s X R s') (k : Old s' s'') : PSt t gr s X R s'' :=
  ⟨h.old.trans k, getCells_at h.x (k.old _ (getCells_lt h.x)), getCells_at h.r (k.old _ (getCells_lt h.r)), h.lo, h.xr⟩

theorem rparts_end {callD : DeferFn} {t : List UInt8} {gr : Int} {s s' : Sg} {X R : Nat} {pers : Env} {cs : List AV} {Q : Out → Sg → Prop} (h : PSt t gr s X R s') (hp : (Env.get pers 10).def? = some (.ptr R 0 0)) (hl : cs.length = 4) (hq : Q (.ret (.agg cs)) (s'.put R (.cells cs 0))) :
    OkF (finish callD bb af15 s .ret ⟨pers, [], .off⟩ (s'.put R (.cells cs 0))) Q :=
  fin_ret (.inl rfl) (read_cell hp (getCells_put h.r) (partOf_all hl) read_nil) rfl hq

theorem stands_dd {t : List UInt8} {i : Nat} {c : UInt8} (hc : t[i]? = some c) (h36 : c.toNat = 36) : stands t i [36, 36] = stands t (i + 1) [36] := by
  have hlt := lt_of_getElem? hc
  have hce : c = 36 := by rw [← UInt8.toNat_inj]; exact h36
  have hd : t.drop i = 36 :: t.drop (i + 1) := by
    rw [List.drop_eq_getElem_cons hlt]
    rw [List.getElem?_eq_getElem hlt] at hc
    rw [Option.some.inj hc, hce]
  simp only [stands, hd, List.length_cons, List.length_nil, List.take_succ_cons]
  congr 1
  simp only [decide_eq_decide]
  omega

/-- a text behind the row -/
theorem lit_inv (m : Nat) (s1 : Sg) (R : Nat) (v : AV) (out : List Tp) (u : List UInt8) (hv : InvV R s1.heap v out) (hR : R < s1.heap.length) (hl : out.length < 2 ^ 30) (hu : u.length < 2 ^ 40) (hq : ∀ q ∈ out, q.text.length < 2 ^ 40) :
    OkF (callF T (m + 1) bb 21 [v, .str u] s1) fun o s' => ∃ v', o = .ret v' ∧ Old s1 s' ∧ InvV R s'.heap v' (addM out (.lit u)) := by
  rcases hv with ⟨rfl, rfl⟩ | ⟨o, g, rs, rfl, ho, hc, hr⟩
  · refine (lit_spec m s1 (fun i => R < i ∧ i < s1.heap.length) [] .nilsl u (.inl ⟨rfl, rfl⟩) hl hu hq).mono ?_
    rintro o s' ⟨o', g', rs', rfl, h1, h2, h3, h4, h5⟩
    exact ⟨_, rfl, ⟨h5, h4⟩, .inr ⟨o', g', rs', rfl, by omega, h2, h3.mono (fun i hi _ => ⟨⟨hi.1, by omega⟩, rfl⟩)⟩⟩
  · have hr' : RowR s1.heap (fun i => R < i ∧ i < s1.heap.length) out rs := hr.mono (fun i hi hl => ⟨⟨hi.1, hl⟩, rfl⟩)
    refine (lit_spec m s1 (fun i => R < i ∧ i < s1.heap.length) out _ u (.inr ⟨o, g, rs, rfl, hc, hr'⟩) hl hu hq).mono ?_
    rintro o s' ⟨o', g', rs', rfl, h1, h2, h3, h4, h5⟩
    exact ⟨_, rfl, ⟨h5, h4⟩, .inr ⟨o', g', rs', rfl, by omega, h2, h3.mono (fun i hi _ => ⟨⟨hi.1, by omega⟩, rfl⟩)⟩⟩

end Go.Tpl

namespace Go.Tpl
open Go Go.Am Go.Proofs

theorem InvV.lt {R : Nat} {h : List AObj} {v : AV} {out : List Tp} (hv : InvV R h v out) : ∀ o g len sz, v = .ms o g 0 len sz → R < o ∧ o < h.length := by
  intro o g len sz e
  rcases hv with ⟨_, rfl⟩ | ⟨o', g', rs, rfl, h1, h2, _⟩
  · cases e
  · cases e; exact ⟨h1, getCells_lt h2⟩

/-- a part behind the row, in its place -/
theorem o_appR {call : CallFn} {r : List AOper} {loc : Env} {fr : Fr} {s s0 : Sg} {Q : Ex → Env → Fr → Sg → Prop} {x y : AOpd} {tt : Nat} {R X n0 : Nat} {v : AV} {out : List Tp} {p : Tp} {c : List AV} {tl : Bool} {t : List UInt8} {gr : Int} (hx : x.ev loc fr.pers = some v) (hv : InvV R s.heap v out) (hy : y.ev loc fr.pers = some (.vec [.agg c] (.exact tl)))
    (hP : PSt t gr s0 X R s) (hlt : ∀ o g len sz, v = .ms o g 0 len sz → R < o ∧ o < n0) (hn0 : n0 ≤ s.heap.length) (hR : R < n0) (hc : CellR s.heap (fun i => n0 ≤ i) p c) (hl : out.length < 2 ^ 30)
    (hr : ∀ v' s', PSt t gr s0 X R s' → InvV R s'.heap v' (out ++ [p]) → (∀ j, n0 ≤ j → j < s.heap.length → s'.heap[j]? = s.heap[j]?) → OkO call bb r ((tt, v') :: loc) fr s' Q) : OkO call bb (⟨some tt, .e (.append true (some 5) 80 x y), none⟩ :: r) loc fr s Q := by
  obtain ⟨hl5, _, _, _, ho, _⟩ := hc.facts
  have hys : (allSize ((some 5 : Option Nat).getD 1) [AV.agg c] && allOneAll [AV.agg c]) = true := by simp [allSize, allOneAll, AV.flat, hl5, ho]
  have hfl : flatAll [AV.agg c] = c := by simp [flatAll, AV.flat]
  rcases hv with ⟨rfl, rfl⟩ | ⟨o, g, rs, rfl, h1, h2, h3⟩
  · refine o_app_nil rfl hx hy rfl hys (by simp) rfl (hr _ _ ?_ ?_ ?_)
    · rw [hfl]
      exact ⟨hP.old.push _, getCells_push _ hP.x, getCells_push _ hP.r, hP.lo, hP.xr⟩
    · rw [hfl]
      refine .inr ⟨_, 0, c, rfl, by omega, getCells_new _ _ _, ?_⟩
      rw [List.nil_append]
      exact ⟨c, [], by simp, hc.mono (fun i hi hil => ⟨⟨by omega, by omega⟩, Sg.push_get _ _ hil⟩), by simp only [RowR]⟩
    · intro j _ hj
      exact Sg.push_get _ _ hj
  · have hon := (hlt o g _ _ rfl).2
    refine o_app_ms rfl hx hy rfl hys (ble_of (by simp only [List.length_singleton, limit]; omega)) rfl rfl h2 (beq_of h3.facts.1.symm) (hr _ _ ?_ ?_ ?_)
    · have := hP.lo; have := hP.xr
      exact ⟨hP.old.put _ (by omega), getCells_put_ne (by omega) hP.x, getCells_put_ne (by omega) hP.r, hP.lo, hP.xr⟩
    · rw [hfl]
      refine .inr ⟨o, g + 1, rs ++ c, ?_, h1, getCells_put h2, ?_⟩
      · exact congrArg (fun n => AV.ms o (g + 1) 0 n 5) (by simp)
      · exact RowR.snoc (hc.mono (fun i hi _ => ⟨⟨by omega, by omega⟩, Sg.put_get _ _ _ (by omega)⟩)) (h3.mono (fun i hi _ => ⟨hi, Sg.put_get _ _ _ hi.2⟩))
    · intro j hj _
      exact Sg.put_get _ _ _ (by omega)

theorem dollar_notlit (t : List UInt8) (gr : Int) (n a d i : Nat) (hno : stands t i [36] = false) {p : Tp} {j : Nat} (h : dollarM t gr n a d i = some (.ok (p, j))) : p.isLit = false := by
  cases n with
  | zero => simp [dollarM] at h
  | succ n =>
    simp only [dollarM, hno, Bool.false_eq_true, if_false] at h
    split at h
    · split at h
      · cases h; rfl
      · cases h
    · split at h
      · cases h
      · split at h
        · split at h
          · split at h
            · cases h
            · cases h
            · obtain ⟨rfl, _, _⟩ := closeM_ok h; rfl
          · cases h
        · split at h
          · split at h
            · split at h
              · cases h
              · cases h
              · split at h
                · split at h
                  · cases h
                  · cases h
                  · obtain ⟨rfl, _, _⟩ := closeM_ok h; rfl
                · cases h
            · cases h
          · obtain ⟨rfl, _, _⟩ := closeM_ok h; rfl

theorem addM_notlit (l : List Tp) {p : Tp} (h : p.isLit = false) : addM l p = l ++ [p] := by
  rcases last_cases l with rfl | ⟨l0, q, rfl⟩
  · rw [addM_nil]; rfl
  · exact addM_other (by rw [h, Bool.and_false])

theorem dollar_lit {t : List UInt8} {gr : Int} {n a d i : Nat} (hs : stands t i [36] = true) {r : DRes} (h : dollarM t gr n a d i = some r) : r = .ok (.lit [36], i + 1) := by
  cases n with
  | zero => simp [dollarM] at h
  | succ n =>
    simp only [dollarM, hs, if_true, Option.some.injEq] at h
    exact h.symm

set_option maxHeartbeats 4000000 in
theorem rparts_loop (t : List UInt8) (gr : Int) (ht : t.length < 2 ^ 30) (n : Nat) (br co : Bool) (hbc : co = true → br = true) (d : Nat) (hD : ∀ k, k < n → ∀ at', ∃ N, RDollarAt t gr k at' d N) :
    ∀ k, k ≤ n → ∀ i out res, partsM t gr k (endsB br co) d i out = some res → i ≤ t.length → Small out i → ∃ N, ∀ L m, N ≤ L → N ≤ m → ∀ (X R : Nat) (s s1 : Sg) (v x18 x12 x34 x35 x46 x53 x67 x71 x13 x81 : AV) (Q : Ex → Fr → Sg → Prop),
      PSt t gr s X R s1 → InvV R s1.heap v out →
      (∀ out' j v' s2 y18 y12 y34 y35 y46 y53 y67 y71 y13 y81, res = .ok (out', j) → j ≤ t.length → PSt t gr s X R s2 → InvV R s2.heap v' out' → Q (.exit 0) (fr15 t gr br co d X R j y18 y12 y34 y35 y46 y53 v' y67 y71 y13 y81) s2) →
      (∀ (a : Nat) pers s2, res = .error a → (Env.get pers 10).def? = some (.ptr R 0 0) → PSt t gr s X R s2 → Q .ret ⟨pers, [], .off⟩ (s2.put R (.cells (gbad a) 0))) →
      OkL L (fun fr s => ACode.run (loopN m) (callF T m) bb lp15_0 fr s) (fr15 t gr br co d X R i x18 x12 x34 x35 x46 x53 v x67 x71 x13 x81) s1 Q := by
  intro k
  induction k with
  | zero => intro _ i out res h; simp [partsM] at h
  | succ k ih =>
    intro hk i out res hres hi hsm
    simp only [partsM] at hres
    cases hc : t[i]? with
    | none =>
      simp only [hc, Option.some.injEq] at hres
      subst hres
      have h1 : t.length ≤ i := by simpa using hc
      refine ⟨20, ?_⟩
      intro L m hL hm X R s s1 v x18 x12 x34 x35 x46 x53 x67 x71 x13 x81 Q hst hv hok hbad
      obtain ⟨L, rfl⟩ : ∃ L', L = L' + 1 := ⟨L - 1, by omega⟩
      obtain ⟨m, rfl⟩ : ∃ m', m = m' + 10 := ⟨m - 10, by omega⟩
      have hx := hst.x
      apply l_round
      ((repeat refine c_seq ?_); refine c_region ?_; (repeat (first | ((first | apply o_move rfl rfl | apply o_easy1 rfl rfl rfl | apply o_ld rfl rfl (by assumption) (by first | rfl | assumption)); conv => lhs; whnf) | apply o_no rfl | refine o_b rfl rfl rfl (by constructor; omega) ?_ | refine o_f rfl rfl rfl (by constructor; omega) ?_ | refine o_s rfl rfl rfl (by constructor; first | omega | assumption) ?_ | refine o_t rfl rfl rfl (by constructor; assumption) ?_ | (apply o_easy rfl rfl rfl; conv => lhs; whnf) | apply o_non rfl)); apply o_end; (repeat (first | exact OutS.nil | exact GetS.hit | exact PutS.hit | apply GetS.miss rfl | apply PutS.miss rfl | apply OutS.cons | apply OutS.skip rfl)))
      ((repeat refine c_seq ?_); refine c_else rfl ?_)
      exact c_exit (hok _ _ _ _ _ _ _ _ _ _ _ _ _ _ rfl hi hst hv)
    | some c =>
      have h1 : i < t.length := lt_of_getElem? hc
      have hone : (t.drop i).take (i + 1 - i) = [c] := by
        rw [show i + 1 - i = 1 by omega, List.drop_eq_getElem_cons h1]
        have : t[i] = c := by
          have := List.getElem?_eq_getElem h1
          rw [hc] at this
          exact (Option.some.inj this).symm
        simp [this]
      simp only [hc] at hres
      by_cases hend : c ∈ endsB br co
      · rw [if_pos hend] at hres
        cases hres
        refine ⟨20, ?_⟩
        intro L m hL hm X R s s1 v x18 x12 x34 x35 x46 x53 x67 x71 x13 x81 Q hst hv hok hbad
        obtain ⟨L, rfl⟩ : ∃ L', L = L' + 1 := ⟨L - 1, by omega⟩
        obtain ⟨m, rfl⟩ : ∃ m', m = m' + 10 := ⟨m - 10, by omega⟩
        have hx := hst.x
        apply l_round
        ((repeat refine c_seq ?_); refine c_region ?_; (repeat (first | ((first | apply o_move rfl rfl | apply o_easy1 rfl rfl rfl | apply o_ld rfl rfl (by assumption) (by first | rfl | assumption)); conv => lhs; whnf) | apply o_no rfl | refine o_b rfl rfl rfl (by constructor; omega) ?_ | refine o_f rfl rfl rfl (by constructor; omega) ?_ | refine o_s rfl rfl rfl (by constructor; first | omega | assumption) ?_ | refine o_t rfl rfl rfl (by constructor; assumption) ?_ | (apply o_easy rfl rfl rfl; conv => lhs; whnf) | apply o_non rfl)); apply o_end; (repeat (first | exact OutS.nil | exact GetS.hit | exact PutS.hit | apply GetS.miss rfl | apply PutS.miss rfl | apply OutS.cons | apply OutS.skip rfl)))
        ((repeat refine c_seq ?_); refine c_if rfl ?_)
        refine c_skip ?_
        ((repeat refine c_seq ?_); refine c_block ?_)
        ((repeat refine c_seq ?_); refine c_region ?_; (repeat (first | ((first | apply o_move rfl rfl | apply o_easy1 rfl rfl rfl | apply o_ld rfl rfl (by assumption) (by first | rfl | assumption)); conv => lhs; whnf) | apply o_no rfl | refine o_b rfl rfl rfl (by constructor; omega) ?_ | refine o_f rfl rfl rfl (by constructor; omega) ?_ | refine o_s rfl rfl rfl (by constructor; first | omega | assumption) ?_ | refine o_t rfl rfl rfl (by constructor; assumption) ?_ | (apply o_easy rfl rfl rfl; conv => lhs; whnf) | apply o_non rfl)))
        refine o_idxS (j := i) rfl rfl rfl rfl hc ?_
        (repeat (first | ((first | apply o_move rfl rfl | apply o_easy1 rfl rfl rfl | apply o_ld rfl rfl (by assumption) (by first | rfl | assumption)); conv => lhs; whnf) | apply o_no rfl | refine o_b rfl rfl rfl (by constructor; omega) ?_ | refine o_f rfl rfl rfl (by constructor; omega) ?_ | refine o_s rfl rfl rfl (by constructor; first | omega | assumption) ?_ | refine o_t rfl rfl rfl (by constructor; assumption) ?_ | (apply o_easy rfl rfl rfl; conv => lhs; whnf) | apply o_non rfl))
        (apply o_end; (repeat (first | exact OutS.nil | exact GetS.hit | exact PutS.hit | apply GetS.miss rfl | apply PutS.miss rfl | apply OutS.cons | apply OutS.skip rfl)))
        repeat refine c_seq ?_
        refine reg15_spec hbc ?_
        rw [decide_eq_true hend]
        ((repeat refine c_seq ?_); refine c_if rfl ?_)
        exact c_exit (hok _ _ _ _ _ _ _ _ _ _ _ _ _ _ rfl hi hst hv)
      · rw [if_neg hend] at hres
        by_cases h92 : c.toNat = 92
        · rw [if_pos h92] at hres
          cases he : t[i + 1]? with
          | none =>
            simp only [he, Option.some.injEq] at hres
            subst hres
            have h2 : t.length ≤ i + 1 := by simpa using he
            refine ⟨20, ?_⟩
            intro L m hL hm X R s s1 v x18 x12 x34 x35 x46 x53 x67 x71 x13 x81 Q hst hv hok hbad
            obtain ⟨L, rfl⟩ : ∃ L', L = L' + 1 := ⟨L - 1, by omega⟩
            obtain ⟨m, rfl⟩ : ∃ m', m = m' + 10 := ⟨m - 10, by omega⟩
            have hx := hst.x
            apply l_round
            ((repeat refine c_seq ?_); refine c_region ?_; (repeat (first | ((first | apply o_move rfl rfl | apply o_easy1 rfl rfl rfl | apply o_ld rfl rfl (by assumption) (by first | rfl | assumption)); conv => lhs; whnf) | apply o_no rfl | refine o_b rfl rfl rfl (by constructor; omega) ?_ | refine o_f rfl rfl rfl (by constructor; omega) ?_ | refine o_s rfl rfl rfl (by constructor; first | omega | assumption) ?_ | refine o_t rfl rfl rfl (by constructor; assumption) ?_ | (apply o_easy rfl rfl rfl; conv => lhs; whnf) | apply o_non rfl)); apply o_end; (repeat (first | exact OutS.nil | exact GetS.hit | exact PutS.hit | apply GetS.miss rfl | apply PutS.miss rfl | apply OutS.cons | apply OutS.skip rfl)))
            ((repeat refine c_seq ?_); refine c_if rfl ?_)
            refine c_skip ?_
            ((repeat refine c_seq ?_); refine c_block ?_)
            ((repeat refine c_seq ?_); refine c_region ?_; (repeat (first | ((first | apply o_move rfl rfl | apply o_easy1 rfl rfl rfl | apply o_ld rfl rfl (by assumption) (by first | rfl | assumption)); conv => lhs; whnf) | apply o_no rfl | refine o_b rfl rfl rfl (by constructor; omega) ?_ | refine o_f rfl rfl rfl (by constructor; omega) ?_ | refine o_s rfl rfl rfl (by constructor; first | omega | assumption) ?_ | refine o_t rfl rfl rfl (by constructor; assumption) ?_ | (apply o_easy rfl rfl rfl; conv => lhs; whnf) | apply o_non rfl)))
            refine o_idxS (j := i) rfl rfl rfl rfl hc ?_
            (repeat (first | ((first | apply o_move rfl rfl | apply o_easy1 rfl rfl rfl | apply o_ld rfl rfl (by assumption) (by first | rfl | assumption)); conv => lhs; whnf) | apply o_no rfl | refine o_b rfl rfl rfl (by constructor; omega) ?_ | refine o_f rfl rfl rfl (by constructor; omega) ?_ | refine o_s rfl rfl rfl (by constructor; first | omega | assumption) ?_ | refine o_t rfl rfl rfl (by constructor; assumption) ?_ | (apply o_easy rfl rfl rfl; conv => lhs; whnf) | apply o_non rfl))
            (apply o_end; (repeat (first | exact OutS.nil | exact GetS.hit | exact PutS.hit | apply GetS.miss rfl | apply PutS.miss rfl | apply OutS.cons | apply OutS.skip rfl)))
            repeat refine c_seq ?_
            refine reg15_spec hbc ?_
            rw [decide_eq_false hend]
            ((repeat refine c_seq ?_); refine c_else rfl ?_)
            refine c_skip ?_
            ((repeat refine c_seq ?_); refine c_region ?_; (repeat (first | ((first | apply o_move rfl rfl | apply o_easy1 rfl rfl rfl | apply o_ld rfl rfl (by assumption) (by first | rfl | assumption)); conv => lhs; whnf) | apply o_no rfl | refine o_b rfl rfl rfl (by constructor; omega) ?_ | refine o_f rfl rfl rfl (by constructor; omega) ?_ | refine o_s rfl rfl rfl (by constructor; first | omega | assumption) ?_ | refine o_t rfl rfl rfl (by constructor; assumption) ?_ | (apply o_easy rfl rfl rfl; conv => lhs; whnf) | apply o_non rfl)); apply o_end; (repeat (first | exact OutS.nil | exact GetS.hit | exact PutS.hit | apply GetS.miss rfl | apply PutS.miss rfl | apply OutS.cons | apply OutS.skip rfl)))
            ((repeat refine c_seq ?_); refine c_block ?_)
            ((repeat refine c_seq ?_); refine c_region ?_; (repeat (first | ((first | apply o_move rfl rfl | apply o_easy1 rfl rfl rfl | apply o_ld rfl rfl (by assumption) (by first | rfl | assumption)); conv => lhs; whnf) | apply o_no rfl | refine o_b rfl rfl rfl (by constructor; omega) ?_ | refine o_f rfl rfl rfl (by constructor; omega) ?_ | refine o_s rfl rfl rfl (by constructor; first | omega | assumption) ?_ | refine o_t rfl rfl rfl (by constructor; assumption) ?_ | (apply o_easy rfl rfl rfl; conv => lhs; whnf) | apply o_non rfl)); apply o_end; (repeat (first | exact OutS.nil | exact GetS.hit | exact PutS.hit | apply GetS.miss rfl | apply PutS.miss rfl | apply OutS.cons | apply OutS.skip rfl)))
            ((repeat refine c_seq ?_); refine c_if rfl ?_)
            ((repeat refine c_seq ?_); refine c_region ?_; (repeat (first | ((first | apply o_move rfl rfl | apply o_easy1 rfl rfl rfl | apply o_ld rfl rfl (by assumption) (by first | rfl | assumption)); conv => lhs; whnf) | apply o_no rfl | refine o_b rfl rfl rfl (by constructor; omega) ?_ | refine o_f rfl rfl rfl (by constructor; omega) ?_ | refine o_s rfl rfl rfl (by constructor; first | omega | assumption) ?_ | refine o_t rfl rfl rfl (by constructor; assumption) ?_ | (apply o_easy rfl rfl rfl; conv => lhs; whnf) | apply o_non rfl)); apply o_end; (repeat (first | exact OutS.nil | exact GetS.hit | exact PutS.hit | apply GetS.miss rfl | apply PutS.miss rfl | apply OutS.cons | apply OutS.skip rfl)))
            ((repeat refine c_seq ?_); refine c_if rfl ?_)
            ((repeat refine c_seq ?_); refine c_region ?_; (repeat (first | ((first | apply o_move rfl rfl | apply o_easy1 rfl rfl rfl | apply o_ld rfl rfl (by assumption) (by first | rfl | assumption)); conv => lhs; whnf) | apply o_no rfl | refine o_b rfl rfl rfl (by constructor; omega) ?_ | refine o_f rfl rfl rfl (by constructor; omega) ?_ | refine o_s rfl rfl rfl (by constructor; first | omega | assumption) ?_ | refine o_t rfl rfl rfl (by constructor; assumption) ?_ | (apply o_easy rfl rfl rfl; conv => lhs; whnf) | apply o_non rfl)))
            refine o_st (v := .agg (gbad i)) rfl rfl rfl rfl hst.r rfl rfl (cs' := gbad i) rfl ?_
            (apply o_end; (repeat (first | exact OutS.nil | exact GetS.hit | exact PutS.hit | apply GetS.miss rfl | apply PutS.miss rfl | apply OutS.cons | apply OutS.skip rfl)))
            exact c_ret (hbad i _ _ rfl rfl hst)
          | some e =>
            simp only [he] at hres
            have h2 : i + 1 < t.length := lt_of_getElem? he
            have honee : (t.drop (i + 1)).take (i + 2 - (i + 1)) = [e] := by
              rw [show i + 2 - (i + 1) = 1 by omega, List.drop_eq_getElem_cons h2]
              have : t[i + 1] = e := by
                have := List.getElem?_eq_getElem h2
                rw [he] at this
                exact (Option.some.inj this).symm
              simp [this]
            obtain ⟨N, hN⟩ := ih (by omega) _ _ _ hres (by omega) (hsm.add (by omega) (Nat.le_refl 1))
            refine ⟨N + 20, ?_⟩
            intro L m hL hm X R s s1 v x18 x12 x34 x35 x46 x53 x67 x71 x13 x81 Q hst hv hok hbad
            obtain ⟨L, rfl⟩ : ∃ L', L = L' + 1 := ⟨L - 1, by omega⟩
            obtain ⟨m, rfl⟩ : ∃ m', m = m' + 10 := ⟨m - 10, by omega⟩
            have hx := hst.x
            apply l_round
            ((repeat refine c_seq ?_); refine c_region ?_; (repeat (first | ((first | apply o_move rfl rfl | apply o_easy1 rfl rfl rfl | apply o_ld rfl rfl (by assumption) (by first | rfl | assumption)); conv => lhs; whnf) | apply o_no rfl | refine o_b rfl rfl rfl (by constructor; omega) ?_ | refine o_f rfl rfl rfl (by constructor; omega) ?_ | refine o_s rfl rfl rfl (by constructor; first | omega | assumption) ?_ | refine o_t rfl rfl rfl (by constructor; assumption) ?_ | (apply o_easy rfl rfl rfl; conv => lhs; whnf) | apply o_non rfl)); apply o_end; (repeat (first | exact OutS.nil | exact GetS.hit | exact PutS.hit | apply GetS.miss rfl | apply PutS.miss rfl | apply OutS.cons | apply OutS.skip rfl)))
            ((repeat refine c_seq ?_); refine c_if rfl ?_)
            refine c_skip ?_
            ((repeat refine c_seq ?_); refine c_block ?_)
            ((repeat refine c_seq ?_); refine c_region ?_; (repeat (first | ((first | apply o_move rfl rfl | apply o_easy1 rfl rfl rfl | apply o_ld rfl rfl (by assumption) (by first | rfl | assumption)); conv => lhs; whnf) | apply o_no rfl | refine o_b rfl rfl rfl (by constructor; omega) ?_ | refine o_f rfl rfl rfl (by constructor; omega) ?_ | refine o_s rfl rfl rfl (by constructor; first | omega | assumption) ?_ | refine o_t rfl rfl rfl (by constructor; assumption) ?_ | (apply o_easy rfl rfl rfl; conv => lhs; whnf) | apply o_non rfl)))
            refine o_idxS (j := i) rfl rfl rfl rfl hc ?_
            (repeat (first | ((first | apply o_move rfl rfl | apply o_easy1 rfl rfl rfl | apply o_ld rfl rfl (by assumption) (by first | rfl | assumption)); conv => lhs; whnf) | apply o_no rfl | refine o_b rfl rfl rfl (by constructor; omega) ?_ | refine o_f rfl rfl rfl (by constructor; omega) ?_ | refine o_s rfl rfl rfl (by constructor; first | omega | assumption) ?_ | refine o_t rfl rfl rfl (by constructor; assumption) ?_ | (apply o_easy rfl rfl rfl; conv => lhs; whnf) | apply o_non rfl))
            (apply o_end; (repeat (first | exact OutS.nil | exact GetS.hit | exact PutS.hit | apply GetS.miss rfl | apply PutS.miss rfl | apply OutS.cons | apply OutS.skip rfl)))
            repeat refine c_seq ?_
            refine reg15_spec hbc ?_
            rw [decide_eq_false hend]
            ((repeat refine c_seq ?_); refine c_else rfl ?_)
            refine c_skip ?_
            ((repeat refine c_seq ?_); refine c_region ?_; (repeat (first | ((first | apply o_move rfl rfl | apply o_easy1 rfl rfl rfl | apply o_ld rfl rfl (by assumption) (by first | rfl | assumption)); conv => lhs; whnf) | apply o_no rfl | refine o_b rfl rfl rfl (by constructor; omega) ?_ | refine o_f rfl rfl rfl (by constructor; omega) ?_ | refine o_s rfl rfl rfl (by constructor; first | omega | assumption) ?_ | refine o_t rfl rfl rfl (by constructor; assumption) ?_ | (apply o_easy rfl rfl rfl; conv => lhs; whnf) | apply o_non rfl)); apply o_end; (repeat (first | exact OutS.nil | exact GetS.hit | exact PutS.hit | apply GetS.miss rfl | apply PutS.miss rfl | apply OutS.cons | apply OutS.skip rfl)))
            ((repeat refine c_seq ?_); refine c_block ?_)
            ((repeat refine c_seq ?_); refine c_region ?_; (repeat (first | ((first | apply o_move rfl rfl | apply o_easy1 rfl rfl rfl | apply o_ld rfl rfl (by assumption) (by first | rfl | assumption)); conv => lhs; whnf) | apply o_no rfl | refine o_b rfl rfl rfl (by constructor; omega) ?_ | refine o_f rfl rfl rfl (by constructor; omega) ?_ | refine o_s rfl rfl rfl (by constructor; first | omega | assumption) ?_ | refine o_t rfl rfl rfl (by constructor; assumption) ?_ | (apply o_easy rfl rfl rfl; conv => lhs; whnf) | apply o_non rfl)); apply o_end; (repeat (first | exact OutS.nil | exact GetS.hit | exact PutS.hit | apply GetS.miss rfl | apply PutS.miss rfl | apply OutS.cons | apply OutS.skip rfl)))
            ((repeat refine c_seq ?_); refine c_if rfl ?_)
            ((repeat refine c_seq ?_); refine c_region ?_; (repeat (first | ((first | apply o_move rfl rfl | apply o_easy1 rfl rfl rfl | apply o_ld rfl rfl (by assumption) (by first | rfl | assumption)); conv => lhs; whnf) | apply o_no rfl | refine o_b rfl rfl rfl (by constructor; omega) ?_ | refine o_f rfl rfl rfl (by constructor; omega) ?_ | refine o_s rfl rfl rfl (by constructor; first | omega | assumption) ?_ | refine o_t rfl rfl rfl (by constructor; assumption) ?_ | (apply o_easy rfl rfl rfl; conv => lhs; whnf) | apply o_non rfl)); apply o_end; (repeat (first | exact OutS.nil | exact GetS.hit | exact PutS.hit | apply GetS.miss rfl | apply PutS.miss rfl | apply OutS.cons | apply OutS.skip rfl)))
            ((repeat refine c_seq ?_); refine c_else rfl ?_)
            refine c_skip ?_
            ((repeat refine c_seq ?_); refine c_region ?_; (repeat (first | ((first | apply o_move rfl rfl | apply o_easy1 rfl rfl rfl | apply o_ld rfl rfl (by assumption) (by first | rfl | assumption)); conv => lhs; whnf) | apply o_no rfl | refine o_b rfl rfl rfl (by constructor; omega) ?_ | refine o_f rfl rfl rfl (by constructor; omega) ?_ | refine o_s rfl rfl rfl (by constructor; first | omega | assumption) ?_ | refine o_t rfl rfl rfl (by constructor; assumption) ?_ | (apply o_easy rfl rfl rfl; conv => lhs; whnf) | apply o_non rfl)))
            refine o_move rfl hv.defd.1 rfl ?_
            (repeat (first | ((first | apply o_move rfl rfl | apply o_easy1 rfl rfl rfl | apply o_ld rfl rfl (by assumption) (by first | rfl | assumption)); conv => lhs; whnf) | apply o_no rfl | refine o_b rfl rfl rfl (by constructor; omega) ?_ | refine o_f rfl rfl rfl (by constructor; omega) ?_ | refine o_s rfl rfl rfl (by constructor; first | omega | assumption) ?_ | refine o_t rfl rfl rfl (by constructor; assumption) ?_ | (apply o_easy rfl rfl rfl; conv => lhs; whnf) | apply o_non rfl))
            refine o_slS2 (i := i + 1) (j := i + 2) rfl rfl rfl rfl rfl rfl (by omega) (by omega) honee ?_
            refine o_callw (l := [v, .str [e]]) rfl (evAll2 hv.defd.1 rfl) ((lit_inv (m + 9) s1 R v out [e] hv (getCells_lt hst.r) (by have := hsm.1; omega) (by simp) (fun q hq => by have := hsm.2 q hq; omega)).mono ?_)
            rintro o s4 ⟨v', rfl, hold4, hv4⟩
            refine o_move rfl hv4.defd.1 rfl ?_
            (apply o_end; (repeat (first | exact OutS.nil | exact GetS.hit | exact PutS.hit | apply GetS.miss rfl | apply PutS.miss rfl | apply OutS.cons | apply OutS.skip rfl)))
            ((repeat refine c_seq ?_); refine c_region ?_; (repeat (first | ((first | apply o_move rfl rfl | apply o_easy1 rfl rfl rfl | apply o_ld rfl rfl (by assumption) (by first | rfl | assumption)); conv => lhs; whnf) | apply o_no rfl | refine o_b rfl rfl rfl (by constructor; omega) ?_ | refine o_f rfl rfl rfl (by constructor; omega) ?_ | refine o_s rfl rfl rfl (by constructor; first | omega | assumption) ?_ | refine o_t rfl rfl rfl (by constructor; assumption) ?_ | (apply o_easy rfl rfl rfl; conv => lhs; whnf) | apply o_non rfl)); apply o_end; (repeat (first | exact OutS.nil | exact GetS.hit | exact PutS.hit | apply GetS.miss rfl | apply PutS.miss rfl | apply OutS.cons | apply OutS.skip rfl)))
            exact hN L (m + 10) (by omega) (by omega) X R s s4 v' _ _ _ _ _ _ _ _ _ _ Q (hst.call hold4) hv4 hok hbad
        · rw [if_neg h92] at hres
          by_cases h36 : c.toNat = 36
          · rw [if_pos h36] at hres
            have hdd := stands_dd hc h36
            cases hs : stands t (i + 1) [36] with
            | true =>
              rw [hs] at hdd
              have hl2 := stands_lt (by simp) hs
              simp only [List.length_singleton] at hl2
              cases hd : dollarM t gr k i d (i + 1) with
              | none => simp [hd] at hres
              | some rd' =>
                have := dollar_lit hs hd
                subst this
                simp only [hd] at hres
                obtain ⟨N, hN⟩ := ih (by omega) _ _ _ hres (by omega) (hsm.add (by omega) (Nat.le_refl 1))
                refine ⟨N + 20, ?_⟩
                intro L m hL hm X R s s1 v x18 x12 x34 x35 x46 x53 x67 x71 x13 x81 Q hst hv hok hbad
                obtain ⟨L, rfl⟩ : ∃ L', L = L' + 1 := ⟨L - 1, by omega⟩
                obtain ⟨m, rfl⟩ : ∃ m', m = m' + 10 := ⟨m - 10, by omega⟩
                have hx := hst.x
                apply l_round
                have his := is_spec (m + 9) bb s1 t [36, 36] gr i hi (by omega) (by simp)
                rw [hdd] at his
                ((repeat refine c_seq ?_); refine c_region ?_; (repeat (first | ((first | apply o_move rfl rfl | apply o_easy1 rfl rfl rfl | apply o_ld rfl rfl (by assumption) (by first | rfl | assumption)); conv => lhs; whnf) | apply o_no rfl | refine o_b rfl rfl rfl (by constructor; omega) ?_ | refine o_f rfl rfl rfl (by constructor; omega) ?_ | refine o_s rfl rfl rfl (by constructor; first | omega | assumption) ?_ | refine o_t rfl rfl rfl (by constructor; assumption) ?_ | (apply o_easy rfl rfl rfl; conv => lhs; whnf) | apply o_non rfl)); apply o_end; (repeat (first | exact OutS.nil | exact GetS.hit | exact PutS.hit | apply GetS.miss rfl | apply PutS.miss rfl | apply OutS.cons | apply OutS.skip rfl)))
                ((repeat refine c_seq ?_); refine c_if rfl ?_)
                refine c_skip ?_
                ((repeat refine c_seq ?_); refine c_block ?_)
                ((repeat refine c_seq ?_); refine c_region ?_; (repeat (first | ((first | apply o_move rfl rfl | apply o_easy1 rfl rfl rfl | apply o_ld rfl rfl (by assumption) (by first | rfl | assumption)); conv => lhs; whnf) | apply o_no rfl | refine o_b rfl rfl rfl (by constructor; omega) ?_ | refine o_f rfl rfl rfl (by constructor; omega) ?_ | refine o_s rfl rfl rfl (by constructor; first | omega | assumption) ?_ | refine o_t rfl rfl rfl (by constructor; assumption) ?_ | (apply o_easy rfl rfl rfl; conv => lhs; whnf) | apply o_non rfl)))
                refine o_idxS (j := i) rfl rfl rfl rfl hc ?_
                (repeat (first | ((first | apply o_move rfl rfl | apply o_easy1 rfl rfl rfl | apply o_ld rfl rfl (by assumption) (by first | rfl | assumption)); conv => lhs; whnf) | apply o_no rfl | refine o_b rfl rfl rfl (by constructor; omega) ?_ | refine o_f rfl rfl rfl (by constructor; omega) ?_ | refine o_s rfl rfl rfl (by constructor; first | omega | assumption) ?_ | refine o_t rfl rfl rfl (by constructor; assumption) ?_ | (apply o_easy rfl rfl rfl; conv => lhs; whnf) | apply o_non rfl))
                (apply o_end; (repeat (first | exact OutS.nil | exact GetS.hit | exact PutS.hit | apply GetS.miss rfl | apply PutS.miss rfl | apply OutS.cons | apply OutS.skip rfl)))
                repeat refine c_seq ?_
                refine reg15_spec hbc ?_
                rw [decide_eq_false hend]
                ((repeat refine c_seq ?_); refine c_else rfl ?_)
                refine c_skip ?_
                ((repeat refine c_seq ?_); refine c_region ?_; (repeat (first | ((first | apply o_move rfl rfl | apply o_easy1 rfl rfl rfl | apply o_ld rfl rfl (by assumption) (by first | rfl | assumption)); conv => lhs; whnf) | apply o_no rfl | refine o_b rfl rfl rfl (by constructor; omega) ?_ | refine o_f rfl rfl rfl (by constructor; omega) ?_ | refine o_s rfl rfl rfl (by constructor; first | omega | assumption) ?_ | refine o_t rfl rfl rfl (by constructor; assumption) ?_ | (apply o_easy rfl rfl rfl; conv => lhs; whnf) | apply o_non rfl)); apply o_end; (repeat (first | exact OutS.nil | exact GetS.hit | exact PutS.hit | apply GetS.miss rfl | apply PutS.miss rfl | apply OutS.cons | apply OutS.skip rfl)))
                ((repeat refine c_seq ?_); refine c_block ?_)
                ((repeat refine c_seq ?_); refine c_region ?_; (repeat (first | ((first | apply o_move rfl rfl | apply o_easy1 rfl rfl rfl | apply o_ld rfl rfl (by assumption) (by first | rfl | assumption)); conv => lhs; whnf) | apply o_no rfl | refine o_b rfl rfl rfl (by constructor; omega) ?_ | refine o_f rfl rfl rfl (by constructor; omega) ?_ | refine o_s rfl rfl rfl (by constructor; first | omega | assumption) ?_ | refine o_t rfl rfl rfl (by constructor; assumption) ?_ | (apply o_easy rfl rfl rfl; conv => lhs; whnf) | apply o_non rfl)); apply o_end; (repeat (first | exact OutS.nil | exact GetS.hit | exact PutS.hit | apply GetS.miss rfl | apply PutS.miss rfl | apply OutS.cons | apply OutS.skip rfl)))
                ((repeat refine c_seq ?_); refine c_else rfl ?_)
                ((repeat refine c_seq ?_); refine c_region ?_; (repeat (first | ((first | apply o_move rfl rfl | apply o_easy1 rfl rfl rfl | apply o_ld rfl rfl (by assumption) (by first | rfl | assumption)); conv => lhs; whnf) | apply o_no rfl | refine o_b rfl rfl rfl (by constructor; omega) ?_ | refine o_f rfl rfl rfl (by constructor; omega) ?_ | refine o_s rfl rfl rfl (by constructor; first | omega | assumption) ?_ | refine o_t rfl rfl rfl (by constructor; assumption) ?_ | (apply o_easy rfl rfl rfl; conv => lhs; whnf) | apply o_non rfl)); apply o_end; (repeat (first | exact OutS.nil | exact GetS.hit | exact PutS.hit | apply GetS.miss rfl | apply PutS.miss rfl | apply OutS.cons | apply OutS.skip rfl)))
                ((repeat refine c_seq ?_); refine c_if rfl ?_)
                ((repeat refine c_seq ?_); refine c_region ?_; (repeat (first | ((first | apply o_move rfl rfl | apply o_easy1 rfl rfl rfl | apply o_ld rfl rfl (by assumption) (by first | rfl | assumption)); conv => lhs; whnf) | apply o_no rfl | refine o_b rfl rfl rfl (by constructor; omega) ?_ | refine o_f rfl rfl rfl (by constructor; omega) ?_ | refine o_s rfl rfl rfl (by constructor; first | omega | assumption) ?_ | refine o_t rfl rfl rfl (by constructor; assumption) ?_ | (apply o_easy rfl rfl rfl; conv => lhs; whnf) | apply o_non rfl)))
                refine o_call rfl rfl his ?_
                (apply o_end; (repeat (first | exact OutS.nil | exact GetS.hit | exact PutS.hit | apply GetS.miss rfl | apply PutS.miss rfl | apply OutS.cons | apply OutS.skip rfl)))
                ((repeat refine c_seq ?_); refine c_if rfl ?_)
                ((repeat refine c_seq ?_); refine c_region ?_; (repeat (first | ((first | apply o_move rfl rfl | apply o_easy1 rfl rfl rfl | apply o_ld rfl rfl (by assumption) (by first | rfl | assumption)); conv => lhs; whnf) | apply o_no rfl | refine o_b rfl rfl rfl (by constructor; omega) ?_ | refine o_f rfl rfl rfl (by constructor; omega) ?_ | refine o_s rfl rfl rfl (by constructor; first | omega | assumption) ?_ | refine o_t rfl rfl rfl (by constructor; assumption) ?_ | (apply o_easy rfl rfl rfl; conv => lhs; whnf) | apply o_non rfl)))
                refine o_move rfl hv.defd.1 rfl ?_
                refine o_callw (l := [v, .str [36]]) rfl (evAll2 hv.defd.1 rfl) ((lit_inv (m + 9) s1 R v out [36] hv (getCells_lt hst.r) (by have := hsm.1; omega) (by simp) (fun q hq => by have := hsm.2 q hq; omega)).mono ?_)
                rintro o s4 ⟨v', rfl, hold4, hv4⟩
                refine o_move rfl hv4.defd.1 rfl ?_
                (apply o_end; (repeat (first | exact OutS.nil | exact GetS.hit | exact PutS.hit | apply GetS.miss rfl | apply PutS.miss rfl | apply OutS.cons | apply OutS.skip rfl)))
                ((repeat refine c_seq ?_); refine c_region ?_; (repeat (first | ((first | apply o_move rfl rfl | apply o_easy1 rfl rfl rfl | apply o_ld rfl rfl (by assumption) (by first | rfl | assumption)); conv => lhs; whnf) | apply o_no rfl | refine o_b rfl rfl rfl (by constructor; omega) ?_ | refine o_f rfl rfl rfl (by constructor; omega) ?_ | refine o_s rfl rfl rfl (by constructor; first | omega | assumption) ?_ | refine o_t rfl rfl rfl (by constructor; assumption) ?_ | (apply o_easy rfl rfl rfl; conv => lhs; whnf) | apply o_non rfl)); apply o_end; (repeat (first | exact OutS.nil | exact GetS.hit | exact PutS.hit | apply GetS.miss rfl | apply PutS.miss rfl | apply OutS.cons | apply OutS.skip rfl)))
                refine c_exit ?_
                exact (hN L (m + 10) (by omega) (by omega) X R s s4 v' _ _ _ _ _ _ _ _ _ _ Q (hst.call hold4) hv4 hok hbad)
            | false =>
              rw [hs] at hdd
              obtain ⟨ND, hND⟩ := hD k (by omega) i
              cases hd : dollarM t gr k i d (i + 1) with
              | none => simp [hd] at hres
              | some rd' =>
                cases rd' with
                | error a =>
                  simp only [hd, Option.some.injEq] at hres
                  subst hres
                  refine ⟨ND + 20, ?_⟩
                  intro L m hL hm X R s s1 v x18 x12 x34 x35 x46 x53 x67 x71 x13 x81 Q hst hv hok hbad
                  obtain ⟨L, rfl⟩ : ∃ L', L = L' + 1 := ⟨L - 1, by omega⟩
                  obtain ⟨m, rfl⟩ : ∃ m', m = m' + 10 := ⟨m - 10, by omega⟩
                  have hx := hst.x
                  apply l_round
                  have his := is_spec (m + 9) bb s1 t [36, 36] gr i hi (by omega) (by simp)
                  rw [hdd] at his
                  ((repeat refine c_seq ?_); refine c_region ?_; (repeat (first | ((first | apply o_move rfl rfl | apply o_easy1 rfl rfl rfl | apply o_ld rfl rfl (by assumption) (by first | rfl | assumption)); conv => lhs; whnf) | apply o_no rfl | refine o_b rfl rfl rfl (by constructor; omega) ?_ | refine o_f rfl rfl rfl (by constructor; omega) ?_ | refine o_s rfl rfl rfl (by constructor; first | omega | assumption) ?_ | refine o_t rfl rfl rfl (by constructor; assumption) ?_ | (apply o_easy rfl rfl rfl; conv => lhs; whnf) | apply o_non rfl)); apply o_end; (repeat (first | exact OutS.nil | exact GetS.hit | exact PutS.hit | apply GetS.miss rfl | apply PutS.miss rfl | apply OutS.cons | apply OutS.skip rfl)))
                  ((repeat refine c_seq ?_); refine c_if rfl ?_)
                  refine c_skip ?_
                  ((repeat refine c_seq ?_); refine c_block ?_)
                  ((repeat refine c_seq ?_); refine c_region ?_; (repeat (first | ((first | apply o_move rfl rfl | apply o_easy1 rfl rfl rfl | apply o_ld rfl rfl (by assumption) (by first | rfl | assumption)); conv => lhs; whnf) | apply o_no rfl | refine o_b rfl rfl rfl (by constructor; omega) ?_ | refine o_f rfl rfl rfl (by constructor; omega) ?_ | refine o_s rfl rfl rfl (by constructor; first | omega | assumption) ?_ | refine o_t rfl rfl rfl (by constructor; assumption) ?_ | (apply o_easy rfl rfl rfl; conv => lhs; whnf) | apply o_non rfl)))
                  refine o_idxS (j := i) rfl rfl rfl rfl hc ?_
                  (repeat (first | ((first | apply o_move rfl rfl | apply o_easy1 rfl rfl rfl | apply o_ld rfl rfl (by assumption) (by first | rfl | assumption)); conv => lhs; whnf) | apply o_no rfl | refine o_b rfl rfl rfl (by constructor; omega) ?_ | refine o_f rfl rfl rfl (by constructor; omega) ?_ | refine o_s rfl rfl rfl (by constructor; first | omega | assumption) ?_ | refine o_t rfl rfl rfl (by constructor; assumption) ?_ | (apply o_easy rfl rfl rfl; conv => lhs; whnf) | apply o_non rfl))
                  (apply o_end; (repeat (first | exact OutS.nil | exact GetS.hit | exact PutS.hit | apply GetS.miss rfl | apply PutS.miss rfl | apply OutS.cons | apply OutS.skip rfl)))
                  repeat refine c_seq ?_
                  refine reg15_spec hbc ?_
                  rw [decide_eq_false hend]
                  ((repeat refine c_seq ?_); refine c_else rfl ?_)
                  refine c_skip ?_
                  ((repeat refine c_seq ?_); refine c_region ?_; (repeat (first | ((first | apply o_move rfl rfl | apply o_easy1 rfl rfl rfl | apply o_ld rfl rfl (by assumption) (by first | rfl | assumption)); conv => lhs; whnf) | apply o_no rfl | refine o_b rfl rfl rfl (by constructor; omega) ?_ | refine o_f rfl rfl rfl (by constructor; omega) ?_ | refine o_s rfl rfl rfl (by constructor; first | omega | assumption) ?_ | refine o_t rfl rfl rfl (by constructor; assumption) ?_ | (apply o_easy rfl rfl rfl; conv => lhs; whnf) | apply o_non rfl)); apply o_end; (repeat (first | exact OutS.nil | exact GetS.hit | exact PutS.hit | apply GetS.miss rfl | apply PutS.miss rfl | apply OutS.cons | apply OutS.skip rfl)))
                  ((repeat refine c_seq ?_); refine c_block ?_)
                  ((repeat refine c_seq ?_); refine c_region ?_; (repeat (first | ((first | apply o_move rfl rfl | apply o_easy1 rfl rfl rfl | apply o_ld rfl rfl (by assumption) (by first | rfl | assumption)); conv => lhs; whnf) | apply o_no rfl | refine o_b rfl rfl rfl (by constructor; omega) ?_ | refine o_f rfl rfl rfl (by constructor; omega) ?_ | refine o_s rfl rfl rfl (by constructor; first | omega | assumption) ?_ | refine o_t rfl rfl rfl (by constructor; assumption) ?_ | (apply o_easy rfl rfl rfl; conv => lhs; whnf) | apply o_non rfl)); apply o_end; (repeat (first | exact OutS.nil | exact GetS.hit | exact PutS.hit | apply GetS.miss rfl | apply PutS.miss rfl | apply OutS.cons | apply OutS.skip rfl)))
                  ((repeat refine c_seq ?_); refine c_else rfl ?_)
                  ((repeat refine c_seq ?_); refine c_region ?_; (repeat (first | ((first | apply o_move rfl rfl | apply o_easy1 rfl rfl rfl | apply o_ld rfl rfl (by assumption) (by first | rfl | assumption)); conv => lhs; whnf) | apply o_no rfl | refine o_b rfl rfl rfl (by constructor; omega) ?_ | refine o_f rfl rfl rfl (by constructor; omega) ?_ | refine o_s rfl rfl rfl (by constructor; first | omega | assumption) ?_ | refine o_t rfl rfl rfl (by constructor; assumption) ?_ | (apply o_easy rfl rfl rfl; conv => lhs; whnf) | apply o_non rfl)); apply o_end; (repeat (first | exact OutS.nil | exact GetS.hit | exact PutS.hit | apply GetS.miss rfl | apply PutS.miss rfl | apply OutS.cons | apply OutS.skip rfl)))
                  ((repeat refine c_seq ?_); refine c_if rfl ?_)
                  ((repeat refine c_seq ?_); refine c_region ?_; (repeat (first | ((first | apply o_move rfl rfl | apply o_easy1 rfl rfl rfl | apply o_ld rfl rfl (by assumption) (by first | rfl | assumption)); conv => lhs; whnf) | apply o_no rfl | refine o_b rfl rfl rfl (by constructor; omega) ?_ | refine o_f rfl rfl rfl (by constructor; omega) ?_ | refine o_s rfl rfl rfl (by constructor; first | omega | assumption) ?_ | refine o_t rfl rfl rfl (by constructor; assumption) ?_ | (apply o_easy rfl rfl rfl; conv => lhs; whnf) | apply o_non rfl)))
                  refine o_call rfl rfl his ?_
                  (apply o_end; (repeat (first | exact OutS.nil | exact GetS.hit | exact PutS.hit | apply GetS.miss rfl | apply PutS.miss rfl | apply OutS.cons | apply OutS.skip rfl)))
                  ((repeat refine c_seq ?_); refine c_else rfl ?_)
                  refine c_skip ?_
                  ((repeat refine c_seq ?_); refine c_region ?_; (repeat (first | ((first | apply o_move rfl rfl | apply o_easy1 rfl rfl rfl | apply o_ld rfl rfl (by assumption) (by first | rfl | assumption)); conv => lhs; whnf) | apply o_no rfl | refine o_b rfl rfl rfl (by constructor; omega) ?_ | refine o_f rfl rfl rfl (by constructor; omega) ?_ | refine o_s rfl rfl rfl (by constructor; first | omega | assumption) ?_ | refine o_t rfl rfl rfl (by constructor; assumption) ?_ | (apply o_easy rfl rfl rfl; conv => lhs; whnf) | apply o_non rfl)))
                  refine o_callw (l := [.agg (tx t gr), .int .i64 i, .int .i64 d]) rfl rfl ((hND _ hd (by omega) hs (m + 10) (by omega) s1).mono ?_)
                  rintro o s3 ⟨hold3, rfl⟩
                  have hst3 := hst.call hold3
                  refine o_alloc rfl ?_
                  have hg0 := getCells_new s3 gz 0
                  refine o_st (v := .agg (gbad a)) rfl rfl rfl rfl hg0 rfl rfl (cs' := gbad a) rfl ?_
                  (apply o_end; (repeat (first | exact OutS.nil | exact GetS.hit | exact PutS.hit | apply GetS.miss rfl | apply PutS.miss rfl | apply OutS.cons | apply OutS.skip rfl)))
                  have hG := getCells_put (cs' := gbad a) (g' := 0) hg0
                  have hst4 := hst3.call (((Old.refl s3).push (.cells gz 0)).put (i := s3.heap.length) (.cells (gbad a) 0) (by omega))
                  generalize (s3.push (.cells gz 0)).put s3.heap.length (.cells (gbad a) 0) = s4 at hst4 hG ⊢
                  generalize s3.heap.length = G at hG ⊢
                  ((repeat refine c_seq ?_); refine c_region ?_; (repeat (first | ((first | apply o_move rfl rfl | apply o_easy1 rfl rfl rfl | apply o_ld rfl rfl (by assumption) (by first | rfl | assumption)); conv => lhs; whnf) | apply o_no rfl | refine o_b rfl rfl rfl (by constructor; omega) ?_ | refine o_f rfl rfl rfl (by constructor; omega) ?_ | refine o_s rfl rfl rfl (by constructor; first | omega | assumption) ?_ | refine o_t rfl rfl rfl (by constructor; assumption) ?_ | (apply o_easy rfl rfl rfl; conv => lhs; whnf) | apply o_non rfl)); apply o_end; (repeat (first | exact OutS.nil | exact GetS.hit | exact PutS.hit | apply GetS.miss rfl | apply PutS.miss rfl | apply OutS.cons | apply OutS.skip rfl)))
                  ((repeat refine c_seq ?_); refine c_if rfl ?_)
                  ((repeat refine c_seq ?_); refine c_region ?_; (repeat (first | ((first | apply o_move rfl rfl | apply o_easy1 rfl rfl rfl | apply o_ld rfl rfl (by assumption) (by first | rfl | assumption)); conv => lhs; whnf) | apply o_no rfl | refine o_b rfl rfl rfl (by constructor; omega) ?_ | refine o_f rfl rfl rfl (by constructor; omega) ?_ | refine o_s rfl rfl rfl (by constructor; first | omega | assumption) ?_ | refine o_t rfl rfl rfl (by constructor; assumption) ?_ | (apply o_easy rfl rfl rfl; conv => lhs; whnf) | apply o_non rfl)))
                  refine o_st (v := .agg (gbad a)) rfl rfl rfl rfl hst4.r rfl rfl (cs' := gbad a) rfl ?_
                  (apply o_end; (repeat (first | exact OutS.nil | exact GetS.hit | exact PutS.hit | apply GetS.miss rfl | apply PutS.miss rfl | apply OutS.cons | apply OutS.skip rfl)))
                  exact c_ret (hbad a _ _ rfl rfl hst4)
                | ok x =>
                  obtain ⟨p, j⟩ := x
                  simp only [hd] at hres
                  have hge := (model_wt t gr k).2 _ _ _ _ _ hd (by omega)
                  have hp1 := (model_ge t gr k).2 _ _ _ _ _ hd
                  have hnl := dollar_notlit t gr k i d (i + 1) hs hd
                  obtain ⟨N, hN⟩ := ih (by omega) _ _ _ hres (by omega) (hsm.add (by omega) hp1.2)
                  rw [addM_notlit out hnl] at hN
                  refine ⟨N + ND + 20, ?_⟩
                  intro L m hL hm X R s s1 v x18 x12 x34 x35 x46 x53 x67 x71 x13 x81 Q hst hv hok hbad
                  obtain ⟨L, rfl⟩ : ∃ L', L = L' + 1 := ⟨L - 1, by omega⟩
                  obtain ⟨m, rfl⟩ : ∃ m', m = m' + 10 := ⟨m - 10, by omega⟩
                  have hx := hst.x
                  apply l_round
                  have his := is_spec (m + 9) bb s1 t [36, 36] gr i hi (by omega) (by simp)
                  rw [hdd] at his
                  ((repeat refine c_seq ?_); refine c_region ?_; (repeat (first | ((first | apply o_move rfl rfl | apply o_easy1 rfl rfl rfl | apply o_ld rfl rfl (by assumption) (by first | rfl | assumption)); conv => lhs; whnf) | apply o_no rfl | refine o_b rfl rfl rfl (by constructor; omega) ?_ | refine o_f rfl rfl rfl (by constructor; omega) ?_ | refine o_s rfl rfl rfl (by constructor; first | omega | assumption) ?_ | refine o_t rfl rfl rfl (by constructor; assumption) ?_ | (apply o_easy rfl rfl rfl; conv => lhs; whnf) | apply o_non rfl)); apply o_end; (repeat (first | exact OutS.nil | exact GetS.hit | exact PutS.hit | apply GetS.miss rfl | apply PutS.miss rfl | apply OutS.cons | apply OutS.skip rfl)))
                  ((repeat refine c_seq ?_); refine c_if rfl ?_)
                  refine c_skip ?_
                  ((repeat refine c_seq ?_); refine c_block ?_)
                  ((repeat refine c_seq ?_); refine c_region ?_; (repeat (first | ((first | apply o_move rfl rfl | apply o_easy1 rfl rfl rfl | apply o_ld rfl rfl (by assumption) (by first | rfl | assumption)); conv => lhs; whnf) | apply o_no rfl | refine o_b rfl rfl rfl (by constructor; omega) ?_ | refine o_f rfl rfl rfl (by constructor; omega) ?_ | refine o_s rfl rfl rfl (by constructor; first | omega | assumption) ?_ | refine o_t rfl rfl rfl (by constructor; assumption) ?_ | (apply o_easy rfl rfl rfl; conv => lhs; whnf) | apply o_non rfl)))
                  refine o_idxS (j := i) rfl rfl rfl rfl hc ?_
                  (repeat (first | ((first | apply o_move rfl rfl | apply o_easy1 rfl rfl rfl | apply o_ld rfl rfl (by assumption) (by first | rfl | assumption)); conv => lhs; whnf) | apply o_no rfl | refine o_b rfl rfl rfl (by constructor; omega) ?_ | refine o_f rfl rfl rfl (by constructor; omega) ?_ | refine o_s rfl rfl rfl (by constructor; first | omega | assumption) ?_ | refine o_t rfl rfl rfl (by constructor; assumption) ?_ | (apply o_easy rfl rfl rfl; conv => lhs; whnf) | apply o_non rfl))
                  (apply o_end; (repeat (first | exact OutS.nil | exact GetS.hit | exact PutS.hit | apply GetS.miss rfl | apply PutS.miss rfl | apply OutS.cons | apply OutS.skip rfl)))
                  repeat refine c_seq ?_
                  refine reg15_spec hbc ?_
                  rw [decide_eq_false hend]
                  ((repeat refine c_seq ?_); refine c_else rfl ?_)
                  refine c_skip ?_
                  ((repeat refine c_seq ?_); refine c_region ?_; (repeat (first | ((first | apply o_move rfl rfl | apply o_easy1 rfl rfl rfl | apply o_ld rfl rfl (by assumption) (by first | rfl | assumption)); conv => lhs; whnf) | apply o_no rfl | refine o_b rfl rfl rfl (by constructor; omega) ?_ | refine o_f rfl rfl rfl (by constructor; omega) ?_ | refine o_s rfl rfl rfl (by constructor; first | omega | assumption) ?_ | refine o_t rfl rfl rfl (by constructor; assumption) ?_ | (apply o_easy rfl rfl rfl; conv => lhs; whnf) | apply o_non rfl)); apply o_end; (repeat (first | exact OutS.nil | exact GetS.hit | exact PutS.hit | apply GetS.miss rfl | apply PutS.miss rfl | apply OutS.cons | apply OutS.skip rfl)))
                  ((repeat refine c_seq ?_); refine c_block ?_)
                  ((repeat refine c_seq ?_); refine c_region ?_; (repeat (first | ((first | apply o_move rfl rfl | apply o_easy1 rfl rfl rfl | apply o_ld rfl rfl (by assumption) (by first | rfl | assumption)); conv => lhs; whnf) | apply o_no rfl | refine o_b rfl rfl rfl (by constructor; omega) ?_ | refine o_f rfl rfl rfl (by constructor; omega) ?_ | refine o_s rfl rfl rfl (by constructor; first | omega | assumption) ?_ | refine o_t rfl rfl rfl (by constructor; assumption) ?_ | (apply o_easy rfl rfl rfl; conv => lhs; whnf) | apply o_non rfl)); apply o_end; (repeat (first | exact OutS.nil | exact GetS.hit | exact PutS.hit | apply GetS.miss rfl | apply PutS.miss rfl | apply OutS.cons | apply OutS.skip rfl)))
                  ((repeat refine c_seq ?_); refine c_else rfl ?_)
                  ((repeat refine c_seq ?_); refine c_region ?_; (repeat (first | ((first | apply o_move rfl rfl | apply o_easy1 rfl rfl rfl | apply o_ld rfl rfl (by assumption) (by first | rfl | assumption)); conv => lhs; whnf) | apply o_no rfl | refine o_b rfl rfl rfl (by constructor; omega) ?_ | refine o_f rfl rfl rfl (by constructor; omega) ?_ | refine o_s rfl rfl rfl (by constructor; first | omega | assumption) ?_ | refine o_t rfl rfl rfl (by constructor; assumption) ?_ | (apply o_easy rfl rfl rfl; conv => lhs; whnf) | apply o_non rfl)); apply o_end; (repeat (first | exact OutS.nil | exact GetS.hit | exact PutS.hit | apply GetS.miss rfl | apply PutS.miss rfl | apply OutS.cons | apply OutS.skip rfl)))
                  ((repeat refine c_seq ?_); refine c_if rfl ?_)
                  ((repeat refine c_seq ?_); refine c_region ?_; (repeat (first | ((first | apply o_move rfl rfl | apply o_easy1 rfl rfl rfl | apply o_ld rfl rfl (by assumption) (by first | rfl | assumption)); conv => lhs; whnf) | apply o_no rfl | refine o_b rfl rfl rfl (by constructor; omega) ?_ | refine o_f rfl rfl rfl (by constructor; omega) ?_ | refine o_s rfl rfl rfl (by constructor; first | omega | assumption) ?_ | refine o_t rfl rfl rfl (by constructor; assumption) ?_ | (apply o_easy rfl rfl rfl; conv => lhs; whnf) | apply o_non rfl)))
                  refine o_call rfl rfl his ?_
                  (apply o_end; (repeat (first | exact OutS.nil | exact GetS.hit | exact PutS.hit | apply GetS.miss rfl | apply PutS.miss rfl | apply OutS.cons | apply OutS.skip rfl)))
                  ((repeat refine c_seq ?_); refine c_else rfl ?_)
                  refine c_skip ?_
                  ((repeat refine c_seq ?_); refine c_region ?_; (repeat (first | ((first | apply o_move rfl rfl | apply o_easy1 rfl rfl rfl | apply o_ld rfl rfl (by assumption) (by first | rfl | assumption)); conv => lhs; whnf) | apply o_no rfl | refine o_b rfl rfl rfl (by constructor; omega) ?_ | refine o_f rfl rfl rfl (by constructor; omega) ?_ | refine o_s rfl rfl rfl (by constructor; first | omega | assumption) ?_ | refine o_t rfl rfl rfl (by constructor; assumption) ?_ | (apply o_easy rfl rfl rfl; conv => lhs; whnf) | apply o_non rfl)))
                  refine o_callw (l := [.agg (tx t gr), .int .i64 i, .int .i64 d]) rfl rfl ((hND _ hd (by omega) hs (m + 10) (by omega) s1).mono ?_)
                  rintro o s3 ⟨hold3, hj, cc, tl, rfl, hcell⟩
                  have hst3 := hst.call hold3
                  have hv3 := hv.old hold3
                  refine o_alloc rfl ?_
                  have hg0 := getCells_new s3 gz 0
                  refine o_st (v := .agg [.vec [.agg cc] (.exact tl), .int .i64 j, .bool false, .int .i64 0]) rfl rfl rfl rfl hg0 rfl rfl (cs' := [.vec [.agg cc] (.exact tl), .int .i64 j, .bool false, .int .i64 0]) rfl ?_
                  (apply o_end; (repeat (first | exact OutS.nil | exact GetS.hit | exact PutS.hit | apply GetS.miss rfl | apply PutS.miss rfl | apply OutS.cons | apply OutS.skip rfl)))
                  have hG := getCells_put (cs' := [.vec [.agg cc] (.exact tl), .int .i64 j, .bool false, .int .i64 0]) (g' := 0) hg0
                  have hold4 := ((Old.refl s3).push (.cells gz 0)).put (i := s3.heap.length) (.cells [.vec [.agg cc] (.exact tl), .int .i64 j, .bool false, .int .i64 0] 0) (by omega)
                  have hst4 := hst3.call hold4
                  have hv4 := hv3.old hold4
                  have hcell4 := hcell.mono (A' := fun i => s1.heap.length ≤ i) (fun i hi hil => ⟨hi, hold4.old i hil⟩)
                  have hlen3 := hold3.len
                  have hlen4 := hold4.len
                  generalize (s3.push (.cells gz 0)).put s3.heap.length (.cells [.vec [.agg cc] (.exact tl), .int .i64 j, .bool false, .int .i64 0] 0) = s4 at hst4 hG hv4 hcell4 hlen4 ⊢
                  generalize s3.heap.length = G at hG hlen3 hlen4 ⊢
                  ((repeat refine c_seq ?_); refine c_region ?_; (repeat (first | ((first | apply o_move rfl rfl | apply o_easy1 rfl rfl rfl | apply o_ld rfl rfl (by assumption) (by first | rfl | assumption)); conv => lhs; whnf) | apply o_no rfl | refine o_b rfl rfl rfl (by constructor; omega) ?_ | refine o_f rfl rfl rfl (by constructor; omega) ?_ | refine o_s rfl rfl rfl (by constructor; first | omega | assumption) ?_ | refine o_t rfl rfl rfl (by constructor; assumption) ?_ | (apply o_easy rfl rfl rfl; conv => lhs; whnf) | apply o_non rfl)); apply o_end; (repeat (first | exact OutS.nil | exact GetS.hit | exact PutS.hit | apply GetS.miss rfl | apply PutS.miss rfl | apply OutS.cons | apply OutS.skip rfl)))
                  ((repeat refine c_seq ?_); refine c_else rfl ?_)
                  refine c_skip ?_
                  ((repeat refine c_seq ?_); refine c_region ?_; (repeat (first | ((first | apply o_move rfl rfl | apply o_easy1 rfl rfl rfl | apply o_ld rfl rfl (by assumption) (by first | rfl | assumption)); conv => lhs; whnf) | apply o_no rfl | refine o_b rfl rfl rfl (by constructor; omega) ?_ | refine o_f rfl rfl rfl (by constructor; omega) ?_ | refine o_s rfl rfl rfl (by constructor; first | omega | assumption) ?_ | refine o_t rfl rfl rfl (by constructor; assumption) ?_ | (apply o_easy rfl rfl rfl; conv => lhs; whnf) | apply o_non rfl)))
                  refine o_move rfl hv4.defd.1 rfl ?_
                  (repeat (first | ((first | apply o_move rfl rfl | apply o_easy1 rfl rfl rfl | apply o_ld rfl rfl (by assumption) (by first | rfl | assumption)); conv => lhs; whnf) | apply o_no rfl | refine o_b rfl rfl rfl (by constructor; omega) ?_ | refine o_f rfl rfl rfl (by constructor; omega) ?_ | refine o_s rfl rfl rfl (by constructor; first | omega | assumption) ?_ | refine o_t rfl rfl rfl (by constructor; assumption) ?_ | (apply o_easy rfl rfl rfl; conv => lhs; whnf) | apply o_non rfl))
                  refine o_appR (n0 := s1.heap.length) (p := p) (out := out) (s0 := s) (X := X) (R := R) (t := t) (gr := gr) hv4.defd.1 hv4 rfl hst4 hv.lt (by omega) (getCells_lt hst.r) hcell4 (by have := hsm.1; omega) fun v' s5 hst5 hv5 hsame => ?_
                  have hG5 := getCells_at hG (hsame _ (by omega) (getCells_lt hG))
                  refine o_move rfl hv5.defd.1 rfl ?_
                  (apply o_end; (repeat (first | exact OutS.nil | exact GetS.hit | exact PutS.hit | apply GetS.miss rfl | apply PutS.miss rfl | apply OutS.cons | apply OutS.skip rfl)))
                  ((repeat refine c_seq ?_); refine c_region ?_; (repeat (first | ((first | apply o_move rfl rfl | apply o_easy1 rfl rfl rfl | apply o_ld rfl rfl (by assumption) (by first | rfl | assumption)); conv => lhs; whnf) | apply o_no rfl | refine o_b rfl rfl rfl (by constructor; omega) ?_ | refine o_f rfl rfl rfl (by constructor; omega) ?_ | refine o_s rfl rfl rfl (by constructor; first | omega | assumption) ?_ | refine o_t rfl rfl rfl (by constructor; assumption) ?_ | (apply o_easy rfl rfl rfl; conv => lhs; whnf) | apply o_non rfl)); apply o_end; (repeat (first | exact OutS.nil | exact GetS.hit | exact PutS.hit | apply GetS.miss rfl | apply PutS.miss rfl | apply OutS.cons | apply OutS.skip rfl)))
                  exact hN L (m + 10) (by omega) (by omega) X R s s5 v' _ _ _ _ _ _ _ _ _ _ Q hst5 hv5 hok hbad
          · rw [if_neg h36] at hres
            obtain ⟨N, hN⟩ := ih (by omega) _ _ _ hres (by omega) (hsm.add (by omega) (Nat.le_refl 1))
            refine ⟨N + 20, ?_⟩
            intro L m hL hm X R s s1 v x18 x12 x34 x35 x46 x53 x67 x71 x13 x81 Q hst hv hok hbad
            obtain ⟨L, rfl⟩ : ∃ L', L = L' + 1 := ⟨L - 1, by omega⟩
            obtain ⟨m, rfl⟩ : ∃ m', m = m' + 10 := ⟨m - 10, by omega⟩
            have hx := hst.x
            apply l_round
            ((repeat refine c_seq ?_); refine c_region ?_; (repeat (first | ((first | apply o_move rfl rfl | apply o_easy1 rfl rfl rfl | apply o_ld rfl rfl (by assumption) (by first | rfl | assumption)); conv => lhs; whnf) | apply o_no rfl | refine o_b rfl rfl rfl (by constructor; omega) ?_ | refine o_f rfl rfl rfl (by constructor; omega) ?_ | refine o_s rfl rfl rfl (by constructor; first | omega | assumption) ?_ | refine o_t rfl rfl rfl (by constructor; assumption) ?_ | (apply o_easy rfl rfl rfl; conv => lhs; whnf) | apply o_non rfl)); apply o_end; (repeat (first | exact OutS.nil | exact GetS.hit | exact PutS.hit | apply GetS.miss rfl | apply PutS.miss rfl | apply OutS.cons | apply OutS.skip rfl)))
            ((repeat refine c_seq ?_); refine c_if rfl ?_)
            refine c_skip ?_
            ((repeat refine c_seq ?_); refine c_block ?_)
            ((repeat refine c_seq ?_); refine c_region ?_; (repeat (first | ((first | apply o_move rfl rfl | apply o_easy1 rfl rfl rfl | apply o_ld rfl rfl (by assumption) (by first | rfl | assumption)); conv => lhs; whnf) | apply o_no rfl | refine o_b rfl rfl rfl (by constructor; omega) ?_ | refine o_f rfl rfl rfl (by constructor; omega) ?_ | refine o_s rfl rfl rfl (by constructor; first | omega | assumption) ?_ | refine o_t rfl rfl rfl (by constructor; assumption) ?_ | (apply o_easy rfl rfl rfl; conv => lhs; whnf) | apply o_non rfl)))
            refine o_idxS (j := i) rfl rfl rfl rfl hc ?_
            (repeat (first | ((first | apply o_move rfl rfl | apply o_easy1 rfl rfl rfl | apply o_ld rfl rfl (by assumption) (by first | rfl | assumption)); conv => lhs; whnf) | apply o_no rfl | refine o_b rfl rfl rfl (by constructor; omega) ?_ | refine o_f rfl rfl rfl (by constructor; omega) ?_ | refine o_s rfl rfl rfl (by constructor; first | omega | assumption) ?_ | refine o_t rfl rfl rfl (by constructor; assumption) ?_ | (apply o_easy rfl rfl rfl; conv => lhs; whnf) | apply o_non rfl))
            (apply o_end; (repeat (first | exact OutS.nil | exact GetS.hit | exact PutS.hit | apply GetS.miss rfl | apply PutS.miss rfl | apply OutS.cons | apply OutS.skip rfl)))
            repeat refine c_seq ?_
            refine reg15_spec hbc ?_
            rw [decide_eq_false hend]
            ((repeat refine c_seq ?_); refine c_else rfl ?_)
            refine c_skip ?_
            ((repeat refine c_seq ?_); refine c_region ?_; (repeat (first | ((first | apply o_move rfl rfl | apply o_easy1 rfl rfl rfl | apply o_ld rfl rfl (by assumption) (by first | rfl | assumption)); conv => lhs; whnf) | apply o_no rfl | refine o_b rfl rfl rfl (by constructor; omega) ?_ | refine o_f rfl rfl rfl (by constructor; omega) ?_ | refine o_s rfl rfl rfl (by constructor; first | omega | assumption) ?_ | refine o_t rfl rfl rfl (by constructor; assumption) ?_ | (apply o_easy rfl rfl rfl; conv => lhs; whnf) | apply o_non rfl)); apply o_end; (repeat (first | exact OutS.nil | exact GetS.hit | exact PutS.hit | apply GetS.miss rfl | apply PutS.miss rfl | apply OutS.cons | apply OutS.skip rfl)))
            ((repeat refine c_seq ?_); refine c_block ?_)
            ((repeat refine c_seq ?_); refine c_region ?_; (repeat (first | ((first | apply o_move rfl rfl | apply o_easy1 rfl rfl rfl | apply o_ld rfl rfl (by assumption) (by first | rfl | assumption)); conv => lhs; whnf) | apply o_no rfl | refine o_b rfl rfl rfl (by constructor; omega) ?_ | refine o_f rfl rfl rfl (by constructor; omega) ?_ | refine o_s rfl rfl rfl (by constructor; first | omega | assumption) ?_ | refine o_t rfl rfl rfl (by constructor; assumption) ?_ | (apply o_easy rfl rfl rfl; conv => lhs; whnf) | apply o_non rfl)); apply o_end; (repeat (first | exact OutS.nil | exact GetS.hit | exact PutS.hit | apply GetS.miss rfl | apply PutS.miss rfl | apply OutS.cons | apply OutS.skip rfl)))
            ((repeat refine c_seq ?_); refine c_else rfl ?_)
            ((repeat refine c_seq ?_); refine c_region ?_; (repeat (first | ((first | apply o_move rfl rfl | apply o_easy1 rfl rfl rfl | apply o_ld rfl rfl (by assumption) (by first | rfl | assumption)); conv => lhs; whnf) | apply o_no rfl | refine o_b rfl rfl rfl (by constructor; omega) ?_ | refine o_f rfl rfl rfl (by constructor; omega) ?_ | refine o_s rfl rfl rfl (by constructor; first | omega | assumption) ?_ | refine o_t rfl rfl rfl (by constructor; assumption) ?_ | (apply o_easy rfl rfl rfl; conv => lhs; whnf) | apply o_non rfl)); apply o_end; (repeat (first | exact OutS.nil | exact GetS.hit | exact PutS.hit | apply GetS.miss rfl | apply PutS.miss rfl | apply OutS.cons | apply OutS.skip rfl)))
            ((repeat refine c_seq ?_); refine c_else rfl ?_)
            ((repeat refine c_seq ?_); refine c_region ?_; (repeat (first | ((first | apply o_move rfl rfl | apply o_easy1 rfl rfl rfl | apply o_ld rfl rfl (by assumption) (by first | rfl | assumption)); conv => lhs; whnf) | apply o_no rfl | refine o_b rfl rfl rfl (by constructor; omega) ?_ | refine o_f rfl rfl rfl (by constructor; omega) ?_ | refine o_s rfl rfl rfl (by constructor; first | omega | assumption) ?_ | refine o_t rfl rfl rfl (by constructor; assumption) ?_ | (apply o_easy rfl rfl rfl; conv => lhs; whnf) | apply o_non rfl)))
            refine o_move rfl hv.defd.1 rfl ?_
            (repeat (first | ((first | apply o_move rfl rfl | apply o_easy1 rfl rfl rfl | apply o_ld rfl rfl (by assumption) (by first | rfl | assumption)); conv => lhs; whnf) | apply o_no rfl | refine o_b rfl rfl rfl (by constructor; omega) ?_ | refine o_f rfl rfl rfl (by constructor; omega) ?_ | refine o_s rfl rfl rfl (by constructor; first | omega | assumption) ?_ | refine o_t rfl rfl rfl (by constructor; assumption) ?_ | (apply o_easy rfl rfl rfl; conv => lhs; whnf) | apply o_non rfl))
            refine o_slS2 (i := i) (j := i + 1) rfl rfl rfl rfl rfl rfl (by omega) (by omega) hone ?_
            refine o_callw (l := [v, .str [c]]) rfl (evAll2 hv.defd.1 rfl) ((lit_inv (m + 9) s1 R v out [c] hv (getCells_lt hst.r) (by have := hsm.1; omega) (by simp) (fun q hq => by have := hsm.2 q hq; omega)).mono ?_)
            rintro o s4 ⟨v', rfl, hold4, hv4⟩
            refine o_move rfl hv4.defd.1 rfl ?_
            (apply o_end; (repeat (first | exact OutS.nil | exact GetS.hit | exact PutS.hit | apply GetS.miss rfl | apply PutS.miss rfl | apply OutS.cons | apply OutS.skip rfl)))
            ((repeat refine c_seq ?_); refine c_region ?_; (repeat (first | ((first | apply o_move rfl rfl | apply o_easy1 rfl rfl rfl | apply o_ld rfl rfl (by assumption) (by first | rfl | assumption)); conv => lhs; whnf) | apply o_no rfl | refine o_b rfl rfl rfl (by constructor; omega) ?_ | refine o_f rfl rfl rfl (by constructor; omega) ?_ | refine o_s rfl rfl rfl (by constructor; first | omega | assumption) ?_ | refine o_t rfl rfl rfl (by constructor; assumption) ?_ | (apply o_easy rfl rfl rfl; conv => lhs; whnf) | apply o_non rfl)); apply o_end; (repeat (first | exact OutS.nil | exact GetS.hit | exact PutS.hit | apply GetS.miss rfl | apply PutS.miss rfl | apply OutS.cons | apply OutS.skip rfl)))
            exact hN L (m + 10) (by omega) (by omega) X R s s4 v' _ _ _ _ _ _ _ _ _ _ Q (hst.call hold4) hv4 hok hbad


end Go.Tpl
