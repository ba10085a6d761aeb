/-
  Sets of one character, flags, groups: what they come to.
-/
import Derived.Test.YtopnndphfdeoiaaGreatBctB
import Derived.Test.YtopnndphfdeoiaaGreatMachQ

namespace Go.Vmm
open Go Go.Am Go.Proofs

/-- the loop 0 of function 160 -/
def lp160_0 : ACode := .seq (.seq (.region [Mv 12 8, Mv 13 2, Bn 14 .lss 12 13] [14]) (.cond (.tmp 14) (.skip) (.exit 0))) (.seq (.block 1 (.seq (.region [Mv 17 8, Mv 9 17] [9]) (.block 2 (.loop (.seq (.seq (.drawn [Mv 18 9, Mv 19 1, Bn 20 .gtr 18 19, Mv 21 20, Gt 22 21 (.move (.tmp 3)), Gt 23 21 (.move (.tmp 0)), Gt 24 21 (.move (.tmp 9)), Gt 25 21 (.indexAddrS none (.tmp 23) (.tmp 24)), Gt 26 21 (.load none (.tmp 25)), Gt 27 21 (.move (.tmp 0)), Gt 28 21 (.move (.tmp 9)), Gt 29 21 (.bin .sub (.tmp 28) (Ci 1)), Gt 30 21 (.indexAddrS none (.tmp 27) (.tmp 29)), Gt 31 21 (.load none (.tmp 30)), ⟨some 32, .callv (.tmp 22) [Tm 26, Tm 31], (some (21, true))⟩, Gt 33 21 (.bin .lss (.tmp 32) (Ci 0)), Vv 34 (.pick (.tmp 21) (.tmp 33) (.const (.bool false)))] [34] [] false 0) (.cond (.tmp 34) (.skip) (.exit 2))) (.seq (.block 3 (.drawn [Mv 37 0, Mv 38 9, Mv 39 0, Mv 40 9, Bc 41 .sub 40 1, Mv 42 0, Mv 43 9, Bc 44 .sub 43 1, Vv 45 (.indexAddrS none (.tmp 42) (.tmp 44)), Ld 46 45, Mv 47 0, Mv 48 9, Vv 49 (.indexAddrS none (.tmp 47) (.tmp 48)), Ld 50 49, Vv 51 (.indexAddrS none (.tmp 37) (.tmp 38)), St 1 51 46, Vv 52 (.indexAddrS none (.tmp 39) (.tmp 41)), St 1 52 50] [] [] false 0)) (.region [Mv 35 9, Bc 36 .sub 35 1, Mv 9 36] [9]))))))) (.region [Mv 15 8, Bc 16 .add 15 1, Mv 8 16] [8]))

/-- the loop 0 of function 138 -/
def lp138_0 : ACode := .block 1 (.seq (.region [Mv 21 2, Mv 22 1, Bn 23 .sub 21 22, Mv 12 23] [12]) (.seq (.seq (.region [Mv 24 12, Bc 25 .leq 24 12] [25]) (.cond (.tmp 25) (.seq (.region [Mv 26 0, Mv 27 1, Mv 28 2, Mv 29 4, Cl 30 160 [Tm 26, Tm 27, Tm 28, Tm 29]] []) (.ret)) (.skip))) (.seq (.seq (.region [Mv 31 3, Bc 32 .eql 31 0] [32]) (.cond (.tmp 32) (.seq (.region [Mv 33 0, Mv 34 1, Mv 35 2, Mv 36 4, Cl 37 161 [Tm 33, Tm 34, Tm 35, Tm 36]] []) (.ret)) (.skip))) (.seq (.seq (.region [Mv 38 10, Vv 39 (.un .not (.tmp 38))] [39]) (.cond (.tmp 39) (.seq (.region [Mv 40 0, Mv 41 1, Mv 42 2, Mv 43 4, Cl 44 162 [Tm 40, Tm 41, Tm 42, Tm 43]] []) (.region [Mv 45 3, Bc 46 .sub 45 1, Mv 3 46] [3])) (.skip))) (.seq (.region [Mv 48 0, Mv 49 1, Mv 50 2, Mv 51 4, Cl 52 163 [Tm 48, Tm 49, Tm 50, Tm 51], Mv 47 52, Vv 53 (.extract (.tmp 47) 0), Vv 54 (.extract (.tmp 47) 1), Mv 13 53, Mv 14 54] [13, 14]) (.seq (.seq (.region [Mv 55 14, Bc 56 .eql 55 2] [56]) (.cond (.tmp 56) (.seq (.region [Mv 57 0, Mv 58 1, Mv 59 2, Mv 60 4, Cl 61 164 [Tm 57, Tm 58, Tm 59, Tm 60]] []) (.seq (.region [Mv 62 2, Bc 63 .sub 62 1, Mv 64 13, Mv 65 1, Bn 66 .sub 64 65, Bn 67 .sub 63 66, Mv 13 67] [13]) (.region [Mc 14 1] [14]))) (.skip))) (.seq (.seq (.region [Mv 68 10, Mv 69 68, Gt 70 69 (.move (.tmp 11)), Vv 71 (.pick (.tmp 69) (.tmp 70) (.const (.bool false))), Mv 72 71, Gt 73 72 (.move (.tmp 14)), Gt 74 72 (.bin .eql (.tmp 73) (Ci 1)), Vv 75 (.pick (.tmp 72) (.tmp 74) (.const (.bool false)))] [75]) (.cond (.tmp 75) (.seq (.region [Mv 76 0, Mv 77 1, Mv 78 2, Mv 79 4, Cl 80 165 [Tm 76, Tm 77, Tm 78, Tm 79]] [80]) (.cond (.tmp 80) (.ret) (.skip))) (.skip))) (.seq (.seq (.drawn [Mv 81 1, Bc 82 .gtr 81 0, Mv 83 82, Gt 84 83 (.move (.tmp 4)), Gt 85 83 (.move (.tmp 0)), Gt 86 83 (.move (.tmp 1)), Gt 87 83 (.bin .sub (.tmp 86) (Ci 1)), Gt 88 83 (.indexAddrS none (.tmp 85) (.tmp 87)), Gt 89 83 (.load none (.tmp 88)), Gt 90 83 (.move (.tmp 0)), Gt 91 83 (.move (.tmp 13)), Gt 92 83 (.indexAddrS none (.tmp 90) (.tmp 91)), Gt 93 83 (.load none (.tmp 92)), ⟨some 94, .callv (.tmp 84) [Tm 89, Tm 93], (some (83, true))⟩, Gt 95 83 (.bin .lss (.tmp 94) (Ci 0)), Gt 96 83 (.un .not (.tmp 95)), Vv 97 (.pick (.tmp 83) (.tmp 96) (.const (.bool false)))] [97] [] false 0) (.cond (.tmp 97) (.seq (.region [Mv 98 0, Mv 99 1, Mv 100 2, Mv 101 13, Mv 102 4, Cl 103 166 [Tm 98, Tm 99, Tm 100, Tm 101, Tm 102], Mv 15 103] [15]) (.seq (.region [Mv 104 15, Mv 1 104] [1]) (.exit 1))) (.skip))) (.seq (.region [Mv 106 0, Mv 107 1, Mv 108 2, Mv 109 13, Mv 110 4, Cl 111 167 [Tm 106, Tm 107, Tm 108, Tm 109, Tm 110], Mv 105 111, Vv 112 (.extract (.tmp 105) 0), Vv 113 (.extract (.tmp 105) 1), Mv 16 112, Mv 17 113] [16, 17]) (.seq (.region [Mv 114 17, Mv 11 114] [11]) (.seq (.region [Mv 115 16, Mv 116 1, Bn 117 .sub 115 116, Mv 118 2, Mv 119 16, Bn 120 .sub 118 119, Mv 18 117, Mv 19 120] [18, 19]) (.seq (.region [Mv 121 12, Bc 122 .quo 121 8, Mv 20 122] [20]) (.seq (.region [Mv 123 18, Mv 124 19, Bn 125 .lss 123 124] [125]) (.cond (.tmp 125) (.seq (.region [Mv 126 18, Mv 127 20, Bn 128 .geq 126 127, Mv 10 128] [10]) (.seq (.region [Mv 129 0, Mv 130 1, Mv 131 16, Mv 132 3, Mv 133 4, Cl 134 138 [Tm 129, Tm 130, Tm 131, Tm 132, Tm 133]] []) (.region [Mv 135 16, Bc 136 .add 135 1, Mv 1 136] [1]))) (.seq (.region [Mv 137 19, Mv 138 20, Bn 139 .geq 137 138, Mv 10 139] [10]) (.seq (.region [Mv 140 0, Mv 141 16, Bc 142 .add 141 1, Mv 143 2, Mv 144 3, Mv 145 4, Cl 146 138 [Tm 140, Tm 142, Tm 143, Tm 144, Tm 145]] []) (.region [Mv 147 16, Mv 2 147] [2])))))))))))))))))

/-- the loop 0 of function 107 -/
def lp107_0 : ACode := .seq (.region [Bn 12 .lss 11 10] [12]) (.seq (.cond (.tmp 12) (.skip) (.exit 0)) (.seq (.block 1 (.seq (.region [Vv 13 (.indexAddrS none (.tmp 9) (.tmp 11)), Ld 14 13, Mv 5 14] [5]) (.seq (.seq (.region [Mv 15 3, Vv 16 (.len 1 (.tmp 15)), Mv 6 16] [6]) (.seq (.drawn [Mv 17 6, Bc 18 .gtr 17 0, Mv 19 18, Gt 20 19 (.move (.tmp 5)), ⟨some 21, .call 108 [Tm 20], (some (19, true))⟩, Gt 22 19 (.move (.tmp 3)), Gt 23 19 (.move (.tmp 6)), Gt 24 19 (.bin .sub (.tmp 23) (Ci 1)), Gt 25 19 (.indexAddrS none (.tmp 22) (.tmp 24)), Gt 26 19 (.load none (.tmp 25)), ⟨some 27, .call 109 [Tm 26], (some (19, true))⟩, Gt 28 19 (.bin .add (.tmp 27) (Ci 1)), Gt 29 19 (.bin .leq (.tmp 21) (.tmp 28)), Vv 30 (.pick (.tmp 19) (.tmp 29) (.const (.bool false)))] [30] [] false 0) (.cond (.tmp 30) (.seq (.drawn [Mv 31 3, Mv 32 6, Bc 33 .sub 32 1, Mv 34 3, Mv 35 6, Bc 36 .sub 35 1, Vv 37 (.indexAddrS none (.tmp 34) (.tmp 36)), Ld 38 37, Cl 39 108 [Tm 38], Mv 40 3, Mv 41 6, Bc 42 .sub 41 1, Vv 43 (.indexAddrS none (.tmp 40) (.tmp 42)), Ld 44 43, Cl 45 109 [Tm 44], Mv 46 5, Cl 47 109 [Tm 46], Vv 48 (.mm true [Tm 45, Tm 47]), Cl 49 106 [Tm 39, Tm 48], Vv 50 (.indexAddrS none (.tmp 31) (.tmp 33)), St 1 50 49] [] [] false 0) (.exit 1)) (.skip)))) (.region [Mv 51 3, Mv 52 5, Vv 53 (.buildSl 1 (.cplx .f64 0 0) 1 [(0, (.tmp 52))]), ⟨some 54, .e (.append true none 16 (.tmp 51) (.tmp 53)), none⟩, Mv 3 54] [3])))) (.region [Bc 55 .add 11 1, Mv 11 55] [11])))

/-- the loop 0 of function 75 -/
def lp75_0 : ACode := .seq (.region [Bn 13 .lss 12 11] [13]) (.seq (.cond (.tmp 13) (.skip) (.exit 0)) (.seq (.block 1 (.seq (.region [Vv 14 (.indexAddrS (some 2) (.tmp 10) (.tmp 12)), La 15 2 14, ⟨some 7, .e (.alloc [(.int .i64 0), (.int .i64 0)]), none⟩, St 2 7 15] [7]) (.seq (.drawn [Fa 16 0 7, Ld 17 16, Vv 18 (.mm true [Tm 17, (Ci 0)]), Fa 19 1 7, Ld 20 19, Mv 21 1, Vv 22 (.mm false [Tm 20, Tm 21, (Ci 1114111)]), Mv 8 18, Mv 9 22] [8, 9] [] false 0) (.seq (.region [Mv 23 8, Mv 24 9, Bn 25 .leq 23 24] [25]) (.cond (.tmp 25) (.region [Mv 26 5, Mv 27 8, Mv 28 9, Cl 29 106 [Tm 27, Tm 28], Vv 30 (.buildSl 1 (.cplx .f64 0 0) 1 [(0, (.tmp 29))]), ⟨some 31, .e (.append true none 16 (.tmp 26) (.tmp 30)), none⟩, Mv 5 31] [5]) (.skip)))))) (.region [Bc 32 .add 12 1, Mv 12 32] [12])))

/-- the loop 0 of function 78 -/
def lp78_0 : ACode := .seq (.region [Bn 14 .lss 13 12] [14]) (.seq (.cond (.tmp 14) (.skip) (.exit 0)) (.seq (.block 1 (.seq (.region [Mv 15 13, Vv 16 (.indexAddrS none (.tmp 11) (.tmp 13)), Ld 17 16, Mv 4 15, Mv 5 17] [4, 5]) (.region [Mv 18 3, Mv 19 4, Mv 20 5, Cl 21 108 [Tm 20], Mv 22 5, Cl 23 109 [Tm 22], Vv 24 (.build [(.int .i64 0), (.int .i64 0)] [(0, 1, (.tmp 21)), (1, 1, (.tmp 23))]), Vv 25 (.indexAddrS (some 2) (.tmp 18) (.tmp 19)), St 2 25 24] []))) (.region [Bc 26 .add 13 1, Mv 13 26] [13])))

/-- a small number as a float -/
def fl (n : Int) : Nat := FloatKind.f64.nearest n

def backOk (n : Nat) : Bool := match evConv (.fltInt .i64) (.flt .f64 (fl n)) with
  | some (.int .i64 k) => k == (n : Int)
  | _ => false

def allBack : Nat → Bool
  | 0 => true
  | n + 1 => backOk n && allBack n

theorem allBack_256 : allBack 256 = true := by decide +kernel

theorem allBack_at : ∀ (n : Nat), allBack n = true → ∀ k, k < n → backOk k = true
  | 0, _, k, hk => absurd hk (Nat.not_lt_zero _)
  | n + 1, h, k, hk => by
    simp only [allBack, Bool.and_eq_true] at h
    by_cases e : k = n
    · subst e; exact h.1
    · exact allBack_at n h.2 k (by omega)

theorem fl_back {n : Int} (h0 : 0 ≤ n) (h1 : n < 256) : evConv (.fltInt .i64) (.flt .f64 (fl n)) = some (.int .i64 n) := by
  have h := allBack_at 256 allBack_256 n.toNat (by omega)
  unfold backOk at h
  rw [Int.toNat_of_nonneg h0] at h
  split at h
  · rename_i k e
    rw [e]
    have := eq_of_beq h
    rw [this]
  · cases h

theorem o_tofl {call : CallFn} {b : Bar} {g : Option (Nat × Bool)} {r : List AOper} {loc : Env} {fr : Fr} {s : Sg} {Q : Ex → Env → Fr → Sg → Prop} {x : AOpd} {t : Nat} {k' : IntKind} {a : Int} (hg : wantedA loc fr.pers g = some true) (hx : x.ev loc fr.pers = some (.int k' a)) (hr : OkO call b r ((t, .flt .f64 (fl a)) :: loc) fr s Q) : OkO call b (⟨some t, .v (.conv (.intFlt .f64) x), g⟩ :: r) loc fr s Q := by
  refine o_w hg ?_ hr
  simp only [evV, hx, Option.bind_some, evConvH, evConv]
  rfl

/-- a float is a small number -/
def IsFl (f : Nat) (x : Int) : Prop := evConv (.fltInt .i64) (.flt .f64 f) = some (.int .i64 x)

theorem o_ofl {call : CallFn} {b : Bar} {g : Option (Nat × Bool)} {r : List AOper} {loc : Env} {fr : Fr} {s : Sg} {Q : Ex → Env → Fr → Sg → Prop} {x : AOpd} {t : Nat} {f : Nat} {a : Int} (hg : wantedA loc fr.pers g = some true) (hx : x.ev loc fr.pers = some (.flt .f64 f)) (hf : IsFl f a) (hr : OkO call b r ((t, .int .i64 a) :: loc) fr s Q) : OkO call b (⟨some t, .v (.conv (.fltInt .i64) x), g⟩ :: r) loc fr s Q := by
  refine o_w hg ?_ hr
  simp only [evV, hx, Option.bind_some, evConvH]
  exact hf

theorem of_spec (m : Nat) (b : Bar) (s : Sg) (x y : Int) : callF T (m + 1) b 106 [.int .i64 x, .int .i64 y] s = some (.ret (.cplx .f64 (fl x) (fl y)), s) := by
  (apply f_of rfl rfl; (repeat (first | exact Shape.nil | (apply Shape.cons; conv => lhs; whnf))))
  refine qqV ?_
  refine c_seq (c_region ?_)
  refine o_w (v := .int .i64 x) rfl rfl ?_
  refine o_tofl rfl rfl ?_
  refine o_w (v := .int .i64 y) rfl rfl ?_
  refine o_tofl rfl rfl ?_
  refine o_w (v := .cplx .f64 (fl x) (fl y)) rfl rfl ?_
  refine o_w (v := .cplx .f64 (fl x) (fl y)) rfl rfl ?_
  refine eV ?_
  exact c_ret rfl

theorem of_ex (x y : Int) (hx0 : 0 ≤ x) (hx1 : x < 256) (hy0 : 0 ≤ y) (hy1 : y < 256) : ∃ f1 f2, IsFl f1 x ∧ IsFl f2 y ∧ ∀ (m : Nat) (b : Bar) (s : Sg), callF T (m + 1) b 106 [.int .i64 x, .int .i64 y] s = some (.ret (.cplx .f64 f1 f2), s) :=
  ⟨fl x, fl y, fl_back hx0 hx1, fl_back hy0 hy1, fun m b s => of_spec m b s x y⟩

theorem lo_spec (m : Nat) (b : Bar) (s : Sg) (x : Int) (f y : Nat) (hf : IsFl f x) : callF T (m + 1) b 108 [.cplx .f64 f y] s = some (.ret (.int .i64 x), s) := by
  (apply f_of rfl rfl; (repeat (first | exact Shape.nil | (apply Shape.cons; conv => lhs; whnf))))
  refine qqV ?_
  refine c_seq (c_region ?_)
  refine o_w (v := .cplx .f64 f y) rfl rfl ?_
  refine o_w (v := .flt .f64 f) rfl rfl ?_
  refine o_ofl rfl rfl hf ?_
  refine sV ?_
  refine eV ?_
  exact c_ret rfl

theorem hi_spec (m : Nat) (b : Bar) (s : Sg) (x : Int) (f y : Nat) (hf : IsFl f x) : callF T (m + 1) b 109 [.cplx .f64 y f] s = some (.ret (.int .i64 x), s) := by
  (apply f_of rfl rfl; (repeat (first | exact Shape.nil | (apply Shape.cons; conv => lhs; whnf))))
  refine qqV ?_
  refine c_seq (c_region ?_)
  refine o_w (v := .cplx .f64 y f) rfl rfl ?_
  refine o_w (v := .flt .f64 f) rfl rfl ?_
  refine o_ofl rfl rfl hf ?_
  refine sV ?_
  refine eV ?_
  exact c_ret rfl

theorem len1_spec (m : Nat) (b : Bar) (s : Sg) : callF T (m + 3) b 139 [.int .u64 1] s = some (.ret (.int .i64 1), s) := by kernel_rfl

/-- a sort of one -/
theorem insert1_spec (m : Nat) (b : Bar) (s : Sg) (j g sz : Nat) : callF T (m + 2) b 160 [.ms j g 0 1 1 sz, .int .i64 0, .int .i64 1, .func 125 [] []] s = some (.ret (.tup []), s) := by
  refine eq_of_okF ?_
  (apply f_wp rfl rfl; (repeat (first | exact Shape.nil | (apply Shape.cons; conv => lhs; whnf))))
  refine qqV ?_
  refine bV ?_
  refine c_loop (x := lp160_0) ?_
  apply l_round
  refine qqV ?_
  refine lV ?_
  refine c_exit (fin_ret (fn := af160) (.inr rfl) read_nil (leave_eff (l := []) lay_nil rfl) ⟨rfl, ?_⟩)
  rw [List.take_length]

/-- pdqsort, of one -/
theorem pdq1_spec (m : Nat) (b : Bar) (s : Sg) (j g sz : Nat) : callF T (m + 3) b 138 [.ms j g 0 1 1 sz, .int .i64 0, .int .i64 1, .int .i64 1, .func 125 [] []] s = some (.ret (.tup []), s) := by
  refine eq_of_okF ?_
  (apply f_wp rfl rfl; (repeat (first | exact Shape.nil | (apply Shape.cons; conv => lhs; whnf))))
  refine qqV ?_
  refine qqV ?_
  refine bV ?_
  refine c_loop (x := lp138_0) ?_
  apply l_round
  refine bV ?_
  (repeat (first | refine lV ?_ | refine iV ?_ | refine c_skip ?_ | refine bV ?_ | refine qqV ?_ | refine dqqV ?_))
  refine qV ?_
  refine o_call rfl rfl (insert1_spec m _ s j g sz) ?_
  refine sV ?_
  refine eV ?_
  refine c_ret (fin_ret (fn := af138) (.inl rfl) read_nil (leave_eff (l := []) lay_nil rfl) ⟨rfl, ?_⟩)
  rw [List.take_length]

/-- SortFunc, of one -/
theorem sort1_spec (m : Nat) (b : Bar) (s : Sg) (j g sz : Nat) : callF T (m + 4) b 124 [.ms j g 0 1 1 sz, .func 125 [] []] s = some (.ret (.tup []), s) := by
  refine eq_of_okF ?_
  (apply f_wp rfl rfl; (repeat (first | exact Shape.nil | (apply Shape.cons; conv => lhs; whnf))))
  refine qqV ?_
  refine qV ?_
  refine o_w (v := .int .u64 1) rfl rfl ?_
  refine o_call rfl rfl (len1_spec m _ s) ?_
  refine sV ?_
  refine o_call rfl rfl (pdq1_spec m _ s j g sz) ?_
  refine sV ?_
  refine eV ?_
  refine fin_ret (fn := af124) (.inr rfl) read_nil (leave_eff (l := []) lay_nil rfl) ⟨rfl, ?_⟩
  rw [List.take_length]

end Go.Vmm

namespace Go.Vmm
open Go Go.Am Go.Proofs

theorem letsAll_ge {i : Nat} {xs : List AV} : ∀ {es : List Nat}, allGe i es = true → letsAll i xs es = true
  | [], _ => rfl
  | e :: r, h => by
    simp only [allGe, Bool.and_eq_true] at h
    simp only [letsAll, letsAll_ge h.2, Bool.and_true]
    have h1 := Nat.le_of_ble_eq_true h.1
    rw [blt_no h1]
    rfl

theorem lets_ge {b : Bar} {i : Nat} {xs : List AV} (hw : Nat.blt i b.w = false) (h : allGe i b.es = true) : b.lets i xs = true := by
  simp only [Bar.lets, hw, letsAll_ge h]
  rfl

theorem allGe_le {i j : Nat} (hij : i ≤ j) : ∀ {es : List Nat}, allGe i es = true → allGe j es = true
  | [], _ => rfl
  | e :: r, h => by
    simp only [allGe, Bool.and_eq_true] at h ⊢
    exact ⟨ble_of (by have := Nat.le_of_ble_eq_true h.1; omega), allGe_le hij h.2⟩

theorem layV_ms {h : List AObj} {b j g n cp sz : Nat} {cs es : List AV} (hi : b ≤ j) (hc : getCells h j g = some cs) (hk : chunk n (if Nat.beq sz 1 then none else some sz) cs = some es) (ho : AV.oldAll b es = true) : layV 16 h b (.ms j g 0 n cp sz) = some (.vec es .shut) := by
  have hb : Nat.blt j b = false := blt_no hi
  have he : layAllBy (layEl (layV (14 + 1) h b)) es = some es := layEls_old ho
  unfold layV
  simp only [AV.old, hb, Bool.false_eq_true, if_false, hc, Option.bind_some, List.drop_zero]
  rw [hk, Option.bind_some]
  exact congrArg (Option.map fun es => AV.vec es .shut) he

theorem heap_back {s s' : Sg} (hl : s.heap.length ≤ s'.heap.length) (h : ∀ q, q < s.heap.length → s'.heap[q]? = s.heap[q]?) : s'.heap.take s.heap.length = s.heap := by
  apply List.ext_getElem?
  intro q
  by_cases hq : q < s.heap.length
  · rw [List.getElem?_take_of_lt hq, h q hq]
  · rw [List.getElem?_eq_none (by rw [List.length_take]; omega), List.getElem?_eq_none (by omega)]

/-- made, of one range -/
theorem made1_spec (m : Nat) (b : Bar) (s : Sg) (j g f1 f2 : Nat) (hb : b.w ≤ s.heap.length) (hes : allGe s.heap.length b.es = true) (hg : getCells s.heap j g = some [.cplx .f64 f1 f2]) : callF T (m + 5) b 107 [.ms j g 0 1 1 1] s = some (.ret (.agg [.vec [.cplx .f64 f1 f2] .shut]), s) := by
  have hj := getCells_lt hg
  refine eq_of_okF ?_
  (apply f_wp rfl rfl; (repeat (first | exact Shape.nil | (apply Shape.cons; conv => lhs; whnf))))
  refine qV ?_
  refine o_alloc (z := [.nilsl]) rfl ?_
  refine eV ?_
  have hA := getCells_new s [.nilsl] 0
  have hg1 := getCells_push (.cells [.nilsl] 0) hg
  have hl1 : (s.push (.cells [.nilsl] 0)).heap.length = s.heap.length + 1 := by simp [Sg.push]
  have hlo1 : ∀ q, q < s.heap.length → (s.push (.cells [.nilsl] 0)).heap[q]? = s.heap[q]? := fun q hq => Sg.push_get _ _ hq
  generalize s.push (.cells [.nilsl] 0) = s1 at hA hg1 hl1 hlo1 ⊢
  refine qV ?_
  refine o_call rfl rfl (sort1_spec m _ s1 j g 1) ?_
  refine eV ?_
  refine qqV ?_
  refine qqV ?_
  refine bV ?_
  refine c_loop (x := lp107_0) ?_
  apply l_round
  refine qqV ?_
  refine iV ?_
  refine c_skip ?_
  refine bV ?_
  refine qV ?_
  refine o_ixms (j := 0) rfl rfl rfl rfl (by omega) hg1 rfl ?_
  refine sV ?_
  refine eV ?_
  (repeat (first | refine lV ?_ | refine iV ?_ | refine c_skip ?_ | refine bV ?_ | refine qqV ?_ | refine dqqV ?_))
  refine qV ?_
  refine o_app_nil (ys := [.cplx .f64 f1 f2]) rfl rfl rfl rfl rfl (by simp) rfl ?_
  have hJ := getCells_new s1 (flatAll [.cplx .f64 f1 f2]) 0
  have hA2 := getCells_push (.cells (flatAll [.cplx .f64 f1 f2]) 0) hA
  have hlo2 : ∀ q, q < s1.heap.length → (s1.push (.cells (flatAll [.cplx .f64 f1 f2]) 0)).heap[q]? = s1.heap[q]? := fun q hq => Sg.push_get _ _ hq
  refine sV ?_
  refine eV ?_
  refine qqV ?_
  show OkL _ _ _ _ _
  apply l_round
  refine qqV ?_
  refine lV ?_
  refine c_exit ?_
  show OkC _ _ _ _ _ _ _
  refine qV ?_
  refine o_st rfl rfl rfl rfl hA2 rfl (lets_ge (blt_no (by show b.w ≤ s.heap.length; omega)) (by show (Nat.ble s.heap.length s.heap.length && allGe s.heap.length b.es) = true; rw [hes, ble_of (Nat.le_refl _)]; rfl)) (cs' := [.ms s1.heap.length 0 0 1 1 1]) rfl ?_
  have hA3 := getCells_put (cs' := [.ms s1.heap.length 0 0 1 1 1]) (g' := 0) hA2
  have hJ3 := getCells_put_ne (i := s.heap.length) (o := .cells [.ms s1.heap.length 0 0 1 1 1] 0) (by omega) hJ
  refine eV ?_
  refine c_ret (fin_ret (fn := af107) (.inl rfl) (read_cell (v := .agg [.ms s1.heap.length 0 0 1 1 1]) rfl hA3 rfl read_nil) (leave_eff (l := [.agg [.vec [.cplx .f64 f1 f2] .shut]]) (lay_ck ?_ lay_nil rfl) rfl) ⟨rfl, ?_⟩)
  · show (layAllBy (layV 16 _ _) [AV.ms s1.heap.length 0 0 1 1 1]).map AV.agg = _
    have hl := layV_ms (b := s.heap.length) (n := 1) (cp := 1) (sz := 1) (es := [.cplx .f64 f1 f2]) (by omega) hJ3 rfl rfl
    simp only [layAllBy, hl, Option.bind_some, Option.map_some]
  · rw [heap_back]
    · rw [Sg.put_len]; simp [Sg.push]; omega
    · intro q hq
      rw [Sg.put_get _ _ _ (by omega), hlo2 q (by omega), hlo1 q hq]

end Go.Vmm

namespace Go.Vmm
open Go Go.Am Go.Proofs

theorem max0 {x : Int} (h : 0 ≤ x) : minmax true [.int .i64 x, .int .i64 0] = some (.int .i64 x) := by
  simp only [minmax, minmaxGo, if_true]
  rw [if_neg (by omega)]

theorem min3 {x : Int} (h : x ≤ 255) : minmax false [.int .i64 x, .int .i64 255, .int .i64 1114111] = some (.int .i64 x) := by
  simp only [minmax, minmaxGo, if_true, Bool.false_eq_true, if_false]
  rw [if_neg (by omega), if_neg (by omega)]

/-- New, of one number -/
theorem new1_ex (x : Int) (h0 : 0 ≤ x) (h1 : x < 256) : ∃ f1 f2, IsFl f1 x ∧ IsFl f2 x ∧ ∀ (m : Nat) (b : Bar) (s : Sg) (tl : Tail), (tl = .shut ∨ tl = .exact true) →
    callF T (m + 6) b 75 [.vec [.agg [.int .i64 x, .int .i64 x]] tl, .int .i64 255] s = some (.ret (.agg [.vec [.cplx .f64 f1 f2] .shut]), s) := by
  obtain ⟨f1, f2, hf1, hf2, hof⟩ := of_ex x x h0 h1 h0 h1
  refine ⟨f1, f2, hf1, hf2, fun m b s tl htl => ?_⟩
  refine eq_of_okF ?_
  (apply f_wp rfl rfl; (repeat (first | exact Shape.nil | (apply Shape.cons; conv => lhs; whnf))))
  refine qV ?_
  refine o_alloc (z := [.nilsl]) rfl ?_
  refine eV ?_
  have hA := getCells_new s [.nilsl] 0
  have hl1 : (s.push (.cells [.nilsl] 0)).heap.length = s.heap.length + 1 := by simp [Sg.push]
  generalize s.push (.cells [.nilsl] 0) = s1 at hA hl1 ⊢
  refine qqV ?_
  refine qqV ?_
  refine bV ?_
  refine c_loop (x := lp75_0) ?_
  apply l_round
  refine qqV ?_
  refine iV ?_
  refine c_skip ?_
  refine bV ?_
  refine qV ?_
  refine o_ixvec (j := 0) (v := .agg [.int .i64 x, .int .i64 x]) rfl rfl rfl rfl rfl (by rfl) ?_
  refine sV ?_
  refine o_alloc (z := [.int .i64 0, .int .i64 0]) rfl ?_
  have hT := getCells_new s1 [.int .i64 0, .int .i64 0] 0
  have hA1 := getCells_push (.cells [.int .i64 0, .int .i64 0] 0) hA
  refine o_st rfl rfl rfl rfl hT rfl (lets_nil (blt_no (by show s.heap.length ≤ s1.heap.length; omega)) rfl) (cs' := [.int .i64 x, .int .i64 x]) rfl ?_
  have hT2 := getCells_put (cs' := [.int .i64 x, .int .i64 x]) (g' := 0) hT
  have hA2 := getCells_put_ne (i := s1.heap.length) (o := .cells [.int .i64 x, .int .i64 x] 0) (by omega) hA1
  have hl2 : ((s1.push (.cells [.int .i64 0, .int .i64 0] 0)).put s1.heap.length (.cells [.int .i64 x, .int .i64 x] 0)).heap.length = s1.heap.length + 1 := by rw [Sg.put_len]; simp [Sg.push]
  refine eV ?_
  generalize (s1.push (.cells [.int .i64 0, .int .i64 0] 0)).put s1.heap.length (.cells [.int .i64 x, .int .i64 x] 0) = s2 at hT2 hA2 hl2 ⊢
  refine dqV ?_
  have e8 : (if true = true then if 0 > x then 0 else x else if 0 < x then 0 else x) = x := by rw [if_pos rfl, if_neg (by omega)]
  have e1 : (if false = true then if 255 > x then 255 else x else if 255 < x then 255 else x) = x := by rw [if_neg (by simp), if_neg (by omega)]
  rw [e1]
  have e2 : (if false = true then if 1114111 > x then 1114111 else x else if 1114111 < x then 1114111 else x) = x := by rw [if_neg (by simp), if_neg (by omega)]
  rw [e8, e2]
  refine dV ?_
  refine qqV ?_
  refine iV ?_
  refine qV ?_
  refine o_call rfl rfl (hof _ _ s2) ?_
  refine sV ?_
  refine o_app_nil (ys := [.cplx .f64 f1 f2]) rfl rfl rfl rfl rfl (by simp) rfl ?_
  have hJ := getCells_new s2 (flatAll [.cplx .f64 f1 f2]) 0
  have hA3 := getCells_push (.cells (flatAll [.cplx .f64 f1 f2]) 0) hA2
  have hl3 : (s2.push (.cells (flatAll [.cplx .f64 f1 f2]) 0)).heap.length = s2.heap.length + 1 := by simp [Sg.push]
  refine sV ?_
  refine eV ?_
  refine qqV ?_
  show OkL _ _ _ _ _
  apply l_round
  refine qqV ?_
  refine lV ?_
  refine c_exit ?_
  show OkC _ _ _ _ _ _ _
  refine qV ?_
  refine o_call rfl rfl (made1_spec m _ _ s2.heap.length 0 f1 f2 (by show s.heap.length ≤ _; omega) rfl hJ) ?_
  refine o_st rfl rfl rfl rfl hA3 rfl (lets_nil (blt_no (by show s.heap.length ≤ s.heap.length; omega)) rfl) (cs' := [.vec [.cplx .f64 f1 f2] .shut]) rfl ?_
  have hA4 := getCells_put (cs' := [.vec [.cplx .f64 f1 f2] .shut]) (g' := 0) hA3
  refine eV ?_
  refine c_ret (fin_ret (fn := af75) (.inl rfl) (read_cell (v := .agg [.vec [.cplx .f64 f1 f2] .shut]) rfl hA4 rfl read_nil) (leave_pure (l := [.agg [.vec [.cplx .f64 f1 f2] .shut]]) (lay_ck (layOne_agg rfl) lay_nil rfl) rfl) ⟨rfl, rfl⟩)

end Go.Vmm

namespace Go.Vmm
open Go Go.Am Go.Proofs

/-- a node of a set of one character -/
def setN (x : Int × Int) : List AV := [.int .i64 2, .int .i64 x.1, .int .i64 0, .vec [.agg [.int .i64 x.2, .int .i64 x.2]] .shut, .bool false, .int .i64 0, .int .i64 0, .int .i64 0, .str [], .int .i64 0, .int .i64 0, .nilsl]
def scopeC : List AV := [.bool false, .int .i64 255, .int .i64 0]

/-- Ranges, of one range -/
theorem ranges1_spec (m : Nat) (b : Bar) (s : Sg) (x y : Int) (f1 f2 : Nat) (h1 : IsFl f1 x) (h2 : IsFl f2 y) : callF T (m + 3) b 78 [.agg [.vec [.cplx .f64 f1 f2] .shut]] s = some (.ret (.vec [.agg [.int .i64 x, .int .i64 y]] .shut), s) := by
  refine eq_of_okF ?_
  (apply f_wp rfl rfl; (repeat (first | exact Shape.nil | (apply Shape.cons; conv => lhs; whnf))))
  refine qV ?_
  refine o_box (v := .agg [.vec [.cplx .f64 f1 f2] .shut]) (l := [.vec [.cplx .f64 f1 f2] .shut]) rfl rfl rfl ?_
  refine sV ?_
  refine eV ?_
  have hA := getCells_new s [.vec [.cplx .f64 f1 f2] .shut] 0
  have hl1 : (s.push (.cells [.vec [.cplx .f64 f1 f2] .shut] 0)).heap.length = s.heap.length + 1 := by simp [Sg.push]
  generalize s.push (.cells [.vec [.cplx .f64 f1 f2] .shut] 0) = s1 at hA hl1 ⊢
  refine qV ?_
  refine o_e (v := .ms s1.heap.length 0 0 1 1 2) (s1 := s1.push (.cells [.int .i64 0, .int .i64 0] 0)) rfl (by rfl) ?_
  have hR := getCells_new s1 [.int .i64 0, .int .i64 0] 0
  have hA2 := getCells_push (.cells [.int .i64 0, .int .i64 0] 0) hA
  refine sV ?_
  refine eV ?_
  refine qqV ?_
  refine bV ?_
  refine c_loop (x := lp78_0) ?_
  apply l_round
  refine qqV ?_
  refine iV ?_
  refine c_skip ?_
  refine bV ?_
  refine qV ?_
  refine o_ixvec (j := 0) (v := .cplx .f64 f1 f2) rfl rfl rfl rfl rfl (by rfl) ?_
  refine sV ?_
  refine eV ?_
  refine qV ?_
  refine o_call rfl rfl (lo_spec _ _ _ x f1 f2 h1) ?_
  refine sV ?_
  refine o_call rfl rfl (hi_spec _ _ _ y f2 f1 h2) ?_
  refine sV ?_
  refine o_ixms (j := 0) rfl rfl rfl rfl (by omega) hR rfl ?_
  refine o_st rfl rfl rfl rfl hR rfl (lets_nil (blt_no (by show s.heap.length ≤ s1.heap.length; omega)) rfl) (cs' := [.int .i64 x, .int .i64 y]) rfl ?_
  have hR2 := getCells_put (cs' := [.int .i64 x, .int .i64 y]) (g' := 0) hR
  refine eV ?_
  refine qqV ?_
  show OkL _ _ _ _ _
  apply l_round
  refine qqV ?_
  refine lV ?_
  refine c_exit ?_
  show OkC _ _ _ _ _ _ _
  refine qqV ?_
  refine c_ret (fin_ret (fn := af78) (.inl rfl) (read_tmp rfl read_nil) (leave_pure (l := [.vec [.agg [.int .i64 x, .int .i64 y]] .shut]) (lay_ck (layOne_ms (sz := 2) (by omega) hR2 rfl rfl) lay_nil rfl) rfl) ⟨rfl, rfl⟩)

/-- a set's node -/
theorem set_spec (m : Nat) (b : Bar) (s : Sg) (x : Int × Int) : callF T (m + 1) b 76 [.int .i64 x.1, .vec [.agg [.int .i64 x.2, .int .i64 x.2]] .shut] s = some (.ret (.agg (setN x)), s) := by
  refine eq_of_okF ?_
  (apply f_wp rfl rfl; (repeat (first | exact Shape.nil | (apply Shape.cons; conv => lhs; whnf))))
  refine qV ?_
  refine o_alloc (z := kidsN 0 .nilsl) rfl ?_
  refine eV ?_
  have hA := getCells_new s (kidsN 0 .nilsl) 0
  refine qV ?_
  refine o_st rfl rfl rfl rfl hA rfl (lets_nil (blt_no (by show s.heap.length ≤ s.heap.length; omega)) rfl) (cs' := setN x) rfl ?_
  have hA2 := getCells_put (cs' := setN x) (g' := 0) hA
  refine eV ?_
  refine c_ret (fin_ret (fn := af76) (.inl rfl) (read_cell (v := .agg (setN x)) rfl hA2 rfl read_nil) (leave_pure (l := [.agg (setN x)]) (lay_ck (layOne_agg rfl) lay_nil rfl) rfl) ⟨rfl, rfl⟩)

/-- no flag is on -/
theorem has_spec (m : Nat) (b : Bar) (s : Sg) (c : Nat) (f : Int) (hf : f = 1 ∨ f = 4) (hc : getCells s.heap c 0 = some scopeC) : callF T (m + 1) b 50 [.ptr c 0 0, .int .i64 f] s = some (.ret (.bool false), s) := by
  have hand : evBin .and (.int .i64 0) (.int .i64 f) = some (.int .i64 0) := by
    rcases hf with rfl | rfl <;> kernel_rfl
  (apply f_of rfl rfl; (repeat (first | exact Shape.nil | (apply Shape.cons; conv => lhs; whnf))))
  refine qqV ?_
  refine qV ?_
  refine o_w (v := .int .i64 0) rfl hand ?_
  refine sV ?_
  refine eV ?_
  exact c_ret rfl

/-- chars, of a character -/
theorem chars_spec (m : Nat) (b : Bar) (s : Sg) (c : Nat) (x : Int × Int) (h0 : 0 ≤ x.2) (h1 : x.2 < 256) (hc : getCells s.heap c 0 = some scopeC) :
    callF T (m + 7) b 49 [.ptr c 0 0, .agg (litN x)] s = some (.ret (.agg (setN x)), s) := by
  obtain ⟨f1, f2, hf1, hf2, hnew⟩ := new1_ex x.2 h0 h1
  refine eq_of_okF ?_
  (apply f_wp rfl rfl; (repeat (first | exact Shape.nil | (apply Shape.cons; conv => lhs; whnf))))
  refine qV ?_
  refine o_box (v := .agg (litN x)) (l := litN x) rfl rfl rfl ?_
  refine sV ?_
  refine o_alloc (z := kidsN 0 .nilsl) rfl ?_
  refine eV ?_
  have hN := getCells_push (.cells (kidsN 0 .nilsl) 0) (getCells_new s (litN x) 0)
  have hA := getCells_new (s.push (.cells (litN x) 0)) (kidsN 0 .nilsl) 0
  have hc1 := getCells_push (.cells (kidsN 0 .nilsl) 0) (getCells_push (.cells (litN x) 0) hc)
  have hcl := getCells_lt hc
  have hl0 : (s.push (.cells (litN x) 0)).heap.length = s.heap.length + 1 := by simp [Sg.push]
  have hl1 : ((s.push (.cells (litN x) 0)).push (.cells (kidsN 0 .nilsl) 0)).heap.length = s.heap.length + 2 := by simp [Sg.push]
  rw [hl0] at hA ⊢
  generalize (s.push (.cells (litN x) 0)).push (.cells (kidsN 0 .nilsl) 0) = s1 at hN hA hc1 hl1 ⊢
  refine qqV ?_
  refine qqV ?_
  refine bV ?_
  refine qqV ?_
  refine iV ?_
  refine qqV ?_
  refine qV ?_
  refine o_call rfl rfl (hnew _ _ _ _ (.inr rfl)) ?_
  refine o_alloc (z := [.nilsl]) rfl ?_
  have hS := getCells_new s1 [.nilsl] 0
  refine o_st rfl rfl rfl rfl hS rfl (lets_nil (blt_no (by show s.heap.length ≤ s1.heap.length; omega)) rfl) (cs' := [.vec [.cplx .f64 f1 f2] .shut]) rfl ?_
  have hS2 := getCells_put (cs' := [.vec [.cplx .f64 f1 f2] .shut]) (g' := 0) hS
  have hN2 := getCells_put_ne (i := s1.heap.length) (o := .cells [.vec [.cplx .f64 f1 f2] .shut] 0) (by omega) (getCells_push (.cells [.nilsl] 0) hN)
  have hA2 := getCells_put_ne (i := s1.heap.length) (o := .cells [.vec [.cplx .f64 f1 f2] .shut] 0) (by omega) (getCells_push (.cells [.nilsl] 0) hA)
  have hc2 := getCells_put_ne (i := s1.heap.length) (o := .cells [.vec [.cplx .f64 f1 f2] .shut] 0) (by omega) (getCells_push (.cells [.nilsl] 0) hc1)
  refine eV ?_
  generalize (s1.push (.cells [.nilsl] 0)).put s1.heap.length (.cells [.vec [.cplx .f64 f1 f2] .shut] 0) = s2 at hS2 hN2 hA2 hc2 ⊢
  refine qV ?_
  refine o_call rfl rfl (has_spec _ _ s2 c 1 (.inl rfl) hc2) ?_
  refine sV ?_
  refine eV ?_
  refine lV ?_
  refine c_skip ?_
  (repeat (first | refine lV ?_ | refine iV ?_ | refine c_skip ?_ | refine bV ?_ | refine qqV ?_ | refine dqqV ?_))
  refine dqV ?_
  refine o_call rfl rfl (ranges1_spec _ _ s2 x.2 x.2 f1 f2 hf1 hf2) ?_
  refine sV ?_
  refine o_call rfl rfl (set_spec _ _ s2 x) ?_
  refine o_st rfl rfl rfl rfl hA2 rfl (lets_nil (blt_no (by show s.heap.length ≤ s.heap.length + 1; omega)) rfl) (cs' := setN x) rfl ?_
  have hA3 := getCells_put (cs' := setN x) (g' := 0) hA2
  refine dV ?_
  refine c_ret (fin_ret (fn := af49) (.inl rfl) (read_cell (v := .agg (setN x)) rfl hA3 rfl read_nil) (leave_pure (l := [.agg (setN x)]) (lay_ck (layOne_agg rfl) lay_nil rfl) rfl) ⟨rfl, rfl⟩)

end Go.Vmm

namespace Go.Vmm
open Go Go.Am Go.Proofs

/-- the loop 0 of function 52 -/
def lp52_0 : ACode := .seq (.region [Bn 12 .lss 11 10] [12]) (.seq (.cond (.tmp 12) (.skip) (.exit 0)) (.seq (.block 1 (.seq (.region [Vv 13 (.indexAddrS (some 12) (.tmp 9) (.tmp 11)), La 14 12 13, ⟨some 7, .e (.alloc [(.int .i64 0), (.int .i64 0), (.int .i64 0), .nilsl, (.bool false), (.int .i64 0), (.int .i64 0), (.int .i64 0), (.str []), (.int .i64 0), (.int .i64 0), .nilsl]), none⟩, St 12 7 14] [7]) (.seq (.seq (.region [Fa 15 0 7, Ld 16 15, Bc 17 .eql 16 11] [17]) (.cond (.tmp 17) (.seq (.region [Mv 18 0, La 19 12 7, Cl 20 55 [Tm 18, Tm 19]] []) (.exit 1)) (.skip))) (.seq (.region [Mv 21 0, La 22 12 7, Cl 23 29 [Tm 21, Tm 22], St 12 7 23] []) (.seq (.region [Fa 24 0 7, Ld 25 24, Bc 26 .eql 25 12] [26]) (.cond (.tmp 26) (.region [Fa 27 11 5, Ld 28 27, Fa 29 11 7, Ld 30 29, ⟨some 31, .e (.append true (some 12) 136 (.tmp 28) (.tmp 30)), none⟩, Fa 32 11 5, St 1 32 31] []) (.region [Fa 33 11 5, Ld 34 33, La 35 12 7, Vv 36 (.buildSl 12 (.agg [(.int .i64 0), (.int .i64 0), (.int .i64 0), .nilsl, (.bool false), (.int .i64 0), (.int .i64 0), (.int .i64 0), (.str []), (.int .i64 0), (.int .i64 0), .nilsl]) 1 [(0, (.tmp 35))]), ⟨some 37, .e (.append true (some 12) 136 (.tmp 34) (.tmp 36)), none⟩, Fa 38 11 5, St 1 38 37] []))))))) (.region [Bc 39 .add 11 1, Mv 11 39] [11])))

theorem sg_back {s s' : Sg} (hl : s.heap.length ≤ s'.heap.length) (h : ∀ q, q < s.heap.length → s'.heap[q]? = s.heap[q]?) : ({ heap := s'.heap.take s.heap.length, toks := s.toks, ty := s.ty, gl := s.gl } : Sg) = s := by
  rw [heap_back hl h]

/-- a node of a character, resolved -/
theorem node_lit (m : Nat) (b : Bar) (s : Sg) (c : Nat) (x : Int × Int) (h0 : 0 ≤ x.2) (h1 : x.2 < 256) (hb : b.w ≤ s.heap.length) (hc : getCells s.heap c 0 = some scopeC) :
    callF T (m + 8) b 29 [.ptr c 0 0, .agg (litN x)] s = some (.ret (.agg (setN x)), s) := by
  refine eq_of_okF ?_
  (apply f_wp rfl rfl; (repeat (first | exact Shape.nil | (apply Shape.cons; conv => lhs; whnf))))
  refine qV ?_
  refine o_box (v := .agg (litN x)) (l := litN x) rfl rfl rfl ?_
  refine sV ?_
  refine o_alloc (z := kidsN 0 .nilsl) rfl ?_
  refine eV ?_
  have hN := getCells_push (.cells (kidsN 0 .nilsl) 0) (getCells_new s (litN x) 0)
  have hA := getCells_new (s.push (.cells (litN x) 0)) (kidsN 0 .nilsl) 0
  have hc1 := getCells_push (.cells (kidsN 0 .nilsl) 0) (getCells_push (.cells (litN x) 0) hc)
  have hcl := getCells_lt hc
  have hl0 : (s.push (.cells (litN x) 0)).heap.length = s.heap.length + 1 := by simp [Sg.push]
  have hl1 : ((s.push (.cells (litN x) 0)).push (.cells (kidsN 0 .nilsl) 0)).heap.length = s.heap.length + 2 := by simp [Sg.push]
  have hlo : ∀ q, q < s.heap.length → ((s.push (.cells (litN x) 0)).push (.cells (kidsN 0 .nilsl) 0)).heap[q]? = s.heap[q]? := fun q hq => by rw [Sg.push_get _ _ (by omega), Sg.push_get _ _ hq]
  rw [hl0] at hA ⊢
  generalize (s.push (.cells (litN x) 0)).push (.cells (kidsN 0 .nilsl) 0) = s1 at hN hA hc1 hl1 hlo ⊢
  refine qqV ?_
  refine bV ?_
  refine qqV ?_
  refine iV ?_
  refine c_skip ?_
  refine iV ?_
  refine qV ?_
  refine o_call rfl rfl (chars_spec m _ s1 c x h0 h1 hc1) ?_
  refine o_st rfl rfl rfl rfl hA rfl (lets_of (blt_no (by show b.w ≤ s.heap.length + 1; omega)) (fun e => rfl)) (cs' := setN x) rfl ?_
  have hA3 := getCells_put (cs' := setN x) (g' := 0) hA
  refine eV ?_
  refine c_ret (fin_ret (fn := af29) (.inl rfl) (read_cell (v := .agg (setN x)) rfl hA3 rfl read_nil) (leave_eff (l := [.agg (setN x)]) (lay_ck (layOne_agg rfl) lay_nil rfl) rfl) ⟨rfl, ?_⟩)
  exact sg_back (by rw [Sg.put_len]; omega) fun q hq => by rw [Sg.put_get _ _ _ (by omega)]; exact hlo q hq

def snavs (l : List (Int × Int)) : List AV := l.map fun x => .agg (setN x)

theorem snavs_app (l k : List (Int × Int)) : snavs (l ++ k) = snavs l ++ snavs k := List.map_append
theorem snavs_len : ∀ l : List (Int × Int), (flatAll (snavs l)).length = l.length * 12
  | [] => rfl
  | x :: r => by
    show (setN x ++ flatAll (snavs r)).length = _
    rw [List.length_append, snavs_len r, List.length_cons]
    show 12 + _ = _
    omega

def ItemsAtS (r : Nat) (h : List AObj) (l : List (Int × Int)) (out : AV) : Prop :=
  (l = [] ∧ out = .nilsl) ∨ (l ≠ [] ∧ ∃ j g, out = .ms j g 0 l.length l.length 12 ∧ r < j ∧ getCells h j g = some (flatAll (snavs l)))

structure NS (s0 : Sg) (r : Nat) (l : List (Int × Int)) (s : Sg) : Prop where
  at' : ∃ out, getCells s.heap r 0 = some (kidsN 12 out) ∧ ItemsAtS r s.heap l out
  low : ∀ q, q < r → s.heap[q]? = s0.heap[q]?

abbrev fr52 (c : Nat) (es : List AV) (A O i : Nat) (x12 x7 x17 x26 : AV) : Fr :=
  ⟨[(0, .ptr c 0 0), (1, .vec es .shut), (4, .ptr A 0 0), (11, .int .i64 i), (10, .int .i64 es.length), (12, x12), (9, .vec es .shut), (7, x7), (17, x17), (26, x26), (5, .ptr O 0 0), (43, .undef)], [], .off⟩

theorem seq_loop (m : Nat) (b : Bar) (s0 : Sg) (c A O : Nat) (hb : b.w ≤ O) (hes : allGe O b.es = true) (hcO : c < O) (h0 : getCells s0.heap c 0 = some scopeC) (xs : List (Int × Int)) (hn : xs.length ≤ 1000) (hx : ∀ x ∈ xs, 0 ≤ x.2 ∧ x.2 ≤ 127) {Q : Ex → Fr → Sg → Prop}
    (hq : ∀ x12 x7 x17 x26 s', NS s0 O xs s' → Q (.exit 0) (fr52 c (navs xs) A O xs.length x12 x7 x17 x26) s') :
    ∀ (rest done : List (Int × Int)) (M : Nat) (x12 x7 x17 x26 : AV) (s : Sg), xs = done ++ rest → rest.length + 1 ≤ M → NS s0 O done s →
    OkL M (fun fr s => ACode.run (loopN (m + 8)) (callF T (m + 8)) b lp52_0 fr s) (fr52 c (navs xs) A O done.length x12 x7 x17 x26) s Q := by
  intro rest
  induction rest with
  | nil =>
    intro done M x12 x7 x17 x26 s hl2 hM h
    obtain ⟨M, rfl⟩ : ∃ M', M = M' + 1 := ⟨M - 1, by omega⟩
    rw [List.append_nil] at hl2
    subst hl2
    have hnl : (navs xs).length = xs.length := by unfold navs; rw [List.length_map]
    apply l_round
    refine qqV ?_
    refine lV ?_
    exact c_exit (hq _ _ _ _ _ h)
  | cons x rest ih =>
    intro done M x12 x7 x17 x26 s hl2 hM h
    obtain ⟨M, rfl⟩ : ∃ M', M = M' + 1 := ⟨M - 1, by omega⟩
    have hnl : (navs xs).length = xs.length := by unfold navs; rw [List.length_map]
    have hkl : done.length < xs.length := by rw [hl2]; simp
    have hget : xs[done.length]? = some x := by rw [hl2]; simp
    have hg2 : (navs xs)[done.length]? = some (.agg (litN x)) := by unfold navs; rw [List.getElem?_map, hget]; rfl
    obtain ⟨hx1, hx2⟩ := hx x (by rw [hl2]; simp)
    obtain ⟨⟨out, hO, ho⟩, hlow⟩ := h
    have hOl := getCells_lt hO
    have hc0 : getCells s.heap c 0 = some scopeC := getCells_at h0 (hlow c hcO)
    apply l_round
    refine qqV ?_
    refine iV ?_
    refine c_skip ?_
    refine bV ?_
    refine qV ?_
    refine o_ixvec (j := done.length) rfl rfl rfl rfl hg2 rfl ?_
    refine sV ?_
    refine o_alloc (z := kidsN 0 .nilsl) rfl ?_
    have hT := getCells_new s (kidsN 0 .nilsl) 0
    refine o_st rfl rfl rfl rfl hT rfl (lets_of (blt_no (by omega)) (fun e => rfl)) (cs' := litN x) rfl ?_
    have hT2 := getCells_put (cs' := litN x) (g' := 0) hT
    have hO2 := getCells_put_ne (i := s.heap.length) (o := .cells (litN x) 0) (by omega) (getCells_push (.cells (kidsN 0 .nilsl) 0) hO)
    have hc2 := getCells_put_ne (i := s.heap.length) (o := .cells (litN x) 0) (by omega) (getCells_push (.cells (kidsN 0 .nilsl) 0) hc0)
    have ho2 : ItemsAtS O ((s.push (.cells (kidsN 0 .nilsl) 0)).put s.heap.length (.cells (litN x) 0)).heap done out := by
      rcases ho with ho | ⟨hne, j, g, e1, e2, e3⟩
      · exact .inl ho
      · exact .inr ⟨hne, j, g, e1, e2, getCells_put_ne (by have := getCells_lt e3; omega) (getCells_push _ e3)⟩
    have hlow2 : ∀ q, q < O → ((s.push (.cells (kidsN 0 .nilsl) 0)).put s.heap.length (.cells (litN x) 0)).heap[q]? = s0.heap[q]? := fun q hq => by
      rw [Sg.put_get _ _ _ (by omega), Sg.push_get _ _ (by omega)]
      exact hlow q hq
    have hle2 : ((s.push (.cells (kidsN 0 .nilsl) 0)).put s.heap.length (.cells (litN x) 0)).heap.length = s.heap.length + 1 := by rw [Sg.put_len]; simp [Sg.push]
    refine eV ?_
    revert hT2 hO2 hc2 ho2 hlow2 hle2
    generalize (s.push (.cells (kidsN 0 .nilsl) 0)).put s.heap.length (.cells (litN x) 0) = s2
    intro hT2 hO2 hc2 ho2 hlow2 hle2
    refine qqV ?_
    refine lV ?_
    refine c_skip ?_
    refine qV ?_
    refine o_call rfl rfl (node_lit m _ s2 c x hx1 (by omega) (by omega) hc2) ?_
    refine o_st rfl rfl rfl rfl hT2 rfl (lets_of (blt_no (by omega)) (fun e => rfl)) (cs' := setN x) rfl ?_
    have hT3 := getCells_put (cs' := setN x) (g' := 0) hT2
    have hO3 := getCells_put_ne (i := s.heap.length) (o := .cells (setN x) 0) (by omega) hO2
    have ho3 : ItemsAtS O (s2.put s.heap.length (.cells (setN x) 0)).heap done out := by
      rcases ho2 with ho | ⟨hne, j, g, e1, e2, e3⟩
      · exact .inl ho
      · refine .inr ⟨hne, j, g, e1, e2, getCells_put_ne ?_ e3⟩
        rcases ho with ⟨hz, _⟩ | ⟨_, j', g', e1', _, e3'⟩
        · exact absurd hz hne
        · rw [e1] at e1'
          cases e1'
          have := getCells_lt e3'
          omega
    have hlow3 : ∀ q, q < O → (s2.put s.heap.length (.cells (setN x) 0)).heap[q]? = s0.heap[q]? := fun q hq => by
      rw [Sg.put_get _ _ _ (by omega)]
      exact hlow2 q hq
    have hle3 : (s2.put s.heap.length (.cells (setN x) 0)).heap.length = s.heap.length + 1 := by rw [Sg.put_len]; exact hle2
    refine eV ?_
    revert hT3 hO3 ho3 hlow3 hle3
    generalize s2.put s.heap.length (.cells (setN x) 0) = s3
    intro hT3 hO3 ho3 hlow3 hle3
    refine qqV ?_
    refine lV ?_
    rcases ho3 with ⟨hz, rfl⟩ | ⟨hne, j, g, rfl, e2, e3⟩
    · refine qV ?_
      refine o_app_nil (ys := [.agg (setN x)]) rfl rfl rfl rfl rfl (by simp) rfl ?_
      have hJ := getCells_new s3 (flatAll [.agg (setN x)]) 0
      have hO4 := getCells_push (.cells (flatAll [.agg (setN x)]) 0) hO3
      refine sV ?_
      refine o_st rfl rfl rfl rfl hO4 rfl (lets_ge (blt_no hb) hes) (cs' := kidsN 12 (.ms s3.heap.length 0 0 1 1 12)) rfl ?_
      refine eV ?_
      refine qqV ?_
      have hc1 : ((done.length : Nat) : Int) + 1 = ((done ++ [x]).length : Nat) := by simp
      rw [hc1]
      refine ih (done ++ [x]) M _ _ _ _ _ (by rw [hl2]; simp) (by simp at hM; omega) ⟨⟨_, getCells_put hO4, .inr ⟨by simp, s3.heap.length, 0, ?_, by omega, ?_⟩⟩, fun q hq => ?_⟩
      · rw [hz]; rfl
      · rw [hz]
        exact getCells_put_ne (by omega) hJ
      · rw [Sg.put_get _ _ _ (by omega), Sg.push_get _ _ (by omega)]
        exact hlow3 q hq
    · refine qV ?_
      refine o_app_ms (ys := [.agg (setN x)]) rfl rfl rfl rfl rfl (ble_of (by show (done.length + 1) * 136 ≤ 2 ^ 46; omega)) rfl (lets_of (blt_no (by omega)) (fun e => rfl)) e3 (by rw [snavs_len]; exact Nat.beq_refl _) ?_
      have hJ := getCells_put (cs' := flatAll (snavs done) ++ flatAll [.agg (setN x)]) (g' := g + 1) e3
      have hO4 := getCells_put_ne (i := j) (o := .cells (flatAll (snavs done) ++ flatAll [.agg (setN x)]) (g + 1)) (by omega) hO3
      refine sV ?_
      refine o_st rfl rfl rfl rfl hO4 rfl (lets_ge (blt_no hb) hes) (cs' := kidsN 12 (.ms j (g + 1) 0 (done.length + 1) (done.length + 1) 12)) rfl ?_
      refine eV ?_
      refine qqV ?_
      have hc1 : ((done.length : Nat) : Int) + 1 = ((done ++ [x]).length : Nat) := by simp
      rw [hc1]
      refine ih (done ++ [x]) M _ _ _ _ _ (by rw [hl2]; simp) (by simp at hM; omega) ⟨⟨_, getCells_put hO4, .inr ⟨by simp, j, g + 1, ?_, e2, ?_⟩⟩, fun q hq => ?_⟩
      · rw [List.length_append]; rfl
      · rw [snavs_app, flatAll_app]
        exact getCells_put_ne (by omega) hJ
      · rw [Sg.put_get _ _ _ (by omega), Sg.put_get _ _ _ (by omega)]
        exact hlow3 q hq

theorem snavs_old (b : Nat) : ∀ l : List (Int × Int), AV.oldAll b (snavs l) = true
  | [] => rfl
  | x :: r => by
    show (_ && AV.oldAll b (snavs r)) = true
    rw [snavs_old b r]
    rfl

theorem snavs_chunk : ∀ l : List (Int × Int), chunk l.length (some 12) (flatAll (snavs l)) = some (snavs l)
  | [] => rfl
  | x :: r => by
    show (if Nat.ble 12 (setN x ++ flatAll (snavs r)).length = true then (chunk r.length (some 12) ((setN x ++ flatAll (snavs r)).drop 12)).bind _ else none) = _
    have h1 : (setN x ++ flatAll (snavs r)).drop 12 = flatAll (snavs r) := rfl
    rw [if_pos (ble_of (by rw [List.length_append]; show 12 ≤ 12 + _; omega)), h1, snavs_chunk r]
    rfl

/-- a sequence of characters, resolved -/
theorem seq_spec (m : Nat) (b : Bar) (s : Sg) (c : Nat) (xs : List (Int × Int)) (hne : xs ≠ []) (hn1 : xs.length ≠ 1) (hn : xs.length ≤ 1000) (hm : xs.length ≤ m) (hx : ∀ x ∈ xs, 0 ≤ x.2 ∧ x.2 ≤ 127) (hb : b.w ≤ s.heap.length) (hes : allGe s.heap.length b.es = true) (hc : getCells s.heap c 0 = some scopeC) :
    callF T (m + 9) b 52 [.ptr c 0 0, .vec (navs xs) .shut] s = some (.ret (.agg (kidsN 12 (.vec (snavs xs) .shut))), s) := by
  have hnl : (navs xs).length = xs.length := by unfold navs; rw [List.length_map]
  have hcl := getCells_lt hc
  refine eq_of_okF ?_
  (apply f_wp rfl rfl; (repeat (first | exact Shape.nil | (apply Shape.cons; conv => lhs; whnf))))
  refine qV ?_
  refine o_alloc (z := kidsN 0 .nilsl) rfl ?_
  refine eV ?_
  have hA := getCells_new s (kidsN 0 .nilsl) 0
  have hc1 := getCells_push (.cells (kidsN 0 .nilsl) 0) hc
  have hl1 : (s.push (.cells (kidsN 0 .nilsl) 0)).heap.length = s.heap.length + 1 := by simp [Sg.push]
  have hlo1 : ∀ q, q < s.heap.length → (s.push (.cells (kidsN 0 .nilsl) 0)).heap[q]? = s.heap[q]? := fun q hq => Sg.push_get _ _ hq
  generalize s.push (.cells (kidsN 0 .nilsl) 0) = s1 at hA hc1 hl1 hlo1 ⊢
  have hes1 : ∀ i, s.heap.length ≤ i → allGe i (b.into .eff s).es = true := fun i hi => by
    show (Nat.ble s.heap.length i && allGe i b.es) = true
    rw [ble_of hi, allGe_le hi hes]
    rfl
  refine qV ?_
  refine o_alloc (z := kidsN 0 .nilsl) rfl ?_
  have hO := getCells_new s1 (kidsN 0 .nilsl) 0
  have hA1 := getCells_push (.cells (kidsN 0 .nilsl) 0) hA
  have hc2 := getCells_push (.cells (kidsN 0 .nilsl) 0) hc1
  refine o_st rfl rfl rfl rfl hO rfl (lets_of (blt_no (by show b.w ≤ s1.heap.length; omega)) (fun e => rfl)) (cs' := kidsN 12 .nilsl) rfl ?_
  have hO2 := getCells_put (cs' := kidsN 12 .nilsl) (g' := 0) hO
  have hA2 := getCells_put_ne (i := s1.heap.length) (o := .cells (kidsN 12 .nilsl) 0) (by omega) hA1
  have hc3 := getCells_put_ne (i := s1.heap.length) (o := .cells (kidsN 12 .nilsl) 0) (by omega) hc2
  have hlo2 : ∀ q, q < s.heap.length → ((s1.push (.cells (kidsN 0 .nilsl) 0)).put s1.heap.length (.cells (kidsN 12 .nilsl) 0)).heap[q]? = s.heap[q]? := fun q hq => by
    rw [Sg.put_get _ _ _ (by omega), Sg.push_get _ _ (by omega)]
    exact hlo1 q hq
  refine eV ?_
  revert hO2 hA2 hc3 hlo2
  generalize (s1.push (.cells (kidsN 0 .nilsl) 0)).put s1.heap.length (.cells (kidsN 12 .nilsl) 0) = s2
  intro hO2 hA2 hc3 hlo2
  refine qqV ?_
  refine bV ?_
  refine c_loop (x := lp52_0) ?_
  refine seq_loop m (b.into .eff s) s2 c s.heap.length s1.heap.length (by show b.w ≤ _; omega) (hes1 _ (by omega)) (by omega) hc3 xs hn hx ?_ xs [] (m + 8) _ _ _ _ s2 rfl (by omega) ⟨⟨_, hO2, .inl ⟨rfl, rfl⟩⟩, fun _ _ => rfl⟩
  intro x12 x7 x17 x26 s3 h3
  obtain ⟨⟨out, hO3, ho⟩, hlow⟩ := h3
  rcases ho with ⟨hz, _⟩ | ⟨_, j, g, rfl, e2, e3⟩
  · exact absurd hz hne
  have hA3 := getCells_at hA2 (hlow _ (by omega))
  show OkC _ _ _ _ _ _ _
  refine qqV ?_
  refine lV ?_
  refine c_skip ?_
  refine qV ?_
  refine o_st rfl rfl rfl rfl hA3 rfl (lets_ge (blt_no (by show b.w ≤ s.heap.length; omega)) (hes1 _ (by omega))) (cs' := kidsN 12 (.ms j g 0 xs.length xs.length 12)) rfl ?_
  have hA4 := getCells_put (cs' := kidsN 12 (.ms j g 0 xs.length xs.length 12)) (g' := 0) hA3
  have e4 := getCells_put_ne (i := s.heap.length) (o := .cells (kidsN 12 (.ms j g 0 xs.length xs.length 12)) 0) (by omega) e3
  refine eV ?_
  refine c_ret (fin_ret (fn := af52) (.inl rfl) (read_cell (v := .agg (kidsN 12 (.ms j g 0 xs.length xs.length 12))) rfl hA4 rfl read_nil) (leave_eff (l := [.agg (kidsN 12 (.vec (snavs xs) .shut))]) (lay_ck (lay_kids (by omega) e4 (snavs_chunk xs) (snavs_old _ _)) lay_nil rfl) ?_) ⟨rfl, ?_⟩)
  · simp only [AV.oldAll, AV.old, kidsN, snavs_old, Bool.and_true]
  · refine sg_back ?_ fun q hq => ?_
    · rw [Sg.put_len]
      have := getCells_lt hO3
      omega
    · rw [Sg.put_get _ _ _ (by omega), hlow q (by omega)]
      exact hlo2 q hq

end Go.Vmm

namespace Go.Vmm
open Go Go.Am Go.Proofs

/-- the tree of a text, resolved -/
def resN : List (Int × Int) → List AV
  | [x] => setN x
  | l => kidsN 12 (.vec (snavs l) .shut)

theorem res_cases (xs : List (Int × Int)) (h : xs ≠ []) : (∃ x, xs = [x]) ∨ (xs.length ≠ 1 ∧ rawN xs = kidsN 12 (.vec (navs xs) .shut) ∧ resN xs = kidsN 12 (.vec (snavs xs) .shut)) := by
  match xs, h with
  | [x], _ => exact .inl ⟨x, rfl⟩
  | x :: y :: r, _ => exact .inr ⟨by simp, rfl, rfl⟩

theorem resN_old (b : Nat) (xs : List (Int × Int)) (h : xs ≠ []) : AV.oldAll b (resN xs) = true := by
  rcases res_cases xs h with ⟨x, rfl⟩ | ⟨_, _, e⟩
  · rfl
  · rw [e]
    simp only [kidsN, AV.oldAll, AV.old, snavs_old, Bool.and_true]

theorem resN_stored (xs : List (Int × Int)) (h : xs ≠ []) : (AV.agg (resN xs)).stored = some (resN xs) ∧ (resN xs).length = 12 := by
  rcases res_cases xs h with ⟨x, rfl⟩ | ⟨_, _, e⟩
  · exact ⟨rfl, rfl⟩
  · rw [e]; exact ⟨rfl, rfl⟩

/-- a raw tree's node, resolved -/
theorem node_raw (m : Nat) (b : Bar) (s : Sg) (c : Nat) (xs : List (Int × Int)) (h : RawOk xs) (hm : xs.length ≤ m) (hb : b.w ≤ s.heap.length) (hes : allGe s.heap.length b.es = true) (hc : getCells s.heap c 0 = some scopeC) :
    callF T (m + 10) b 29 [.ptr c 0 0, .agg (rawN xs)] s = some (.ret (.agg (resN xs)), s) := by
  rcases res_cases xs h.ne with ⟨x, rfl⟩ | ⟨hn1, e1, e2⟩
  · have hx := h.ch x (by simp)
    exact node_lit (m + 2) b s c x hx.1 (by omega) hb hc
  rw [e1, e2]
  refine eq_of_okF ?_
  (apply f_wp rfl rfl; (repeat (first | exact Shape.nil | (apply Shape.cons; conv => lhs; whnf))))
  refine qV ?_
  refine o_box (v := .agg (kidsN 12 (.vec (navs xs) .shut))) (l := kidsN 12 (.vec (navs xs) .shut)) rfl rfl rfl ?_
  refine sV ?_
  refine o_alloc (z := kidsN 0 .nilsl) rfl ?_
  refine eV ?_
  have hN := getCells_push (.cells (kidsN 0 .nilsl) 0) (getCells_new s (kidsN 12 (.vec (navs xs) .shut)) 0)
  have hA := getCells_new (s.push (.cells (kidsN 12 (.vec (navs xs) .shut)) 0)) (kidsN 0 .nilsl) 0
  have hc1 := getCells_push (.cells (kidsN 0 .nilsl) 0) (getCells_push (.cells (kidsN 12 (.vec (navs xs) .shut)) 0) hc)
  have hcl := getCells_lt hc
  have hl0 : (s.push (.cells (kidsN 12 (.vec (navs xs) .shut)) 0)).heap.length = s.heap.length + 1 := by simp [Sg.push]
  have hl1 : ((s.push (.cells (kidsN 12 (.vec (navs xs) .shut)) 0)).push (.cells (kidsN 0 .nilsl) 0)).heap.length = s.heap.length + 2 := by simp [Sg.push]
  have hlo : ∀ q, q < s.heap.length → ((s.push (.cells (kidsN 12 (.vec (navs xs) .shut)) 0)).push (.cells (kidsN 0 .nilsl) 0)).heap[q]? = s.heap[q]? := fun q hq => by rw [Sg.push_get _ _ (by omega), Sg.push_get _ _ hq]
  rw [hl0] at hA ⊢
  generalize (s.push (.cells (kidsN 12 (.vec (navs xs) .shut)) 0)).push (.cells (kidsN 0 .nilsl) 0) = s1 at hN hA hc1 hl1 hlo ⊢
  (repeat (first | refine lV ?_ | refine iV ?_ | refine c_skip ?_ | refine bV ?_ | refine qqV ?_ | refine dqqV ?_))
  refine qV ?_
  refine o_call rfl rfl (seq_spec m _ s1 c xs h.ne hn1 h.len hm h.ch (by show b.w ≤ _; omega) (by show (Nat.ble s.heap.length _ && allGe _ b.es) = true; rw [ble_of (by omega), allGe_le (by omega) hes]; rfl) hc1) ?_
  refine o_st rfl rfl rfl rfl hA rfl (lets_ge (blt_no (by show b.w ≤ s.heap.length + 1; omega)) (by show (Nat.ble s.heap.length _ && allGe _ b.es) = true; rw [ble_of (by omega), allGe_le (by omega) hes]; rfl)) (cs' := kidsN 12 (.vec (snavs xs) .shut)) rfl ?_
  have hA3 := getCells_put (cs' := kidsN 12 (.vec (snavs xs) .shut)) (g' := 0) hA
  refine eV ?_
  refine c_ret (fin_ret (fn := af29) (.inl rfl) (read_cell (v := .agg (kidsN 12 (.vec (snavs xs) .shut))) rfl hA3 rfl read_nil) (leave_eff (l := [.agg (kidsN 12 (.vec (snavs xs) .shut))]) (lay_ck (layOne_agg ?_) lay_nil rfl) ?_) ⟨rfl, ?_⟩)
  · simp only [kidsN, AV.oldAll, AV.old, snavs_old, Bool.and_true]
  · simp only [kidsN, AV.oldAll, AV.old, snavs_old, Bool.and_true]
  · exact sg_back (by rw [Sg.put_len]; omega) fun q hq => by rw [Sg.put_get _ _ _ (by omega)]; exact hlo q hq

/-- Resolve, of a raw tree of characters, with no options -/
theorem resolve_spec (m : Nat) (b : Bar) (s : Sg) (xs : List (Int × Int)) (h : RawOk xs) (hm : xs.length ≤ m) :
    callF T (m + 11) b 12 [.agg (rawN xs), .int .i64 0] s = some (.ret (.agg (resN xs)), s) := by
  obtain ⟨hst, h12⟩ := raw_stored xs h.ne
  obtain ⟨hst2, h122⟩ := resN_stored xs h.ne
  have hp := part_all h12
  have hp2 := part_all h122
  refine eq_of_okF ?_
  (apply f_wp rfl rfl; (repeat (first | exact Shape.nil | (apply Shape.cons; conv => lhs; whnf))))
  refine qV ?_
  refine o_box (v := .agg (rawN xs)) (l := rawN xs) rfl rfl hst ?_
  refine o_alloc (z := kidsN 0 .nilsl) rfl ?_
  refine eV ?_
  have hN := getCells_push (.cells (kidsN 0 .nilsl) 0) (getCells_new s (rawN xs) 0)
  have hA := getCells_new (s.push (.cells (rawN xs) 0)) (kidsN 0 .nilsl) 0
  have hl0 : (s.push (.cells (rawN xs) 0)).heap.length = s.heap.length + 1 := by simp [Sg.push]
  have hl1 : ((s.push (.cells (rawN xs) 0)).push (.cells (kidsN 0 .nilsl) 0)).heap.length = s.heap.length + 2 := by simp [Sg.push]
  rw [hl0] at hA ⊢
  generalize (s.push (.cells (rawN xs) 0)).push (.cells (kidsN 0 .nilsl) 0) = s1 at hN hA hl1 ⊢
  refine qV ?_
  refine o_w (v := .int .i64 0) rfl (by rfl) ?_
  refine sV ?_
  refine o_w (v := .int .i64 0) rfl (by rfl) ?_
  refine sV ?_
  refine o_box (v := .agg scopeC) (l := scopeC) rfl rfl rfl ?_
  refine sV ?_
  refine eV ?_
  have hc := getCells_new s1 scopeC 0
  have hN2 := getCells_push (.cells scopeC 0) hN
  have hA2 := getCells_push (.cells scopeC 0) hA
  have hl2 : (s1.push (.cells scopeC 0)).heap.length = s1.heap.length + 1 := by simp [Sg.push]
  generalize s1.push (.cells scopeC 0) = s2 at hc hN2 hA2 hl2 ⊢
  (repeat (first | refine lV ?_ | refine iV ?_ | refine c_skip ?_ | refine bV ?_ | refine qqV ?_ | refine dqqV ?_))
  refine qV ?_
  refine o_call rfl rfl (node_raw m _ s2 s1.heap.length xs h hm (by show s.heap.length ≤ _; omega) rfl hc) ?_
  refine o_st rfl rfl rfl hst2 hA2 (by rw [h122]; rfl) (lets_nil (blt_no (by show s.heap.length ≤ s.heap.length + 1; omega)) rfl) (cs' := resN xs) (write_all (by rw [h122]; rfl)) ?_
  have hA3 := getCells_put (cs' := resN xs) (g' := 0) hA2
  refine eV ?_
  refine c_ret (fin_ret (fn := af12) (.inl rfl) (read_cell (v := .agg (resN xs)) rfl hA3 hp2 read_nil) (leave_pure (l := [.agg (resN xs)]) (lay_ck (layOne_agg (resN_old _ xs h.ne)) lay_nil rfl) ?_) ⟨rfl, rfl⟩)
  simp only [AV.oldAll, AV.old, resN_old _ xs h.ne, Bool.and_true]

end Go.Vmm

namespace Go.Vmm
open Go Go.Am Go.Proofs

/-- the loop 0 of function 28 -/
def lp28_0 : ACode := .seq (.region [Bn 58 .lss 57 56] [58]) (.seq (.cond (.tmp 58) (.skip) (.exit 0)) (.seq (.block 1 (.seq (.region [Vv 59 (.indexAddrS (some 12) (.tmp 55) (.tmp 57)), La 60 12 59, ⟨some 9, .e (.alloc [(.int .i64 0), (.int .i64 0), (.int .i64 0), .nilsl, (.bool false), (.int .i64 0), (.int .i64 0), (.int .i64 0), (.str []), (.int .i64 0), (.int .i64 0), .nilsl]), none⟩, St 12 9 60] [9]) (.seq (.seq (.region [Fa 61 0 3, Ld 62 61, Bc 63 .eql 62 16] [63]) (.cond (.tmp 63) (.region [Mv 64 0, Mv 65 5, Nc 66 64, Fa 67 0 66, St 1 67 65] []) (.skip))) (.seq (.region [Mv 68 7, Mv 69 0, La 70 12 9, Cl 71 28 [Tm 69, Tm 70], Vv 72 (.buildSl 12 (.agg [(.int .i64 0), (.int .i64 0), (.int .i64 0), .nilsl, (.bool false), (.int .i64 0), (.int .i64 0), (.int .i64 0), (.str []), (.int .i64 0), (.int .i64 0), .nilsl]) 1 [(0, (.tmp 71))]), ⟨some 73, .e (.append false (some 12) 136 (.tmp 68) (.tmp 72)), none⟩, Mv 7 73] [7]) (.region [Mv 74 6, Mv 75 0, Nc 76 75, Fa 77 0 76, Ld 78 77, Vv 79 (.mm true [Tm 74, Tm 78]), Mv 6 79] [6]))))) (.region [Bc 80 .add 57 1, Mv 57 80] [57])))

/-- a counter without groups -/
def cntC (j : Nat) : List AV := [.int .i64 0, .nilsl, .map j, .int .i64 0, .int .i64 0]

theorem setAt_same {α : Type} : ∀ {l : List α} {i : Nat} {o : α}, l[i]? = some o → setAt l i o = l
  | [], _, _, h => by simp at h
  | a :: r, 0, o, h => by
    simp at h
    subst h
    rfl
  | a :: r, i + 1, o, h => by
    simp only [setAt, setAt_same (l := r) (i := i) (by simpa using h)]

theorem put_same {s : Sg} {i g : Nat} {cs : List AV} (h : getCells s.heap i g = some cs) : s.put i (.cells cs g) = s := by
  have := setAt_same (getCells_some h)
  show ({ s with heap := setAt s.heap i (.cells cs g) } : Sg) = s
  rw [this]

/-- a set's node, numbered -/
theorem num_set (m : Nat) (b : Bar) (s : Sg) (c j : Nat) (x : Int × Int) (hb : b.w ≤ c) (hc : getCells s.heap c 0 = some (cntC j)) :
    callF T (m + 2) b 28 [.ptr c 0 0, .agg (setN x)] s = some (.ret (.agg (setN x)), s) := by
  have hcl := getCells_lt hc
  refine eq_of_okF ?_
  (apply f_wp rfl rfl; (repeat (first | exact Shape.nil | (apply Shape.cons; conv => lhs; whnf))))
  refine qV ?_
  refine o_box (v := .agg (setN x)) (l := setN x) rfl rfl rfl ?_
  refine o_alloc (z := kidsN 0 .nilsl) rfl ?_
  refine eV ?_
  have hN := getCells_push (.cells (kidsN 0 .nilsl) 0) (getCells_new s (setN x) 0)
  have hA := getCells_new (s.push (.cells (setN x) 0)) (kidsN 0 .nilsl) 0
  have hc1 := getCells_push (.cells (kidsN 0 .nilsl) 0) (getCells_push (.cells (setN x) 0) hc)
  have hl0 : (s.push (.cells (setN x) 0)).heap.length = s.heap.length + 1 := by simp [Sg.push]
  have hl1 : ((s.push (.cells (setN x) 0)).push (.cells (kidsN 0 .nilsl) 0)).heap.length = s.heap.length + 2 := by simp [Sg.push]
  have hlo : ∀ q, q < s.heap.length → ((s.push (.cells (setN x) 0)).push (.cells (kidsN 0 .nilsl) 0)).heap[q]? = s.heap[q]? := fun q hq => by rw [Sg.push_get _ _ (by omega), Sg.push_get _ _ hq]
  rw [hl0] at hA ⊢
  generalize (s.push (.cells (setN x) 0)).push (.cells (kidsN 0 .nilsl) 0) = s1 at hN hA hc1 hl1 hlo ⊢
  (repeat (first | refine lV ?_ | refine iV ?_ | refine c_skip ?_ | refine bV ?_ | refine qqV ?_ | refine dqqV ?_))
  refine c_loop (x := lp28_0) ?_
  apply l_round
  refine qqV ?_
  refine lV ?_
  refine c_exit ?_
  show OkC _ _ _ _ _ _ _
  refine qV ?_
  refine o_st rfl rfl rfl rfl hN rfl (lets_of (blt_no (by show b.w ≤ s.heap.length; omega)) (fun e => rfl)) (cs' := setN x) rfl ?_
  rw [put_same hN]
  refine sV ?_
  refine o_st rfl rfl rfl rfl hc1 rfl (lets_of (blt_no hb) (fun e => rfl)) (cs' := cntC j) rfl ?_
  rw [put_same hc1]
  refine eV ?_
  refine qV ?_
  refine o_app_first (ys := [.agg [.int .i64 x.2, .int .i64 x.2]]) rfl rfl rfl rfl rfl (by simp) rfl ?_
  have hN5 : getCells ({ s1 with toks := s1.toks ++ [0] } : Sg).heap s.heap.length 0 = some (setN x) := hN
  have hA5 : getCells ({ s1 with toks := s1.toks ++ [0] } : Sg).heap (s.heap.length + 1) 0 = some (kidsN 0 .nilsl) := hA
  refine sV ?_
  refine o_st rfl rfl rfl rfl hN5 rfl (lets_of (blt_no (by show b.w ≤ s.heap.length; omega)) (fun e => rfl)) (cs' := setN x) rfl ?_
  rw [put_same hN5]
  refine eV ?_
  refine qV ?_
  refine o_st rfl rfl rfl rfl hA5 rfl (lets_of (blt_no (by show b.w ≤ s.heap.length + 1; omega)) (fun e => rfl)) (cs' := setN x) rfl ?_
  have hA6 := getCells_put (cs' := setN x) (g' := 0) hA5
  refine eV ?_
  refine c_ret (fin_ret (fn := af28) (.inl rfl) (read_cell (v := .agg (setN x)) rfl hA6 rfl read_nil) (leave_eff (l := [.agg (setN x)]) (lay_ck (layOne_agg rfl) lay_nil rfl) rfl) ⟨rfl, ?_⟩)
  exact sg_back (by rw [Sg.put_len]; show _ ≤ s1.heap.length; omega) fun q hq => by rw [Sg.put_get _ _ _ (by omega)]; exact hlo q hq

end Go.Vmm

namespace Go.Vmm
open Go Go.Am Go.Proofs

/-- a slice that grows in a body, with what it holds -/
structure TS (b : Bar) (es : List AV) (v : AV) (s : Sg) : Prop where
  tk : b.t ≤ s.toks.length
  at' : (es = [] ∧ v = .nilsl) ∨ (es ≠ [] ∧ ∃ i n, v = .vec es (.tok i n) ∧ b.t ≤ i ∧ s.toks[i]? = some n)

theorem TS.def {b : Bar} {es : List AV} {v : AV} {s : Sg} (h : TS b es v s) : v.def? = some v := by
  rcases h.at' with ⟨_, rfl⟩ | ⟨_, i, n, rfl, _⟩ <;> rfl

theorem TS.toks {b : Bar} {es : List AV} {v : AV} {s s' : Sg} (h : TS b es v s) (e : s'.toks = s.toks) : TS b es v s' := ⟨by rw [e]; exact h.tk, by rw [e]; exact h.at'⟩

theorem TS.stored {b : Bar} {es : List AV} {v : AV} {s : Sg} (h : TS b es v s) (hne : es ≠ []) : v.stored = some [.vec es .shut] := by
  rcases h.at' with ⟨rfl, _⟩ | ⟨_, i, n, rfl, _⟩
  · exact absurd rfl hne
  · rfl

theorem o_app_ts {call : CallFn} {b : Bar} {g : Option (Nat × Bool)} {r : List AOper} {loc : Env} {fr : Fr} {s : Sg} {Q : Ex → Env → Fr → Sg → Prop} {t : Nat} {ag : Option Nat} {bytes : Nat} {x y : AOpd} {v u e : AV} {es : List AV} (hg : wantedA loc fr.pers g = some true) (h : TS b es v s)
    (hx : x.ev loc fr.pers = some v) (hy : y.ev loc fr.pers = some u) (he : elemsOf s.heap ag u = some [e]) (hs : (allSize (ag.getD 1) [e] && allOneAll [e]) = true) (hse : allSize (ag.getD 1) es = true) (hl : Nat.ble ((es.length + 1) * bytes) limit = true)
    (hr : ∀ v' s', s'.heap = s.heap → s'.ty = s.ty → s'.gl = s.gl → TS b (es ++ [e]) v' s' → OkO call b r ((t, v') :: loc) fr s' Q) : OkO call b (⟨some t, .e (.append false ag bytes x y), g⟩ :: r) loc fr s Q := by
  have htk := h.tk
  rcases h.at' with ⟨rfl, rfl⟩ | ⟨hne, i, n, rfl, hi, hn⟩
  · refine o_app_first hg hx hy he hs (by simp) (by simpa using hl) (hr _ _ rfl rfl rfl ⟨?_, .inr ⟨by simp, _, 0, rfl, htk, ?_⟩⟩)
    · simp; omega
    · simp
  · refine o_app_tok hg hx hy he hs hse (by simp) hl (blt_no hi) hn (hr _ _ rfl rfl rfl ⟨?_, .inr ⟨by simp, i, n + 1, rfl, hi, ?_⟩⟩)
    · rw [length_setAt]; exact htk
    · have := lt_of_getElem? hn
      simp only [getElem?_setAt, if_true, this]

abbrev fr28 (c : Nat) (cs es : List AV) (A N i : Nat) (x58 x63 x9 v : AV) : Fr :=
  ⟨[(0, .ptr c 0 0), (1, .agg cs), (4, .ptr A 0 0), (14, .bool false), (3, .ptr N 0 0), (18, .bool false), (33, .undef), (57, .int .i64 i), (56, .int .i64 es.length), (58, x58), (55, .vec es .shut), (63, x63), (5, .int .i64 0), (7, v), (9, x9), (6, .int .i64 0)], [], .off⟩

theorem snavs_size : ∀ l : List (Int × Int), allSize 12 (snavs l) = true
  | [] => rfl
  | x :: r => by
    show (_ && allSize 12 (snavs r)) = true
    rw [snavs_size r]
    rfl

theorem num_loop (m : Nat) (b : Bar) (s0 : Sg) (c j A N : Nat) (cs : List AV) (hcs : cs.head? = some (.int .i64 12)) (hb : b.w ≤ c) (hbs : b.w ≤ s0.heap.length) (hc : getCells s0.heap c 0 = some (cntC j)) (hN : getCells s0.heap N 0 = some cs) (xs : List (Int × Int)) (hn : xs.length ≤ 1000) {Q : Ex → Fr → Sg → Prop}
    (hq : ∀ x58 x63 x9 v s', TS b (snavs xs) v s' → s0.heap.length ≤ s'.heap.length → (∀ q, q < s0.heap.length → s'.heap[q]? = s0.heap[q]?) → Q (.exit 0) (fr28 c cs (snavs xs) A N xs.length x58 x63 x9 v) s') :
    ∀ (rest done : List (Int × Int)) (M : Nat) (x58 x63 x9 v : AV) (s : Sg), xs = done ++ rest → rest.length + 1 ≤ M → TS b (snavs done) v s → s0.heap.length ≤ s.heap.length → (∀ q, q < s0.heap.length → s.heap[q]? = s0.heap[q]?) →
    OkL M (fun fr s => ACode.run (loopN (m + 2)) (callF T (m + 2)) b lp28_0 fr s) (fr28 c cs (snavs xs) A N done.length x58 x63 x9 v) s Q := by
  intro rest
  have hcp : cs[0]? = some (.int .i64 12) := by rw [← List.head?_eq_getElem?]; exact hcs
  induction rest with
  | nil =>
    intro done M x58 x63 x9 v s hl2 hM h hle hlow
    obtain ⟨M, rfl⟩ : ∃ M', M = M' + 1 := ⟨M - 1, by omega⟩
    rw [List.append_nil] at hl2
    subst hl2
    have hnl : (snavs xs).length = xs.length := by unfold snavs; rw [List.length_map]
    apply l_round
    refine qqV ?_
    refine lV ?_
    exact c_exit (hq _ _ _ _ _ h hle hlow)
  | cons x rest ih =>
    intro done M x58 x63 x9 v s hl2 hM h hle hlow
    obtain ⟨M, rfl⟩ : ∃ M', M = M' + 1 := ⟨M - 1, by omega⟩
    have hnl : (snavs xs).length = xs.length := by unfold snavs; rw [List.length_map]
    have hnd : (snavs done).length = done.length := by unfold snavs; rw [List.length_map]
    have hkl : done.length < xs.length := by rw [hl2]; simp
    have hget : xs[done.length]? = some x := by rw [hl2]; simp
    have hg2 : (snavs xs)[done.length]? = some (.agg (setN x)) := by unfold snavs; rw [List.getElem?_map, hget]; rfl
    have hcl := getCells_lt hc
    have hc1 := getCells_at hc (hlow _ hcl)
    have hN1 := getCells_at hN (hlow _ (getCells_lt hN))
    apply l_round
    refine qqV ?_
    refine iV ?_
    refine c_skip ?_
    refine bV ?_
    refine qV ?_
    refine o_ixvec (j := done.length) rfl rfl rfl rfl hg2 rfl ?_
    refine sV ?_
    refine o_alloc (z := kidsN 0 .nilsl) rfl ?_
    have hT := getCells_new s (kidsN 0 .nilsl) 0
    refine o_st rfl rfl rfl rfl hT rfl (lets_of (blt_no (by omega)) (fun e => rfl)) (cs' := setN x) rfl ?_
    have hT2 := getCells_put (cs' := setN x) (g' := 0) hT
    have hc2 := getCells_put_ne (i := s.heap.length) (o := .cells (setN x) 0) (by omega) (getCells_push (.cells (kidsN 0 .nilsl) 0) hc1)
    have hN2 := getCells_put_ne (i := s.heap.length) (o := .cells (setN x) 0) (by have := getCells_lt hN1; omega) (getCells_push (.cells (kidsN 0 .nilsl) 0) hN1)
    have hle2 : s0.heap.length ≤ ((s.push (.cells (kidsN 0 .nilsl) 0)).put s.heap.length (.cells (setN x) 0)).heap.length := by rw [Sg.put_len]; simp [Sg.push]; omega
    have hlow2 : ∀ q, q < s0.heap.length → ((s.push (.cells (kidsN 0 .nilsl) 0)).put s.heap.length (.cells (setN x) 0)).heap[q]? = s0.heap[q]? := fun q hq => by
      rw [Sg.put_get _ _ _ (by omega), Sg.push_get _ _ (by omega)]
      exact hlow q hq
    have hTS : TS b (snavs done) v ((s.push (.cells (kidsN 0 .nilsl) 0)).put s.heap.length (.cells (setN x) 0)) := h.toks rfl
    refine eV ?_
    revert hT2 hc2 hN2 hle2 hlow2 hTS
    generalize (s.push (.cells (kidsN 0 .nilsl) 0)).put s.heap.length (.cells (setN x) 0) = s2
    intro hT2 hc2 hN2 hle2 hlow2 hTS
    refine qqV ?_
    refine lV ?_
    refine c_skip ?_
    refine c_seq (c_region ?_)
    refine o_w (v := v) rfl hTS.def ?_
    refine sV ?_
    refine o_call rfl rfl (num_set m _ s2 c j x hb hc2) ?_
    refine sV ?_
    refine o_app_ts (es := snavs done) (e := .agg (setN x)) rfl hTS hTS.def rfl rfl rfl (snavs_size done) (ble_of (by rw [hnd]; show (done.length + 1) * 136 ≤ 2 ^ 46; omega)) ?_
    intro v' s3 e1 _ _ hTS3
    refine o_w (v := v') rfl hTS3.def ?_
    refine eV ?_
    have hc3 : getCells s3.heap c 0 = some (cntC j) := by rw [e1]; exact hc2
    refine qV ?_
    have e0 : (if true = true then if (0 : Int) > 0 then (0 : Int) else 0 else if (0 : Int) < 0 then (0 : Int) else 0) = 0 := by decide
    rw [e0]
    refine eV ?_
    refine qqV ?_
    have hc9 : ((done.length : Nat) : Int) + 1 = ((done ++ [x]).length : Nat) := by simp
    rw [hc9]
    refine ih (done ++ [x]) M _ _ _ _ s3 (by rw [hl2]; simp) (by simp at hM; omega) (by rw [snavs_app]; exact hTS3) (by rw [e1]; exact hle2) (fun q hq => by rw [e1]; exact hlow2 q hq)

/-- a sequence, numbered -/
theorem num_seq (m : Nat) (b : Bar) (s : Sg) (c j : Nat) (xs : List (Int × Int)) (hne : xs ≠ []) (hn : xs.length ≤ 1000) (hm : xs.length ≤ m) (hb : b.w ≤ c) (hes : allGe s.heap.length b.es = true) (hc : getCells s.heap c 0 = some (cntC j)) :
    callF T (m + 3) b 28 [.ptr c 0 0, .agg (kidsN 12 (.vec (snavs xs) .shut))] s = some (.ret (.agg (kidsN 12 (.vec (snavs xs) .shut))), s) := by
  have hcl := getCells_lt hc
  have hnl : (snavs xs).length = xs.length := by unfold snavs; rw [List.length_map]
  have hes1 : ∀ i, s.heap.length ≤ i → allGe i (b.into .eff s).es = true := fun i hi => by
    show (Nat.ble s.heap.length i && allGe i b.es) = true
    rw [ble_of hi, allGe_le hi hes]
    rfl
  refine eq_of_okF ?_
  (apply f_wp rfl rfl; (repeat (first | exact Shape.nil | (apply Shape.cons; conv => lhs; whnf))))
  refine qV ?_
  refine o_box (v := .agg (kidsN 12 (.vec (snavs xs) .shut))) (l := kidsN 12 (.vec (snavs xs) .shut)) rfl rfl rfl ?_
  refine o_alloc (z := kidsN 0 .nilsl) rfl ?_
  refine eV ?_
  have hN := getCells_push (.cells (kidsN 0 .nilsl) 0) (getCells_new s (kidsN 12 (.vec (snavs xs) .shut)) 0)
  have hA := getCells_new (s.push (.cells (kidsN 12 (.vec (snavs xs) .shut)) 0)) (kidsN 0 .nilsl) 0
  have hc1 := getCells_push (.cells (kidsN 0 .nilsl) 0) (getCells_push (.cells (kidsN 12 (.vec (snavs xs) .shut)) 0) hc)
  have hl0 : (s.push (.cells (kidsN 12 (.vec (snavs xs) .shut)) 0)).heap.length = s.heap.length + 1 := by simp [Sg.push]
  have hl1 : ((s.push (.cells (kidsN 12 (.vec (snavs xs) .shut)) 0)).push (.cells (kidsN 0 .nilsl) 0)).heap.length = s.heap.length + 2 := by simp [Sg.push]
  have hlo : ∀ q, q < s.heap.length → ((s.push (.cells (kidsN 12 (.vec (snavs xs) .shut)) 0)).push (.cells (kidsN 0 .nilsl) 0)).heap[q]? = s.heap[q]? := fun q hq => by rw [Sg.push_get _ _ (by omega), Sg.push_get _ _ hq]
  have htk : ((s.push (.cells (kidsN 12 (.vec (snavs xs) .shut)) 0)).push (.cells (kidsN 0 .nilsl) 0)).toks = s.toks := rfl
  rw [hl0] at hA ⊢
  generalize (s.push (.cells (kidsN 12 (.vec (snavs xs) .shut)) 0)).push (.cells (kidsN 0 .nilsl) 0) = s1 at hN hA hc1 hl1 hlo htk ⊢
  (repeat (first | refine lV ?_ | refine iV ?_ | refine c_skip ?_ | refine bV ?_ | refine qqV ?_ | refine dqqV ?_))
  refine c_loop (x := lp28_0) ?_
  refine num_loop m (b.into .eff s) s1 c j (s.heap.length + 1) s.heap.length _ rfl hb (by show b.w ≤ _; omega) hc1 hN xs hn ?_ xs [] (m + 2) _ _ _ .nilsl s1 rfl (by omega) ⟨by rw [htk]; exact Nat.le_refl _, .inl ⟨rfl, rfl⟩⟩ (Nat.le_refl _) (fun _ _ => rfl)
  intro x58 x63 x9 v s3 hTS hle3 hlow3
  have hN3 := getCells_at hN (hlow3 _ (by omega))
  have hA3 := getCells_at hA (hlow3 _ (by omega))
  have hc3 := getCells_at hc1 (hlow3 _ (by omega))
  have hsne : snavs xs ≠ [] := fun e => by rw [e] at hnl; exact hne (List.length_eq_zero_iff.1 hnl.symm)
  show OkC _ _ _ _ _ _ _
  refine qV ?_
  refine o_w (v := v) rfl hTS.def ?_
  refine sV ?_
  refine o_st rfl rfl hTS.def (hTS.stored hsne) hN3 rfl (lets_ge (blt_no (by show b.w ≤ s.heap.length; omega)) (hes1 _ (by omega))) (cs' := kidsN 12 (.vec (snavs xs) .shut)) rfl ?_
  rw [put_same hN3]
  refine sV ?_
  refine o_st rfl rfl rfl rfl hc3 rfl (lets_of (blt_no hb) (fun e => rfl)) (cs' := cntC j) rfl ?_
  rw [put_same hc3]
  refine eV ?_
  refine qV ?_
  refine o_app_none rfl rfl (.inl rfl) rfl rfl rfl ?_
  refine sV ?_
  refine o_st rfl rfl rfl rfl hN3 rfl (lets_of (blt_no (by show b.w ≤ s.heap.length; omega)) (fun e => rfl)) (cs' := kidsN 12 (.vec (snavs xs) .shut)) rfl ?_
  rw [put_same hN3]
  refine eV ?_
  refine qV ?_
  refine o_st rfl rfl rfl rfl hA3 rfl (lets_ge (blt_no (by show b.w ≤ s.heap.length + 1; omega)) (hes1 _ (by omega))) (cs' := kidsN 12 (.vec (snavs xs) .shut)) rfl ?_
  have hA6 := getCells_put (cs' := kidsN 12 (.vec (snavs xs) .shut)) (g' := 0) hA3
  refine eV ?_
  refine c_ret (fin_ret (fn := af28) (.inl rfl) (read_cell (v := .agg (kidsN 12 (.vec (snavs xs) .shut))) rfl hA6 rfl read_nil) (leave_eff (l := [.agg (kidsN 12 (.vec (snavs xs) .shut))]) (lay_ck (layOne_agg ?_) lay_nil rfl) ?_) ⟨rfl, ?_⟩)
  · simp only [kidsN, AV.oldAll, AV.old, snavs_old, Bool.and_true]
  · simp only [kidsN, AV.oldAll, AV.old, snavs_old, Bool.and_true]
  · exact sg_back (by rw [Sg.put_len]; omega) fun q hq => by rw [Sg.put_get _ _ _ (by omega), hlow3 q (by omega)]; exact hlo q hq

end Go.Vmm
