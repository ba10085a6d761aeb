/-
  Numbers in digits to the base of 16: the program's and the reference's.
-/
import Derived.Test.YtpaebiddgpjlnabGreatDoorSqtC
import Derived.Test.YtpaebiddgpjlnabGreatDoorSqhA

namespace Go.Vmm
open Go Go.Am Go.Proofs

/-- the loop 0 of function 53 -/
def lp53_0 : ACode := .seq (.seq (.region [Mv 44 1, Mv 45 15, Bn 46 .geq 44 45] [46]) (.cond (.tmp 46) (.skip) (.exit 0))) (.block 1 (.seq (.region [Mv 47 13, Bc 48 .sub 47 1, Mv 13 48] [13]) (.seq (.region [Mv 49 13, Mv 50 1, Mv 51 16, Bn 52 .and 50 51, Vv 53 (.indexS (.const (.str [48, 49, 50, 51, 52, 53, 54, 55, 56, 57, 97, 98, 99, 100, 101, 102, 103, 104, 105, 106, 107, 108, 109, 110, 111, 112, 113, 114, 115, 116, 117, 118, 119, 120, 121, 122])) (.tmp 52)), Vv 54 (.indexAddrA 65 none (.tmp 12) (.tmp 49)), St 1 54 53] []) (.region [Mv 55 1, Mv 56 14, Bn 57 .shr 55 56, Mv 1 57] [1]))))

def hexd : List UInt8 := [48, 49, 50, 51, 52, 53, 54, 55, 56, 57, 97, 98, 99, 100, 101, 102]
def dig36 : List UInt8 := [48, 49, 50, 51, 52, 53, 54, 55, 56, 57, 97, 98, 99, 100, 101, 102, 103, 104, 105, 106, 107, 108, 109, 110, 111, 112, 113, 114, 115, 116, 117, 118, 119, 120, 121, 122]
/-- a digit -/
def dg (n : Nat) : UInt8 := hexd.getD n 0

theorem dg_cut : ∀ n : Fin 16, (hexd.drop n.val).take (n.val + 1 - n.val) = [dg n.val] ∧ dig36[n.val]? = some (dg n.val) := by decide

/-- a number in digits to the base of 16 -/
def hexL : Nat → Nat → List UInt8
  | 0, _ => []
  | d + 1, n => if n < 16 then [dg n] else hexL d (n / 16) ++ [dg (n % 16)]

theorem hexL_len : ∀ d n, (hexL d n).length ≤ d
  | 0, _ => Nat.le_refl _
  | d + 1, n => by
    simp only [hexL]
    split
    · simp
    · have := hexL_len d (n / 16); simp; omega

theorem hex_spec (m : Nat) (b : Bar) (s : Sg) : ∀ (d n : Nat), d ≤ 8 → n < 16 ^ d → 0 < d → callF T (m + d) b 13 [.int .i64 (n : Int)] s = some (.ret (.str (hexL d n)), s) := by
  intro d
  induction d generalizing b with
  | zero => intro n _ _ h; omega
  | succ d ih =>
    intro n hd hn _
    have hnb : n < 16 ^ 8 := Nat.lt_of_lt_of_le hn (Nat.pow_le_pow_right (show 0 < 16 by decide) hd)
    have hnb : n < 4294967296 := hnb
    apply OkF.ret
    by_cases h : n < 16
    · have e : hexL (d + 1) n = [dg n] := if_pos h
      rw [e]
      (apply f_wp rfl rfl; (repeat (first | exact Shape.nil | (apply Shape.cons; conv => lhs; whnf))))
      refine qqV ?_
      refine qqV ?_
      refine iV ?_
      refine qV ?_
      refine o_slS2 (i := n) (j := n + 1) (q := [dg n]) rfl rfl rfl rfl rfl (by omega) (by omega) (by show n + 1 ≤ 16; omega) (dg_cut ⟨n, h⟩).1 ?_
      refine sV ?_
      refine eV ?_
      refine c_ret ?_
      exact fin_ret (.inl rfl) (read_tmp rfl read_nil) (leave_pure rfl rfl) ⟨rfl, rfl⟩
    · have e : hexL (d + 1) n = hexL d (n / 16) ++ [dg (n % 16)] := if_neg h
      have hl := hexL_len d (n / 16)
      have hd0 : 0 < d := by
        rcases Nat.eq_zero_or_pos d with h0 | h0
        · subst h0; simp at hn; omega
        · exact h0
      have hq : n / 16 < 16 ^ d := by rw [Nat.pow_succ] at hn; omega
      have h1 := ih (b := ({ w := s.heap.length, t := s.toks.length, es := [] } : Bar)) (n / 16) (by omega) hq hd0
      have hp1 : 16 ^ 1 ≤ 16 ^ d := Nat.pow_le_pow_right (show 0 < 16 by decide) hd0
      have h2 := ih (b := ({ w := s.heap.length, t := s.toks.length, es := [] } : Bar)) (n % 16) (by omega) (by omega) hd0
      have e2 : hexL d (n % 16) = [dg (n % 16)] := by
        obtain ⟨d, rfl⟩ : ∃ d', d = d' + 1 := ⟨d - 1, by omega⟩
        exact if_pos (by omega)
      rw [e2] at h2
      rw [e]
      (apply f_wp rfl rfl; (repeat (first | exact Shape.nil | (apply Shape.cons; conv => lhs; whnf))))
      refine qqV ?_
      refine qqV ?_
      refine lV ?_
      refine c_skip ?_
      refine qV ?_
      refine o_bin ((n / 16 : Nat) : Int) rfl rfl rfl ((ev_quo (by omega) (by omega) (by decide)).trans (by rfl)) ?_
      refine o_call rfl rfl h1 ?_
      refine sV ?_
      refine o_bin ((n % 16 : Nat) : Int) rfl rfl rfl ((ev_rem (by omega) (by decide)).trans (by rfl)) ?_
      refine o_call rfl rfl h2 ?_
      refine o_sadd rfl rfl rfl (by simp; omega) ?_
      refine sV ?_
      refine eV ?_
      refine c_ret ?_
      exact fin_ret (.inl rfl) (read_tmp rfl read_nil) (leave_pure rfl rfl) ⟨rfl, rfl⟩

end Go.Vmm

namespace Go.Vmm
open Go Go.Am Go.Proofs

theorem wrap_u64 {n : Int} (h0 : 0 ≤ n) (h1 : n < 2 ^ 64) : IntKind.u64.wrap n = n := by
  simp only [IntKind.wrap, IntKind.signed, IntKind.bits]
  simp
  omega

theorem ev_and15 (u : Nat) (h : u < 2 ^ 50) : evBin .and (.int .u64 u) (.int .u64 15) = some (.int .u64 ((u % 16 : Nat) : Int)) := by
  have e1 : (BitVec.ofInt 64 (u : Int)).toNat = u := by rw [BitVec.toNat_ofInt]; omega
  have e2 : (BitVec.ofInt 64 (15 : Int)).toNat = 15 := by decide
  have e3 : (BitVec.ofInt 64 (u : Int) &&& BitVec.ofInt 64 (15 : Int)).toNat = u % 16 := by rw [BitVec.toNat_and, e1, e2, and15]
  have : IntKind.u64.wrap (((BitVec.ofInt 64 (u : Int) &&& BitVec.ofInt 64 (15 : Int)).toNat : Nat) : Int) = ((u % 16 : Nat) : Int) := by rw [e3, wrap_u64 (by omega) (by omega)]
  simp only [evBin, if_true, intBin]
  exact congrArg (fun z => some (AV.int .u64 z)) this

theorem ev_shr4 (u : Nat) : evBin .shr (.int .u64 u) (.int .u64 4) = some (.int .u64 ((u / 16 : Nat) : Int)) := by
  have : ((u : Int).fdiv 16) = ((u / 16 : Nat) : Int) := by rw [Int.fdiv_eq_ediv_of_nonneg _ (by omega)]; rfl
  exact congrArg (fun z => some (AV.int .u64 z)) this

theorem o_ixA {call : CallFn} {b : Bar} {g : Option (Nat × Bool)} {r : List AOper} {loc : Env} {fr : Fr} {s : Sg} {Q : Ex → Env → Fr → Sg → Prop} {x y : AOpd} {t len h g' off : Nat} {ag : Option Nat} {k : IntKind} {z : Int} (j : Nat) (hg : wantedA loc fr.pers g = some true) (hx : x.ev loc fr.pers = some (.ptr h g' off)) (hy : y.ev loc fr.pers = some (.int k z)) (hz : z = (j : Int)) (hj : j < len)
    (hr : OkO call b r ((t, .ptr h g' (off + j * ag.getD 1)) :: loc) fr s Q) : OkO call b (⟨some t, .v (.indexAddrA len ag x y), g⟩ :: r) loc fr s Q := by
  subst hz
  refine o_w hg ?_ hr
  have : idx (.int k (j : Int)) len = some j := by
    simp only [idx]
    rw [if_pos ⟨by omega, by omega⟩]
    simp
  simp only [evV, hx, hy, Option.bind_some, this]

abbrev z8 : AV := .int .u8 0

theorem write_last (v : AV) (l : List AV) : ∀ k, writeAt (List.replicate (k + 1) z8 ++ l) k [v] = some (List.replicate k z8 ++ v :: l)
  | 0 => by simp [List.replicate, writeAt]
  | k + 1 => by
    show writeAt (z8 :: (List.replicate (k + 1) z8 ++ l)) (k + 1) [v] = _
    have e : ∀ (x : AV) (r : List AV), writeAt (x :: r) (k + 1) [v] = (writeAt r k [v]).bind fun l => some (x :: l) := fun _ _ => rfl
    rw [e, write_last v l k]
    rfl

/-- the row of digits, so far -/
abbrev rowC (l : List UInt8) : List AV := List.replicate (65 - l.length) z8 ++ Am.byteCells l

theorem row_put (l : List UInt8) (d : UInt8) (h : l.length < 65) : writeAt (rowC l) (64 - l.length) [.int .u8 d.toNat] = some (rowC (d :: l)) := by
  obtain ⟨k, hk⟩ : ∃ k, 65 - l.length = k + 1 := ⟨64 - l.length, by omega⟩
  have e1 : 64 - l.length = k := by omega
  have e2 : 65 - (d :: l).length = k := by simp; omega
  unfold rowC
  rw [hk, e1, write_last, e2]
  rfl

abbrev ffr (u : Nat) (k N : Nat) (u46 : AV) : Fr :=
  ⟨[(0, .nilsl), (1, .int .u64 u), (2, .int .i64 16), (3, .bool false), (4, .bool false), (10, .nilsl), (11, .str []), (28, .bool false), (30, .bool false), (34, .bool true), (15, .int .u64 16), (46, u46), (13, .int .i64 k), (16, .int .u64 15), (12, .ptr N 0 0), (14, .int .u64 4), (17, .undef), (68, .undef), (18, .undef), (89, .undef), (94, .undef)], [], .off⟩

theorem hexL_step {d u : Nat} (h : 16 ≤ u) (l : List UInt8) : hexL (d + 1) u ++ l = hexL d (u / 16) ++ dg (u % 16) :: l := by
  have e : hexL (d + 1) u = hexL d (u / 16) ++ [dg (u % 16)] := if_neg (by omega)
  rw [e, List.append_assoc]
  rfl

theorem fb_loop (M : Nat) (b : Bar) (N : Nat) (total : List UInt8) (hbw : b.w ≤ N) (hbe : b.es = []) {Q : Ex → Fr → Sg → Prop}
    (hend : ∀ (u : Nat) (l : List UInt8) (s : Sg) (u46 : AV), u < 16 → l.length < 60 → getCells s.heap N 0 = some (rowC l) → dg u :: l = total → Q (.exit 0) (ffr u (65 - l.length) N u46) s) :
    ∀ (d u L : Nat) (l : List UInt8) (s : Sg) (u46 : AV), u < 16 ^ (d + 1) → l.length + d < 10 → d + 1 ≤ L → getCells s.heap N 0 = some (rowC l) → hexL (d + 1) u ++ l = total →
      OkL L (fun fr s => ACode.run (loopN M) (callF T M) b lp53_0 fr s) (ffr u (65 - l.length) N u46) s Q := by
  intro d
  induction d with
  | zero =>
    intro u L l s u46 hu hl hL hc ht
    obtain ⟨L, rfl⟩ : ∃ L', L = L' + 1 := ⟨L - 1, by omega⟩
    have hu16 : u < 16 := by simpa using hu
    have e : hexL 1 u = [dg u] := if_pos hu16
    rw [e] at ht
    refine l_round ?_
    refine qqV ?_
    refine lV ?_
    exact c_exit (hend u l s _ hu16 (by omega) hc ht)
  | succ d ih =>
    intro u L l s u46 hu hl hL hc ht
    obtain ⟨L, rfl⟩ : ∃ L', L = L' + 1 := ⟨L - 1, by omega⟩
    have hub : u < 16 ^ 11 := Nat.lt_of_lt_of_le hu (Nat.pow_le_pow_right (show 0 < 16 by decide) (by omega))
    have hub : u < 17592186044416 := hub
    by_cases h16 : 16 ≤ u
    · have hq : u / 16 < 16 ^ (d + 1) := by rw [Nat.pow_succ] at hu; omega
      have hdg := (dg_cut ⟨u % 16, by omega⟩).2
      have hk : 65 - (dg (u % 16) :: l).length = 64 - l.length := by simp only [List.length_cons]; omega
      refine l_round ?_
      refine qqV ?_
      refine iV ?_
      refine c_skip ?_
      refine bV ?_
      refine qqV ?_
      refine qV ?_
      refine o_bin ((u % 16 : Nat) : Int) rfl rfl rfl (ev_and15 u (by omega)) ?_
      refine o_idxS (j := u % 16) rfl rfl rfl rfl hdg ?_
      refine o_ixA (64 - l.length) rfl rfl rfl (by omega) (by omega) ?_
      refine o_st (i := N) (g' := 0) (off := 0 + (64 - l.length) * 1) (l := [.int .u8 (dg (u % 16)).toNat]) rfl rfl rfl rfl hc rfl (lets_nil (blt_no hbw) hbe) (cs' := rowC (dg (u % 16) :: l)) (by rw [Nat.zero_add, Nat.mul_one]; exact row_put l _ (by omega)) ?_
      refine eV ?_
      refine qV ?_
      refine o_bin ((u / 16 : Nat) : Int) rfl rfl rfl (ev_shr4 u) ?_
      refine sV ?_
      refine eV ?_
      have hp : getCells (s.put N (.cells (rowC (dg (u % 16) :: l)) 0)).heap N 0 = some (rowC (dg (u % 16) :: l)) := getCells_put hc
      rw [hexL_step h16] at ht
      have hi := ih (u / 16) L (dg (u % 16) :: l) _ (.bool true) hq (by simp; omega) (by omega) hp ht
      rw [hk] at hi
      have ek : ((65 - l.length : Nat) : Int) - 1 = ((64 - l.length : Nat) : Int) := by omega
      show OkL L _ _ _ _
      rw [ek]
      exact hi
    · have e : hexL (d + 1 + 1) u = [dg u] := if_pos (by omega)
      rw [e] at ht
      refine l_round ?_
      refine qqV ?_
      refine lV ?_
      exact c_exit (hend u l s _ (by omega) (by omega) hc ht)

end Go.Vmm

namespace Go.Vmm
open Go Go.Am Go.Proofs

theorem two_spec (m : Nat) (b : Bar) (s : Sg) : callF T (m + 1) b 100 [.int .i64 16] s = some (.ret (.bool true), s) := by
  apply OkF.ret
  (apply f_wp rfl rfl; (repeat (first | exact Shape.nil | (apply Shape.cons; conv => lhs; whnf))))
  refine qqV ?_
  refine qV ?_
  refine o_bin 0 rfl rfl rfl (by kernel_rfl) ?_
  refine sV ?_
  refine eV ?_
  refine c_ret ?_
  exact fin_ret (.inl rfl) (read_tmp rfl read_nil) (leave_pure rfl rfl) ⟨rfl, rfl⟩

theorem tz64_spec (m : Nat) (b : Bar) (s : Sg) (hs : s.gl = glT) : callF T (m + 1) b 155 [.int .u64 16] s = some (.ret (.int .i64 4), s) := by
  apply OkF.ret
  (apply f_wp rfl rfl; (repeat (first | exact Shape.nil | (apply Shape.cons; conv => lhs; whnf))))
  refine qqV ?_
  refine qqV ?_
  refine lV ?_
  refine c_skip ?_
  refine qV ?_
  refine o_bin 16 rfl rfl rfl (by kernel_rfl) ?_
  refine o_bin 4573923408821661840 rfl rfl rfl (by kernel_rfl) ?_
  refine o_bin 15 rfl rfl rfl (by kernel_rfl) ?_
  refine o_w (v := .pin (.int .u8 4)) rfl (by simp only [evV, hs]; kernel_rfl) ?_
  refine sV ?_
  refine o_cv 4 rfl rfl (by decide) ?_
  refine sV ?_
  refine eV ?_
  refine c_ret ?_
  exact fin_ret (.inl rfl) (read_tmp rfl read_nil) (leave_pure rfl rfl) ⟨rfl, rfl⟩

theorem tz_spec (m : Nat) (b : Bar) (s : Sg) (hs : s.gl = glT) : callF T (m + 2) b 101 [.int .u64 16] s = some (.ret (.int .i64 4), s) := by
  apply OkF.ret
  (apply f_wp rfl rfl; (repeat (first | exact Shape.nil | (apply Shape.cons; conv => lhs; whnf))))
  refine qqV ?_
  refine lV ?_
  refine c_skip ?_
  refine qV ?_
  refine o_call rfl rfl (tz64_spec m _ s hs) ?_
  refine sV ?_
  refine eV ?_
  refine c_ret ?_
  exact fin_ret (.inl rfl) (read_tmp rfl read_nil) (leave_pure rfl rfl) ⟨rfl, rfl⟩

theorem drop_row (l : List UInt8) (k : Nat) : (List.replicate k z8 ++ Am.byteCells l).drop k = Am.byteCells l := by
  have : (List.replicate k z8).length = k := List.length_replicate
  rw [List.drop_append_of_le_length (by omega), List.drop_eq_nil_of_le (by omega)]
  rfl

theorem rowC_len {l : List UInt8} (h : l.length ≤ 65) : (rowC l).length = 65 := by
  unfold rowC
  rw [List.length_append, List.length_replicate, Am.byteCells_length]
  omega

theorem chunk_bytes : ∀ l : List UInt8, chunk l.length none (Am.byteCells l) = some (Am.byteCells l)
  | [] => rfl
  | c :: r => by
    show (chunk r.length none (Am.byteCells r)).bind _ = _
    rw [chunk_bytes r]
    rfl

theorem row_str {h : List AObj} {N : Nat} {l : List UInt8} {k n : Nat} (hc : getCells h N 0 = some (rowC l)) (hk : k = 65 - l.length) (hn : n = l.length) : evConvH h .bytesStr (.ms N 0 (0 + k * 1) n n 1) = some (.str l) := by
  subst hk hn
  have e : (rowC l).drop (0 + (65 - l.length) * 1) = Am.byteCells l := by
    rw [Nat.zero_add, Nat.mul_one]
    exact drop_row l _
  simp only [evConvH, elemsOf, hc, Option.bind_some, Option.getD_none, Nat.beq_refl, if_true, e, chunk_bytes, bytesOf_cells, Option.map_some]

theorem o_slA {call : CallFn} {b : Bar} {g : Option (Nat × Bool)} {r : List AOper} {loc : Env} {fr : Fr} {s : Sg} {Q : Ex → Env → Fr → Sg → Prop} {x y : AOpd} {t len h g' off sz : Nat} {k : IntKind} {z : Int} {cs : List AV} (i : Nat) (hc : getCells s.heap h g' = some cs) (hg : wantedA loc fr.pers g = some true) (hx : x.ev loc fr.pers = some (.ptr h g' off)) (hy : y.ev loc fr.pers = some (.int k z)) (hz : z = (i : Int)) (hi : i < len) (hl : off + len * sz ≤ cs.length)
    (hr : OkO call b r ((t, .ms h g' (off + i * sz) (len - i) (len - i) sz) :: loc) fr s Q) : OkO call b (⟨some t, .v (.sliceA len sz x (some y) none), g⟩ :: r) loc fr s Q := by
  subst hz
  refine o_w hg ?_ hr
  have h1 : bnd none len len = some len := rfl
  have h2 : bnd (some (.int k (i : Int))) 0 len = some i := bnd_nat (by omega)
  have h3 : Nat.ble len i = false := by
    cases h : Nat.ble len i
    · rfl
    · have := Nat.le_of_ble_eq_true h; omega
  have h4 : Nat.ble (off + len * sz) cs.length = true := Nat.ble_eq_true_of_le hl
  simp only [evV, hx, evOpt, hy, Option.map_some, Option.bind_some, hc, h1, h2, h3, h4]
  rfl

theorem fb_spec (m : Nat) (b : Bar) (u : Nat) (s : Sg) (hs : s.gl = glT) (hu : u < 16 ^ 6) : callF T (m + 12) b 53 [.nilsl, .int .u64 u, .int .i64 16, .bool false, .bool false] s = some (.ret (.tup [.nilsl, .str (hexL 6 u)]), s) := by
  apply OkF.ret
  (apply f_wp rfl rfl; (repeat (first | exact Shape.nil | (apply Shape.cons; conv => lhs; whnf))))
  refine qqV ?_
  refine qqV ?_
  refine lV ?_
  refine c_skip ?_
  refine qV ?_
  refine o_alloc rfl ?_
  refine sV ?_
  refine eV ?_
  refine qqV ?_
  refine qqV ?_
  refine lV ?_
  refine c_skip ?_
  refine qV ?_
  refine o_call rfl rfl (two_spec _ _ _) ?_
  refine sV ?_
  refine eV ?_
  refine iV ?_
  refine qV ?_
  refine o_cv 16 rfl rfl (by decide) ?_
  refine o_call rfl rfl (tz_spec _ _ _ hs) ?_
  refine o_cv 4 rfl rfl (by decide) ?_
  refine sV ?_
  refine eV ?_
  refine qV ?_
  refine o_cv 16 rfl rfl (by decide) ?_
  refine sV ?_
  refine eV ?_
  refine qV ?_
  refine o_cv 16 rfl rfl (by decide) ?_
  refine o_bin 15 rfl rfl rfl (by kernel_rfl) ?_
  refine sV ?_
  refine eV ?_
  refine bV ?_
  refine c_loop ?_
  refine fb_loop (m + 11) _ s.heap.length (hexL 6 u) (Nat.le_refl _) rfl (fun u' l s' u46 hu' hl hc ht => ?_) 5 u (m + 11) [] _ _ hu (by simp) (by omega) ((getCells_new s _ 0).trans (by rfl)) (List.append_nil _)
  have hdg := (dg_cut ⟨u', by omega⟩).2
  have hc2 : ∀ v, getCells (s'.put s.heap.length (.cells v 0)).heap s.heap.length 0 = some v := fun v => getCells_put hc
  refine qV ?_
  refine sV ?_
  refine eV ?_
  refine qV ?_
  refine o_idxS (j := u') rfl rfl rfl rfl hdg ?_
  refine o_ixA (64 - l.length) rfl rfl rfl (by omega) (by omega) ?_
  refine o_st (i := s.heap.length) (g' := 0) (off := 0 + (64 - l.length) * 1) (l := [.int .u8 (dg u').toNat]) rfl rfl rfl rfl hc rfl (lets_nil (blt_no (Nat.le_refl _)) rfl) (cs' := rowC (dg u' :: l)) (by rw [Nat.zero_add, Nat.mul_one]; exact row_put l _ (by omega)) ?_
  refine eV ?_
  refine qqV ?_
  refine lV ?_
  refine c_skip ?_
  refine qqV ?_
  refine lV ?_
  refine c_skip ?_
  refine qV ?_
  refine o_slA (64 - l.length) (hc2 _) rfl rfl rfl (by omega) (by omega) (by rw [rowC_len (by simp only [List.length_cons]; omega)]; omega) ?_
  refine o_w (v := .str (hexL 6 u)) rfl ?_ ?_
  · rw [← ht]
    exact row_str (hc2 _) (by simp only [List.length_cons]; omega) (by simp only [List.length_cons]; omega)
  refine sV ?_
  refine eV ?_
  refine c_ret ?_
  exact fin_ret (.inl rfl) (read_tmp rfl (read_tmp rfl read_nil)) (leave_pure rfl rfl) ⟨rfl, rfl⟩

end Go.Vmm

namespace Go.Vmm
open Go Go.Am Go.Proofs

theorem fint_spec (m : Nat) (b : Bar) (u : Nat) (s : Sg) (hs : s.gl = glT) (hu : u < 16 ^ 6) : callF T (m + 13) b 25 [.int .i64 (u : Int), .int .i64 16] s = some (.ret (.str (hexL 6 u)), s) := by
  have hub : u < 16777216 := hu
  apply OkF.ret
  (apply f_wp rfl rfl; (repeat (first | exact Shape.nil | (apply Shape.cons; conv => lhs; whnf))))
  refine qqV ?_
  refine qqV ?_
  refine lV ?_
  refine c_skip ?_
  refine qV ?_
  refine o_cv (u : Int) rfl rfl (wrap_u64 (by omega) (by omega)) ?_
  refine sV ?_
  refine o_call rfl rfl (fb_spec m _ u s hs hu) ?_
  refine sV ?_
  refine eV ?_
  refine qqV ?_
  refine c_ret ?_
  exact fin_ret (.inl rfl) (read_tmp rfl read_nil) (leave_pure rfl rfl) ⟨rfl, rfl⟩

theorem format_spec (m : Nat) (b : Bar) (u : Nat) (s : Sg) (hs : s.gl = glT) (hu : u < 16 ^ 6) : callF T (m + 14) b 11 [.int .i64 (u : Int), .int .i64 16] s = some (.ret (.str (hexL 6 u)), s) := by
  apply OkF.ret
  (apply f_wp rfl rfl; (repeat (first | exact Shape.nil | (apply Shape.cons; conv => lhs; whnf))))
  refine qqV ?_
  refine qV ?_
  refine o_call rfl rfl (fint_spec m _ u s hs hu) ?_
  refine sV ?_
  refine eV ?_
  refine c_ret ?_
  exact fin_ret (.inl rfl) (read_tmp rfl read_nil) (leave_pure rfl rfl) ⟨rfl, rfl⟩

end Go.Vmm
