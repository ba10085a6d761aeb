/-
  Sequences of UTF-8, by numbers; what the reference reads.
-/
import Derived.Test.YtpaebiddgpjlnabGreatDoorSqtA

/-
  Sequences of UTF-8: what is read of bytes by their bits, and what has those bytes as its own sequence, is the same.
-/
namespace Go.Vmm

/-- a byte that goes on -/
abbrev Cont (b : Int) : Prop := 128 ≤ b ∧ b < 192

/-- a code point's sequence -/
def seqI (c : Int) : List Int :=
  if c < 0 ∨ c > 1114111 ∨ (c ≥ 55296 ∧ c ≤ 57343) then []
  else if c < 128 then [c]
  else if c < 2048 then [192 + c / 64, 128 + c % 64]
  else if c < 65536 then [224 + c / 4096, 128 + c / 64 % 64, 128 + c % 64]
  else [240 + c / 262144, 128 + c / 4096 % 64, 128 + c / 64 % 64, 128 + c % 64]

theorem seq_none {c : Int} (h : c < 0 ∨ c > 1114111 ∨ (c ≥ 55296 ∧ c ≤ 57343)) : seqI c = [] := if_pos h
theorem seq_1 {c : Int} (h0 : 0 ≤ c) (h : c < 128) : seqI c = [c] := by unfold seqI; rw [if_neg (by omega), if_pos h]
theorem seq_2 {c : Int} (h0 : 128 ≤ c) (h : c < 2048) : seqI c = [192 + c / 64, 128 + c % 64] := by unfold seqI; rw [if_neg (by omega), if_neg (by omega), if_pos h]
theorem seq_3 {c : Int} (h0 : 2048 ≤ c) (h : c < 65536) (hs : ¬ (c ≥ 55296 ∧ c ≤ 57343)) : seqI c = [224 + c / 4096, 128 + c / 64 % 64, 128 + c % 64] := by unfold seqI; rw [if_neg (by omega), if_neg (by omega), if_neg (by omega), if_pos h]
theorem seq_4 {c : Int} (h0 : 65536 ≤ c) (h : c ≤ 1114111) : seqI c = [240 + c / 262144, 128 + c / 4096 % 64, 128 + c / 64 % 64, 128 + c % 64] := by unfold seqI; rw [if_neg (by omega), if_neg (by omega), if_neg (by omega), if_neg (by omega)]

theorem seq_cases (c : Int) : seqI c = [] ∨ (0 ≤ c ∧ c < 128) ∨ (128 ≤ c ∧ c < 2048) ∨ (2048 ≤ c ∧ c < 65536 ∧ ¬ (c ≥ 55296 ∧ c ≤ 57343)) ∨ (65536 ≤ c ∧ c ≤ 1114111) := by
  by_cases h : c < 0 ∨ c > 1114111 ∨ (c ≥ 55296 ∧ c ≤ 57343)
  · exact .inl (seq_none h)
  · omega

/-- the code point of bytes, if they are a sequence -/
def cand : List Int → Int
  | [a] => a
  | [a, b] => (a - 192) * 64 + b - 128
  | [a, b, c] => (a - 224) * 4096 + (b - 128) * 64 + c - 128
  | [a, b, c, d] => (a - 240) * 262144 + (b - 128) * 4096 + (c - 128) * 64 + d - 128
  | _ => -1

theorem is_1 {a : Int} (h0 : 0 ≤ a) : seqI a = [a] ↔ a < 128 := by
  constructor
  · intro h
    rcases seq_cases a with e | e | e | e | e
    · rw [e] at h; cases h
    · exact e.2
    · rw [seq_2 e.1 e.2] at h; simp at h
    · rw [seq_3 e.1 e.2.1 e.2.2] at h; simp at h
    · rw [seq_4 e.1 e.2] at h; simp at h
  · exact seq_1 h0

theorem is_2 {a b : Int} (ha : 0 ≤ a) (ha' : a < 256) (hb : 0 ≤ b) (hb' : b < 256) : seqI (cand [a, b]) = [a, b] ↔ 192 ≤ a ∧ a < 224 ∧ Cont b ∧ 128 ≤ (a - 192) * 64 + (b - 128) := by
  simp only [cand]
  constructor
  · intro h
    rcases seq_cases ((a - 192) * 64 + b - 128) with e | e | e | e | e
    · rw [e] at h; cases h
    · rw [seq_1 e.1 e.2] at h; simp at h
    · rw [seq_2 e.1 e.2] at h
      simp only [List.cons.injEq, and_true] at h
      refine ⟨?_, ?_, ⟨?_, ?_⟩, ?_⟩ <;> omega
    · rw [seq_3 e.1 e.2.1 e.2.2] at h; simp at h
    · rw [seq_4 e.1 e.2] at h; simp at h
  · rintro ⟨h1, h2, ⟨h3, h4⟩, h5⟩
    rw [seq_2 (by omega) (by omega)]
    simp only [List.cons.injEq, and_true]
    constructor <;> omega

theorem is_3 {a b c : Int} (ha : 0 ≤ a) (ha' : a < 256) (hb : 0 ≤ b) (hb' : b < 256) (hc : 0 ≤ c) (hc' : c < 256) : seqI (cand [a, b, c]) = [a, b, c] ↔ 224 ≤ a ∧ a < 240 ∧ Cont b ∧ Cont c ∧ 2048 ≤ (a - 224) * 4096 + (b - 128) * 64 + (c - 128) ∧ ¬ ((a - 224) * 4096 + (b - 128) * 64 + (c - 128) ≥ 55296 ∧ (a - 224) * 4096 + (b - 128) * 64 + (c - 128) ≤ 57343) := by
  simp only [cand]
  constructor
  · intro h
    rcases seq_cases ((a - 224) * 4096 + (b - 128) * 64 + c - 128) with e | e | e | e | e
    · rw [e] at h; cases h
    · rw [seq_1 e.1 e.2] at h; simp at h
    · rw [seq_2 e.1 e.2] at h; simp at h
    · rw [seq_3 e.1 e.2.1 e.2.2] at h
      simp only [List.cons.injEq, and_true] at h
      refine ⟨?_, ?_, ⟨?_, ?_⟩, ⟨?_, ?_⟩, ?_, ?_⟩ <;> omega
    · rw [seq_4 e.1 e.2] at h; simp at h
  · rintro ⟨h1, h2, ⟨h3, h4⟩, ⟨h5, h6⟩, h7, h8⟩
    rw [seq_3 (by omega) (by omega) (by omega)]
    simp only [List.cons.injEq, and_true]
    refine ⟨?_, ?_, ?_⟩ <;> omega

theorem is_4 {a b c d : Int} (ha : 0 ≤ a) (ha' : a < 256) (hb : 0 ≤ b) (hb' : b < 256) (hc : 0 ≤ c) (hc' : c < 256) (hd : 0 ≤ d) (hd' : d < 256) : seqI (cand [a, b, c, d]) = [a, b, c, d] ↔ 240 ≤ a ∧ a < 248 ∧ Cont b ∧ Cont c ∧ Cont d ∧ 65536 ≤ (a - 240) * 262144 + (b - 128) * 4096 + (c - 128) * 64 + (d - 128) ∧ (a - 240) * 262144 + (b - 128) * 4096 + (c - 128) * 64 + (d - 128) ≤ 1114111 := by
  simp only [cand]
  constructor
  · intro h
    rcases seq_cases ((a - 240) * 262144 + (b - 128) * 4096 + (c - 128) * 64 + d - 128) with e | e | e | e | e
    · rw [e] at h; cases h
    · rw [seq_1 e.1 e.2] at h; simp at h
    · rw [seq_2 e.1 e.2] at h; simp at h
    · rw [seq_3 e.1 e.2.1 e.2.2] at h; simp at h
    · rw [seq_4 e.1 e.2] at h
      simp only [List.cons.injEq, and_true] at h
      refine ⟨?_, ?_, ⟨?_, ?_⟩, ⟨?_, ?_⟩, ⟨?_, ?_⟩, ?_, ?_⟩ <;> omega
  · rintro ⟨h1, h2, ⟨h3, h4⟩, ⟨h5, h6⟩, ⟨h7, h8⟩, h9, h10⟩
    rw [seq_4 (by omega) (by omega)]
    simp only [List.cons.injEq, and_true]
    refine ⟨?_, ?_, ?_, ?_⟩ <;> omega

-- ---------------------------------------------------------------- bits

theorem shl_or {c x : Nat} (hx : x < 64) : c * 64 ||| x = c * 64 + x := by
  have := Nat.shiftLeft_add_eq_or_of_lt (i := 6) (b := x) (by simpa using hx) c
  rw [Nat.shiftLeft_eq] at this
  exact this.symm

theorem and63 (x : Nat) : x &&& 63 = x % 64 := Nat.and_two_pow_sub_one_eq_mod x 6

theorem and15 (x : Nat) : x &&& 15 = x % 16 := Nat.and_two_pow_sub_one_eq_mod x 4

/-- what is read of bytes, by their bits: the code point, and how many; none: 0 -/
def dec : List Int → Int × Int
  | [] => (0, 0)
  | a :: r => if a < 128 then (a, 1) else if a < 192 then (0, 0)
    else if a < 224 then (match r with
      | b :: _ => if Cont b ∧ 128 ≤ (a - 192) * 64 + (b - 128) then ((a - 192) * 64 + (b - 128), 2) else (0, 0)
      | _ => (0, 0))
    else if a < 240 then (match r with
      | b :: c :: _ => if Cont b ∧ Cont c ∧ 2048 ≤ (a - 224) * 4096 + (b - 128) * 64 + (c - 128) ∧ ¬ ((a - 224) * 4096 + (b - 128) * 64 + (c - 128) ≥ 55296 ∧ (a - 224) * 4096 + (b - 128) * 64 + (c - 128) ≤ 57343) then ((a - 224) * 4096 + (b - 128) * 64 + (c - 128), 3) else (0, 0)
      | _ => (0, 0))
    else if a < 248 then (match r with
      | b :: c :: d :: _ => if Cont b ∧ Cont c ∧ Cont d ∧ 65536 ≤ (a - 240) * 262144 + (b - 128) * 4096 + (c - 128) * 64 + (d - 128) ∧ (a - 240) * 262144 + (b - 128) * 4096 + (c - 128) * 64 + (d - 128) ≤ 1114111 then ((a - 240) * 262144 + (b - 128) * 4096 + (c - 128) * 64 + (d - 128), 4) else (0, 0)
      | _ => (0, 0))
    else (0, 0)

end Go.Vmm

namespace Go.Vmm
open Go Go.Am Go.Proofs

-- ---------------------------------------------------------------- numbers

theorem wrap_u8 {n : Int} (h0 : 0 ≤ n) (h1 : n < 256) : IntKind.u8.wrap n = n := by
  simp only [IntKind.wrap, IntKind.signed, IntKind.bits]
  simp
  omega

section
variable {call : CallFn} {b : Bar} {g : Option (Nat × Bool)} {r : List AOper} {loc : Env} {fr : Fr} {s : Sg} {Q : Ex → Env → Fr → Sg → Prop} {x y : AOpd} {t : Nat} {k k' : IntKind} {a c : Int}

theorem o_bin {op : BinOp} (z : Int) (hg : wantedA loc fr.pers g = some true) (hx : x.ev loc fr.pers = some (.int k a)) (hy : y.ev loc fr.pers = some (.int k' c)) (h : evBin op (.int k a) (.int k' c) = some (.int k z)) (hr : OkO call b r ((t, .int k z) :: loc) fr s Q) : OkO call b (⟨some t, .v (.bin op x y), g⟩ :: r) loc fr s Q := by
  refine o_w hg ?_ hr
  simp only [evV, hx, hy, Option.bind_some, h]

theorem o_cv (z : Int) (hg : wantedA loc fr.pers g = some true) (hx : x.ev loc fr.pers = some (.int k' a)) (h : k.wrap a = z) (hr : OkO call b r ((t, .int k z) :: loc) fr s Q) : OkO call b (⟨some t, .v (.conv (.intInt k) x), g⟩ :: r) loc fr s Q := by
  refine o_w hg ?_ hr
  simp only [evV, hx, Option.bind_some, evConvH, evConv, h]
end

theorem ev_quo {a c : Int} (ha : 0 ≤ a) (ha' : a < 2 ^ 63) (hc : 0 < c) : evBin .quo (.int .i64 a) (.int .i64 c) = some (.int .i64 (a / c)) := by
  have h1 : a.tdiv c = a / c := Int.tdiv_eq_ediv_of_nonneg ha
  have h2 : 0 ≤ a / c := Int.ediv_nonneg ha (Int.le_of_lt hc)
  have h3 : a / c ≤ a := Int.ediv_le_self _ ha
  simp only [evBin, intBin, if_true, if_neg (show ¬ c = 0 by omega), h1]
  rw [wrap_i64 (by omega) (by omega)]

theorem ev_rem {a c : Int} (ha : 0 ≤ a) (hc : 0 < c) : evBin .rem (.int .i64 a) (.int .i64 c) = some (.int .i64 (a % c)) := by
  have h1 : a.tmod c = a % c := Int.tmod_eq_emod_of_nonneg ha
  simp only [evBin, intBin, if_true, if_neg (show ¬ c = 0 by omega), h1]

-- ---------------------------------------------------------------- sequences

def seqB (c : Int) : List UInt8 := (seqI c).map fun n => UInt8.ofNat n.toNat

theorem u8_cell {n : Int} (h0 : 0 ≤ n) (h1 : n < 256) : AV.int .u8 (((UInt8.ofNat n.toNat).toNat : Nat) : Int) = .int .u8 n := by
  have : (UInt8.ofNat n.toNat).toNat = n.toNat := by
    simp [UInt8.toNat_ofNat']
    omega
  rw [this]
  congr 1
  omega

/-- what a code point's sequence comes to -/
def seqV (c : Int) : AV := if seqI c = [] then .nilsl else .vec (Am.byteCells (seqB c)) .shut

theorem lay_vec {h : List AObj} {b : Nat} {es : List AV} {tl : Tail} {a : ARes} (ho : AV.oldAll b es = true) : lay h b [.vec es tl] [a] = some [.vec es .shut] := by
  have h1 : (AV.vec es tl).weak.old b = true := by simp only [AV.weak, AV.old, ho, Bool.and_self]
  have h2 := layOne_old (h := h) (k := a.el) h1 (fun i g off len cp sz e => by cases e)
  have h3 : layRes h b a (.vec es tl) = some (.vec es .shut) := by
    unfold layRes
    rw [if_neg (by simp [AV.isNilsl])]
    exact h2
  simp only [lay, h3, Option.bind_some]

theorem seqB_cells {c : Int} (hb : ∀ n ∈ seqI c, 0 ≤ n ∧ n < 256) : Am.byteCells (seqB c) = (seqI c).map (AV.int .u8) := by
  unfold seqB Am.byteCells
  rw [List.map_map]
  refine List.map_congr_left fun n hn => ?_
  exact u8_cell (hb n hn).1 (hb n hn).2

theorem seqV_of {c : Int} {l : List Int} (h : seqI c = l) (hne : l ≠ []) (hb : ∀ n ∈ l, 0 ≤ n ∧ n < 256) : seqV c = .vec (l.map (AV.int .u8)) .shut := by
  unfold seqV
  rw [if_neg (by rw [h]; exact hne), seqB_cells (by rw [h]; exact hb), h]

theorem seq_spec (m : Nat) (b : Bar) (c : Int) (s : Sg) (h0 : -(2 ^ 40) < c) (h1 : c < 2 ^ 40) : callF T (m + 1) b 102 [.int .i64 c] s = some (.ret (seqV c), s) := by
  apply OkF.ret
  by_cases hn : c < 0 ∨ c > 1114111 ∨ (c ≥ 55296 ∧ c ≤ 57343)
  · have e : seqV c = .nilsl := if_pos (seq_none hn)
    rw [e]
    by_cases h2 : c < 0
    · (apply f_wp rfl rfl; (repeat (first | exact Shape.nil | (apply Shape.cons; conv => lhs; whnf))))
      refine qqV ?_
      refine qqV ?_
      refine iV ?_
      refine qqV ?_
      refine c_ret ?_
      exact fin_ret (.inl rfl) (read_tmp rfl read_nil) (leave_pure rfl rfl) ⟨rfl, rfl⟩
    · by_cases h3 : c > 1114111
      · (apply f_wp rfl rfl; (repeat (first | exact Shape.nil | (apply Shape.cons; conv => lhs; whnf))))
        refine qqV ?_
        refine qqV ?_
        refine iV ?_
        refine qqV ?_
        refine c_ret ?_
        exact fin_ret (.inl rfl) (read_tmp rfl read_nil) (leave_pure rfl rfl) ⟨rfl, rfl⟩
      · have h4 : c ≥ 55296 := by omega
        have h5 : c ≤ 57343 := by omega
        (apply f_wp rfl rfl; (repeat (first | exact Shape.nil | (apply Shape.cons; conv => lhs; whnf))))
        refine qqV ?_
        refine qqV ?_
        refine iV ?_
        refine qqV ?_
        refine c_ret ?_
        exact fin_ret (.inl rfl) (read_tmp rfl read_nil) (leave_pure rfl rfl) ⟨rfl, rfl⟩
  · have h2 : ¬ c < 0 := by omega
    have h3 : ¬ c > 1114111 := by omega
    by_cases h4 : c < 128
    · rw [seqV_of (seq_1 (by omega) h4) (by simp) (by intro n hn; simp at hn; omega)]
      (apply f_wp rfl rfl; (repeat (first | exact Shape.nil | (apply Shape.cons; conv => lhs; whnf))))
      refine qqV ?_
      refine qqV ?_
      refine lV ?_
      refine c_skip ?_
      refine qqV ?_
      refine iV ?_
      refine qV ?_
      refine o_cv c rfl rfl (wrap_u8 (by omega) (by omega)) ?_
      refine sV ?_
      refine eV ?_
      refine c_ret ?_
      exact fin_ret (.inl rfl) (read_tmp rfl read_nil) (leave_pure (lay_vec rfl) rfl) ⟨rfl, rfl⟩
    by_cases h5 : c < 2048
    · rw [seqV_of (seq_2 (by omega) h5) (by simp) (by intro n hn; simp at hn; omega)]
      (apply f_wp rfl rfl; (repeat (first | exact Shape.nil | (apply Shape.cons; conv => lhs; whnf))))
      refine qqV ?_
      refine qqV ?_
      refine lV ?_
      refine c_skip ?_
      refine qqV ?_
      refine lV ?_
      refine c_skip ?_
      refine qqV ?_
      refine iV ?_
      refine qV ?_
      refine o_bin (c / 64) rfl rfl rfl (ev_quo (by omega) (by omega) (by decide)) ?_
      refine sV ?_
      refine o_cv (192 + c / 64) rfl rfl (wrap_u8 (by omega) (by omega)) ?_
      refine sV ?_
      refine o_bin (c % 64) rfl rfl rfl (ev_rem (by omega) (by decide)) ?_
      refine sV ?_
      refine o_cv (128 + c % 64) rfl rfl (wrap_u8 (by omega) (by omega)) ?_
      refine sV ?_
      refine eV ?_
      refine c_ret ?_
      exact fin_ret (.inl rfl) (read_tmp rfl read_nil) (leave_pure (lay_vec rfl) rfl) ⟨rfl, rfl⟩
    by_cases h6 : c < 65536
    · rw [seqV_of (seq_3 (by omega) h6 (by omega)) (by simp) (by intro n hn; simp at hn; omega)]
      (apply f_wp rfl rfl; (repeat (first | exact Shape.nil | (apply Shape.cons; conv => lhs; whnf))))
      refine qqV ?_
      by_cases h7 : c ≥ 55296
      · have h8 : ¬ c ≤ 57343 := by omega
        refine qqV ?_
        refine lV ?_
        refine c_skip ?_
        refine qqV ?_
        refine lV ?_
        refine c_skip ?_
        refine qqV ?_
        refine lV ?_
        refine c_skip ?_
        refine qqV ?_
        refine iV ?_
        refine qV ?_
        refine o_bin (c / 4096) rfl rfl rfl (ev_quo (by omega) (by omega) (by decide)) ?_
        refine sV ?_
        refine o_cv (224 + c / 4096) rfl rfl (wrap_u8 (by omega) (by omega)) ?_
        refine sV ?_
        refine o_bin (c / 64) rfl rfl rfl (ev_quo (by omega) (by omega) (by decide)) ?_
        refine o_bin (c / 64 % 64) rfl rfl rfl (ev_rem (by omega) (by decide)) ?_
        refine sV ?_
        refine o_cv (128 + c / 64 % 64) rfl rfl (wrap_u8 (by omega) (by omega)) ?_
        refine sV ?_
        refine o_bin (c % 64) rfl rfl rfl (ev_rem (by omega) (by decide)) ?_
        refine sV ?_
        refine o_cv (128 + c % 64) rfl rfl (wrap_u8 (by omega) (by omega)) ?_
        refine sV ?_
        refine eV ?_
        refine c_ret ?_
        exact fin_ret (.inl rfl) (read_tmp rfl read_nil) (leave_pure (lay_vec rfl) rfl) ⟨rfl, rfl⟩
      · refine qqV ?_
        refine lV ?_
        refine c_skip ?_
        refine qqV ?_
        refine lV ?_
        refine c_skip ?_
        refine qqV ?_
        refine lV ?_
        refine c_skip ?_
        refine qqV ?_
        refine iV ?_
        refine qV ?_
        refine o_bin (c / 4096) rfl rfl rfl (ev_quo (by omega) (by omega) (by decide)) ?_
        refine sV ?_
        refine o_cv (224 + c / 4096) rfl rfl (wrap_u8 (by omega) (by omega)) ?_
        refine sV ?_
        refine o_bin (c / 64) rfl rfl rfl (ev_quo (by omega) (by omega) (by decide)) ?_
        refine o_bin (c / 64 % 64) rfl rfl rfl (ev_rem (by omega) (by decide)) ?_
        refine sV ?_
        refine o_cv (128 + c / 64 % 64) rfl rfl (wrap_u8 (by omega) (by omega)) ?_
        refine sV ?_
        refine o_bin (c % 64) rfl rfl rfl (ev_rem (by omega) (by decide)) ?_
        refine sV ?_
        refine o_cv (128 + c % 64) rfl rfl (wrap_u8 (by omega) (by omega)) ?_
        refine sV ?_
        refine eV ?_
        refine c_ret ?_
        exact fin_ret (.inl rfl) (read_tmp rfl read_nil) (leave_pure (lay_vec rfl) rfl) ⟨rfl, rfl⟩
    · rw [seqV_of (seq_4 (by omega) (by omega)) (by simp) (by intro n hn; simp at hn; omega)]
      have h7 : c ≥ 55296 := by omega
      have h8 : ¬ c ≤ 57343 := by omega
      (apply f_wp rfl rfl; (repeat (first | exact Shape.nil | (apply Shape.cons; conv => lhs; whnf))))
      refine qqV ?_
      refine qqV ?_
      refine lV ?_
      refine c_skip ?_
      refine qqV ?_
      refine lV ?_
      refine c_skip ?_
      refine qqV ?_
      refine lV ?_
      refine c_skip ?_
      refine qqV ?_
      refine lV ?_
      refine c_skip ?_
      refine qV ?_
      refine o_bin (c / 262144) rfl rfl rfl (ev_quo (by omega) (by omega) (by decide)) ?_
      refine sV ?_
      refine o_cv (240 + c / 262144) rfl rfl (wrap_u8 (by omega) (by omega)) ?_
      refine sV ?_
      refine o_bin (c / 4096) rfl rfl rfl (ev_quo (by omega) (by omega) (by decide)) ?_
      refine o_bin (c / 4096 % 64) rfl rfl rfl (ev_rem (by omega) (by decide)) ?_
      refine sV ?_
      refine o_cv (128 + c / 4096 % 64) rfl rfl (wrap_u8 (by omega) (by omega)) ?_
      refine sV ?_
      refine o_bin (c / 64) rfl rfl rfl (ev_quo (by omega) (by omega) (by decide)) ?_
      refine o_bin (c / 64 % 64) rfl rfl rfl (ev_rem (by omega) (by decide)) ?_
      refine sV ?_
      refine o_cv (128 + c / 64 % 64) rfl rfl (wrap_u8 (by omega) (by omega)) ?_
      refine sV ?_
      refine o_bin (c % 64) rfl rfl rfl (ev_rem (by omega) (by decide)) ?_
      refine sV ?_
      refine o_cv (128 + c % 64) rfl rfl (wrap_u8 (by omega) (by omega)) ?_
      refine sV ?_
      refine eV ?_
      refine c_ret ?_
      exact fin_ret (.inl rfl) (read_tmp rfl read_nil) (leave_pure (lay_vec rfl) rfl) ⟨rfl, rfl⟩

end Go.Vmm

namespace Go.Vmm
open Go Go.Am Go.Proofs

/-- a part of function 54 -/
def of54t : ACode := .seq (.seq (.drawn [Mv 75 3, Cl 76 102 [Tm 75], Vv 77 (.conv .bytesStr (.tmp 76)), Mv 78 0, Vv 79 (.conv .bytesStr (.tmp 78)), Bn 80 .neq 77 79, Mv 81 80, Gf 82 81 (.move (.tmp 0)), Gf 83 81 (.len 1 (.tmp 82)), Gf 84 81 (.bin .eql (.tmp 83) (Ci 0)), Vv 85 (.pick (.tmp 81) (.const (.bool true)) (.tmp 84))] [85] [] false 0) (.cond (.tmp 85) (.seq (.region [⟨some 2, .v (.move (.const (.int .i64 (-1)))), none⟩] [2]) (.ret)) (.skip))) (.seq (.region [Mv 86 3, Mv 2 86] [2]) (.ret))

def ints (l : List UInt8) : List Int := l.map fun c => ((c.toNat : Nat) : Int)

/-- the code point of bytes that are a sequence; below 0: they are none -/
def ofI (l : List Int) : Int := if seqI (cand l) = l then cand l else -1

theorem bytesOf_cells : ∀ l : List UInt8, bytesOf (Am.byteCells l) = some l
  | [] => rfl
  | c :: r => by
    show (bytesOf (Am.byteCells r)).bind _ = _
    rw [bytesOf_cells r]
    simp

theorem seqV_str {h : List AObj} (c : Int) (hb : ∀ n ∈ seqI c, 0 ≤ n ∧ n < 256) : evConvH h .bytesStr (seqV c) = some (.str (seqB c)) := by
  unfold seqV
  split
  · rename_i e
    unfold seqB
    rw [e]
    rfl
  · simp only [evConvH, evConv, bytesOf_cells, Option.map_some]

theorem seq_range (c : Int) : ∀ n ∈ seqI c, 0 ≤ n ∧ n < 256 := by
  intro n hn
  rcases seq_cases c with e | e | e | e | e
  · rw [e] at hn; cases hn
  · rw [seq_1 e.1 e.2] at hn; simp at hn; omega
  · rw [seq_2 e.1 e.2] at hn; simp at hn; omega
  · rw [seq_3 e.1 e.2.1 e.2.2] at hn; simp at hn; omega
  · rw [seq_4 e.1 e.2] at hn; simp at hn; omega

theorem ints_seqB (c : Int) : ints (seqB c) = seqI c := by
  unfold ints seqB
  rw [List.map_map]
  conv => rhs; rw [← List.map_id (seqI c)]
  refine List.map_congr_left fun n hn => ?_
  have := seq_range c n hn
  simp only [Function.comp, id]
  have h : (UInt8.ofNat n.toNat).toNat = n.toNat := by
    simp [UInt8.toNat_ofNat']
    omega
  rw [h]
  omega

theorem ints_inj : ∀ {a b : List UInt8}, ints a = ints b → a = b
  | [], [], _ => rfl
  | [], _ :: _, h => by simp [ints] at h
  | _ :: _, [], h => by simp [ints] at h
  | x :: a, y :: b, h => by
    simp only [ints, List.map_cons, List.cons.injEq] at h
    have h1 : x.toNat = y.toNat := by omega
    rw [UInt8.toNat_inj.1 h1, ints_inj (a := a) (b := b) h.2]

theorem seqB_eq {c : Int} {l : List UInt8} : seqB c = l ↔ seqI c = ints l := by
  rw [← ints_seqB]
  exact ⟨fun h => by rw [h], ints_inj⟩

theorem of_tail (m : Nat) (b : Bar) (l : List UInt8) (tl : Tail) (c : Int) (s : Sg) (u5 u6 u12 u26 u47 : AV) (h0 : -(2 ^ 40) < c) (h1 : c < 2 ^ 40) (hl : l ≠ []) (hc : c = cand (ints l)) {Q : Ex → Fr → Sg → Prop}
    (hq : ∀ pers, Env.get pers 2 = .int .i64 (ofI (ints l)) → Q .ret ⟨pers, [], .off⟩ s) :
    OkC (loopN (m + 1)) (callF T (m + 1)) b of54t ⟨[(0, .vec (Am.byteCells l) tl), (2, .int .i64 0), (5, u5), (6, u6), (12, u12), (26, u26), (47, u47), (3, .int .i64 c), (85, .undef)], [], .off⟩ s Q := by
  have hbl := Am.byteCells_length l
  have hlp : 0 < l.length := List.length_pos_iff.2 hl
  refine c_seq ?_
  refine c_seq ?_
  refine c_drawn ?_
  refine sV ?_
  refine o_call rfl rfl (seq_spec m _ c s h0 h1) ?_
  refine o_w (v := .str (seqB c)) rfl ?_ ?_
  · simp only [evV, AOpd.ev, Env.look, Nat.beq_refl, if_true]
    show ((seqV c).def?).bind _ = _
    have : (seqV c).def? = some (seqV c) := by unfold seqV; split <;> rfl
    rw [this]
    exact seqV_str c (seq_range c)
  refine sV ?_
  refine o_bs (l := l) rfl rfl (bytesOf_cells l) ?_
  by_cases e : seqB c = l
  · have eI : ofI (ints l) = c := by
      unfold ofI
      rw [← hc, if_pos (seqB_eq.1 e)]
    rw [eI] at hq
    refine o_w (v := .bool false) rfl ?_ ?_
    · show strBin .neq (seqB c) l = _
      simp [strBin, e]
    refine sV ?_
    refine dV ?_
    refine lV ?_
    refine c_skip ?_
    refine qqV ?_
    exact c_ret (hq _ rfl)
  · have eI : ofI (ints l) = -1 := by
      unfold ofI
      rw [← hc, if_neg (fun h => e (seqB_eq.2 h))]
    rw [eI] at hq
    refine o_w (v := .bool true) rfl ?_ ?_
    · show strBin .neq (seqB c) l = _
      simp [strBin, e]
    refine sV ?_
    refine dV ?_
    refine iV ?_
    refine qqV ?_
    exact c_ret (hq _ rfl)

end Go.Vmm

namespace Go.Vmm
open Go Go.Am Go.Proofs

theorem u8_lt (c : UInt8) : ((c.toNat : Nat) : Int) < 256 := by have := c.toNat_lt; omega


theorem of_1 (m : Nat) (b : Bar) (a : UInt8) (tl : Tail) (s : Sg) : callF T (m + 2) b 54 [.vec (Am.byteCells [a]) tl] s = some (.ret (.int .i64 (ofI (ints [a]))), s) := by
  have ha := u8_lt a
  apply OkF.ret
  (apply f_wp rfl rfl; (repeat (first | exact Shape.nil | (apply Shape.cons; conv => lhs; whnf))))
  refine qqV ?_
  refine qqV ?_
  refine c_seq ?_
  refine c_seq ?_
  refine qqV ?_
  refine bV ?_
  refine qqV ?_
  refine iV ?_
  refine qV ?_
  refine o_ixvec (j := 0) rfl rfl rfl rfl rfl rfl ?_
  refine sV ?_
  refine o_cv (a.toNat : Int) rfl rfl (wrap_i64 (by omega) (by omega)) ?_
  refine sV ?_
  refine eV ?_
  refine of_tail m _ _ tl _ s _ _ _ _ _ (by simp only [cand, ints, List.map]; omega) (by simp only [cand, ints, List.map]; omega) (by simp) rfl fun pers hp => ?_
  exact fin_ret (.inl rfl) (read_tmp (by rw [hp]; rfl) read_nil) (leave_pure rfl rfl) ⟨rfl, rfl⟩

theorem of_2 (m : Nat) (b : Bar) (a a2 : UInt8) (tl : Tail) (s : Sg) : callF T (m + 2) b 54 [.vec (Am.byteCells [a, a2]) tl] s = some (.ret (.int .i64 (ofI (ints [a, a2]))), s) := by
  have ha := u8_lt a
  have ha2 := u8_lt a2
  apply OkF.ret
  (apply f_wp rfl rfl; (repeat (first | exact Shape.nil | (apply Shape.cons; conv => lhs; whnf))))
  refine qqV ?_
  refine qqV ?_
  refine c_seq ?_
  refine c_seq ?_
  refine qqV ?_
  refine bV ?_
  refine qqV ?_
  refine lV ?_
  refine qqV ?_
  refine iV ?_
  refine dqV ?_
  refine o_ixvec (j := 0) rfl rfl rfl rfl rfl rfl ?_
  refine sV ?_
  refine o_cv (a.toNat : Int) rfl rfl (wrap_i64 (by omega) (by omega)) ?_
  refine sV ?_
  refine o_ixvec (j := 1) rfl rfl rfl rfl rfl rfl ?_
  refine sV ?_
  refine o_cv (a2.toNat : Int) rfl rfl (wrap_i64 (by omega) (by omega)) ?_
  refine sV ?_
  refine dV ?_
  refine of_tail m _ _ tl _ s _ _ _ _ _ (by simp only [cand, ints, List.map]; omega) (by simp only [cand, ints, List.map]; omega) (by simp) rfl fun pers hp => ?_
  exact fin_ret (.inl rfl) (read_tmp (by rw [hp]; rfl) read_nil) (leave_pure rfl rfl) ⟨rfl, rfl⟩

theorem of_3 (m : Nat) (b : Bar) (a a2 a3 : UInt8) (tl : Tail) (s : Sg) : callF T (m + 2) b 54 [.vec (Am.byteCells [a, a2, a3]) tl] s = some (.ret (.int .i64 (ofI (ints [a, a2, a3]))), s) := by
  have ha := u8_lt a
  have ha2 := u8_lt a2
  have ha3 := u8_lt a3
  apply OkF.ret
  (apply f_wp rfl rfl; (repeat (first | exact Shape.nil | (apply Shape.cons; conv => lhs; whnf))))
  refine qqV ?_
  refine qqV ?_
  refine c_seq ?_
  refine c_seq ?_
  refine qqV ?_
  refine bV ?_
  refine qqV ?_
  refine lV ?_
  refine qqV ?_
  refine lV ?_
  refine qqV ?_
  refine iV ?_
  refine dqV ?_
  refine o_ixvec (j := 0) rfl rfl rfl rfl rfl rfl ?_
  refine sV ?_
  refine o_cv (a.toNat : Int) rfl rfl (wrap_i64 (by omega) (by omega)) ?_
  refine sV ?_
  refine o_ixvec (j := 1) rfl rfl rfl rfl rfl rfl ?_
  refine sV ?_
  refine o_cv (a2.toNat : Int) rfl rfl (wrap_i64 (by omega) (by omega)) ?_
  refine sV ?_
  refine o_ixvec (j := 2) rfl rfl rfl rfl rfl rfl ?_
  refine sV ?_
  refine o_cv (a3.toNat : Int) rfl rfl (wrap_i64 (by omega) (by omega)) ?_
  refine sV ?_
  refine dV ?_
  refine of_tail m _ _ tl _ s _ _ _ _ _ (by simp only [cand, ints, List.map]; omega) (by simp only [cand, ints, List.map]; omega) (by simp) rfl fun pers hp => ?_
  exact fin_ret (.inl rfl) (read_tmp (by rw [hp]; rfl) read_nil) (leave_pure rfl rfl) ⟨rfl, rfl⟩

theorem of_4 (m : Nat) (b : Bar) (a a2 a3 a4 : UInt8) (tl : Tail) (s : Sg) : callF T (m + 2) b 54 [.vec (Am.byteCells [a, a2, a3, a4]) tl] s = some (.ret (.int .i64 (ofI (ints [a, a2, a3, a4]))), s) := by
  have ha := u8_lt a
  have ha2 := u8_lt a2
  have ha3 := u8_lt a3
  have ha4 := u8_lt a4
  apply OkF.ret
  (apply f_wp rfl rfl; (repeat (first | exact Shape.nil | (apply Shape.cons; conv => lhs; whnf))))
  refine qqV ?_
  refine qqV ?_
  refine c_seq ?_
  refine c_seq ?_
  refine qqV ?_
  refine bV ?_
  refine qqV ?_
  refine lV ?_
  refine qqV ?_
  refine lV ?_
  refine qqV ?_
  refine lV ?_
  refine qqV ?_
  refine iV ?_
  refine dqV ?_
  refine o_ixvec (j := 0) rfl rfl rfl rfl rfl rfl ?_
  refine sV ?_
  refine o_cv (a.toNat : Int) rfl rfl (wrap_i64 (by omega) (by omega)) ?_
  refine sV ?_
  refine o_ixvec (j := 1) rfl rfl rfl rfl rfl rfl ?_
  refine sV ?_
  refine o_cv (a2.toNat : Int) rfl rfl (wrap_i64 (by omega) (by omega)) ?_
  refine sV ?_
  refine o_ixvec (j := 2) rfl rfl rfl rfl rfl rfl ?_
  refine sV ?_
  refine o_cv (a3.toNat : Int) rfl rfl (wrap_i64 (by omega) (by omega)) ?_
  refine sV ?_
  refine o_ixvec (j := 3) rfl rfl rfl rfl rfl rfl ?_
  refine sV ?_
  refine o_cv (a4.toNat : Int) rfl rfl (wrap_i64 (by omega) (by omega)) ?_
  refine sV ?_
  refine dV ?_
  refine of_tail m _ _ tl _ s _ _ _ _ _ (by simp only [cand, ints, List.map]; omega) (by simp only [cand, ints, List.map]; omega) (by simp) rfl fun pers hp => ?_
  exact fin_ret (.inl rfl) (read_tmp (by rw [hp]; rfl) read_nil) (leave_pure rfl rfl) ⟨rfl, rfl⟩

end Go.Vmm

namespace Go.Vmm
open Go Go.Am Go.Proofs

/-- the loop 0 of function 26 -/
def lp26_0 : ACode := .seq (.seq (.region [Mv 8 6, Bc 9 .leq 8 4, Mv 10 9, Gt 11 10 (.move (.tmp 1)), Gt 12 10 (.move (.tmp 6)), Gt 13 10 (.bin .add (.tmp 11) (.tmp 12)), Gt 14 10 (.move (.tmp 0)), Gt 15 10 (.len 1 (.tmp 14)), Gt 16 10 (.bin .leq (.tmp 13) (.tmp 15)), Vv 17 (.pick (.tmp 10) (.tmp 16) (.const (.bool false)))] [17]) (.cond (.tmp 17) (.skip) (.exit 0))) (.seq (.block 1 (.seq (.region [Mv 20 0, Mv 21 1, Mv 22 1, Mv 23 6, Bn 24 .add 22 23, Vv 25 (.slice 1 (.tmp 20) (some (.tmp 21)) (some (.tmp 24)) none), Cl 26 54 [Tm 25], Mv 7 26] [7]) (.seq (.region [Mv 27 7, Bc 28 .geq 27 0] [28]) (.cond (.tmp 28) (.seq (.region [Mv 29 7, Mv 30 6, Mv 4 29, Mv 5 30] [4, 5]) (.ret)) (.skip))))) (.region [Mv 18 6, Bc 19 .add 18 1, Mv 6 19] [6]))

theorem of_spec (m : Nat) (b : Bar) (l : List UInt8) (tl : Tail) (s : Sg) (h1 : 1 ≤ l.length) (h4 : l.length ≤ 4) : callF T (m + 2) b 54 [.vec (Am.byteCells l) tl] s = some (.ret (.int .i64 (ofI (ints l))), s) := by
  match l, h1, h4 with
  | [a], _, _ => exact of_1 m b a tl s
  | [a, c], _, _ => exact of_2 m b a c tl s
  | [a, c, d], _, _ => exact of_3 m b a c d tl s
  | [a, c, d, e], _, _ => exact of_4 m b a c d e tl s

/-- the first sequence that begins there -/
def atGo (r : List Int) : Nat → Nat → Int × Int
  | 0, _ => (-1, 0)
  | d + 1, n => if n ≤ r.length then (if 0 ≤ ofI (r.take n) then (ofI (r.take n), (n : Int)) else atGo r d (n + 1)) else (-1, 0)

abbrev afr (t : List UInt8) (tl : Tail) (at_ n : Nat) (u17 u7 u28 : AV) : Fr :=
  ⟨[(0, .vec (Am.byteCells t) tl), (1, .int .i64 at_), (4, .int .i64 0), (5, .int .i64 0), (6, .int .i64 n), (17, u17), (7, u7), (28, u28)], [], .off⟩

theorem bc_get {l : List UInt8} {j : Nat} {c : UInt8} (h : l[j]? = some c) : (Am.byteCells l)[j]? = some (.int .u8 c.toNat) := by rw [Am.byteCells_get, h]; rfl
theorem bc_drop (t : List UInt8) (i : Nat) : (Am.byteCells t).drop i = Am.byteCells (t.drop i) := by simp [Am.byteCells]
theorem bc_take (t : List UInt8) (i : Nat) : (Am.byteCells t).take i = Am.byteCells (t.take i) := by simp [Am.byteCells]
theorem ints_drop (t : List UInt8) (i : Nat) : (ints t).drop i = ints (t.drop i) := by simp [ints]
theorem ints_take (t : List UInt8) (i : Nat) : (ints t).take i = ints (t.take i) := by simp [ints]
theorem ints_len (t : List UInt8) : (ints t).length = t.length := by simp [ints]

theorem at_loop (m : Nat) (b : Bar) (t : List UInt8) (tl : Tail) (at_ : Nat) (s : Sg) (hat : at_ ≤ t.length) (htl : t.length < 2 ^ 40) {Q : Ex → Fr → Sg → Prop}
    (hret : ∀ (c : Int) (k : Nat) (pers : Env), Env.get pers 4 = .int .i64 c → Env.get pers 5 = .int .i64 k → atGo ((ints t).drop at_) 4 1 = (c, (k : Int)) → Q .ret ⟨pers, [], .off⟩ s)
    (hno : ∀ n u17 u7 u28, atGo ((ints t).drop at_) 4 1 = (-1, 0) → Q (.exit 0) (afr t tl at_ n u17 u7 u28) s) :
    ∀ (d n L : Nat) (u17 u7 u28 : AV), n + d = 5 → 1 ≤ n → d + 1 ≤ L → atGo ((ints t).drop at_) d n = atGo ((ints t).drop at_) 4 1 →
      OkL L (fun fr s => ACode.run (loopN (m + 2)) (callF T (m + 2)) b lp26_0 fr s) (afr t tl at_ n u17 u7 u28) s Q := by
  have hbl := Am.byteCells_length t
  have hrl : ((ints t).drop at_).length = t.length - at_ := by rw [List.length_drop, ints_len]
  intro d
  induction d with
  | zero =>
    intro n L u17 u7 u28 hn hn1 hL hg
    obtain ⟨L, rfl⟩ : ∃ L', L = L' + 1 := ⟨L - 1, by omega⟩
    obtain rfl : n = 5 := by omega
    refine l_round ?_
    refine qqV ?_
    refine lV ?_
    refine c_exit (hno _ _ _ _ ?_)
    rw [← hg]
    rfl
  | succ d ih =>
    intro n L u17 u7 u28 hn hn1 hL hg
    obtain ⟨L, rfl⟩ : ∃ L', L = L' + 1 := ⟨L - 1, by omega⟩
    have hn4 : n ≤ 4 := by omega
    by_cases hle : at_ + n ≤ t.length
    · have hr : n ≤ ((ints t).drop at_).length := by omega
      simp only [atGo, if_pos hr] at hg
      refine l_round ?_
      refine qqV ?_
      refine iV ?_
      refine c_skip ?_
      refine c_seq ?_
      refine bV ?_
      refine qV ?_
      refine o_slvec (i := at_) (j := at_ + n) rfl rfl rfl rfl rfl (by omega) (by omega) (by omega) ?_ (q := Am.byteCells ((t.drop at_).take n)) ?_ fun tl' => ?_
      · rw [bc_take]; exact Am.byteCells_size _
      · rw [bc_drop, bc_take, show at_ + n - at_ = n by omega]
      have hll : ((t.drop at_).take n).length = n := by rw [List.length_take, List.length_drop]; omega
      refine o_call rfl rfl (of_spec m _ ((t.drop at_).take n) tl' s (by omega) (by omega)) ?_
      rw [← ints_take, ← ints_drop]
      by_cases h0 : 0 ≤ ofI (((ints t).drop at_).take n)
      · rw [if_pos h0] at hg
        refine sV ?_
        refine eV ?_
        refine qqV ?_
        refine iV ?_
        refine qqV ?_
        exact c_ret (hret _ n _ rfl rfl hg.symm)
      · rw [if_neg h0] at hg
        refine sV ?_
        refine eV ?_
        refine qqV ?_
        refine lV ?_
        refine c_skip ?_
        refine qqV ?_
        exact ih (n + 1) L _ _ _ (by omega) (by omega) (by omega) hg
    · have hr : ¬ n ≤ ((ints t).drop at_).length := by omega
      simp only [atGo, if_neg hr] at hg
      refine l_round ?_
      refine qqV ?_
      refine lV ?_
      exact c_exit (hno _ _ _ _ hg.symm)

abbrev atI (r : List Int) : Int × Int := atGo r 4 1

theorem at_spec (m : Nat) (b : Bar) (t : List UInt8) (tl : Tail) (at_ : Nat) (s : Sg) (hm : 5 ≤ m) (hat : at_ ≤ t.length) (htl : t.length < 2 ^ 40) :
    callF T (m + 3) b 26 [.vec (Am.byteCells t) tl, .int .i64 at_] s = some (.ret (.tup [.int .i64 (atI ((ints t).drop at_)).1, .int .i64 (atI ((ints t).drop at_)).2]), s) := by
  apply OkF.ret
  (apply f_wp rfl rfl; (repeat (first | exact Shape.nil | (apply Shape.cons; conv => lhs; whnf))))
  refine qqV ?_
  refine qqV ?_
  refine bV ?_
  refine c_loop ?_
  refine at_loop m _ t tl at_ s hat htl (fun c k pers h1 h2 h3 => ?_) (fun n u17 u7 u28 h => ?_) 4 1 (m + 2) _ _ _ (by omega) (by omega) (by omega) rfl
  · have h3 : atI ((ints t).drop at_) = (c, (k : Int)) := h3
    rw [h3]
    exact fin_ret (.inl rfl) (read_tmp (by rw [h1]; rfl) (read_tmp (by rw [h2]; rfl) read_nil)) (leave_pure rfl rfl) ⟨rfl, rfl⟩
  · have h : atI ((ints t).drop at_) = (-1, 0) := h
    rw [h]
    refine qqV ?_
    refine c_ret ?_
    exact fin_ret (.inl rfl) (read_tmp rfl (read_tmp rfl read_nil)) (leave_pure rfl rfl) ⟨rfl, rfl⟩

theorem ofI_lt (l : List Int) (h1 : 1 ≤ l.length) (h4 : l.length ≤ 4) (hb : ∀ n ∈ l, 0 ≤ n ∧ n < 256) : ofI l < 2 ^ 30 := by
  unfold ofI
  split
  · match l, h1, h4 with
    | [a], _, _ => have := hb a (by simp); simp only [cand]; omega
    | [a, c], _, _ => have := hb a (by simp); have := hb c (by simp); simp only [cand]; omega
    | [a, c, d], _, _ => have := hb a (by simp); have := hb c (by simp); have := hb d (by simp); simp only [cand]; omega
    | [a, c, d, e], _, _ => have := hb a (by simp); have := hb c (by simp); have := hb d (by simp); have := hb e (by simp); simp only [cand]; omega
  · decide

theorem ints_range (t : List UInt8) : ∀ n ∈ ints t, 0 ≤ n ∧ n < 256 := by
  intro n hn
  simp only [ints, List.mem_map] at hn
  obtain ⟨c, _, rfl⟩ := hn
  have := c.toNat_lt
  omega

/-- what comes at a place: a character, and how many bytes it has -/
def nxR (utf : Bool) (r : List Int) : Int × Int := if utf = true ∧ 0 < (atI r).2 then atI r else (r.headD 0, 1)

theorem atGo_le (r : List Int) : ∀ d n, 1 ≤ n → 0 ≤ (atGo r d n).2 ∧ (atGo r d n).2 ≤ r.length
  | 0, n, _ => by simp [atGo]
  | d + 1, n, hn => by
    simp only [atGo]
    split
    · split
      · dsimp only; omega
      · exact atGo_le r d (n + 1) (by omega)
    · simp

theorem next_ref (m : Nat) (b : Bar) (t : List UInt8) (tl : Tail) (at_ : Nat) (utf : Bool) (s : Sg) (hm : 5 ≤ m) (hat : at_ < t.length) (htl : t.length < 2 ^ 40) :
    callF T (m + 4) b 12 [.vec (Am.byteCells t) tl, .int .i64 at_, .bool utf] s = some (.ret (.tup [.int .i64 (nxR utf ((ints t).drop at_)).1, .int .i64 (at_ + (nxR utf ((ints t).drop at_)).2)]), s) := by
  have hbl := Am.byteCells_length t
  have hk : 0 ≤ (atI ((ints t).drop at_)).2 ∧ (atI ((ints t).drop at_)).2 ≤ ((ints t).drop at_).length := atGo_le ((ints t).drop at_) 4 1 (Nat.le_refl _)
  have hrl : ((ints t).drop at_).length = t.length - at_ := by rw [List.length_drop, ints_len]
  have hx := List.getElem?_eq_getElem hat
  generalize t[at_] = x at hx
  have hx8 := u8_lt x
  have hhd : ((ints t).drop at_).headD 0 = x.toNat := by
    rw [List.headD_eq_head?_getD, List.head?_drop]
    simp [ints, hx]
  unfold nxR
  apply OkF.ret
  (apply f_wp rfl rfl; (repeat (first | exact Shape.nil | (apply Shape.cons; conv => lhs; whnf))))
  refine qqV ?_
  refine qqV ?_
  refine lV ?_
  refine c_skip ?_
  refine qV ?_
  refine o_call rfl rfl (at_spec m _ t tl at_ s hm (by omega) htl) ?_
  generalize atI ((ints t).drop at_) = q at hk ⊢
  obtain ⟨c, k⟩ := q
  dsimp only at hk ⊢
  refine sV ?_
  refine eV ?_
  cases utf with
  | true =>
    by_cases h0 : 0 < k
    · rw [if_pos ⟨rfl, h0⟩]
      refine qqV ?_
      refine iV ?_
      refine qqV ?_
      refine c_ret ?_
      exact fin_ret (.inl rfl) (read_tmp rfl (read_tmp rfl read_nil)) (leave_pure rfl rfl) ⟨rfl, rfl⟩
    · rw [if_neg (by simp [h0]), hhd]
      refine qqV ?_
      refine lV ?_
      refine c_skip ?_
      refine qV ?_
      refine o_ixvec (j := at_) rfl rfl rfl rfl (bc_get hx) rfl ?_
      refine sV ?_
      refine o_cv (x.toNat : Int) rfl rfl (wrap_i64 (by omega) (by omega)) ?_
      refine sV ?_
      refine eV ?_
      refine c_ret ?_
      exact fin_ret (.inl rfl) (read_tmp rfl (read_tmp rfl read_nil)) (leave_pure rfl rfl) ⟨rfl, rfl⟩
  | false =>
    rw [if_neg (by simp), hhd]
    refine qqV ?_
    refine lV ?_
    refine c_skip ?_
    refine qV ?_
    refine o_ixvec (j := at_) rfl rfl rfl rfl (bc_get hx) rfl ?_
    refine sV ?_
    refine o_cv (x.toNat : Int) rfl rfl (wrap_i64 (by omega) (by omega)) ?_
    refine sV ?_
    refine eV ?_
    refine c_ret ?_
    exact fin_ret (.inl rfl) (read_tmp rfl (read_tmp rfl read_nil)) (leave_pure rfl rfl) ⟨rfl, rfl⟩

end Go.Vmm
