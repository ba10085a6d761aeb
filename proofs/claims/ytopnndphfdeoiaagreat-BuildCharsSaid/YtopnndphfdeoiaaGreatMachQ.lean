/-
  The abstract machine, run fast: the same run by ways that a check goes quickly.
-/
import Derived.Test.YtopnndphfdeoiaaGreatMachA

/-
  The abstract machine, run fast: the same run, by ways that the kernel goes quickly. First its temporaries, its heap, its operators.
-/
namespace Go.Am

noncomputable def obind {α β : Type} (o : Option α) (f : α → Option β) : Option β := @Option.rec α (fun _ => Option β) none f o

theorem obind_eq {α β : Type} (o : Option α) (f : α → Option β) : obind o f = o.bind f := by cases o <;> rfl

/-- a choice, in one step -/
noncomputable def bsel {α : Type} (c : Bool) (a b : α) : α := @Bool.rec (fun _ => α) b a c

theorem bsel_eq {α : Type} (c : Bool) (a b : α) : bsel c a b = if c then a else b := by cases c <;> rfl
theorem bsel_true {α : Type} (a b : α) : bsel true a b = a := rfl
theorem bsel_false {α : Type} (a b : α) : bsel false a b = b := rfl

noncomputable def getQ (l : Env) (t : Nat) : AV := @List.rec (Nat × AV) (fun _ => AV) .undef (fun p _ ih => bsel (Nat.beq p.1 t) p.2 ih) l

theorem getQ_eq : ∀ (l : Env) (t : Nat), getQ l t = Env.get l t
  | [], _ => rfl
  | (u, v) :: r, t => by
    have := getQ_eq r t
    simp only [Env.get, ← this]
    exact bsel_eq _ _ _

noncomputable def lookQ (loc pers : Env) (t : Nat) : AV := @List.rec (Nat × AV) (fun _ => AV) (getQ pers t) (fun p _ ih => bsel (Nat.beq p.1 t) p.2 ih) loc

theorem lookQ_eq : ∀ (loc pers : Env) (t : Nat), lookQ loc pers t = Env.look loc pers t
  | [], pers, t => getQ_eq pers t
  | (u, v) :: r, pers, t => by
    have := lookQ_eq r pers t
    simp only [Env.look, ← this]
    exact bsel_eq _ _ _

noncomputable def AOpd.evQ (loc pers : Env) (x : AOpd) : Option AV := @AOpd.rec (fun _ => Option AV) (fun t => (lookQ loc pers t).def?) (fun v => some v) x

theorem evQ_eq (loc pers : Env) (x : AOpd) : x.evQ loc pers = x.ev loc pers := by
  cases x
  · show (lookQ loc pers _).def? = _
    rw [lookQ_eq]
    rfl
  · rfl

noncomputable def evAllQ (loc pers : Env) (l : List AOpd) : Option (List AV) :=
  @List.rec AOpd (fun _ => Option (List AV)) (some []) (fun x _ ih => obind (x.evQ loc pers) fun v => obind ih fun l => some (v :: l)) l

theorem evAllQ_eq (loc pers : Env) : ∀ l : List AOpd, evAllQ loc pers l = evAll loc pers l
  | [] => rfl
  | x :: r => by
    have := evAllQ_eq loc pers r
    simp only [evAll, ← this, ← evQ_eq, ← obind_eq]
    rfl

noncomputable def putQ (l : Env) (t : Nat) (x : AV) : Env := @List.rec (Nat × AV) (fun _ => Env) [(t, x)] (fun p r ih => bsel (Nat.beq p.1 t) ((p.1, x) :: r) (p :: ih)) l

theorem putQ_eq : ∀ (l : Env) (t : Nat) (x : AV), putQ l t x = Env.put l t x
  | [], _, _ => rfl
  | (u, v) :: r, t, x => by
    have := putQ_eq r t x
    simp only [Env.put, ← this]
    exact bsel_eq _ _ _

/-- what a temporary of the region holds, if it is there -/
noncomputable def findQ (l : Env) (t : Nat) : Option AV := @List.rec (Nat × AV) (fun _ => Option AV) none (fun p _ ih => bsel (Nat.beq p.1 t) (some p.2) ih) l

theorem findQ_eq : ∀ (l : Env) (t : Nat), findQ l t = if Env.has l t then some (Env.get l t) else none
  | [], _ => rfl
  | (u, v) :: r, t => by
    have := findQ_eq r t
    show bsel (Nat.beq u t) (some v) (findQ r t) = _
    rw [this]
    simp only [Env.has, Env.get]
    rcases Bool.eq_false_or_eq_true (Nat.beq u t) with h | h <;> simp only [h, bsel_true, bsel_false, Bool.true_or, Bool.false_or, if_true, Bool.false_eq_true, if_false]

noncomputable def outsQ (loc : Env) (l : List Nat) : Env → Env :=
  @List.rec Nat (fun _ => Env → Env) (fun pers => pers) (fun t _ ih pers => ih (@Option.rec AV (fun _ => Env) pers (fun v => putQ pers t v) (findQ loc t))) l

theorem outsQ_eq (loc : Env) : ∀ (l : List Nat) (pers : Env), outsQ loc l pers = putOuts loc l pers
  | [], _ => rfl
  | t :: r, pers => by
    have := outsQ_eq loc r
    show outsQ loc r _ = _
    rw [this]
    simp only [putOuts]
    congr 1
    rw [findQ_eq]
    cases Env.has loc t <;> simp [putQ_eq]

noncomputable def wantedQ (loc pers : Env) (g : Option (Nat × Bool)) : Option Bool :=
  @Option.rec (Nat × Bool) (fun _ => Option Bool) (some true) (fun p => match lookQ loc pers p.1 with
    | .bool c => some (c == p.2)
    | .undef => none
    | _ => some false) g

theorem wantedQ_eq (loc pers : Env) (g : Option (Nat × Bool)) : wantedQ loc pers g = wantedA loc pers g := by
  cases g
  · rfl
  · rename_i p
    obtain ⟨t, w⟩ := p
    show (match lookQ loc pers t with | .bool c => some (c == w) | .undef => none | _ => some false) = _
    rw [lookQ_eq]
    rfl

-- ---------------------------------------------------------------- the heap

noncomputable def nthQ {α : Type} (l : List α) : Nat → Option α :=
  @List.rec α (fun _ => Nat → Option α) (fun _ => none) (fun a _ ih n => @Nat.rec (fun _ => Option α) (some a) (fun m _ => ih m) n) l

theorem nthQ_eq {α : Type} : ∀ (l : List α) (n : Nat), nthQ l n = l[n]?
  | [], n => by simp; rfl
  | a :: r, 0 => rfl
  | a :: r, n + 1 => by
    have := nthQ_eq r n
    show nthQ r n = _
    rw [this]
    rfl

noncomputable def lenQ {α : Type} (l : List α) : Nat := @List.rec α (fun _ => Nat) 0 (fun _ _ ih => Nat.succ ih) l

theorem lenQ_eq {α : Type} : ∀ l : List α, lenQ l = l.length
  | [] => rfl
  | _ :: r => by
    have := lenQ_eq r
    show Nat.succ (lenQ r) = _
    rw [this]
    rfl

noncomputable def appQ {α : Type} (l m : List α) : List α := @List.rec α (fun _ => List α) m (fun a _ ih => a :: ih) l

theorem appQ_eq {α : Type} : ∀ l m : List α, appQ l m = l ++ m
  | [], _ => rfl
  | a :: r, m => by
    have := appQ_eq r m
    show a :: appQ r m = _
    rw [this]
    rfl

noncomputable def setQ {α : Type} (l : List α) (n : Nat) (o : α) : List α :=
  @List.rec α (fun _ => Nat → List α) (fun _ => []) (fun a r ih n => @Nat.rec (fun _ => List α) (o :: r) (fun m _ => a :: ih m) n) l n

theorem setQ_eq {α : Type} : ∀ (l : List α) (n : Nat) (o : α), setQ l n o = setAt l n o
  | [], 0, _ => rfl
  | [], _ + 1, _ => rfl
  | a :: r, 0, o => rfl
  | a :: r, n + 1, o => by
    have := setQ_eq r n o
    show a :: setQ r n o = _
    rw [this]
    rfl

noncomputable def cellsQ (h : List AObj) (i g : Nat) : Option (List AV) :=
  obind (nthQ h i) fun o => match o with
    | .cells cs g' => bsel (Nat.beq g g') (some cs) none
    | _ => none

theorem cellsQ_eq (h : List AObj) (i g : Nat) : cellsQ h i g = getCells h i g := by
  unfold cellsQ getCells
  rw [nthQ_eq]
  cases h[i]? with
  | none => rfl
  | some o =>
    cases o <;> first | rfl | (rename_i cs g'; exact bsel_eq _ _ _)

noncomputable def partQ (cs : List AV) (off : Nat) (ag : Option Nat) : Option AV :=
  @Option.rec Nat (fun _ => Option AV) (nthQ cs off) (fun n => partOf cs off (some n)) ag

theorem partQ_eq (cs : List AV) (off : Nat) (ag : Option Nat) : partQ cs off ag = partOf cs off ag := by
  cases ag
  · exact nthQ_eq _ _
  · rfl

-- ---------------------------------------------------------------- numbers

noncomputable def idxQ (i : AV) (n : Nat) : Option Nat :=
  match i with
  | .int _ k => @Int.rec (fun _ => Option Nat) (fun m => bsel (Nat.blt m n) (some m) none) (fun _ => none) k
  | _ => none

theorem idxQ_eq (i : AV) (n : Nat) : idxQ i n = idx i n := by
  cases i <;> try rfl
  rename_i q k
  show @Int.rec (fun _ => Option Nat) (fun m => bsel (Nat.blt m n) (some m) none) (fun _ => none) k = if 0 ≤ k ∧ k < n then some k.toNat else none
  cases k with
  | ofNat m =>
    show bsel (Nat.blt m n) (some m) none = _
    rw [bsel_eq]
    by_cases h : m < n
    · have : (0 : Int) ≤ Int.ofNat m ∧ Int.ofNat m < (n : Int) := ⟨Int.natCast_nonneg m, Int.ofNat_lt.2 h⟩
      rw [if_pos (by simpa [Nat.blt_eq] using h), if_pos this]
      rfl
    · have : ¬ ((0 : Int) ≤ Int.ofNat m ∧ Int.ofNat m < (n : Int)) := fun e => h (Int.ofNat_lt.1 e.2)
      rw [if_neg (by simpa [Nat.blt_eq] using h), if_neg this]
  | negSucc m =>
    have : ¬ ((0 : Int) ≤ Int.negSucc m ∧ Int.negSucc m < (n : Int)) := fun e => by have := e.1; omega
    show none = _
    rw [if_neg this]

noncomputable def eqiQ (a b : Int) : Bool :=
  @Int.rec (fun _ => Bool) (fun m => @Int.rec (fun _ => Bool) (fun n => Nat.beq m n) (fun _ => false) b) (fun m => @Int.rec (fun _ => Bool) (fun _ => false) (fun n => Nat.beq m n) b) a

theorem eqiQ_eq (a b : Int) : eqiQ a b = (a == b) := by
  cases a <;> cases b <;> simp [eqiQ] <;> first | (rename_i m n; exact (Bool.eq_iff_iff.2 (by simp [Nat.beq_eq]; try omega))) | (apply Eq.symm; rw [beq_eq_false_iff_ne]; omega)

noncomputable def ltiQ (a b : Int) : Bool :=
  @Int.rec (fun _ => Bool) (fun m => @Int.rec (fun _ => Bool) (fun n => Nat.blt m n) (fun _ => false) b) (fun m => @Int.rec (fun _ => Bool) (fun _ => true) (fun n => Nat.blt n m) b) a

theorem ltiQ_eq (a b : Int) : ltiQ a b = decide (a < b) := by
  cases a <;> cases b <;> (apply Bool.eq_iff_iff.2; simp [ltiQ, Nat.blt_eq]; try omega)

noncomputable def addnQ (m n : Nat) : Option AV := bsel (Nat.blt (Nat.add m n) 9223372036854775808) (some (.int .i64 (.ofNat (Nat.add m n)))) (intBin .add .i64 (.ofNat m) (.ofNat n))

theorem wrap_small {m : Nat} (h : m < 9223372036854775808) : IntKind.i64.wrap (Int.ofNat m) = Int.ofNat m := by
  have h1 : (IntKind.i64.bits) = 64 := rfl
  have h2 : IntKind.i64.signed = true := rfl
  unfold IntKind.wrap
  simp only [h1, h2, Bool.true_and]
  have e : (Int.ofNat m) % (2 ^ 64 : Int) = Int.ofNat m := Int.emod_eq_of_lt (Int.natCast_nonneg m) (by simp; omega)
  rw [e]
  have : ¬ (Int.ofNat m ≥ (2 ^ 63 : Int)) := by simp; omega
  simp only [decide_eq_true_eq]
  rw [if_neg (by simpa using this)]

theorem addnQ_eq (m n : Nat) : addnQ m n = intBin .add .i64 (.ofNat m) (.ofNat n) := by
  unfold addnQ
  rw [bsel_eq]
  split
  · rename_i h
    have h : m + n < 9223372036854775808 := by simpa [Nat.blt_eq] using h
    simp only [intBin]
    congr 2
    exact (wrap_small h).symm
  · rfl

noncomputable def subnQ (m n : Nat) : Option AV := bsel (Nat.ble n m && Nat.blt m 9223372036854775808) (some (.int .i64 (.ofNat (Nat.sub m n)))) (intBin .sub .i64 (.ofNat m) (.ofNat n))

theorem subnQ_eq (m n : Nat) : subnQ m n = intBin .sub .i64 (.ofNat m) (.ofNat n) := by
  unfold subnQ
  rw [bsel_eq]
  split
  · rename_i h
    simp only [Bool.and_eq_true, Nat.ble_eq, Nat.blt_eq] at h
    simp only [intBin]
    congr 2
    have e : Int.ofNat m - Int.ofNat n = Int.ofNat (m - n) := by simp; omega
    rw [e]
    exact (wrap_small (m := m - n) (by omega)).symm
  · rfl

/-- operators on numbers of 64 bits -/
noncomputable def bin64Q (op : BinOp) (a b : Int) : Option AV :=
  match op with
  | .add => @Int.rec (fun _ => Option AV) (fun m => @Int.rec (fun _ => Option AV) (fun n => addnQ m n) (fun _ => intBin .add .i64 a b) b) (fun _ => intBin .add .i64 a b) a
  | .sub => @Int.rec (fun _ => Option AV) (fun m => @Int.rec (fun _ => Option AV) (fun n => subnQ m n) (fun _ => intBin .sub .i64 a b) b) (fun _ => intBin .sub .i64 a b) a
  | .eql => some (.bool (eqiQ a b))
  | .neq => some (.bool (!(eqiQ a b)))
  | .lss => some (.bool (ltiQ a b))
  | .leq => some (.bool (!(ltiQ b a)))
  | .gtr => some (.bool (ltiQ b a))
  | .geq => some (.bool (!(ltiQ a b)))
  | op => evBin op (.int .i64 a) (.int .i64 b)

theorem bin64Q_eq (op : BinOp) (a b : Int) : bin64Q op a b = evBin op (.int .i64 a) (.int .i64 b) := by
  have h : ∀ op : BinOp, (op ≠ .shl → op ≠ .shr → evBin op (.int .i64 a) (.int .i64 b) = intBin op .i64 a b) := by
    intro op h1 h2
    cases op <;> first | rfl | exact absurd rfl h1 | exact absurd rfl h2
  cases op <;> try rfl
  · rw [h _ (by decide) (by decide)]
    cases a <;> cases b <;> first | exact addnQ_eq _ _ | rfl
  · rw [h _ (by decide) (by decide)]
    cases a <;> cases b <;> first | exact subnQ_eq _ _ | rfl
  · rw [h _ (by decide) (by decide)]; simp only [bin64Q, intBin, eqiQ_eq]
  · rw [h _ (by decide) (by decide)]; simp only [bin64Q, intBin, eqiQ_eq, bne]
  · rw [h _ (by decide) (by decide)]; simp only [bin64Q, intBin, ltiQ_eq]
  · rw [h _ (by decide) (by decide)]; simp only [bin64Q, intBin, ltiQ_eq]; congr 2; rw [Bool.eq_iff_iff]; simp
  · rw [h _ (by decide) (by decide)]; simp only [bin64Q, intBin, ltiQ_eq]
  · rw [h _ (by decide) (by decide)]; simp only [bin64Q, intBin, ltiQ_eq]; congr 2; rw [Bool.eq_iff_iff]; simp

noncomputable def binIntQ (op : BinOp) (k : IntKind) (a : Int) (v : AV) : Option AV :=
  match k, v with
  | .i64, .int .i64 b => bin64Q op a b
  | k, v => evBin op (.int k a) v

theorem binIntQ_eq (op : BinOp) (k : IntKind) (a : Int) (v : AV) : binIntQ op k a v = evBin op (.int k a) v := by
  unfold binIntQ
  split
  · exact bin64Q_eq _ _ _
  · rfl

noncomputable def binQ (op : BinOp) (u v : AV) : Option AV :=
  match u with
  | .int k a => binIntQ op k a v
  | u => evBin op u v

theorem binQ_eq (op : BinOp) (u v : AV) : binQ op u v = evBin op u v := by
  cases u <;> first | exact binIntQ_eq _ _ _ _ | rfl

noncomputable def lenVQ (k : Nat) (u : AV) : Option AV :=
  match k, u with
  | 1, .nilsl | 2, .nilmap | 3, .nilsl => some (goInt 0)
  | 1, .vec es _ => some (goInt es.length)
  | 1, .ms _ _ _ n _ _ => some (goInt n)
  | 0, .str l => some (goInt l.length)
  | _, _ => none

end Go.Am

/-
  The abstract machine, run fast: its operations, its run.
-/
namespace Go.Am

noncomputable def loadQ (s : Sg) (ag : Option Nat) (a : AV) : Option AV :=
  match a with
  | .ptr i g off => obind (cellsQ s.heap i g) fun cs => partQ cs off ag
  | .pin v => match ag with
    | none => if v.one then some v else none
    | some n => v.agg?.bind fun cs => if Nat.beq cs.length n then some v else none
  | _ => none

noncomputable def nilQ (u : AV) : Option AV :=
  match u with
  | .ptr i g o => some (.ptr i g o)
  | .pin v => some (.pin v)
  | .func f a c => some (.func f a c)
  | _ => none

noncomputable def faddrQ (off : Nat) (ag : Option Nat) (u : AV) : Option AV :=
  match u with
  | .ptr i g o => some (.ptr i g (o + off))
  | .pin v => v.agg?.bind fun cs => (partOf cs off ag).map .pin
  | _ => none

noncomputable def iaddrQ (s : Sg) (ag : Option Nat) (k : AV) (u : AV) : Option AV :=
  match u with
  | .vec es _ => obind (idxQ k (lenQ es)) fun j => obind (nthQ es j) fun v => if Nat.beq v.flat.length (ag.getD 1) then some (.pin v) else none
  | .ms h g off len _ sz => if Nat.beq sz (ag.getD 1) then obind (idxQ k len) fun j => obind (cellsQ s.heap h g) fun _ => some (.ptr h g (off + j * sz)) else none
  | _ => none

noncomputable def strIxQ (l : List UInt8) (k : AV) : Option AV := obind (idxQ k (lenQ l)) fun j => (nthQ l j).map fun c => .int .u8 c.toNat

noncomputable def fillQ (loc pers : Env) (l : List (Nat × Nat × AOpd)) : List AV → Option (List AV) :=
  @List.rec (Nat × Nat × AOpd) (fun _ => List AV → Option (List AV)) some (fun p _ ih cs => obind (p.2.2.evQ loc pers) fun v => obind v.stored fun l =>
    if Nat.beq l.length p.2.1 then obind (writeAt cs p.1 l) fun cs' => ih cs' else none) l

theorem fillQ_eq (loc pers : Env) : ∀ (l : List (Nat × Nat × AOpd)) (cs : List AV), fillQ loc pers l cs = fillParts loc pers l cs
  | [], _ => rfl
  | (off, n, x) :: r, cs => by
    have := fillQ_eq loc pers r
    simp only [fillParts, ← this, ← evQ_eq, ← obind_eq]
    rfl

noncomputable def evVQ (loc pers : Env) (s : Sg) (p : VOp) : Option AV :=
  match p with
  | .move x => x.evQ loc pers
  | .pick c x y => obind (c.evQ loc pers) fun c => obind c.bool? fun t => bsel t (x.evQ loc pers) (y.evQ loc pers)
  | .build z parts => (fillQ loc pers parts z).map .agg
  | .load ag a => obind (a.evQ loc pers) fun a => loadQ s ag a
  | .nilCheck x => obind (x.evQ loc pers) nilQ
  | .bin op x y => obind (x.evQ loc pers) fun u => obind (y.evQ loc pers) fun v => binQ op u v
  | .eqNil neg k x => obind (x.evQ loc pers) fun u => (isNil k u).map fun e => .bool (negIf neg e)
  | .un op x => obind (x.evQ loc pers) fun u => evUn op u
  | .conv k x => obind (x.evQ loc pers) fun u => evConvH s.heap k u
  | .field off ag x => obind (x.evQ loc pers) fun u => obind u.agg? fun cs => partQ cs off ag
  | .fieldAddr off ag x => obind (x.evQ loc pers) fun u => faddrQ off ag u
  | .indexAddrS ag x i => obind (x.evQ loc pers) fun u => obind (i.evQ loc pers) fun k => iaddrQ s ag k u
  | .indexS x i => obind (x.evQ loc pers) fun u => obind u.str? fun l => obind (i.evQ loc pers) fun k => strIxQ l k
  | .extract x i => obind (x.evQ loc pers) fun u => obind u.tup? fun vs => nthQ vs i
  | .len k x => obind (x.evQ loc pers) fun u => lenVQ k u
  | p => evV loc pers s p

theorem evVQ_eq (loc pers : Env) (s : Sg) (p : VOp) : evVQ loc pers s p = evV loc pers s p := by
  cases p <;> try rfl
  all_goals simp only [evVQ, evV, evQ_eq, obind_eq]
  · congr 1; funext c; congr 1; funext t; exact bsel_eq _ _ _
  · rw [fillQ_eq]
  · congr 1; funext a; cases a <;> first | rfl | skip
    simp only [loadQ, obind_eq, cellsQ_eq]
    congr 1; funext cs; exact partQ_eq _ _ _
  · first | rfl | (congr 1; funext a; cases a <;> rfl)
  · congr 1; funext a; congr 1; funext c; exact binQ_eq _ _ _
  · congr 1; funext a; congr 1; funext c; exact partQ_eq _ _ _
  · first | rfl | (congr 1; funext a; cases a <;> rfl)
  · congr 1; funext a; congr 1; funext c; cases a <;> first | rfl | skip
    all_goals simp only [iaddrQ, obind_eq, idxQ_eq, lenQ_eq, nthQ_eq, cellsQ_eq]
  · congr 1; funext a; congr 1; funext c; congr 1; funext d
    simp only [strIxQ, obind_eq, idxQ_eq, lenQ_eq, nthQ_eq]
  · congr 1; funext a; congr 1; funext c; exact nthQ_eq _ _
  · rfl

noncomputable def pushQ (s : Sg) (o : AObj) : Sg := match s with | ⟨h, t, ty, gl⟩ => ⟨appQ h [o], t, ty, gl⟩
noncomputable def newQ (s : Sg) : AV := match s with | ⟨h, _, _, _⟩ => .ptr (lenQ h) 0 0
noncomputable def heapQ (s : Sg) (i : Nat) (o : AObj) : Sg := match s with | ⟨h, t, ty, gl⟩ => ⟨setQ h i o, t, ty, gl⟩

theorem pushQ_eq (s : Sg) (o : AObj) : pushQ s o = s.push o := by
  obtain ⟨h, t, ty, gl⟩ := s
  simp only [pushQ, Sg.push, appQ_eq]

theorem newQ_eq (s : Sg) : newQ s = .ptr s.heap.length 0 0 := by
  obtain ⟨h, t, ty, gl⟩ := s
  simp only [newQ, lenQ_eq]

theorem heapQ_eq (s : Sg) (i : Nat) (o : AObj) : heapQ s i o = { s with heap := setAt s.heap i o } := by
  obtain ⟨h, t, ty, gl⟩ := s
  simp only [heapQ, setQ_eq]

noncomputable def storeQ (b : Bar) (s : Sg) (n : Nat) (v a : AV) : Option (AV × Sg) :=
  match a with
  | .ptr i g off => obind v.stored fun l => obind (cellsQ s.heap i g) fun cs =>
    bsel (Nat.beq (lenQ l) n && b.lets i l) ((writeAt cs off l).map fun cs' => (.tup [], heapQ s i (.cells cs' g))) none
  | _ => none

noncomputable def evEQ (b : Bar) (loc pers : Env) (s : Sg) (p : EOp) : Option (AV × Sg) :=
  match p with
  | .alloc z => some (newQ s, pushQ s (.cells z 0))
  | .box x => obind (x.evQ loc pers) fun v => v.stored.map fun l => (newQ s, pushQ s (.cells l 0))
  | .store n a x => obind (a.evQ loc pers) fun a => obind (x.evQ loc pers) fun v => storeQ b s n v a
  | .append mu ag bytes x y => obind (x.evQ loc pers) fun v => obind (y.evQ loc pers) fun u => obind (elemsOf s.heap ag u) fun ys =>
    if allSize (ag.getD 1) ys && allOneAll ys then evAppend b s mu ag bytes v ys else none
  | p => evE b loc pers s p

theorem evEQ_eq (b : Bar) (loc pers : Env) (s : Sg) (p : EOp) : evEQ b loc pers s p = evE b loc pers s p := by
  cases p <;> try rfl
  all_goals simp only [evEQ, evE, evQ_eq, obind_eq, newQ_eq, pushQ_eq]
  congr 1; funext a; congr 1; funext v
  cases a <;> first | rfl | skip
  simp only [storeQ, obind_eq, cellsQ_eq, bsel_eq, heapQ_eq, lenQ_eq]

-- ---------------------------------------------------------------- a region

noncomputable def callvQ (call : CallFn) (b : Bar) (loc : Env) (fr : Fr) (s : Sg) (y : AOpd) (args : List AOpd) : Option (Out × Fr × Sg) :=
  obind (y.evQ loc fr.pers) fun u => obind (evAllQ loc fr.pers args) fun l => obind (u.fn? l) fun c => obind (call b c.1 c.2 s) fun x => some (x.1, fr, x.2)

noncomputable def calliQ (call : CallFn) (b : Bar) (loc : Env) (fr : Fr) (s : Sg) (f : FuncId) (y : Option AOpd) (args : List AOpd) : Option (Out × Fr × Sg) :=
  obind (evAllQ loc fr.pers args) fun l => obind (fnArgs loc fr.pers f y l) fun l => if AV.oldAll b.c0 l then obind (call b f l (s.cut b.c0 b.t0)) fun x => match x.1 with
    | .ret v => some (.ret v, fr, s)
    | .panic _ => none else none

noncomputable def callkQ (call : CallFn) (b : Bar) (loc : Env) (fr : Fr) (s : Sg) (f : FuncId) (y : AOpd) (args : List AOpd) : Option (Out × Fr × Sg) :=
  obind (evAllQ loc fr.pers args) fun l => obind (fnArgs loc fr.pers f (some y) l) fun l => obind (call b f l s) fun x => some (x.1, fr, x.2)

noncomputable def invkQ (call : CallFn) (b : Bar) (loc : Env) (fr : Fr) (s : Sg) (tbl : List (TypeId × FuncId)) (y : AOpd) (args : List AOpd) : Option (Out × Fr × Sg) :=
  obind (y.evQ loc fr.pers) fun u => obind (evAllQ loc fr.pers args) fun l => obind (u.meth? tbl l) fun c => obind (call b c.1 c.2 s) fun x => some (x.1, fr, x.2)

noncomputable def deferQ (loc : Env) (fr : Fr) (s : Sg) (y : AOpd) (args : List AOpd) : Option (Out × Fr × Sg) :=
  obind (y.evQ loc fr.pers) fun u => obind (evAllQ loc fr.pers args) fun l => obind (u.fn? l) fun c => some (.ret (.tup []), { fr with defers := c :: fr.defers }, s)

noncomputable def opQ (call : CallFn) (b : Bar) (o : AOp) (loc : Env) (fr : Fr) (s : Sg) : Option (Out × Fr × Sg) :=
  match o with
  | .v p => obind (evVQ loc fr.pers s p) fun v => some (.ret v, fr, s)
  | .e p => obind (evEQ b loc fr.pers s p) fun x => some (.ret x.1, fr, x.2)
  | .call f args => obind (evAllQ loc fr.pers args) fun l => obind (call b f l s) fun x => some (x.1, fr, x.2)
  | .callv y args => callvQ call b loc fr s y args
  | .fill k p => obind (evF b loc fr.pers s k p) fun x => some (.ret x.1, fr, x.2)
  | .calli f y args => calliQ call b loc fr s f y args
  | .callk f y args => callkQ call b loc fr s f y args
  | .invk tbl y args => invkQ call b loc fr s tbl y args
  | .yieldc y args => obind (roundOp b fr loc s y args) fun s' => some (.ret (.bool true), fr, s')
  | .panic x => obind (x.evQ loc fr.pers) fun u => obind u.if? fun v => some (.panic v, fr, s)
  | .defer y args => deferQ loc fr s y args
  | .recover => obind (doRecover fr) fun x => some (.ret x.1, x.2, s)
  | .bad => none

noncomputable def nextQ (ih : Env → Fr → Sg → Option (Ex × Env × Fr × Sg)) (d : Option Nat) (loc : Env) (x : Out × Fr × Sg) : Option (Ex × Env × Fr × Sg) :=
  match x with
  | (.ret v, fr, s) => ih (setLoc loc d v) fr s
  | (.panic v, fr, s) => some (.panic v, loc, fr, s)

noncomputable def runOpsQ (call : CallFn) (b : Bar) (l : List AOper) : Env → Fr → Sg → Option (Ex × Env × Fr × Sg) :=
  @List.rec AOper (fun _ => Env → Fr → Sg → Option (Ex × Env × Fr × Sg)) (fun loc fr s => some (.normal, loc, fr, s))
    (fun o _ ih loc fr s => obind (wantedQ loc fr.pers o.guard) fun w => bsel w (obind (opQ call b o.op loc fr s) fun x => nextQ ih o.dst loc x) (ih (setLoc loc o.dst (.tup [])) fr s)) l

theorem runOpsQ_eq (call : CallFn) (b : Bar) : ∀ (l : List AOper) (loc : Env) (fr : Fr) (s : Sg), runOpsQ call b l loc fr s = runOps call b l loc fr s
  | [], _, _, _ => rfl
  | o :: r, loc, fr, s => by
    have ih := runOpsQ_eq call b r
    show (obind (wantedQ loc fr.pers o.guard) fun w => bsel w (obind (opQ call b o.op loc fr s) fun x => nextQ (runOpsQ call b r) o.dst loc x) (runOpsQ call b r (setLoc loc o.dst (.tup [])) fr s)) = _
    simp only [runOps]
    rw [obind_eq, wantedQ_eq]
    congr 1
    funext w
    rw [bsel_eq]
    cases w
    · simp only [Bool.false_eq_true, if_false]
      exact ih _ _ _
    · simp only [if_true]
      obtain ⟨dst, op, gd⟩ := o
      cases op <;> simp only [opQ, callvQ, calliQ, callkQ, invkQ, deferQ, obind_eq, evVQ_eq, evEQ_eq, evAllQ_eq, evQ_eq, Option.bind_assoc, Option.bind_some, Option.bind_none, nextQ, ih]
      · congr 1; funext l; congr 1; funext x; obtain ⟨o, s'⟩ := x; cases o <;> simp only [nextQ, ih]
      · congr 1; funext u; congr 1; funext l; congr 1; funext c; congr 1; funext x; obtain ⟨o, s'⟩ := x; cases o <;> simp only [nextQ, ih]
      · congr 1; funext l; congr 1; funext c; split
        · rw [Option.bind_assoc]; congr 1; funext x; obtain ⟨o, s'⟩ := x; cases o <;> simp only [Option.bind_some, Option.bind_none, nextQ, ih]
        · rfl
      · congr 1; funext l; congr 1; funext c; congr 1; funext x; obtain ⟨o, s'⟩ := x; cases o <;> simp only [nextQ, ih]
      · congr 1; funext u; congr 1; funext l; congr 1; funext c; congr 1; funext x; obtain ⟨o, s'⟩ := x; cases o <;> simp only [nextQ, ih]

noncomputable def regionQ (call : CallFn) (b : Bar) (ops : List AOper) (outs : List Nat) (fr : Fr) (s : Sg) : Ran :=
  obind (runOpsQ call b ops [] fr s) fun x => match x with
    | (e, loc, ⟨pers, d, p⟩, s') => some (e, ⟨outsQ loc outs pers, d, p⟩, s')

theorem regionQ_eq (call : CallFn) (b : Bar) (ops : List AOper) (outs : List Nat) (fr : Fr) (s : Sg) : regionQ call b ops outs fr s = runRegion call b ops outs fr s := by
  unfold regionQ runRegion
  rw [obind_eq, runOpsQ_eq]
  cases runOps call b ops [] fr s with
  | none => rfl
  | some x =>
    obtain ⟨e, loc, ⟨pers, d, p⟩, s'⟩ := x
    simp only [Option.bind_some, Option.map_some, outsQ_eq]

noncomputable def atQ (n0 : Nat) (loc pers : Env) (a : Ft) : Option Nat :=
  match obind a.x (fun x => obind (x.evQ loc pers) heapRef), a.k with
  | some i, _ => some i
  | none, some k => some (n0 + k)
  | none, none => none

theorem atQ_eq (n0 : Nat) (loc pers : Env) (a : Ft) : atQ n0 loc pers a = a.at n0 loc pers := by
  unfold atQ Ft.at
  simp only [obind_eq, evQ_eq, Option.bind_assoc]
  rfl

noncomputable def okQ (n0 : Nat) (loc pers : Env) (c : Chk) : Bool :=
  match c with
  | .apart a b => (match atQ n0 loc pers a, atQ n0 loc pers b with | some i, some j => !(Nat.beq i j) | _, _ => true)
  | .new a => (match atQ n0 loc pers a with | some i => Nat.ble n0 i | none => true)
  | .still _ _ => true
  | .unset t => (match getQ pers t with | .undef => true | _ => false)

noncomputable def pairsQ (n0 : Nat) (loc pers : Env) (l : List Chk) : Bool := @List.rec Chk (fun _ => Bool) true (fun c _ ih => bsel (okQ n0 loc pers c) ih false) l

theorem pairsQ_eq (n0 : Nat) (loc pers : Env) : ∀ l : List Chk, pairsQ n0 loc pers l = pairsOk n0 loc pers l
  | [] => rfl
  | c :: r => by
    have ih := pairsQ_eq n0 loc pers r
    show bsel (okQ n0 loc pers c) (pairsQ n0 loc pers r) false = _
    have hc : okQ n0 loc pers c = c.ok n0 loc pers := by
      cases c <;> first | rfl | (simp only [okQ, Chk.ok, atQ_eq, getQ_eq]; rfl) | simp only [okQ, Chk.ok, atQ_eq, getQ_eq]
    rw [ih, hc]
    simp only [pairsOk]
    cases c.ok n0 loc pers <;> rfl

noncomputable def drawnQ (call : CallFn) (bb : Bar) (ops : List AOper) (outs : List Nat) (pairs : List Chk) (slots : Nat) (fr : Fr) (s : Sg) : Ran :=
  obind (runOpsQ call bb ops [] fr (s.keep slots)) fun x => match x with
    | (.normal, loc, ⟨pers, d, p⟩, s') => bsel (pairsQ (lenQ s.heap) loc fr.pers pairs && stillsOk (fun e => (runOpsQ call bb (ops.take e) [] fr (s.keep slots)).map fun y => y.2.2.2.heap) s.heap.length loc fr.pers pairs)
        (some (.normal, ⟨outsQ loc outs pers, d, p⟩, s')) none
    | _ => none

theorem drawnQ_eq (call : CallFn) (bb : Bar) (ops : List AOper) (outs : List Nat) (pairs : List Chk) (slots : Nat) (fr : Fr) (s : Sg) :
    drawnQ call bb ops outs pairs slots fr s = runDrawnB call bb ops outs pairs slots fr s := by
  unfold drawnQ runDrawnB
  simp only [obind_eq, runOpsQ_eq, pairsQ_eq, lenQ_eq]
  congr 1
  funext x
  obtain ⟨e, loc, ⟨pers, d, p⟩, s'⟩ := x
  cases e <;> simp only [outsQ_eq, bsel_eq]

noncomputable def qseq (f g : Fr → Sg → Ran) (fr : Fr) (s : Sg) : Ran :=
  obind (f fr s) fun r => match r with
    | (.normal, fr, s) => g fr s
    | (e, fr, s) => some (e, fr, s)

noncomputable def condQ (c : AOpd) (f g : Fr → Sg → Ran) (fr : Fr) (s : Sg) : Ran :=
  obind (c.evQ [] fr.pers) fun v => obind v.bool? fun t => bsel t (f fr s) (g fr s)

noncomputable def blockQ (id : Nat) (f : Fr → Sg → Ran) (fr : Fr) (s : Sg) : Ran :=
  obind (f fr s) fun r => match r with
    | (.exit j, fr, s) => some (bsel (Nat.beq j id) .normal (.exit j), fr, s)
    | (e, fr, s) => some (e, fr, s)

noncomputable def runQ (lp : (Fr → Sg → Ran) → Fr → Sg → Ran) (call : CallFn) (b : Bar) (c : ACode) : Fr → Sg → Ran :=
  @ACode.rec (fun _ => Fr → Sg → Ran) (fun fr s => some (.normal, fr, s)) (fun ops outs fr s => regionQ call b ops outs fr s)
    (fun ops outs pairs iso slots fr s => drawnQ call (b.drawn iso s) ops outs pairs slots fr s)
    (fun ops outs pairs slots fr s => if Nat.ble b.w s.heap.length && allOld b.w (s.heap.take b.w) then drawnQ call (b.drawnW s) ops outs pairs slots fr s else none)
    (fun _ _ f g => qseq f g) (fun c _ _ f g => condQ c f g) (fun id _ f => blockQ id f) (fun _ f => lp f)
    (fun x g ts ps aops bops fr s => runRangeF call b x g ts ps aops bops fr s) (fun id fr s => some (.exit id, fr, s)) (fun fr s => some (.ret, fr, s)) (fun _ _ => none) c

theorem runQ_eq (lp : (Fr → Sg → Ran) → Fr → Sg → Ran) (call : CallFn) (b : Bar) : ∀ c : ACode, runQ lp call b c = fun fr s => ACode.run lp call b c fr s
  | .skip | .exit _ | .ret | .bad | .rangeF .. => rfl
  | .region _ _ => by funext fr s; exact regionQ_eq _ _ _ _ _ _
  | .drawn .. => by funext fr s; exact drawnQ_eq _ _ _ _ _ _ _ _
  | .drawnW .. => by
    funext fr s
    simp only [ACode.run, runDrawnW]
    show (if _ then drawnQ _ _ _ _ _ _ _ _ else none) = _
    rw [drawnQ_eq]
  | .seq x y => by
    have h1 := runQ_eq lp call b x
    have h2 := runQ_eq lp call b y
    funext fr s
    show qseq (runQ lp call b x) (runQ lp call b y) fr s = _
    rw [h1, h2]
    simp only [qseq, ACode.run, obind_eq]
    congr 1
    funext r
    obtain ⟨e, fr, s⟩ := r
    cases e <;> rfl
  | .cond c x y => by
    have h1 := runQ_eq lp call b x
    have h2 := runQ_eq lp call b y
    funext fr s
    show condQ c (runQ lp call b x) (runQ lp call b y) fr s = _
    rw [h1, h2]
    simp only [condQ, ACode.run, obind_eq, evQ_eq]
    congr 1; funext v; congr 1; funext t
    exact bsel_eq _ _ _
  | .block id x => by
    have h1 := runQ_eq lp call b x
    funext fr s
    show blockQ id (runQ lp call b x) fr s = _
    rw [h1]
    simp only [blockQ, ACode.run, obind_eq]
    congr 1
    funext r
    obtain ⟨e, fr, s⟩ := r
    cases e <;> simp only [bsel_eq]
  | .loop x => by
    have h1 := runQ_eq lp call b x
    funext fr s
    show lp (runQ lp call b x) fr s = _
    rw [h1]
    rfl

noncomputable def loopQ (n : Nat) : (Fr → Sg → Ran) → Fr → Sg → Ran :=
  @Nat.rec (fun _ => (Fr → Sg → Ran) → Fr → Sg → Ran) (fun _ _ _ => none) (fun _ ih f fr s => obind (f fr s) fun x => match x with
    | (.normal, fr, s) => ih f fr s
    | (e, fr, s) => some (e, fr, s)) n

theorem loopQ_eq : ∀ n : Nat, loopQ n = loopN n
  | 0 => rfl
  | n + 1 => by
    have ih := loopQ_eq n
    funext f fr s
    show (obind (f fr s) fun x => match x with
      | (.normal, fr, s) => loopQ n f fr s
      | (e, fr, s) => some (e, fr, s)) = _
    rw [ih, obind_eq]
    simp only [loopN]
    congr 1
    funext x
    obtain ⟨e, fr, s⟩ := x
    cases e <;> rfl

noncomputable def stepQ (T : Tab) (lp : (Fr → Sg → Ran) → Fr → Sg → Ran) (call : CallFn) (callD : DeferFn) : CallFn := fun b f args s =>
  match T.prim f with
  | some p => obind (p args) fun v => if v.old s.heap.length then some (.ret v, s) else none
  | none => obind (T.fn f) fun fn =>
    obind (runQ lp call (b.into fn.mode s) fn.code (startFr fn (if fn.keep then args else AV.weakAll args) .off) s) fun x => finish callD (b.into fn.mode s) fn s x.1 x.2.1 x.2.2

noncomputable def dstepQ (T : Tab) (lp : (Fr → Sg → Ran) → Fr → Sg → Ran) (call : CallFn) : DeferFn := fun b f args u s =>
  obind (T.fn f) fun fn => if fn.dfr && fn.results.isEmpty then
    obind (runQ lp call b fn.code (startFr fn args (panOf u)) s) fun x => match x.1, x.2.1.defers with
      | .normal, [] | .ret, [] => some (leftPan x.2.1, x.2.2)
      | _, _ => none
  else none

/-- a call, run fast -/
noncomputable def qcall (T : Tab) (n : Nat) : CallFn :=
  @Nat.rec (fun _ => CallFn) (fun _ _ _ _ => none) (fun n ih => stepQ T (loopQ n) ih (dstepQ T (loopQ n) ih)) n

theorem qcall_eq (T : Tab) : ∀ n : Nat, qcall T n = callF T n
  | 0 => rfl
  | n + 1 => by
    have ih := qcall_eq T n
    show stepQ T (loopQ n) (qcall T n) (dstepQ T (loopQ n) (qcall T n)) = callStep T (loopN n) (callF T n) (deferStep T (loopN n) (callF T n))
    rw [ih, loopQ_eq]
    have hd : dstepQ T (loopN n) (callF T n) = deferStep T (loopN n) (callF T n) := by
      funext b f args u s
      simp only [dstepQ, deferStep, obind_eq, runQ_eq]
      rfl
    rw [hd]
    funext b f args s
    simp only [stepQ, callStep, obind_eq, runQ_eq]
    rfl

end Go.Am

/-
  The abstract machine, made fast out of a program's code: the same functions, by ways that the kernel goes quickly.
-/
namespace Go.Am

noncomputable def bitQ (m t : Nat) : Bool := Nat.beq (Nat.land (Nat.shiftRight m t) 1) 1

theorem bitQ_eq (m t : Nat) : bitQ m t = m.testBit t := by
  rw [Nat.testBit_eq_decide_div_mod_eq]
  have h : Nat.land (Nat.shiftRight m t) 1 = m / 2 ^ t % 2 := by
    show (m >>> t) &&& 1 = _
    rw [Nat.and_one_is_mod, Nat.shiftRight_eq_div_pow]
  unfold bitQ
  rw [h, Bool.eq_iff_iff]
  simp

theorem beqQ (t u : Nat) : Nat.beq t u = (u == t) := Bool.eq_iff_iff.2 ⟨fun h => by simp [Nat.eq_of_beq_eq_true h], fun h => by have := eq_of_beq h; subst this; exact Nat.beq_refl _⟩

noncomputable def addQ (m t : Nat) : Nat := Nat.lor m (Nat.shiftLeft 1 t)

theorem addQ_eq (m t u : Nat) : (addQ m t).testBit u = (m.testBit u || Nat.beq t u) := by
  show (m ||| 1 <<< t).testBit u = _
  rw [Nat.testBit_or, Nat.one_shiftLeft, Nat.testBit_two_pow]
  congr 1
  rw [Bool.eq_iff_iff]
  simp

/-- each one once, but for those of a mask -/
noncomputable def onceQ (l : List Nat) : Nat → List Nat := @List.rec Nat (fun _ => Nat → List Nat) (fun _ => []) (fun t _ ih m => bsel (bitQ m t) (ih m) (t :: ih (addQ m t))) l

theorem onceQ_eq : ∀ (l acc : List Nat) (m : Nat), (∀ t, m.testBit t = acc.contains t) → once l acc = acc.reverse ++ onceQ l m
  | [], acc, m, _ => by simp [once, onceQ]
  | t :: r, acc, m, h => by
    show (if acc.contains t then once r acc else once r (t :: acc)) = acc.reverse ++ bsel (bitQ m t) (onceQ r m) (t :: onceQ r (addQ m t))
    rw [bsel_eq, bitQ_eq, h]
    split
    · exact onceQ_eq r acc m h
    · rw [onceQ_eq r (t :: acc) (addQ m t) fun u => by
        rw [addQ_eq, h, List.contains_cons, Bool.or_comm, beqQ]]
      simp

theorem onceQ_nil (l : List Nat) : onceQ l 0 = once l [] := by
  rw [onceQ_eq l [] 0 (by simp)]
  simp

noncomputable def lessQ (l : List Nat) (m : Nat) : List Nat := @List.rec Nat (fun _ => List Nat) [] (fun t _ ih => bsel (bitQ m t) ih (t :: ih)) l

theorem lessQ_eq : ∀ (l seen : List Nat) (m : Nat), (∀ t, m.testBit t = seen.contains t) → lessQ l m = l.filter fun t => !seen.contains t
  | [], _, _, _ => rfl
  | t :: r, seen, m, h => by
    have ih := lessQ_eq r seen m h
    show bsel (bitQ m t) (lessQ r m) (t :: lessQ r m) = _
    rw [ih, bitQ_eq, h, List.filter_cons]
    cases seen.contains t <;> rfl

noncomputable def moreQ (d : Option Nat) (m : Nat) : Nat := @Option.rec Nat (fun _ => Nat) m (fun t => addQ m t) d

noncomputable def usesQ (all : List Oper) (l : List Oper) : Nat → List Nat :=
  @List.rec Oper (fun _ => Nat → List Nat) (fun _ => []) (fun o _ ih m => appQ (lessQ (usesOf all o) m) (ih (moreQ o.dst m))) l

theorem usesQ_eq (all : List Oper) : ∀ (l : List Oper) (seen : List Nat) (m : Nat), (∀ t, m.testBit t = seen.contains t) → usesQ all l m = regionUses all l seen
  | [], _, _, _ => rfl
  | o :: r, seen, m, h => by
    show appQ (lessQ (usesOf all o) m) (usesQ all r (moreQ o.dst m)) = _
    rw [appQ_eq, lessQ_eq _ _ _ h]
    simp only [regionUses]
    congr 1
    refine usesQ_eq all r _ _ fun t => ?_
    cases o.dst with
    | none => exact h t
    | some d =>
      show (addQ m d).testBit t = _
      rw [addQ_eq, h]
      simp only [Option.toList, List.cons_append, List.nil_append, List.contains_cons]
      rw [Bool.or_comm, beqQ]

noncomputable def codeUsesQ : Code → List Nat
  | .rangeFunc x ps a c => codeUses (.rangeFunc x ps a c)
  | .region _ ops _ => usesQ ops.toList ops.toList 0
  | .seq a b => appQ (codeUsesQ a) (codeUsesQ b)
  | .cond c a b => appQ (opdTmps [c]) (appQ (codeUsesQ a) (codeUsesQ b))
  | .block _ c => codeUsesQ c
  | .loop c => codeUsesQ c
  | .scope c => codeUsesQ c
  | _ => []

theorem codeUsesQ_eq : ∀ c : Code, codeUsesQ c = codeUses c
  | .rangeFunc .. | .skip | .label _ | .exit _ | .ret | .goto _ | .refuse _ => by first | rfl | simp [codeUsesQ, codeUses]
  | .region _ ops _ => by
    simp only [codeUsesQ, codeUses]
    exact usesQ_eq _ _ [] 0 (by simp)
  | .seq a b => by simp only [codeUsesQ, codeUses, appQ_eq, codeUsesQ_eq a, codeUsesQ_eq b]
  | .cond c a b => by simp only [codeUsesQ, codeUses, appQ_eq, codeUsesQ_eq a, codeUsesQ_eq b]
  | .block _ c => by simp only [codeUsesQ, codeUses, codeUsesQ_eq c]
  | .loop c => by simp only [codeUsesQ, codeUses, codeUsesQ_eq c]
  | .scope c => by simp only [codeUsesQ, codeUses, codeUsesQ_eq c]

-- ---------------------------------------------------------------- no wait is without an end

noncomputable def aheadQ (l : List Edge) (i : Nat) : Bool := @List.rec Edge (fun _ => Bool) true (fun e _ ih => bsel (Nat.blt e.on i) ih false) l

/-- each operation waits for earlier ones alone -/
noncomputable def fwdQ (l : List Oper) : Nat → Bool := @List.rec Oper (fun _ => Nat → Bool) (fun _ => true) (fun o _ ih i => bsel (aheadQ o.after.toList i) (ih (Nat.succ i)) false) l

theorem aheadQ_all : ∀ (l : List Edge) (i : Nat), aheadQ l i = true → ∀ e ∈ l, e.on < i
  | [], _, _, _, h => by cases h
  | x :: r, i, h, e, he => by
    have h : bsel (Nat.blt x.on i) (aheadQ r i) false = true := h
    rw [bsel_eq] at h
    split at h
    · rename_i hx
      rcases List.mem_cons.1 he with rfl | he
      · simpa [Nat.blt_eq] using hx
      · exact aheadQ_all r i h e he
    · cases h

theorem passQ_ok (md : Region.Mode) : ∀ (l : List Oper) (i seen : Nat), fwdQ l i = true → (∀ t, t < i → seen.testBit t = true) → ∀ t, t < i + l.length → (pass md l i seen).testBit t = true
  | [], i, seen, _, hs, t, ht => hs t (by simpa using ht)
  | o :: r, i, seen, h, hs, t, ht => by
    have h : bsel (aheadQ o.after.toList i) (fwdQ r (i + 1)) false = true := h
    rw [bsel_eq] at h
    split at h
    · rename_i ha
      have ha := aheadQ_all _ _ ha
      simp only [pass]
      have : (o.after.toList.all fun e => !(Region.binds md e) || seen.testBit e.on) = true := by
        rw [List.all_eq_true]
        intro e he
        rw [hs _ (ha e he)]
        simp
      rw [if_pos this]
      refine passQ_ok md r (i + 1) _ h (fun u hu => ?_) t (by simp at ht; omega)
      rw [Nat.testBit_or, Nat.testBit_two_pow]
      by_cases e : u = i
      · simp [e]
      · rw [hs u (by omega)]; rfl
    · cases h

theorem allBitsQ_ok : ∀ (n seen : Nat), (∀ t, t < n → seen.testBit t = true) → allBits n seen = true
  | 0, _, _ => rfl
  | n + 1, seen, h => by
    simp only [allBits, h n (by omega), Bool.true_and]
    exact allBitsQ_ok n seen fun t ht => h t (by omega)

theorem topoQ_fwd (md : Region.Mode) {l : List Oper} (h : fwdQ l 0 = true) : topoOk md l = true := by
  have h1 : allBits l.length (pass md l 0 0) = true := allBitsQ_ok _ _ fun t ht => passQ_ok md l 0 0 h (fun u hu => absurd hu (Nat.not_lt_zero _)) t (by omega)
  unfold topoOk
  cases l with
  | nil => rfl
  | cons o r =>
    show allBits (r.length + 1) (passes md (o :: r) (r.length + 1) 0) = true
    simp only [passes]
    split
    · rename_i h0; exact h0
    · have h2 : ∀ k, allBits (r.length + 1) (passes md (o :: r) k (pass md (o :: r) 0 0)) = true := by
        intro k
        cases k with
        | zero => exact h1
        | succ k =>
          simp only [passes]
          rw [if_pos h1]
          exact h1
      exact h2 _

noncomputable def topoQ (l : List Oper) : Bool := bsel (fwdQ l 0) true (topoOk .any l && (topoOk .text l && topoOk .gc l))

theorem topoQ_eq (l : List Oper) : topoQ l = (topoOk .any l && (topoOk .text l && topoOk .gc l)) := by
  unfold topoQ
  rw [bsel_eq]
  split
  · rename_i h
    rw [topoQ_fwd _ h, topoQ_fwd _ h, topoQ_fwd _ h]
    rfl
  · rfl

-- ---------------------------------------------------------------- pairs

noncomputable def hasQ (l : List Nat) (t : Nat) : Bool := @List.rec Nat (fun _ => Bool) false (fun u _ ih => bsel (Nat.beq u t) true ih) l

theorem hasQ_eq : ∀ (l : List Nat) (t : Nat), hasQ l t = l.contains t
  | [], _ => rfl
  | u :: r, t => by
    have ih := hasQ_eq r t
    show bsel (Nat.beq u t) true (hasQ r t) = _
    rw [ih, List.contains_cons]
    rw [beqQ]
    cases t == u <;> rfl

noncomputable def writesQ (x y : Row) : Bool := @Option.rec Nat (fun _ => Bool) false (fun t => hasQ y.uses t) x.o.dst

theorem writesQ_eq (x y : Row) : writesQ x y = writes x y := by
  unfold writesQ writes
  cases x.o.dst
  · rfl
  · exact hasQ_eq _ _

noncomputable def dstQ (a b : Option Nat) : Bool := @Option.rec Nat (fun _ => Bool) false (fun t => @Option.rec Nat (fun _ => Bool) false (fun u => Nat.beq t u) b) a

theorem dstQ_eq (x y : Row) : dstQ x.o.dst y.o.dst = sameDst x y := by
  unfold dstQ sameDst
  cases x.o.dst <;> cases y.o.dst <;> rfl

noncomputable def pairQ (rows : List Row) (x y : Row) : Option (List Chk) :=
  bsel (dstQ x.o.dst y.o.dst) none (bsel (bitQ y.mask x.i) (some []) (bsel (writesQ x y) none (bsel (writesQ y x) none (clsPair rows x y))))

theorem pairQ_eq (rows : List Row) (x y : Row) : pairQ rows x y = pairOf rows x y := by
  unfold pairQ pairOf
  rw [dstQ_eq, bitQ_eq, writesQ_eq, writesQ_eq]
  simp only [bsel_eq]
  cases writes x y <;> cases writes y x <;> rfl

noncomputable def withQ (rows : List Row) (x : Row) (l : List Row) : Option (List Chk) :=
  @List.rec Row (fun _ => Option (List Chk)) (some []) (fun y _ ih => obind (pairQ rows x y) fun a => obind ih fun b => some (appQ a b)) l

theorem withQ_eq (rows : List Row) (x : Row) : ∀ l : List Row, withQ rows x l = pairsWith rows x l
  | [] => rfl
  | y :: r => by
    have ih := withQ_eq rows x r
    show (obind (pairQ rows x y) fun a => obind (withQ rows x r) fun b => some (appQ a b)) = _
    simp only [obind_eq, ih, pairQ_eq, appQ_eq, pairsWith]
    cases pairOf rows x y <;> cases pairsWith rows x r <;> rfl

noncomputable def allPairsQ (rows : List Row) (l : List Row) : Option (List Chk) :=
  @List.rec Row (fun _ => Option (List Chk)) (some []) (fun x r ih => obind (withQ rows x r) fun a => obind ih fun b => some (appQ a b)) l

theorem allPairsQ_eq (rows : List Row) : ∀ l : List Row, allPairsQ rows l = allPairs rows l
  | [] => rfl
  | x :: r => by
    have ih := allPairsQ_eq rows r
    show (obind (withQ rows x r) fun a => obind (allPairsQ rows r) fun b => some (appQ a b)) = _
    simp only [obind_eq, ih, withQ_eq, appQ_eq, allPairs]
    cases pairsWith rows x r <;> cases allPairs rows r <;> rfl

noncomputable def drawnPairsQ (rows : List Row) (ops : List Oper) : Option (List Chk) := bsel (topoQ ops) (allPairsQ rows rows) none

theorem drawnPairsQ_eq (cfg : Cfg) (ops : List Oper) (l : List AOper) : drawnPairsQ (mkRows cfg l (masks ops []) 0) ops = drawnPairs cfg ops l := by
  unfold drawnPairsQ drawnPairs
  rw [topoQ_eq, bsel_eq, allPairsQ_eq]

-- ---------------------------------------------------------------- code

noncomputable def maskLQ (l : List Nat) : Nat := @List.rec Nat (fun _ => Nat) 0 (fun t _ ih => addQ ih t) l

theorem maskLQ_eq : ∀ (l : List Nat) (t : Nat), (maskLQ l).testBit t = l.contains t
  | [], t => by show (0 : Nat).testBit t = _; simp
  | u :: r, t => by
    show (addQ (maskLQ r) u).testBit t = _
    rw [addQ_eq, maskLQ_eq r, List.contains_cons, Bool.or_comm, beqQ]

/-- the temporaries of a region that live on -/
noncomputable def regOutsQ (ops : List Oper) (sm : Nat) : Nat → List Nat :=
  @List.rec Oper (fun _ => Nat → List Nat) (fun _ => []) (fun o _ ih m => @Option.rec Nat (fun _ => List Nat) (ih m) (fun t => bsel (bitQ sm t) (bsel (bitQ m t) (ih m) (t :: ih (addQ m t))) (ih m)) o.dst) ops

theorem regOutsQ_eq {slots : List Nat} {sm : Nat} (h : ∀ t, sm.testBit t = slots.contains t) : ∀ (ops : List Oper) (m : Nat), regOutsQ ops sm m = onceQ ((ops.filterMap (·.dst)).filter slots.contains) m
  | [], _ => rfl
  | o :: r, m => by
    have ih := regOutsQ_eq h r
    show @Option.rec Nat (fun _ => List Nat) (regOutsQ r sm m) (fun t => bsel (bitQ sm t) (bsel (bitQ m t) (regOutsQ r sm m) (t :: regOutsQ r sm (addQ m t))) (regOutsQ r sm m)) o.dst = _
    cases hd : o.dst with
    | none =>
      have : (o :: r).filterMap (·.dst) = r.filterMap (·.dst) := by simp [hd]
      rw [this]
      exact ih m
    | some t =>
      have : (o :: r).filterMap (·.dst) = t :: r.filterMap (·.dst) := by simp [hd]
      rw [this, List.filter_cons]
      show bsel (bitQ sm t) (bsel (bitQ m t) (regOutsQ r sm m) (t :: regOutsQ r sm (addQ m t))) (regOutsQ r sm m) = _
      rw [bitQ_eq sm, h]
      cases slots.contains t
      · exact ih m
      · simp only [ih]
        rfl

noncomputable def tRegionQ (P : Program) (cfg : Cfg) (mu : Nat → Bool) (fv : Nat → Option FuncId) (sm : Nat) (ops : List Oper) (draw : Bool) : ACode :=
  let l := tOps P mu fv ops
  let outs := regOutsQ ops sm 0
  bsel draw (
    let q := drawnOps cfg ops l
    match drawnPairsQ (mkRows cfg q.1 (masks ops []) 0) ops with
    | some ps => if mu 1000000 then .drawnW q.1 outs ps q.2 else .drawn q.1 outs ps (q.1.any fun o => o.op.isIso) q.2
    | none => match litPairs cfg ops q with
      | some ps => .drawn q.1 outs ps (q.1.any fun o => o.op.isIso) q.2
      | none => match lazyPairs cfg ops l with
        | some x => .drawn l outs x.2.2.2 false 0
        | none => .bad) (.region (l.map toYield) outs)

theorem tRegionQ_eq (P : Program) (cfg : Cfg) (mu : Nat → Bool) (fv : Nat → Option FuncId) {slots : List Nat} {sm : Nat} (h : ∀ t, sm.testBit t = slots.contains t) (ops : List Oper) (draw : Bool) :
    tRegionQ P cfg mu fv sm ops draw = tRegion P cfg mu fv slots ops draw := by
  unfold tRegionQ tRegion
  simp only [drawnPairsQ_eq, regOutsQ_eq h, onceQ_nil]
  cases draw <;> rfl

noncomputable def tCodeQ (P : Program) (cfg : Cfg) (mu : Nat → Bool) (fv : Nat → Option FuncId) (sm : Nat) : Code → ACode
  | .skip => .skip
  | .region _ ops draw => tRegionQ P cfg mu fv sm ops.toList draw
  | .seq a b => .seq (tCodeQ P cfg mu fv sm a) (tCodeQ P cfg mu fv sm b)
  | .cond c a b => match tOpd c with | some x => .cond x (tCodeQ P cfg mu fv sm a) (tCodeQ P cfg mu fv sm b) | none => .bad
  | .block id c => .block id (tCodeQ P cfg mu fv sm c)
  | .loop c => .loop (tCodeQ P cfg mu fv sm c)
  | .scope c => tCodeQ P cfg mu fv sm c
  | .label _ => .skip
  | .rangeFunc x ps a c => tRange P mu fv x ps.toList a c
  | .exit id => .exit id
  | .ret => .ret
  | _ => .bad

theorem tCodeQ_eq (P : Program) (cfg : Cfg) (mu : Nat → Bool) (fv : Nat → Option FuncId) {slots : List Nat} {sm : Nat} (h : ∀ t, sm.testBit t = slots.contains t) : ∀ c : Code, tCodeQ P cfg mu fv sm c = tCode P cfg mu fv slots c := by
  intro c
  fun_induction tCode P cfg mu fv slots c <;> simp_all [tCodeQ, tCode, tRegionQ_eq P cfg mu fv h]

noncomputable def slotsQ (fn : Func) (rs : List ARes) (c : Code) : List Nat := onceQ (appQ (List.range (fn.params.size + fn.nfree)) (appQ (rs.map (·.t)) (codeUsesQ c))) 0

theorem slotsQ_eq (fn : Func) (rs : List ARes) (c : Code) : slotsQ fn rs c = slotsOf fn rs c := by
  unfold slotsQ slotsOf
  rw [onceQ_nil, appQ_eq, appQ_eq, codeUsesQ_eq, List.append_assoc]

/-- a function of the program, made fast -/
noncomputable def tFuncQ (P : Program) (cfg : Cfg) (f : FuncId) : Option AFunc :=
  match P.funcs[f]? with
  | some fn => match fn.body, tResults P (cfg.keep f) fn.results.toList fn.resultTypes.toList with
    | some c, some rs =>
      if allLt fn.ntmps (codeDsts c) && !(fn.name == "runtime.NumGoroutine") then
        some { mode := cfg.mode f, keep := cfg.keep f, slots := slotsQ fn rs c, results := rs, dfr := okS c, code := tCodeQ P cfg (cfg.mu f) (cfg.fv f) (maskLQ (slotsQ fn rs c)) c }
      else none
    | _, _ => none
  | none => none

theorem tFuncQ_eq (P : Program) (cfg : Cfg) (f : FuncId) : tFuncQ P cfg f = tFunc P cfg f := by
  unfold tFuncQ tFunc
  cases P.funcs[f]? with
  | none => rfl
  | some fn =>
    simp only
    cases fn.body with
    | none => rfl
    | some c =>
      cases tResults P (cfg.keep f) fn.results.toList fn.resultTypes.toList with
      | none => rfl
      | some rs =>
        simp only
        rw [slotsQ_eq, tCodeQ_eq P cfg (cfg.mu f) (cfg.fv f) (maskLQ_eq _)]

end Go.Am
