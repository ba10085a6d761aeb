/-
  The abstract machine: whole bodies and calls; what it answers, the model answers; one step at a time.
-/
import Derived.Test.YtopnndphfdeoiaaGreatMachB
import Derived.Recover
import Derived.RangeFuncIn
import Derived.RangeFuncLeaves
import Derived.RangeFuncRecord
import Derived.Orders

/-
  The abstract machine, twenty-first part: one operation of a region.
-/
namespace Go.Am
open Go.RowKit (Below)

variable {P : Program} {γ : Gh} {w : World} {s : Sg}

-- ---------------------------------------------------------------- what is to be known of calls

def OutR (γ : Gh) (w : World) : Out → Ending → Prop
  | .ret v, .returned c => VR γ w v c
  | .panic v, .panicked chain => ∃ c, chain = [{ v := c, recovered := false }] ∧ VR γ w v c
  | _, _ => False

def CallsR (P : Program) (γ : Gh) (w : World) (f : FuncId) (args : Array Value) (out : Out) (s' : Sg) : Prop :=
  Calls P f args w fun e w' => ∃ γ', Le γ w γ' w' ∧ Inv P γ' s' w' ∧ OutR γ' w' out e

/-- what a call's step comes to -/
def InvokeR (P : Program) (γ : Gh) (w : World) (f : FuncId) (args : Array Value) (out : Out) (s' : Sg) : Prop :=
  (∃ γ' w' c v, (callFunc f args).run P w = .ok (.value c) w' ∧ Le γ w γ' w' ∧ Inv P γ' s' w' ∧ out = .ret v ∧ VR γ' w' v c) ∨
  ((callFunc f args).run P w = .ok (.enter f args) w ∧ CallsR P γ w f args out s')

structure CallOk (P : Program) (call : CallFn) : Prop where
  keeps : CallKeeps call
  ok : ∀ b f l s out s', call b f l s = some (out, s') → ∀ (γ : Gh) (w : World), Inv P γ s w → ∀ args : Array Value, VRs γ w l args → InvokeR P γ w f args out s'

-- ---------------------------------------------------------------- frames

def DefR (γ : Gh) (w : World) (d : FuncId × List AV) (c : Deferred) : Prop :=
  (∃ cap args : Array Value, c = { target := .fn (.func d.1) cap, args := args } ∧ VRs γ w d.2 (args ++ cap)) ∨
  (d.1 = markF ∧ ∃ i g o r, d.2 = [.undef, .ptr i g o] ∧ c = { target := .collected r, args := #[] } ∧ γ.live i ∧ (γ.ge i = 0 → γ.ob i = r))

theorem DefR.mono {γ' : Gh} {w' : World} (h : Le γ w γ' w') {d : FuncId × List AV} {c : Deferred} (hd : DefR γ w d c) : DefR γ' w' d c := by
  rcases hd with ⟨cap, args, e, hv⟩ | ⟨e, i, g, o, r, e1, e2, hl, hr⟩
  · exact .inl ⟨cap, args, e, hv.mono h⟩
  · have h1 := h.ge i hl
    exact .inr ⟨e, i, g, o, r, e1, e2, h.live hl, fun e3 => by rw [h.ob i hl (by omega)]; exact hr (by omega)⟩

def DefsR (γ : Gh) (w : World) : List (FuncId × List AV) → List Deferred → Prop
  | [], [] => True
  | d :: ds, c :: cs => DefR γ w d c ∧ DefsR γ w ds cs
  | _, _ => False

theorem DefsR.mono {γ' : Gh} {w' : World} (h : Le γ w γ' w') : ∀ {ds : List (FuncId × List AV)} {cs : List Deferred}, DefsR γ w ds cs → DefsR γ' w' ds cs
  | [], [], _ => trivial
  | d :: ds, c :: cs, ⟨hd, hr⟩ => ⟨hd.mono h, DefsR.mono h hr⟩
  | [], _ :: _, h => h.elim
  | _ :: _, [], h => h.elim

structure RelR (P : Program) (γ : Gh) (w : World) (loc : Env) (fr : Fr) (s : Sg) (n : Nat) (a : Act) : Prop where
  inv : Inv P γ s w
  ev : EvR γ w loc fr.pers a
  defs : DefsR γ w fr.defers a.defers
  size : n ≤ a.tmps.size

theorem look_cons (u : Nat) (v : AV) (loc pers : Env) (t : Nat) : Env.look ((u, v) :: loc) pers t = if u = t then v else Env.look loc pers t := by
  simp only [Env.look]
  by_cases h : u = t
  · subst h; simp
  · have : Nat.beq u t = false := by
      cases hb : Nat.beq u t with
      | false => rfl
      | true => exact absurd (Nat.eq_of_beq_eq_true hb) h
    rw [this, if_neg h]
    simp

/-- a value is put into its temporary -/
theorem RelR.put {γ' : Gh} {w' : World} {loc : Env} {fr fr' : Fr} {s' : Sg} {n : Nat} {a a' : Act} {dst : Option Nat} {v : AV} {c : Value} (h : RelR P γ w loc fr s n a) (hle : Le γ w γ' w') (hI : Inv P γ' s' w') (hv : VR γ' w' v c)
    (hd : ∀ t, dst = some t → t < n) (hp : fr'.pers = fr.pers) (ht : a'.tmps = a.tmps) (hdef : DefsR γ' w' fr'.defers a'.defers) : RelR P γ' w' (setLoc loc dst v) fr' s' n (a'.put dst c) where
  inv := hI
  ev := by
    intro t hne
    rw [hp] at hne ⊢
    cases dst with
    | none =>
      simp only [setLoc, Act.put] at hne ⊢
      rw [ht]
      exact (h.ev.mono hle) t hne
    | some d =>
      simp only [setLoc, Act.put, look_cons] at hne ⊢
      rw [ht]
      have hdn := hd d rfl
      have hsz := h.size
      by_cases e : d = t
      · subst e
        rw [if_pos rfl]
        exact ⟨c, by simp [Array.getElem?_setIfInBounds, show d < a.tmps.size by omega], hv⟩
      · rw [if_neg e] at hne ⊢
        obtain ⟨x, hx, hvx⟩ := (h.ev.mono hle) t hne
        exact ⟨x, by rw [Array.getElem?_setIfInBounds_ne e]; exact hx, hvx⟩
  defs := by cases dst <;> exact hdef
  size := by
    have := h.size
    cases dst <;> simp [Act.put, ht, this]

theorem undef_VR : VR γ w (.tup []) undef := .tup [] #[] rfl (fun j u x hu => by simp at hu)

-- ---------------------------------------------------------------- guards

theorem wanted_ok {loc pers : Env} {a : Act} (hE : EvR γ w loc pers a) {ops : Array Oper} {o : Oper} (hg : o.guard.isSome = true → (guardTmp ops.toList o.guard).isSome = true) {wd : Bool} (h : wantedA loc pers (guardTmp ops.toList o.guard) = some wd) :
    Region.wanted o (yielded ops a.tmps) = wd := by
  unfold Region.wanted
  cases hgd : o.guard with
  | none =>
    rw [hgd] at h
    simp [guardTmp, wantedA] at h
    rw [← h]
  | some jw =>
    obtain ⟨j, want⟩ := jw
    rw [hgd] at h hg
    have hg := hg rfl
    simp only [guardTmp] at h hg
    cases hd : (ops.toList[j]?).bind (·.dst) with
    | none => rw [hd] at hg; cases hg
    | some t =>
      rw [hd] at h
      have hd' : (ops[j]?).bind (·.dst) = some t := by rw [← Array.getElem?_toList]; exact hd
      simp only [wantedA] at h
      have hy : yielded ops a.tmps j = (match a.tmps[t]? with | some (.bool b) => some b | _ => none) := by
        unfold yielded
        rw [hd']
        rfl
      dsimp only
      rw [hy]
      have hne : Env.look loc pers t ≠ .undef := fun e => by rw [e] at h; cases h
      obtain ⟨c, hc, hv⟩ := hE t hne
      rw [hc]
      generalize Env.look loc pers t = v at *
      cases hv <;> simp at h ⊢ <;> first | exact h | exact h.symm

-- ---------------------------------------------------------------- one operation

theorem run_call_func {f : FuncId} {cap : Array Value} {args : Array Value} : invoke (.fn (.func f) cap) args = callFunc f (args ++ cap) := rfl

theorem resolve_value {ρ : Operand → Value} {c : Call} {type : TypeId} {x : Operand} (hc : c.callee = .value x) {f : FuncId} {first cap : Array Value} (hx : ρ x = .func (.func f) first cap) :
    resolve ρ c type = pure { target := .fn (.func f) cap, args := first ++ c.args.map ρ } := by
  simp [resolve, hc, Deferred.ofValue, hx]

theorem if?_some {u v : AV} (h : u.if? = some v) : v = u ∧ ∃ t x, u = .iface t x := by
  cases u <;> simp [AV.if?] at h
  exact ⟨h.symm, _, _, rfl⟩

theorem VRs.append {a b : List AV} {x y : Array Value} (ha : VRs γ w a x) (hb : VRs γ w b y) : VRs γ w (a ++ b) (x ++ y) := by
  refine ⟨by simp [ha.1, hb.1], fun j u z hu hz => ?_⟩
  rw [List.getElem?_append] at hu
  rw [Array.getElem?_append] at hz
  have := ha.1
  split at hu
  · rw [if_pos (by omega)] at hz
    exact ha.2 j u z hu hz
  · rw [if_neg (by omega)] at hz
    rw [ha.1] at hu
    exact hb.2 _ u z hu hz

theorem fn?_some {u : AV} {l : List AV} {c : FuncId × List AV} (h : u.fn? l = some c) : ∃ f a b, u = .func f a b ∧ c = (f, a ++ l ++ b) := by
  cases u <;> simp [AV.fn?] at h
  exact ⟨_, _, _, rfl, by rw [List.append_assoc]; exact h.symm⟩

theorem methTbl_find {t : TypeId} {f : FuncId} {name : String} : ∀ {n : Nat}, tblFind (methTbl P name n) t = some f → methOf P t name = some f
  | 0, h => by cases h
  | n + 1, h => by
    simp only [methTbl] at h
    split at h
    · rename_i g hg
      simp only [tblFind] at h
      split at h
      · rename_i e
        have e := Nat.eq_of_beq_eq_true e
        subst e
        cases h
        exact hg
      · exact methTbl_find h
    · exact methTbl_find h

theorem method_run {t : TypeId} {f : FuncId} {name : String} (h : methOf P t name = some f) (n : Nat) (v : Value) : (method (n + 1) t v name).run P w = .ok (f, v) w := by
  unfold methOf at h
  split at h
  · rename_i m e hm hu
    split at h
    · rename_i g h1 h2
      cases h
      simp only [Option.bind_eq_some_iff] at hm
      obtain ⟨i, hi, hm⟩ := hm
      simp [method, run_typeInfo hi, hm, h1, h2, follow, receiverAt, run_underlying hu, Place.get]
    · cases h
  · cases h

theorem meth?_some {tbl : List (TypeId × FuncId)} {u : AV} {l : List AV} {c : FuncId × List AV} (h : u.meth? tbl l = some c) : ∃ t v f, u = .iface t v ∧ tblFind tbl t = some f ∧ c = (f, v :: l) := by
  cases u <;> simp [AV.meth?] at h
  obtain ⟨f, hf, rfl⟩ := h
  exact ⟨_, _, _, rfl, hf, rfl⟩

theorem tOp_kind {mu : Bool} {op : Op} {ao : AOp} (h : tOp P mu op = some ao) : (∃ p, ao = .v p) ∨ (∃ p, ao = .e p) ∨ (∃ c, op = .call c) ∨ (∃ c, op = .defer c) ∨ ∃ x, op = .panic x := by
  cases op
  case call c => exact .inr (.inr (.inl ⟨_, rfl⟩))
  case defer c => exact .inr (.inr (.inr (.inl ⟨_, rfl⟩)))
  case panic x => exact .inr (.inr (.inr (.inr ⟨_, rfl⟩)))
  case makeFunc f first cap =>
    cases f <;> try (simp [tOp] at h; done)
    simp only [tOp, Option.bind_eq_some_iff, Option.map_eq_some_iff] at h
    obtain ⟨_, _, _, _, rfl⟩ := h
    exact .inl ⟨_, rfl⟩
  case makeMap t r =>
    cases r with
    | none =>
      simp only [tOp] at h
      split at h
      · cases h; exact .inr (.inl ⟨_, rfl⟩)
      · cases h
    | some r => cases r with
      | const c => cases c with
        | int k n =>
          simp only [tOp] at h
          split at h
          · cases h; exact .inr (.inl ⟨_, rfl⟩)
          · cases h
        | _ => cases h
      | _ => cases h
  case makeSlice t l c =>
    simp only [tOp] at h
    split at h
    · simp only [Option.bind_eq_some_iff] at h
      obtain ⟨_, _, _, _, _, _, _, _, h⟩ := h
      split at h
      · cases h; exact .inr (.inl ⟨_, rfl⟩)
      · cases h
    · cases h
  case next x str =>
    cases str with
    | false => cases h
    | true =>
      simp only [tOp] at h
      obtain ⟨_, _, rfl⟩ := Option.map_eq_some_iff.1 h
      exact .inr (.inl ⟨_, rfl⟩)
  all_goals
    simp only [tOp] at h
    first
      | (cases h; done)
      | (obtain ⟨_, _, rfl⟩ := Option.map_eq_some_iff.1 h; first | exact .inl ⟨_, rfl⟩ | exact .inr (.inl ⟨_, rfl⟩))
      | (repeat' (split at h)
         all_goals first
           | (cases h; done)
           | (cases h; first | exact .inl ⟨_, rfl⟩ | exact .inr (.inl ⟨_, rfl⟩))
           | (obtain ⟨_, _, rfl⟩ := Option.map_eq_some_iff.1 h; first | exact .inl ⟨_, rfl⟩ | exact .inr (.inl ⟨_, rfl⟩)))

theorem tCall_kind {mu : Bool} {c : Call} {ao : AOp} (h : tCall P c mu = some ao) : (∃ p, ao = .v p) ∨ (∃ p, ao = .e p) ∨ (∃ f xs, ao = .call f xs ∧ c.callee = .value (.func f) ∧ tOpds c.args.toList = some xs) ∨ (∃ x y xs, ao = .callv y xs ∧ c.callee = .value x ∧ tOpd x = some y ∧ tOpds c.args.toList = some xs) ∨
    (ao = .recover ∧ c.callee = .builtin .recover) ∨ (∃ x name y xs, ao = .invk (methTbl P name P.types.size) y xs ∧ c.callee = .invoke x name ∧ tOpd x = some y ∧ tOpds c.args.toList = some xs) := by
  unfold tCall at h
  split at h
  · rename_i f hcl
    obtain ⟨xs, hxs, rfl⟩ := Option.map_eq_some_iff.1 h
    exact .inr (.inr (.inl ⟨_, _, rfl, hcl, hxs⟩))
  · rename_i x hne hcl
    simp only [Option.bind_eq_some_iff, Option.map_eq_some_iff] at h
    obtain ⟨y, hy, xs, hxs, rfl⟩ := h
    exact .inr (.inr (.inr (.inl ⟨_, _, _, rfl, hcl, hy, hxs⟩)))
  · rename_i x name hcl
    simp only [Option.bind_eq_some_iff, Option.map_eq_some_iff] at h
    obtain ⟨y, hy, xs, hxs, rfl⟩ := h
    exact .inr (.inr (.inr (.inr (.inr ⟨_, _, _, _, rfl, hcl, hy, hxs⟩))))
  · rename_i b hcl
    split at h
    · split at h <;> first | (cases h; done) | (cases h; exact .inl ⟨_, rfl⟩)
    · split at h
      · obtain ⟨_, _, rfl⟩ := Option.map_eq_some_iff.1 h
        exact .inr (.inl ⟨_, rfl⟩)
      · obtain ⟨_, _, rfl⟩ := Option.map_eq_some_iff.1 h
        exact .inr (.inl ⟨_, rfl⟩)
      · split at h
        · split at h
          · cases h; exact .inr (.inl ⟨_, rfl⟩)
          · cases h
        · cases h
      · cases h
    · split at h
      · obtain ⟨_, _, rfl⟩ := Option.map_eq_some_iff.1 h
        exact .inr (.inl ⟨_, rfl⟩)
      · cases h
    · cases h; exact .inl ⟨_, rfl⟩
    · cases h; exact .inl ⟨_, rfl⟩
    · cases h; exact .inl ⟨_, rfl⟩
    · cases h; exact .inl ⟨_, rfl⟩
    · cases h; exact .inl ⟨_, rfl⟩
    · cases h; exact .inr (.inr (.inr (.inr (.inl ⟨rfl, hcl⟩))))
    · split at h
      · split at h
        · split at h
          · cases h; exact .inr (.inl ⟨_, rfl⟩)
          · cases h
        · cases h
      · cases h
    · split at h
      · cases h; exact .inl ⟨_, rfl⟩
      · cases h
    · cases h

theorem tDefer_kind {mu : Bool} {c : Call} {ao : AOp} (h : tOp P mu (.defer c) = some ao) : ∃ x y xs, ao = .defer y xs ∧ c.callee = .value x ∧ tOpd x = some y ∧ tOpds c.args.toList = some xs := by
  simp only [tOp] at h
  split at h
  · rename_i x hcl
    split at h
    · rename_i y xs h1 h2
      cases h
      exact ⟨_, _, _, rfl, hcl, h1, h2⟩
    · cases h
  · cases h

/-- which of the machine's operations an operation may have become -/
inductive Of (P : Program) (mu : Bool) (op : Op) : AOp → Prop
  | same {ao} : tOp P mu op = some ao → Of P mu op ao
  | fill {k p} : tOp P mu op = some (.e p) → Of P mu op (.fill k p)
  | callk {f x l} : tOp P mu op = some (.callv x l) → Of P mu op (.callk f x l)
  | calli {f l} : tOp P mu op = some (.call f l) → Of P mu op (.calli f none l)
  | calliv {f x l} : tOp P mu op = some (.callv x l) → Of P mu op (.calli f (some x) l)

theorem tOp_not {mu : Bool} {op : Op} {ao : AOp} (h : tOp P mu op = some ao) : (∀ k p, ao ≠ .fill k p) ∧ (∀ f x l, ao ≠ .callk f x l) ∧ ∀ f x l, ao ≠ .calli f x l := by
  rcases tOp_kind h with ⟨_, rfl⟩ | ⟨_, rfl⟩ | ⟨c, rfl⟩ | ⟨c, rfl⟩ | ⟨z, rfl⟩
  · exact ⟨fun _ _ => nofun, fun _ _ _ => nofun, fun _ _ _ => nofun⟩
  · exact ⟨fun _ _ => nofun, fun _ _ _ => nofun, fun _ _ _ => nofun⟩
  · simp only [tOp] at h
    rcases tCall_kind h with ⟨_, rfl⟩ | ⟨_, rfl⟩ | ⟨_, _, rfl, h1, h2⟩ | ⟨_, _, _, rfl, h1, h2, h3⟩ | ⟨rfl, _⟩ | ⟨_, _, _, _, rfl, _⟩ <;> exact ⟨fun _ _ => nofun, fun _ _ _ => nofun, fun _ _ _ => nofun⟩
  · obtain ⟨_, _, _, rfl, h1, h2, h3⟩ := tDefer_kind h
    exact ⟨fun _ _ => nofun, fun _ _ _ => nofun, fun _ _ _ => nofun⟩
  · simp only [tOp, Option.map_eq_some_iff] at h
    obtain ⟨y, hy, rfl⟩ := h
    exact ⟨fun _ _ => nofun, fun _ _ _ => nofun, fun _ _ _ => nofun⟩

theorem tOp_notY {mu : Bool} {op : Op} {ao : AOp} (h : tOp P mu op = some ao) : ∀ x l, ao ≠ .yieldc x l := by
  rcases tOp_kind h with ⟨_, rfl⟩ | ⟨_, rfl⟩ | ⟨c, rfl⟩ | ⟨c, rfl⟩ | ⟨z, rfl⟩
  · exact fun _ _ => nofun
  · exact fun _ _ => nofun
  · simp only [tOp] at h
    rcases tCall_kind h with ⟨_, rfl⟩ | ⟨_, rfl⟩ | ⟨_, _, rfl, h1, h2⟩ | ⟨_, _, _, rfl, h1, h2, h3⟩ | ⟨rfl, _⟩ | ⟨_, _, _, _, rfl, _⟩ <;> exact fun _ _ => nofun
  · obtain ⟨_, _, _, rfl, h1, h2, h3⟩ := tDefer_kind h
    exact fun _ _ => nofun
  · simp only [tOp, Option.map_eq_some_iff] at h
    obtain ⟨y, hy, rfl⟩ := h
    exact fun _ _ => nofun

/-- a function whose calls change nothing -/
def PureAt (call : CallFn) (f : FuncId) : Prop := ∀ b l s out s', call b f l s = some (out, s') → s' = s ∧ ∀ v, out = .ret v → v.old s.heap.length = true

/-- may a call see what there was ahead of the region alone? -/
def IsoOk (b : Bar) (s : Sg) : Prop := b.c0 ≤ s.heap.length ∧ b.t0 ≤ s.toks.length ∧ ∀ (i : Nat) o, i < b.c0 → s.heap[i]? = some o → o.old b.c0 = true

/-- a call that sees what there was alone -/
theorem iso_ok {call : CallFn} (hc : CallOk P call) {b : Bar} {f : FuncId} (hp : PureAt call f) (hs : IsoOk b s) (hI : Inv P γ s w) {l : List AV} {args : Array Value} (hv : VRs γ w l args) (ho : AV.oldAll b.c0 l = true) {v : AV} {s1 : Sg} (h : call b f l (s.cut b.c0 b.t0) = some (.ret v, s1)) :
    (∃ γ' w' c, (callFunc f args).run P w = .ok (.value c) w' ∧ Le γ w γ' w' ∧ Inv P γ' s w' ∧ VR γ' w' v c) ∨
    ((callFunc f args).run P w = .ok (.enter f args) w ∧ Calls P f args w fun e w' => ∃ γ' c, e = .returned c ∧ Le γ w γ' w' ∧ Inv P γ' s w' ∧ VR γ' w' v c) := by
  obtain ⟨h1, h2⟩ := hp _ _ _ _ _ h
  subst h1
  obtain ⟨hI1, hcut⟩ := hI.cut hs.1 hs.2.1 hs.2.2
  have hlen : (s.cut b.c0 b.t0).heap.length = b.c0 := by have := hs.1; simp [Sg.cut]; omega
  have hold : v.old b.c0 = true := hlen ▸ h2 v rfl
  have hv1 : VRs (γ.cut b.c0 b.t0) w l args := ⟨hv.1, fun j u x hu hx => (hv.2 j u x hu hx).cut hcut (oldAll_get ho hu)⟩
  rcases hc.ok _ _ _ _ _ _ h _ w hI1 args hv1 with ⟨γ', w', c, v', g1, g2, g3, g4, g5⟩ | ⟨g1, g2⟩
  · cases g4
    obtain ⟨γ2, k1, k2, k3⟩ := hI.uncut hs.1 hs.2.1 g2 g3
    exact .inl ⟨γ2, w', c, g1, k1, k2, k3 g5 hold⟩
  · refine .inr ⟨g1, Calls.mono g2 fun e w' he => ?_⟩
    obtain ⟨γ', q1, q2, q3⟩ := he
    cases e with
    | returned c =>
      obtain ⟨γ2, k1, k2, k3⟩ := hI.uncut hs.1 hs.2.1 q1 q2
      exact ⟨γ2, c, rfl, k1, k2, k3 q3 hold⟩
    | panicked chain => exact q3.elim
    | outgrown => exact q3.elim

/-- a call of a value that has to be a function -/
theorem fnArgs_some {loc pers : Env} {f : FuncId} {y : AOpd} {l l' : List AV} (h : fnArgs loc pers f (some y) l = some l') : ∃ fa fb, y.ev loc pers = some (.func f fa fb) ∧ l' = fa ++ l ++ fb := by
  simp only [fnArgs, Option.bind_eq_some_iff] at h
  obtain ⟨u, hu, c, hc, h⟩ := h
  obtain ⟨g, fa, fb, rfl, rfl⟩ := fn?_some hc
  split at h
  · rename_i e
    have e1 : g = f := Nat.eq_of_beq_eq_true e
    cases h
    exact ⟨fa, fb, by rw [hu, e1], rfl⟩
  · cases h

/-- what one operation that is wanted comes to: 'K' is what is to hold behind it, 'Q' of an end by a panic -/
theorem op_ok {call : CallFn} (hc : CallOk P call) {b : Bar} {mu : Bool} {o : Oper} {n : Nat} (hdst : ∀ t, o.dst = some t → t < n) {loc : Env} {fr : Fr} {a : Act} (hR : RelR P γ w loc fr s n a) {ao : AOp} (hof : Of P mu o.op ao) (hrec : ao ≠ .recover) (hiso : ∀ f y args, ao = .calli f y args → PureAt call f ∧ IsoOk b s)
    {r : List AOper} {e : Ex} {loc' : Env} {fr' : Fr} {s' : Sg}
    (h : (match (generalizing := false) ao with
      | .v p => (evV loc fr.pers s p).bind fun v => runOps call b r (setLoc loc o.dst v) fr s
      | .e p => (evE b loc fr.pers s p).bind fun x => runOps call b r (setLoc loc o.dst x.1) fr x.2
      | .call f args => (evAll loc fr.pers args).bind fun l => (call b f l s).bind fun x => match x.1 with
        | .ret v => runOps call b r (setLoc loc o.dst v) fr x.2
        | .panic v => some (.panic v, loc, fr, x.2)
      | .callv y args => (y.ev loc fr.pers).bind fun u => (evAll loc fr.pers args).bind fun l => (u.fn? l).bind fun c => (call b c.1 c.2 s).bind fun x => match x.1 with
        | .ret v => runOps call b r (setLoc loc o.dst v) fr x.2
        | .panic v => some (.panic v, loc, fr, x.2)
      | .fill k p => (evF b loc fr.pers s k p).bind fun x => runOps call b r (setLoc loc o.dst x.1) fr x.2
      | .calli f y args => (evAll loc fr.pers args).bind fun l => (fnArgs loc fr.pers f y l).bind fun l => if AV.oldAll b.c0 l then (call b f l (s.cut b.c0 b.t0)).bind fun x => match x.1 with
        | .ret v => runOps call b r (setLoc loc o.dst v) fr s
        | .panic _ => none else none
      | .callk f y args => (evAll loc fr.pers args).bind fun l => (fnArgs loc fr.pers f (some y) l).bind fun l => (call b f l s).bind fun x => match x.1 with
        | .ret v => runOps call b r (setLoc loc o.dst v) fr x.2
        | .panic v => some (.panic v, loc, fr, x.2)
      | .invk tbl y args => (y.ev loc fr.pers).bind fun u => (evAll loc fr.pers args).bind fun l => (u.meth? tbl l).bind fun c => (call b c.1 c.2 s).bind fun x => match x.1 with
        | .ret v => runOps call b r (setLoc loc o.dst v) fr x.2
        | .panic v => some (.panic v, loc, fr, x.2)
      | .yieldc y args => (roundOp b fr loc s y args).bind fun s' => runOps call b r (setLoc loc o.dst (.bool true)) fr s'
      | .panic x => (x.ev loc fr.pers).bind fun u => u.if?.bind fun v => some (.panic v, loc, fr, s)
      | .defer y args => (y.ev loc fr.pers).bind fun u => (evAll loc fr.pers args).bind fun l => (u.fn? l).bind fun c =>
        runOps call b r (setLoc loc o.dst (.tup [])) { fr with defers := c :: fr.defers } s
      | .recover => (doRecover fr).bind fun x => runOps call b r (setLoc loc o.dst x.1) x.2 s
      | .bad => none : Option (Ex × Env × Fr × Sg)) = some (e, loc', fr', s'))
    {K : Act → World → Prop} {Q : Exit → Act → World → Prop}
    (hK : ∀ γ' w' v c fr1 s1 (a1 : Act), Le γ w γ' w' → RelR P γ' w' (setLoc loc o.dst v) fr1 s1 n (a1.put o.dst c) → fr1.pan = fr.pan → runOps call b r (setLoc loc o.dst v) fr1 s1 = some (e, loc', fr', s') → K (a1.put o.dst c) w')
    (hQ : ∀ γ' w' v c s1, Le γ w γ' w' → RelR P γ' w' loc fr s1 n a → VR γ' w' v c → e = .panic v → loc' = loc → fr' = fr → s' = s1 → Q (.panic [{ v := c, recovered := false }]) a w') :
    o.wp P a w K Q := by
  have keepDefs : ∀ {γ' w'}, Le γ w γ' w' → DefsR γ' w' fr.defers a.defers := fun hle => hR.defs.mono hle
  have putA : ∀ {γ' w' v c s1}, Le γ w γ' w' → Inv P γ' s1 w' → VR γ' w' v c → RelR P γ' w' (setLoc loc o.dst v) fr s1 n (a.put o.dst c) := fun hle hI hv => hR.put hle hI hv hdst rfl rfl (keepDefs hle)
  have stay : ∀ {γ' w' s1}, Le γ w γ' w' → Inv P γ' s1 w' → RelR P γ' w' loc fr s1 n a := fun hle hI => ⟨hI, hR.ev.mono hle, keepDefs hle, hR.size⟩
  -- a value that has come
  have simR : ∀ {v s1}, SimR P γ w ((execOp a.eval o).run P w) v s1 → runOps call b r (setLoc loc o.dst v) fr s1 = some (e, loc', fr', s') → o.wp P a w K Q := fun {v s1} hs hr => by
    obtain ⟨γ', w', nx, c, h1, h2, h3, h4, h5⟩ := hs
    unfold Oper.wp
    rw [h1]
    rcases h2 with rfl | ⟨rfl, rfl⟩
    · exact hK γ' w' v c fr s1 a h3 (putA h3 h4 h5) rfl hr
    · exact hK γ' w' v undef fr s1 a h3 (putA h3 h4 h5) rfl hr
  -- a call
  have callR : ∀ {f : FuncId} {l : List AV} {x : Out × Sg} {args : Array Value}, call b f l s = some x → VRs γ w l args → (execOp a.eval o).run P w = (callFunc f args).run P w → (match x.1 with
        | .ret v => runOps call b r (setLoc loc o.dst v) fr x.2
        | .panic v => some (.panic v, loc, fr, x.2)) = some (e, loc', fr', s') → o.wp P a w K Q := fun {f l x args} hx hv hrun h => by
    obtain ⟨out, s1⟩ := x
    unfold Oper.wp
    rw [hrun]
    rcases hc.ok b f l s out s1 hx γ w hR.inv args hv with ⟨γ', w', c, v, g1, g2, g3, rfl, g5⟩ | ⟨g1, g2⟩
    · rw [g1]
      exact hK γ' w' v c fr s1 a g2 (putA g2 g3 g5) rfl h
    · rw [g1]
      refine Calls.mono g2 fun e1 w' he => ?_
      obtain ⟨γ', q1, q2, q3⟩ := he
      cases out with
      | ret v =>
        cases e1 with
        | returned c => exact hK γ' w' v c fr s1 a q1 (putA q1 q2 q3) rfl h
        | panicked chain => exact q3.elim
        | outgrown => exact q3.elim
      | panic v =>
        cases e1 with
        | returned c => exact q3.elim
        | panicked chain =>
          obtain ⟨c, rfl, hv'⟩ := q3
          simp only [Option.some.injEq, Prod.mk.injEq] at h
          obtain ⟨rfl, rfl, rfl, rfl⟩ := h
          exact hQ γ' w' v c s1 q1 (stay q1 q2) hv' rfl rfl rfl rfl
        | outgrown => exact q3.elim
  have argsR : ∀ {c : Call} {xs : List AOpd} {l : List AV}, tOpds c.args.toList = some xs → evAll loc fr.pers xs = some l → VRs γ w l (c.args.map a.eval) := fun {c xs l} h1 h2 => by
    have : c.args.map a.eval = (c.args.toList.map a.eval).toArray := by rw [← Array.toList_map, Array.toArray_toList]
    rw [this]
    exact opds_ok hR.ev h1 h2
  -- the call of a function
  have callF : ∀ {f : FuncId} {args : List AOpd} {l : List AV}, tOp P mu o.op = some (.call f args) → evAll loc fr.pers args = some l → ∃ vs, VRs γ w l vs ∧ (execOp a.eval o).run P w = (callFunc f vs).run P w := fun {f args l} hop hl => by
    obtain ⟨dst, op, type, pos, after, guard⟩ := o
    have hcall : ∃ c, op = .call c ∧ c.callee = .value (.func f) ∧ tOpds c.args.toList = some args := by
      rcases tOp_kind hop with ⟨_, e⟩ | ⟨_, e⟩ | ⟨c, rfl⟩ | ⟨c, rfl⟩ | ⟨x, rfl⟩
      · cases e
      · cases e
      · simp only [tOp] at hop
        rcases tCall_kind hop with ⟨_, e⟩ | ⟨_, e⟩ | ⟨_, _, e, h1, h2⟩ | ⟨_, _, _, e, _⟩ | ⟨e, _⟩ | ⟨_, _, _, _, e, _⟩
        · cases e
        · cases e
        · cases e; exact ⟨c, rfl, h1, h2⟩
        · cases e
        · cases e
        · cases e
      · obtain ⟨_, _, _, e, _⟩ := tDefer_kind hop; cases e
      · simp [tOp] at hop
    obtain ⟨c, rfl, hcal, hxs⟩ := hcall
    refine ⟨c.args.map a.eval, argsR hxs hl, ?_⟩
    have : resolve a.eval c type = pure { target := .fn (.func f) #[], args := #[] ++ c.args.map a.eval } := resolve_value hcal rfl
    simp [execOp, this, run_call_func]
  -- the call of a value
  have callV : ∀ {y : AOpd} {args : List AOpd} {l : List AV} {f : FuncId} {fa fb : List AV}, tOp P mu o.op = some (.callv y args) → y.ev loc fr.pers = some (.func f fa fb) → evAll loc fr.pers args = some l → ∃ vs, VRs γ w (fa ++ l ++ fb) vs ∧ (execOp a.eval o).run P w = (callFunc f vs).run P w := fun {y args l f fa fb} hop hu hl => by
    obtain ⟨dst, op, type, pos, after, guard⟩ := o
    have hcall : ∃ c z, op = .call c ∧ c.callee = .value z ∧ tOpd z = some y ∧ tOpds c.args.toList = some args := by
      rcases tOp_kind hop with ⟨_, e⟩ | ⟨_, e⟩ | ⟨c, rfl⟩ | ⟨c, rfl⟩ | ⟨x, rfl⟩
      · cases e
      · cases e
      · simp only [tOp] at hop
        rcases tCall_kind hop with ⟨_, e⟩ | ⟨_, e⟩ | ⟨_, _, e, h1, h2⟩ | ⟨_, _, _, e, h1, h2, h3⟩ | ⟨e, _⟩ | ⟨_, _, _, _, e, _⟩
        · cases e
        · cases e
        · cases e
        · cases e; exact ⟨c, _, rfl, h1, h2, h3⟩
        · cases e
        · cases e
      · obtain ⟨_, _, _, e, _⟩ := tDefer_kind hop; cases e
      · simp [tOp] at hop
    obtain ⟨c, z, rfl, hcal, hz, hxs⟩ := hcall
    have hr := opd_ok hR.ev hz hu
    generalize hz' : a.eval z = zc at hr
    cases hr with
    | func _ _ _ a' c' k1 k2 k3 k4 k5 k6 =>
    have hres := resolve_value (type := type) hcal hz'
    refine ⟨(a' ++ c.args.map a.eval) ++ c', (VRs.append ⟨k1, k5⟩ (argsR hxs hl)).append ⟨k2, k6⟩, ?_⟩
    simp [execOp, hres, run_call_func]
  -- the call of a method
  have callM : ∀ {tbl : List (TypeId × FuncId)} {y : AOpd} {args : List AOpd} {l : List AV} {t : TypeId} {v : AV} {f : FuncId}, tOp P mu o.op = some (.invk tbl y args) → y.ev loc fr.pers = some (.iface t v) → tblFind tbl t = some f → evAll loc fr.pers args = some l → ∃ vs, VRs γ w (v :: l) vs ∧ (execOp a.eval o).run P w = (callFunc f vs).run P w := fun {tbl y args l t v f} hop hu hf hl => by
    obtain ⟨dst, op, type, pos, after, guard⟩ := o
    have hcall : ∃ c z name, op = .call c ∧ c.callee = .invoke z name ∧ tOpd z = some y ∧ tOpds c.args.toList = some args ∧ tbl = methTbl P name P.types.size := by
      rcases tOp_kind hop with ⟨_, e⟩ | ⟨_, e⟩ | ⟨c, rfl⟩ | ⟨c, rfl⟩ | ⟨x, rfl⟩
      · cases e
      · cases e
      · simp only [tOp] at hop
        rcases tCall_kind hop with ⟨_, e⟩ | ⟨_, e⟩ | ⟨_, _, e, h1, h2⟩ | ⟨_, _, _, e, h1, h2, h3⟩ | ⟨e, _⟩ | ⟨_, _, _, _, e, h1, h2, h3⟩
        · cases e
        · cases e
        · cases e
        · cases e
        · cases e
        · cases e; exact ⟨c, _, _, rfl, h1, h2, h3, rfl⟩
      · obtain ⟨_, _, _, e, _⟩ := tDefer_kind hop; cases e
      · simp [tOp] at hop
    obtain ⟨c, z, name, rfl, hcal, hz, hxs, rfl⟩ := hcall
    have hr := opd_ok hR.ev hz hu
    generalize hz' : a.eval z = zc at hr
    cases hr with
    | iface _ _ v' k1 k2 =>
    have hm := methTbl_find hf
    have hv1 : VRs γ w [v] #[v'] := ⟨rfl, fun j u x hu hx => by
      cases j with
      | zero => simp at hu hx; subst hu; subst hx; exact k2
      | succ j => simp at hu⟩
    refine ⟨#[v'] ++ c.args.map a.eval, VRs.append hv1 (argsR hxs hl), ?_⟩
    have hfu : P.types.size + Made.depth = (P.types.size + 99) + 1 := rfl
    have e0 : (#[Value.iface t v'] ++ c.args.map a.eval)[0]? = some (Value.iface t v') := by rw [Array.getElem?_append_left (by simp)]; rfl
    have e1 : (#[Value.iface t v'] ++ c.args.map a.eval).extract 1 (#[Value.iface t v'] ++ c.args.map a.eval).size = c.args.map a.eval := by
      apply Array.toList_inj.1
      simp only [Array.toList_extract, Array.toList_append, List.extract, Array.toList_map, Array.size_append, List.size_toArray, List.length_cons, List.length_nil, Array.size_map, List.singleton_append, List.drop_succ_cons, List.drop_zero]
      exact List.take_of_length_le (by simp)
    simp only [execOp, resolve, hcal, hz', Sem.run_bind, Sem.run_pure, Result.andThen_ok, invoke, e0, e1, callMethod, hfu]
    simp [hfu, method_run hm]
  -- a call that sees what there was alone
  have isoR : ∀ {f : FuncId} {l : List AV} {x : Out × Sg} {args : Array Value}, PureAt call f → IsoOk b s → AV.oldAll b.c0 l = true → call b f l (s.cut b.c0 b.t0) = some x → VRs γ w l args → (execOp a.eval o).run P w = (callFunc f args).run P w → (match x.1 with
        | .ret v => runOps call b r (setLoc loc o.dst v) fr s
        | .panic _ => none) = some (e, loc', fr', s') → o.wp P a w K Q := fun {f l x args} hp hs ho hx hv hrun h => by
    obtain ⟨out, s1⟩ := x
    cases out with
    | panic v => cases h
    | ret v =>
    unfold Oper.wp
    rw [hrun]
    rcases iso_ok hc hp hs hR.inv hv ho hx with ⟨γ', w', c, g1, g2, g3, g5⟩ | ⟨g1, g2⟩
    · rw [g1]
      exact hK γ' w' v c fr s a g2 (putA g2 g3 g5) rfl h
    · rw [g1]
      refine Calls.mono g2 fun e1 w' he => ?_
      obtain ⟨γ', c, rfl, q1, q2, q3⟩ := he
      exact hK γ' w' v c fr s a q1 (putA q1 q2 q3) rfl h
  cases hof with
  | fill hop =>
    rename_i k p
    simp only [Option.bind_eq_some_iff] at h
    obtain ⟨⟨v, s1⟩, hv, h⟩ := h
    rcases evF_inv hv with ⟨h0, _⟩ | ⟨v0, s0, o1, h0, h1, h2, h3, h4, _, _, h5, rfl⟩
    · exact simR (sim_e hR.inv hR.ev hop h0) h
    · obtain ⟨γ', w', nx, c, g1, g2, g3, g4, g5⟩ := sim_e hR.inv hR.ev hop h0
      have hs0 : s0 = s.push o1 := by
        rcases evE_push h0 with e | ⟨o2, rfl⟩
        · have := lt_of_getElem? h1; omega
        · simp [Sg.push] at h1
          rw [h1]
      subst hs0
      obtain ⟨γ2, k1, k2, k3⟩ := fill_of_push hR.inv g3 g4 h2 h3 h4 g5 h5
      exact simR ⟨γ2, w', nx, c, g1, g2, k1, k2, k3⟩ h
  | callk hop =>
    simp only [Option.bind_eq_some_iff] at h
    obtain ⟨l, hl, l', hl', x, hx, h⟩ := h
    obtain ⟨fa, fb, hu, rfl⟩ := fnArgs_some hl'
    obtain ⟨vs, h1, h2⟩ := callV hop hu hl
    exact callR hx h1 h2 h
  | calli hop =>
    obtain ⟨i1, i2⟩ := hiso _ _ _ rfl
    simp only [Option.bind_eq_some_iff] at h
    obtain ⟨l, hl, l', hl', h⟩ := h
    split at h
    · rename_i ho
      simp only [Option.bind_eq_some_iff] at h
      obtain ⟨x, hx, h⟩ := h
      cases hl'
      obtain ⟨vs, h1, h2⟩ := callF hop hl
      exact isoR i1 i2 ho hx h1 h2 h
    · cases h
  | calliv hop =>
    obtain ⟨i1, i2⟩ := hiso _ _ _ rfl
    simp only [Option.bind_eq_some_iff] at h
    obtain ⟨l, hl, l', hl', h⟩ := h
    split at h
    · rename_i ho
      simp only [Option.bind_eq_some_iff] at h
      obtain ⟨x, hx, h⟩ := h
      obtain ⟨fa, fb, hu, rfl⟩ := fnArgs_some hl'
      obtain ⟨vs, h1, h2⟩ := callV hop hu hl
      exact isoR i1 i2 ho hx h1 h2 h
    · cases h
  | same hop =>
    cases ao with
    | v p =>
      simp only [Option.bind_eq_some_iff] at h
      obtain ⟨v, hv, h⟩ := h
      exact simR (sim_v hR.inv hR.ev hop hv) h
    | e p =>
      simp only [Option.bind_eq_some_iff] at h
      obtain ⟨⟨v, s1⟩, hv, h⟩ := h
      exact simR (sim_e hR.inv hR.ev hop hv) h
    | call f args =>
      simp only [Option.bind_eq_some_iff] at h
      obtain ⟨l, hl, x, hx, h⟩ := h
      obtain ⟨vs, h1, h2⟩ := callF hop hl
      exact callR hx h1 h2 h
    | callv y args =>
      simp only [Option.bind_eq_some_iff] at h
      obtain ⟨u, hu, l, hl, cc, hcc, x, hx, h⟩ := h
      obtain ⟨f, fa, fb, rfl, rfl⟩ := fn?_some hcc
      obtain ⟨vs, h1, h2⟩ := callV hop hu hl
      exact callR hx h1 h2 h
    | invk tbl y args =>
      simp only [Option.bind_eq_some_iff] at h
      obtain ⟨u, hu, l, hl, cc, hcc, x, hx, h⟩ := h
      obtain ⟨t, v, f, rfl, hf, rfl⟩ := meth?_some hcc
      obtain ⟨vs, h1, h2⟩ := callM hop hu hf hl
      exact callR hx h1 h2 h
    | fill k p => exact absurd rfl ((tOp_not hop).1 k p)
    | calli f y l => exact absurd rfl ((tOp_not hop).2.2 f y l)
    | yieldc y l => exact absurd rfl (tOp_notY hop y l)
    | callk f y l => exact absurd rfl ((tOp_not hop).2.1 f y l)
    | panic x =>
      simp only [Option.bind_eq_some_iff] at h
      obtain ⟨u, hu, v, hv, h⟩ := h
      simp only [Option.some.injEq, Prod.mk.injEq] at h
      obtain ⟨rfl, rfl, rfl, rfl⟩ := h
      obtain ⟨rfl, t, y, rfl⟩ := if?_some hv
      obtain ⟨dst, op, type, pos, after, guard⟩ := o
      have hcall : ∃ z, op = .panic z ∧ tOpd z = some x := by
        rcases tOp_kind hop with ⟨_, e⟩ | ⟨_, e⟩ | ⟨c, rfl⟩ | ⟨c, rfl⟩ | ⟨z, rfl⟩
        · cases e
        · cases e
        · simp only [tOp] at hop
          rcases tCall_kind hop with ⟨_, e⟩ | ⟨_, e⟩ | ⟨_, _, e, h1, h2⟩ | ⟨_, _, _, e, h1, h2, h3⟩ | ⟨e, _⟩ | ⟨_, _, _, _, e, _⟩ <;> cases e
        · obtain ⟨_, _, _, e, _⟩ := tDefer_kind hop; cases e
        · simp only [tOp, Option.map_eq_some_iff, AOp.panic.injEq] at hop
          obtain ⟨y, hy, rfl⟩ := hop
          exact ⟨z, rfl, hy⟩
      obtain ⟨z, rfl, hz⟩ := hcall
      have hr := opd_ok hR.ev hz hu
      unfold Oper.wp
      generalize hz' : a.eval z = zc at hr
      have hrun : ((execOp a.eval ⟨dst, .panic z, type, pos, after, guard⟩).run P w) = .halt (.panic zc) w := by
        cases hr
        simp [execOp, hz', Instr.panic, goPanic]
      rw [hrun]
      exact hQ γ w _ zc s (Le.refl _ _) hR hr rfl rfl rfl rfl
    | defer y args =>
      simp only [Option.bind_eq_some_iff] at h
      obtain ⟨u, hu, l, hl, cc, hcc, h⟩ := h
      obtain ⟨dst, op, type, pos, after, guard⟩ := o
      have hcall : ∃ c z, op = .defer c ∧ c.callee = .value z ∧ tOpd z = some y ∧ tOpds c.args.toList = some args := by
        rcases tOp_kind hop with ⟨_, e⟩ | ⟨_, e⟩ | ⟨c, rfl⟩ | ⟨c, rfl⟩ | ⟨x, rfl⟩
        · cases e
        · cases e
        · simp only [tOp] at hop
          rcases tCall_kind hop with ⟨_, e⟩ | ⟨_, e⟩ | ⟨_, _, e, h1, h2⟩ | ⟨_, _, _, e, h1, h2, h3⟩ | ⟨e, _⟩ | ⟨_, _, _, _, e, _⟩ <;> cases e
        · obtain ⟨_, _, _, e, h1, h2, h3⟩ := tDefer_kind hop
          cases e
          exact ⟨c, _, rfl, h1, h2, h3⟩
        · simp [tOp] at hop
      obtain ⟨c, z, rfl, hcal, hz, hxs⟩ := hcall
      obtain ⟨f, fa, fb, rfl, rfl⟩ := fn?_some hcc
      have hr := opd_ok hR.ev hz hu
      generalize hz' : a.eval z = zc at hr
      cases hr with
      | func _ _ _ a' c' k1 k2 k3 k4 k5 k6 =>
      have hres := resolve_value (type := type) hcal hz'
      have hrun : ((execOp a.eval ⟨dst, .defer c, type, pos, after, guard⟩).run P w) = .ok (.defer { target := .fn (.func f) c', args := a' ++ c.args.map a.eval }) w := by
        simp [execOp, hres]
      unfold Oper.wp
      rw [hrun]
      have hd : DefsR γ w ((f, fa ++ l ++ fb) :: fr.defers) ({ target := .fn (.func f) c', args := a' ++ c.args.map a.eval } :: a.defers) :=
        ⟨.inl ⟨c', a' ++ c.args.map a.eval, rfl, (VRs.append ⟨k1, k5⟩ (argsR hxs hl)).append ⟨k2, k6⟩⟩, hR.defs⟩
      exact hK γ w (.tup []) undef { fr with defers := (f, fa ++ l ++ fb) :: fr.defers } s { a with defers := { target := .fn (.func f) c', args := a' ++ c.args.map a.eval } :: a.defers } (Le.refl _ _)
        (hR.put (Le.refl _ _) hR.inv undef_VR hdst rfl rfl hd) rfl h
    | recover => exact absurd rfl hrec
    | bad => cases h

end Go.Am

/-
  The abstract machine: rounds of a range over a function.
-/
namespace Go.Am
open Go.RowKit (Below)

variable {P : Program} {γ : Gh} {w : World} {s : Sg}

/-- an object's block that holds no cells becomes another such block -/
theorem Inv.setOther (hI : Inv P γ s w) {i : Nat} {o o' : AObj} (ho : s.heap[i]? = some o) (hp : o ≠ .pend) {x y : Obj} (hx : w.heap[γ.ob i]? = some x) (hnx : ∀ (c : Array Value) e fr, x ≠ .cells c e fr) (hob : Le γ w γ (w.putObj (γ.ob i) y) → ObjOk P γ (w.putObj (γ.ob i) y) i o') :
    Inv P γ { s with heap := setAt s.heap i o' } (w.putObj (γ.ob i) y) ∧ Le γ w γ (w.putObj (γ.ob i) y) := by
  have hi := hI.live ho hp
  obtain ⟨l1, l2, l3⟩ := hI.lt i hi
  have s2 : ∀ b, b ≠ γ.ob i → (w.putObj (γ.ob i) y).heap[b]? = w.heap[b]? := fun b hb => World.putObj_heap_other hb
  have hle : Le γ w γ (w.putObj (γ.ob i) y) :=
    { Le.refl γ w with
      F := fun b o hf => ⟨hf, World.cell?_of_block (s2 b (fun e => by subst e; exact l3 o hf))⟩
      sz := fun b c e fr h => ⟨c, fr, by
        rw [s2 b (fun e' => by rw [e'] at h; rw [hx] at h; cases h; exact hnx _ _ _ rfl)]
        exact h, rfl⟩
      below := ⟨rfl, rfl, rfl, by simp, fun k hk => s2 k (by omega)⟩
      fr := fun b hf => ⟨⟨by simpa using hf.1, hf.2.1, hf.2.2⟩, .inl (s2 b fun e => hf.2.1 i hi e.symm).symm, fun _ h => h⟩ }
  refine ⟨⟨by simp [length_setAt, hI.n], hI.tn, ?_, hI.inj, ?_, ?_, hI.tinj, hI.tob, ?_, ?_, ?_, fun p hp => (hI.gl p hp).monoV hle.toLeV⟩, hle⟩
  · intro j o2 hj
    simp only [getElem?_setAt] at hj
    split at hj
    · rename_i e'
      subst e'
      rw [if_pos (lt_of_getElem? ho)] at hj
      cases hj
      exact hob hle
    · rename_i hne
      have hj' := hI.ilt hj
      refine (hI.obj j o2 hj).mono' hle Iff.rfl (fun _ => rfl) (fun _ => rfl) fun hl => ?_
      exact s2 _ fun e' => hne (hI.inj j i ⟨hj', hl⟩ hi e')
  · intro j hj
    obtain ⟨a, b, c⟩ := hI.lt j hj
    exact ⟨a, by simpa using b, c⟩
  · intro t ht
    obtain ⟨a, b, c0, d, e', fr', f, g'⟩ := hI.tok t ht
    exact ⟨a, b, c0, d, e', fr', by rw [s2 _ (hI.tob t i ht hi)]; exact f, g'⟩
  · intro b o hf
    have := hI.Flt b o hf
    simpa using this
  · have := hI.base
    simpa using this
  · exact fun p hp => (hI.ty p hp).monoV hle.toLeV

theorem LoopR.mono {γ' : Gh} {w' : World} (h : Le γ w γ' w') {ts : List Nat} {cs : List AV} {ps : List Nat} {aops bops : List AOper} {bz bz' : Bool} {r : Loop} (hr : LoopR P γ w ts cs ps aops bops bz r) {st : LoopState} (hst : st = if bz' then .busy else .ready) :
    LoopR P γ' w' ts cs ps aops bops bz' { r with state := st, pending := none } :=
  ⟨hst, rfl, hr.params, hr.assign, hr.body, hr.len, hr.lt, fun j t u ht hu => let ⟨c, a, b⟩ := hr.tmps j t u ht hu; ⟨c, a, b.mono h⟩⟩

/-- a record's state becomes another -/
theorem Inv.setLoop (hI : Inv P γ s w) {i : Nat} {ts : List Nat} {cs : List AV} {ps : List Nat} {aops bops : List AOper} {bz bz' : Bool} (ho : s.heap[i]? = some (.loopo ts cs ps aops bops bz)) {st : LoopState} (hst : st = if bz' then .busy else .ready) :
    ∃ r : Loop, w.heap[γ.ob i]? = some (.loop r) ∧ LoopR P γ w ts cs ps aops bops bz r ∧ Inv P γ { s with heap := setAt s.heap i (.loopo ts cs ps aops bops bz') } (w.putObj (γ.ob i) (.loop { r with state := st, pending := none })) ∧ Le γ w γ (w.putObj (γ.ob i) (.loop { r with state := st, pending := none })) := by
  obtain ⟨h0, h1, h2, r, h3, h4⟩ := hI.obj i _ ho
  have hlt := (Array.getElem?_eq_some_iff.1 h3).1
  refine ⟨r, h3, h4, hI.setOther ho (by intro e; cases e) h3 (fun _ _ _ e => by cases e) fun hle => ⟨h0, h1, h2, _, World.putObj_heap_same hlt, h4.mono hle hst⟩⟩

-- ---------------------------------------------------------------- a round's frame

theorem Oper.wpIn_of_wp {m : Nat} {o : Oper} {a : Act} {K : Act → World → Prop} {Q : Exit → Act → World → Prop} (h : o.wp P a w K Q) : o.wpIn Fence.wide m P a w K Q := by
  refine ⟨fun _ _ => trivial, ?_⟩
  have e : o.semAt Fence.wide.round a.eval = execOp a.eval o := rfl
  rw [e]
  unfold Oper.wp at h
  revert h
  generalize (execOp a.eval o).run P w = r
  intro h
  unfold Oper.upon at h
  unfold Oper.uponIn
  split at h
  · exact h
  · exact h
  · exact h
  · exact ⟨fun h => by simp [Fence.wide] at h, callsIn_wide.2 h⟩
  · refine ⟨fun h => by simp [Fence.wide] at h, fun c cs _ => ?_⟩
    obtain ⟨v, w', hr, hs⟩ := h c cs
    exact ⟨v, w', hr, stepsIn_wide.2 hs⟩
  · exact h
  · exact h.elim

/-- a frame that bears nothing but its temporaries -/
def fr0 : Fr := { pers := [], defers := [], pan := .off }

theorem semAt_plain {ro : Option Nat} {mu : Bool} {o : Oper} {a : Act} {ao : AOp} (h : tOp P mu o.op = some ao) (hd : ∀ x l, ao ≠ .defer x l) : o.semAt ro a.eval = execOp a.eval o := by
  refine Oper.semAt_eq ro a.eval o fun c e => ?_
  rw [e] at h
  obtain ⟨_, _, _, rfl, _⟩ := tDefer_kind h
  exact hd _ _ rfl

theorem tOperN_op {mu : Nat → Bool} {ops : List Oper} {o : Oper} : knownFn (fun _ => none) (tOper P mu ops o) = tOper P mu ops o := by
  unfold knownFn
  split <;> rfl

theorem tOper_op' {mu : Nat → Bool} {ops : List Oper} {o : Oper} {ao : AOp} (h : (tOper P mu ops o).op = ao) (hb : ao ≠ .bad) : tOp P (mu (o.dst.getD 0)) o.op = some ao ∧ (o.guard.isSome = true → (guardTmp ops o.guard).isSome = true) := by
  simp only [tOper] at h
  split at h
  · exact absurd h.symm hb
  · rename_i hg
    refine ⟨?_, fun e => ?_⟩
    · cases ht : tOp P (mu (o.dst.getD 0)) o.op with
      | none => rw [ht] at h; exact absurd h.symm hb
      | some x => rw [ht] at h; simp at h; rw [h]
    · cases hgt : (guardTmp ops o.guard).isSome with
      | true => rfl
      | false => rw [e, Option.isNone_iff_eq_none.2 (by simpa using hgt)] at hg; simp at hg

/-- operations that only come to values or change the heap -/
theorem plain_ok {F : Fence} (hF : ∀ f, F.fn f) {m : Nat} {b : Bar} {mu : Nat → Bool} {ops : Array Oper} {n : Nat} (hdst : ∀ (i : Nat) o, ops[i]? = some o → ∀ t, o.dst = some t → t < n) {x : Env × Sg} {Q : Exit → Act → World → Prop} :
    ∀ (os : List Oper) (k : Nat), (∀ j, os[j]? = ops[k + j]?) → ∀ {γ : Gh} {w : World} {loc : Env} {s : Sg} {a : Act}, RelR P γ w loc fr0 s n a →
      runPlain b (os.map fun o => knownFn (fun _ => none) (tOper P mu ops.toList o)) loc s = some x → (∀ γ' w' a', Le γ w γ' w' → RelR P γ' w' x.1 fr0 x.2 n a' → Q .normal a' w') → wpOpsIn F m P ops Q (List.range' k os.length) a w
  | [], k, hos, γ, w, loc, s, a, hR, h, hQ => by
    simp only [List.map_nil, runPlain, Option.some.injEq] at h
    subst h
    exact hQ γ w a (Le.refl _ _) hR
  | o :: r, k, hos, γ, w, loc, s, a, hR, h, hQ => by
    have ho : ops[k]? = some o := by have := hos 0; simpa using this.symm
    have hos' : ∀ j, r[j]? = ops[k + 1 + j]? := fun j => by
      have := hos (j + 1)
      rw [show k + 1 + j = k + (j + 1) from by omega, ← this]
      simp
    simp only [List.length_cons, List.range'_succ, wpOpsIn, ho]
    simp only [List.map_cons, runPlain, Option.bind_eq_some_iff, tOperN_op] at h
    obtain ⟨wd, hwd, h⟩ := h
    have hwd : wantedA loc fr0.pers (guardTmp ops.toList o.guard) = some wd := hwd
    have edst : (tOper P mu ops.toList o).dst = o.dst := rfl
    rw [edst] at h
    have rec_ok : ∀ γ' w' v c s1 (a1 : Act), Le γ w γ' w' → RelR P γ' w' (setLoc loc o.dst v) fr0 s1 n (a1.put o.dst c) → runPlain b (r.map fun o => tOper P mu ops.toList o) (setLoc loc o.dst v) s1 = some x → wpOpsIn F m P ops Q (List.range' (k + 1) r.length) (a1.put o.dst c) w' :=
      fun γ' w' v c s1 a1 hle hR1 hr => plain_ok hF hdst r (k + 1) hos' hR1 (by simp only [tOperN_op]; exact hr) fun γ'' w'' a'' hle' hR' => hQ γ'' w'' a'' (hle.trans hle') hR'
    have sim : ∀ {v s1}, tOp P (mu (o.dst.getD 0)) o.op = some (tOper P mu ops.toList o).op → (∀ x l, (tOper P mu ops.toList o).op ≠ .defer x l) → SimR P γ w ((execOp a.eval o).run P w) v s1 → runPlain b (r.map fun o => tOper P mu ops.toList o) (setLoc loc o.dst v) s1 = some x → o.wpIn F m P a w (wpOpsIn F m P ops Q (List.range' (k + 1) r.length)) Q := fun {v s1} hop hnd hs hr => by
      refine ⟨fun f _ => hF f, ?_⟩
      rw [semAt_plain hop hnd]
      obtain ⟨γ', w', nx, c, h1, h2, h3, h4, h5⟩ := hs
      rw [h1]
      rcases h2 with rfl | ⟨rfl, rfl⟩
      · exact rec_ok γ' w' v c s1 a h3 (hR.put h3 h4 h5 (hdst k o ho) rfl rfl (hR.defs.mono h3)) hr
      · exact rec_ok γ' w' v undef s1 a h3 (hR.put h3 h4 h5 (hdst k o ho) rfl rfl (hR.defs.mono h3)) hr
    by_cases hg : (o.guard.isSome = true → (guardTmp ops.toList o.guard).isSome = true)
    · have hwt := wanted_ok hR.ev hg (wd := wd) hwd
      rw [hwt]
      cases wd with
      | false =>
        simp only [Bool.false_eq_true, if_false] at h ⊢
        exact ⟨fun f _ => hF f, rec_ok γ w (.tup []) undef s a (Le.refl _ _) (hR.put (Le.refl _ _) hR.inv undef_VR (hdst k o ho) rfl rfl hR.defs) h⟩
      | true =>
        simp only [if_true] at h ⊢
        split at h
        · rename_i p hp
          simp only [Option.bind_eq_some_iff] at h
          obtain ⟨v, hv, h⟩ := h
          obtain ⟨hop, _⟩ := tOper_op' hp (by intro e; cases e)
          exact sim (by rw [hp]; exact hop) (by rw [hp]; exact fun _ _ => nofun) (sim_v hR.inv hR.ev hop hv) h
        · rename_i p hp
          simp only [Option.bind_eq_some_iff] at h
          obtain ⟨v, hv, h⟩ := h
          obtain ⟨hop, _⟩ := tOper_op' hp (by intro e; cases e)
          exact sim (by rw [hp]; exact hop) (by rw [hp]; exact fun _ _ => nofun) (sim_e hR.inv hR.ev hop hv) h
        · cases h
    · have hb : (tOper P mu ops.toList o).op = .bad := by
        simp only [tOper]
        rw [if_pos]
        simp only [not_imp] at hg
        rw [hg.1, Bool.true_and]
        cases hgt : guardTmp ops.toList o.guard with
        | none => rfl
        | some x => rw [hgt] at hg; simp at hg
      have : (guardTmp ops.toList o.guard) = none := by
        simp only [not_imp] at hg
        cases hgt : guardTmp ops.toList o.guard with
        | none => rfl
        | some x => rw [hgt] at hg; simp at hg
      have hwd2 : wd = true := by
        rw [this] at hwd
        simp [wantedA] at hwd
        exact hwd
      subst hwd2
      rw [hb] at h
      cases h

theorem runPlain_append {b : Bar} : ∀ {x y : List AOper} {loc : Env} {s : Sg} {z : Env × Sg}, runPlain b (x ++ y) loc s = some z → ∃ q, runPlain b x loc s = some q ∧ runPlain b y q.1 q.2 = some z
  | [], y, loc, s, z, h => ⟨(loc, s), rfl, h⟩
  | o :: r, y, loc, s, z, h => by
    simp only [List.cons_append, runPlain, Option.bind_eq_some_iff] at h ⊢
    obtain ⟨wd, hwd, h⟩ := h
    cases wd with
    | false =>
      simp only [Bool.false_eq_true, if_false] at h
      obtain ⟨q, h1, h2⟩ := runPlain_append h
      exact ⟨q, ⟨false, hwd, by simpa using h1⟩, h2⟩
    | true =>
      simp only [if_true] at h
      split at h
      · rename_i p hp
        simp only [Option.bind_eq_some_iff] at h
        obtain ⟨v, hv, h⟩ := h
        obtain ⟨q, h1, h2⟩ := runPlain_append h
        exact ⟨q, ⟨true, hwd, by simp [hp, hv, h1]⟩, h2⟩
      · rename_i p hp
        simp only [Option.bind_eq_some_iff] at h
        obtain ⟨v, hv, h⟩ := h
        obtain ⟨q, h1, h2⟩ := runPlain_append h
        exact ⟨q, ⟨true, hwd, by simp [hp, hv, h1]⟩, h2⟩
      · cases h

/-- code of operations alone -/
theorem plainCode_ok {F : Fence} (hF : ∀ f, F.fn f) {m : Nat} {b : Bar} {mu : Nat → Bool} {n : Nat} : ∀ (c : Code) {as : List AOper}, plainOps P mu c = some as → (∀ t ∈ codeDsts c, t < n) →
    ∀ {γ : Gh} {w : World} {loc : Env} {s : Sg} {a : Act} {x : Env × Sg} {Q : Exit → Act → World → Prop}, RelR P γ w loc fr0 s n a → runPlain b as loc s = some x → (∀ γ' w' a', Le γ w γ' w' → RelR P γ' w' x.1 fr0 x.2 n a' → Q .normal a' w') → c.wpIn F m P Q a w := by
  intro c
  induction c with
  | skip =>
    intro as hc hd γ w loc s a x Q hR h hQ
    simp only [plainOps, Option.some.injEq] at hc
    subst hc
    simp only [runPlain, Option.some.injEq] at h
    subst h
    exact wpIn_skip (hQ γ w a (Le.refl _ _) hR)
  | region id ops draw =>
    intro as hc hd γ w loc s a x Q hR h hQ
    cases draw with
    | true => cases hc
    | false =>
      simp only [plainOps, Option.some.injEq] at hc
      subst hc
      have hdst : ∀ (i : Nat) o, ops[i]? = some o → ∀ t, o.dst = some t → t < n := fun i o ho t ht => hd t (by
        simp only [codeDsts, List.mem_filterMap]
        exact ⟨o, List.mem_of_getElem? (by rw [Array.getElem?_toList]; exact ho), ht⟩)
      refine wpIn_region ?_
      rw [List.range_eq_range']
      have := plain_ok (P := P) (mu := mu) hF (m := m) (b := b) hdst (x := x) (Q := Q) ops.toList 0 (fun j => by simp) hR h hQ
      rw [Array.length_toList] at this
      exact this
  | seq p q ihp ihq =>
    intro as hc hd γ w loc s a x Q hR h hQ
    simp only [plainOps, Option.bind_eq_some_iff, Option.map_eq_some_iff] at hc
    obtain ⟨ap, h1, aq, h2, rfl⟩ := hc
    obtain ⟨z, k1, k2⟩ := runPlain_append h
    exact wpIn_seq (ihp h1 (fun t ht => hd t (List.mem_append_left _ ht)) hR k1 fun γ' w' a' hle hR' => ihq h2 (fun t ht => hd t (List.mem_append_right _ ht)) hR' k2 fun γ'' w'' a'' hle' hR'' => hQ γ'' w'' a'' (hle.trans hle') hR'')
  | block id c ih =>
    intro as hc hd γ w loc s a x Q hR h hQ
    exact wpIn_block (ih hc hd hR h hQ)
  | _ =>
    intro as hc
    cases hc

-- ---------------------------------------------------------------- a round

/-- what the parameters hold -/
theorem putParams_ok {n : Nat} : ∀ {ps : List Nat} {l : List AV} {loc loc' : Env} {tmps : Array Value} {args : List Value}, putParams loc ps l = some loc' → EvR γ w loc [] { tmps := tmps, defers := [] } → n ≤ tmps.size → (∀ t ∈ ps, t < n) → VRs γ w l args.toArray →
    EvR γ w loc' [] { tmps := (ps.zip args).foldl (fun tmps (t, a) => tmps.setIfInBounds t a) tmps, defers := [] } ∧ n ≤ ((ps.zip args).foldl (fun tmps (t, a) => tmps.setIfInBounds t a) tmps).size
  | [], [], loc, loc', tmps, args, h, hE, hn, _, _ => by
    simp only [putParams, Option.some.injEq] at h
    subst h
    exact ⟨hE, hn⟩
  | [], _ :: _, _, _, _, _, h, _, _, _, _ => by cases h
  | _ :: _, [], _, _, _, _, h, _, _, _, _ => by cases h
  | p :: ps, v :: l, loc, loc', tmps, args, h, hE, hn, hlt, hv => by
    cases args with
    | nil => have := hv.1; simp at this
    | cons c args =>
      simp only [putParams] at h
      have hpn : p < n := hlt p List.mem_cons_self
      have hvc : VR γ w v c := hv.2 0 v c rfl rfl
      have hv' : VRs γ w l args.toArray := ⟨by have := hv.1; simp at this ⊢; exact this, fun j u x hu hx => hv.2 (j + 1) u x (by simpa using hu) (by simpa using hx)⟩
      have hE' : EvR γ w ((p, v) :: loc) [] { tmps := tmps.setIfInBounds p c, defers := [] } := fun t ht => by
        rw [look_cons] at ht ⊢
        by_cases e : p = t
        · subst e
          rw [if_pos rfl]
          exact ⟨c, by simp [Array.getElem?_setIfInBounds, show p < tmps.size by omega], hvc⟩
        · rw [if_neg e] at ht ⊢
          obtain ⟨x, hx, hvx⟩ := hE t ht
          exact ⟨x, by show (tmps.setIfInBounds p c)[t]? = _; rw [Array.getElem?_setIfInBounds_ne e]; exact hx, hvx⟩
      have := putParams_ok (n := n) h hE' (by simpa using hn) (fun t ht => hlt t (List.mem_cons_of_mem _ ht)) hv'
      simpa using this

theorem look_zip {tmps : Array Value} : ∀ {ts : List Nat} {cs : List AV}, (∀ (j : Nat) t u, ts[j]? = some t → cs[j]? = some u → ∃ c, tmps[t]? = some c ∧ VR γ w u c) → EvR γ w (ts.zip cs) [] { tmps := tmps, defers := [] }
  | [], cs, h => fun t ht => by simp [Env.look, Env.get] at ht
  | t :: ts, [], h => fun t ht => by simp [Env.look, Env.get] at ht
  | t :: ts, c :: cs, h => fun u hu => by
    simp only [List.zip_cons_cons] at hu ⊢
    rw [look_cons] at hu ⊢
    by_cases e : t = u
    · subst e
      rw [if_pos rfl]
      exact h 0 t c rfl rfl
    · rw [if_neg e] at hu ⊢
      exact look_zip (fun j t' u' h1 h2 => h (j + 1) t' u' (by simpa using h1) (by simpa using h2)) u hu

/-- a round: what the machine says of it is so -/
theorem round_ok {m : Nat} {b : Bar} (hI : Inv P γ s w) {i lb : Nat} {l : List AV} {s' : Sg} (hy : VR γ w (.yield i) (.func (.yield lb) #[] #[])) {args : Array Value} (hv : VRs γ w l args) (h : roundA b s i l = some s') :
    ∃ fn tmps assign body, (Instr.yield lb args).run P w = .ok (.round lb fn tmps assign body) w ∧ RoundIn Fence.wide m P lb fn tmps assign body w fun e w' => e = .returned (.bool true) ∧ ∃ γ', Le γ w γ' w' ∧ Inv P γ' s' w' := by
  obtain ⟨hw, ts, cs, ps, aops, bops, loc, x, ts', cs', ps', aops', bops', y, ts2, cs2, ps2, aops2, bops2, h1, h2, h3, h4, h5, h6, rfl⟩ := roundA_inv h
  obtain ⟨k0, k1, k2, r, k3, k4⟩ := hI.obj i _ h1
  have hlb : lb = γ.ob i := by cases hy with | yield _ _ _ hl => exact hl k1
  subst hlb
  obtain ⟨mu, ha⟩ := k4.assign
  obtain ⟨mu', hb⟩ := k4.body
  have hps : r.params = ps.toArray := by rw [← k4.params, Array.toArray_toList]
  have hlen : ∀ {loc loc' : Env} {ps : List Nat} {l : List AV}, putParams loc ps l = some loc' → ps.length = l.length := by
    intro loc loc' ps
    induction ps generalizing loc with
    | nil => intro l h; cases l with | nil => rfl | cons => cases h
    | cons p ps ih => intro l h; cases l with | nil => cases h | cons v l => simp only [putParams] at h; simp [ih h]
  have hsz : args.size = r.params.size := by rw [hps, ← hv.1, ← hlen h2]; simp
  refine ⟨_, _, _, _, run_yield k3 hsz, ?_⟩
  have hfold : (r.params.zip args).foldl (fun tmps (t, a) => tmps.setIfInBounds t a) r.tmps = (ps.zip args.toList).foldl (fun tmps (t, a) => tmps.setIfInBounds t a) r.tmps := by
    rw [hps, ← Array.foldl_toList]
    simp
  rw [hfold]
  obtain ⟨e1, e2⟩ := putParams_ok (n := r.tmps.size) (tmps := r.tmps) h2 (look_zip k4.tmps) (Nat.le_refl _) (fun t ht => k4.lt t (List.mem_append_left _ ht)) (args := args.toList) (by rw [Array.toArray_toList]; exact hv)
  have hR : RelR P γ w loc fr0 s r.tmps.size { tmps := (ps.zip args.toList).foldl (fun tmps (t, a) => tmps.setIfInBounds t a) r.tmps, defers := [] } := ⟨hI, e1, trivial, e2⟩
  refine roundIn_of_wpIn trivial ?_
  refine plainCode_ok (F := Fence.wide.inRound (γ.ob i)) (fun _ => trivial) _ ha (fun t ht => k4.lt t (List.mem_append_right _ (List.mem_append_left _ ht))) hR h3 fun γ1 w1 a1 hle1 hR1 => ?_
  have hob1 : γ1.ob i = γ.ob i := by
    obtain ⟨_, q1, _⟩ := hR1.inv.obj i _ h4
    exact hle1.ob i (hI.live h1 (by intro e; cases e)) (by rw [q1, k1])
  obtain ⟨r1, q1, q2, q3, q4⟩ := hR1.inv.setLoop (bz' := true) h4 (st := .busy) rfl
  have hbr := run_beginRound (P := P) q1 q2.state
  rw [hob1] at hbr
  have er1 : ({ r1 with state := .busy } : Loop) = { r1 with state := .busy, pending := none } := by rw [← q2.pending]
  rw [er1] at hbr
  rw [hob1] at q3 q4
  refine ⟨_, hbr, ?_⟩
  have hR1' : RelR P γ1 (w1.putObj (γ.ob i) (.loop { r1 with state := .busy, pending := none })) x.1 fr0 _ r.tmps.size a1 := ⟨q3, hR1.ev.mono q4, hR1.defs.mono q4, hR1.size⟩
  refine plainCode_ok (F := Fence.wide.inRound (γ.ob i)) (fun _ => trivial) _ hb (fun t ht => k4.lt t (List.mem_append_right _ (List.mem_append_right _ ht))) hR1' h5 fun γ2 w2 a2 hle2 hR2 => ?_
  have hle12 := hle1.trans (q4.trans hle2)
  have hob2 : γ2.ob i = γ.ob i := by
    obtain ⟨_, q1, _⟩ := hR2.inv.obj i _ h6
    exact hle12.ob i (hI.live h1 (by intro e; cases e)) (by rw [q1, k1])
  obtain ⟨r2, p1, p2, p3, p4⟩ := hR2.inv.setLoop (bz' := false) h6 (st := .ready) rfl
  have hend := run_endRound (P := P) none p1
  rw [hob2] at hend p3 p4
  exact ⟨_, _, hend, rfl, γ2, hle12.trans p4, p3⟩

theorem RoundIn.weaken {m : Nat} {l : Nat} {f : FuncId} {tmps : Array Value} {assign body : Code} {R R' : Ending → World → Prop} (h : RoundIn Fence.wide m P l f tmps assign body w R) (hr : ∀ e w', R e w' → R' e w') : RoundIn Fence.wide m P l f tmps assign body w R' := h.mono hr

end Go.Am

/-
  The abstract machine, twenty-second part: regions in the order of their text.
-/
namespace Go.Am
open Go.RowKit (Below)

variable {P : Program} {γ : Gh} {w : World} {s : Sg}

def ExR (γ : Gh) (w : World) : Ex → Exit → Prop
  | .normal, .normal => True
  | .exit i, .exit j => i = j
  | .ret, .ret => True
  | .panic v, .panic chain => ∃ c, chain = [{ v := c, recovered := false }] ∧ VR γ w v c
  | _, _ => False

theorem noRec_op {mu : Bool} {o : Oper} (hn : opNoRec o = true) {ao : AOp} (h : tOp P mu o.op = some ao) : ao ≠ .recover := by
  intro e
  subst e
  obtain ⟨dst, op, type, pos, after, guard⟩ := o
  rcases tOp_kind h with ⟨_, e⟩ | ⟨_, e⟩ | ⟨c, rfl⟩ | ⟨c, rfl⟩ | ⟨x, rfl⟩
  · cases e
  · cases e
  · simp only [tOp] at h
    rcases tCall_kind h with ⟨_, e⟩ | ⟨_, e⟩ | ⟨_, _, e, _⟩ | ⟨_, _, _, e, _⟩ | ⟨_, hc⟩ | ⟨_, _, _, _, e, _⟩
    · cases e
    · cases e
    · cases e
    · cases e
    · simp [opNoRec, hc] at hn
    · cases e
  · obtain ⟨_, _, _, e, _⟩ := tDefer_kind h; cases e
  · simp [tOp] at h

theorem tOper_op {mu : Nat → Bool} {ops : List Oper} {o : Oper} {ao : AOp} (h : (tOper P mu ops o).op = ao) (hb : ao ≠ .bad) : tOp P (mu (o.dst.getD 0)) o.op = some ao ∧ (o.guard.isSome = true → (guardTmp ops o.guard).isSome = true) := by
  simp only [tOper] at h
  split at h
  · exact absurd h.symm hb
  · rename_i hg
    refine ⟨?_, fun e => ?_⟩
    · cases ht : tOp P (mu (o.dst.getD 0)) o.op with
      | none => rw [ht] at h; exact absurd h.symm hb
      | some x => rw [ht] at h; simp at h; rw [h]
    · cases hgt : (guardTmp ops o.guard).isSome with
      | true => rfl
      | false => rw [e, Option.isNone_iff_eq_none.2 (by simpa using hgt)] at hg; simp at hg

theorem knownFn_op {fv : Nat → Option FuncId} (a : AOper) : (knownFn fv a).dst = a.dst ∧ (knownFn fv a).guard = a.guard ∧ ((knownFn fv a).op = a.op ∨ ∃ f x l, (knownFn fv a).op = .callk f x l ∧ a.op = .callv x l) := by
  unfold knownFn
  split
  · rename_i x l h
    split
    · exact ⟨rfl, rfl, .inr ⟨_, _, _, rfl, h⟩⟩
    · exact ⟨rfl, rfl, .inl rfl⟩
  · exact ⟨rfl, rfl, .inl rfl⟩

/-- an operation of a region in the order of its text -/
def tOperK (P : Program) (mu : Nat → Bool) (fv : Nat → Option FuncId) (ops : List Oper) (o : Oper) : AOper := knownFn fv (tOper P mu ops o)

theorem tOperK_dst {mu : Nat → Bool} {fv : Nat → Option FuncId} {ops : List Oper} {o : Oper} : (tOperK P mu fv ops o).dst = o.dst := (knownFn_op _).1
theorem tOperK_guard {mu : Nat → Bool} {fv : Nat → Option FuncId} {ops : List Oper} {o : Oper} : (tOperK P mu fv ops o).guard = guardTmp ops o.guard := (knownFn_op _).2.1

theorem tOperK_op {mu : Nat → Bool} {fv : Nat → Option FuncId} {ops : List Oper} {o : Oper} {ao : AOp} (h : (tOperK P mu fv ops o).op = ao) (hb : ao ≠ .bad) : Of P (mu (o.dst.getD 0)) o.op ao ∧ (∀ f y l, ao ≠ .calli f y l) ∧ (o.guard.isSome = true → (guardTmp ops o.guard).isSome = true) := by
  rcases (knownFn_op (fv := fv) (tOper P mu ops o)).2.2 with e | ⟨f, x, l, e1, e2⟩
  · have h' : (tOper P mu ops o).op = ao := e.symm.trans h
    obtain ⟨h1, h2⟩ := tOper_op h' hb
    exact ⟨.same h1, (tOp_not h1).2.2, h2⟩
  · have h' : ao = .callk f x l := h.symm.trans e1
    subst h'
    obtain ⟨h1, h2⟩ := tOper_op e2 (by intro e; cases e)
    exact ⟨.callk h1, fun _ _ _ => nofun, h2⟩

theorem tOperK_bad {mu : Nat → Bool} {fv : Nat → Option FuncId} {ops : List Oper} {o : Oper} (h : (tOper P mu ops o).op = .bad) : (tOperK P mu fv ops o).op = .bad := by
  rcases (knownFn_op (fv := fv) (tOper P mu ops o)).2.2 with e | ⟨f, x, l, e1, e2⟩
  · exact e.trans h
  · rw [h] at e2; cases e2

theorem of_recover {mu : Bool} {op : Op} (h : Of P mu op .recover) : tOp P mu op = some .recover := by cases h; assumption

/-- is an operation's guard one that can be told? else it is bad -/
theorem guard_bad {mu : Nat → Bool} {ops : List Oper} {o : Oper} (h : ¬ (o.guard.isSome = true → (guardTmp ops o.guard).isSome = true)) : (tOper P mu ops o).op = .bad := by
  simp only [tOper]
  rw [if_pos]
  simp only [not_imp] at h
  rw [h.1, Bool.true_and]
  cases hgt : guardTmp ops o.guard with
  | none => rfl
  | some x => rw [hgt] at h; simp at h

/-- an operation of a region in the order of its text, with the calls of ranges' bodies told -/
def tOperY (P : Program) (mu : Nat → Bool) (fv : Nat → Option FuncId) (ops : List Oper) (o : Oper) : AOper := toYield (tOperK P mu fv ops o)

theorem toYield_op (a : AOper) : (toYield a).dst = a.dst ∧ (toYield a).guard = a.guard ∧ ((toYield a).op = a.op ∨ ∃ f x l, a.op = .callk f x l ∧ (toYield a).op = .yieldc x l) := by
  unfold toYield
  split
  · rename_i f x l h
    split
    · exact ⟨rfl, rfl, .inr ⟨f, x, l, h, rfl⟩⟩
    · exact ⟨rfl, rfl, .inl rfl⟩
  · exact ⟨rfl, rfl, .inl rfl⟩

theorem tOperY_dst {mu : Nat → Bool} {fv : Nat → Option FuncId} {ops : List Oper} {o : Oper} : (tOperY P mu fv ops o).dst = o.dst := (toYield_op _).1.trans tOperK_dst
theorem tOperY_guard {mu : Nat → Bool} {fv : Nat → Option FuncId} {ops : List Oper} {o : Oper} : (tOperY P mu fv ops o).guard = guardTmp ops o.guard := (toYield_op _).2.1.trans tOperK_guard

theorem tOperY_bad {mu : Nat → Bool} {fv : Nat → Option FuncId} {ops : List Oper} {o : Oper} (h : (tOperK P mu fv ops o).op = .bad) : (tOperY P mu fv ops o).op = .bad := by
  unfold tOperY toYield
  rw [h]
  exact h

/-- a call of a value -/
theorem callv_inv {mu : Bool} {op : Op} {y : AOpd} {args : List AOpd} (hop : tOp P mu op = some (.callv y args)) : ∃ c z, op = .call c ∧ c.callee = .value z ∧ tOpd z = some y ∧ tOpds c.args.toList = some args := by
  rcases tOp_kind hop with ⟨_, e⟩ | ⟨_, e⟩ | ⟨c, rfl⟩ | ⟨c, rfl⟩ | ⟨x, rfl⟩
  · cases e
  · cases e
  · simp only [tOp] at hop
    rcases tCall_kind hop with ⟨_, e⟩ | ⟨_, e⟩ | ⟨_, _, e, h1, h2⟩ | ⟨_, _, _, e, h1, h2, h3⟩ | ⟨e, _⟩ | ⟨_, _, _, _, e, _⟩
    · cases e
    · cases e
    · cases e
    · cases e; exact ⟨c, _, rfl, h1, h2, h3⟩
    · cases e
    · cases e
  · obtain ⟨_, _, _, e, _⟩ := tDefer_kind hop; cases e
  · simp [tOp] at hop

/-- a call of a range's body: what the machine says of it is so -/
theorem yieldc_ok {m : Nat} {b : Bar} {mu : Bool} {o : Oper} {n : Nat} (hdst : ∀ t, o.dst = some t → t < n) {loc : Env} {fr : Fr} {a : Act} (hR : RelR P γ w loc fr s n a) {y : AOpd} {args : List AOpd} (hop : tOp P mu o.op = some (.callv y args)) {s1 : Sg} (h : roundOp b fr loc s y args = some s1)
    {K : Act → World → Prop} {Q : Exit → Act → World → Prop} (hK : ∀ γ' w' (a1 : Act), Le γ w γ' w' → RelR P γ' w' (setLoc loc o.dst (.bool true)) fr s1 n (a1.put o.dst (.bool true)) → K (a1.put o.dst (.bool true)) w') : o.wpIn Fence.wide m P a w K Q := by
  obtain ⟨hp, i, l, hy, hl, hr⟩ := roundOp_inv h
  obtain ⟨c, z, hoc, hcal, hz, hxs⟩ := callv_inv hop
  have hv := opd_ok hR.ev hz hy
  have hargs : VRs γ w l (c.args.map a.eval) := by
    have : c.args.map a.eval = (c.args.toList.map a.eval).toArray := by rw [← Array.toList_map, Array.toArray_toList]
    rw [this]
    exact opds_ok hR.ev hxs hl
  generalize hz' : a.eval z = zc at hv
  cases hv with
  | yield _ lb h1 h2 =>
  obtain ⟨fn, tmps, assign, body, g1, g2⟩ := round_ok (P := P) (m := m - 1) hR.inv (.yield i lb h1 h2) hargs hr
  refine ⟨fun _ _ => trivial, ?_⟩
  have hrun : (o.semAt Fence.wide.round a.eval).run P w = .ok (.round lb fn tmps assign body) w := by
    have hres : ∀ type, resolve a.eval c type = pure { target := .fn (.yield lb) #[], args := c.args.map a.eval } := fun type => by simp [resolve, hcal, Deferred.ofValue, hz']
    show (execOp a.eval o).run P w = _
    simp only [execOp, hoc, hres]
    simp only [pure_bind]
    exact g1
  rw [hrun]
  refine ⟨fun h => by simp [Fence.wide] at h, g2.mono fun e w' he => ?_⟩
  obtain ⟨rfl, γ', k1, k2⟩ := he
  exact hK γ' w' a k1 (hR.put k1 k2 (.bool true) hdst rfl rfl (hR.defs.mono k1))

/-- the operations of a region in the order of their text, in a frame that recovers nothing -/
theorem ops_ok {call : CallFn} (hc : CallOk P call) {b : Bar} {mu : Nat → Bool} {fv : Nat → Option FuncId} {ops : Array Oper} {n : Nat} (hdst : ∀ (i : Nat) o, ops[i]? = some o → ∀ t, o.dst = some t → t < n) {e : Ex} {loc' : Env} {fr' : Fr} {s' : Sg} {Q : Exit → Act → World → Prop} :
    ∀ (os : List Oper) (k : Nat), (∀ j, os[j]? = ops[k + j]?) → ∀ {γ : Gh} {w : World} {loc : Env} {fr : Fr} {s : Sg} {a : Act}, RelR P γ w loc fr s n a → (fr.pan = .off ∨ ∀ o ∈ os, opNoRec o = true) →
      runOps call b (os.map (tOperY P mu fv ops.toList)) loc fr s = some (e, loc', fr', s') → (∀ γ' w' a' x, Le γ w γ' w' → RelR P γ' w' loc' fr' s' n a' → fr'.pan = fr.pan → ExR γ' w' e x → Q x a' w') → wpOpsIn Fence.wide 0 P ops Q (List.range' k os.length) a w
  | [], k, hos, γ, w, loc, fr, s, a, hR, hp, h, hQ => by
    simp only [List.map_nil, runOps, Option.some.injEq, Prod.mk.injEq] at h
    obtain ⟨rfl, rfl, rfl, rfl⟩ := h
    exact hQ γ w a .normal (Le.refl _ _) hR rfl trivial
  | o :: r, k, hos, γ, w, loc, fr, s, a, hR, hp, h, hQ => by
    have ho : ops[k]? = some o := by have := hos 0; simpa using this.symm
    have hos' : ∀ j, r[j]? = ops[k + 1 + j]? := fun j => by
      have := hos (j + 1)
      rw [show k + 1 + j = k + (j + 1) from by omega, ← this]
      simp
    have hp' : fr.pan = .off ∨ ∀ o ∈ r, opNoRec o = true := hp.imp id fun h o ho => h o (List.mem_cons_of_mem _ ho)
    simp only [List.length_cons, List.range'_succ, wpOpsIn, ho]
    simp only [List.map_cons, runOps, Option.bind_eq_some_iff, tOperY_dst, tOperY_guard] at h
    obtain ⟨wd, hwd, h⟩ := h
    have rec_ok : ∀ γ' w' v c fr1 s1 (a1 : Act), Le γ w γ' w' → RelR P γ' w' (setLoc loc o.dst v) fr1 s1 n (a1.put o.dst c) → fr1.pan = fr.pan → runOps call b (r.map (tOperY P mu fv ops.toList)) (setLoc loc o.dst v) fr1 s1 = some (e, loc', fr', s') → wpOpsIn Fence.wide 0 P ops Q (List.range' (k + 1) r.length) (a1.put o.dst c) w' :=
      fun γ' w' v c fr1 s1 a1 hle hR1 hpan hr => ops_ok hc hdst r (k + 1) hos' hR1 (by rw [hpan]; exact hp') hr fun γ'' w'' a'' x hle' hR' hpan' hx => hQ γ'' w'' a'' x (hle.trans hle') hR' (hpan'.trans hpan) hx
    by_cases hg : (o.guard.isSome = true → (guardTmp ops.toList o.guard).isSome = true)
    · have hwt := wanted_ok hR.ev hg (wd := wd) hwd
      rw [hwt]
      cases wd with
      | false =>
        simp only [Bool.false_eq_true, if_false] at h ⊢
        exact ⟨fun _ _ => trivial, rec_ok γ w (.tup []) undef fr s a (Le.refl _ _) (hR.put (Le.refl _ _) hR.inv undef_VR (hdst k o ho) rfl rfl hR.defs) rfl h⟩
      | true =>
        simp only [if_true] at h ⊢
        rcases (toYield_op (tOperK P mu fv ops.toList o)).2.2 with eop | ⟨f, x, l, e1, e2⟩
        · have eop : (tOperY P mu fv ops.toList o).op = (tOperK P mu fv ops.toList o).op := eop
          rw [eop] at h
          have hb : (tOperK P mu fv ops.toList o).op ≠ .bad := fun e => by rw [e] at h; cases h
          obtain ⟨hof, hni, _⟩ := tOperK_op rfl hb
          have hrec : (tOperK P mu fv ops.toList o).op ≠ .recover := by
            rcases hp with hp | hp
            · intro e
              rw [e] at h
              simp [doRecover, hp] at h
            · exact fun e => noRec_op (hp o List.mem_cons_self) (of_recover (e ▸ hof)) rfl
          refine Oper.wpIn_of_wp (op_ok hc (hdst k o ho) hR hof hrec (fun f y l e => absurd e (hni f y l)) h rec_ok fun γ' w' v c s1 hle hR1 hv he hl hf hs => ?_)
          subst he; subst hl; subst hf; subst hs
          exact hQ γ' w' a _ hle hR1 rfl ⟨c, rfl, hv⟩
        · have e2 : (tOperY P mu fv ops.toList o).op = .yieldc x l := e2
          obtain ⟨hof, _⟩ := tOperK_op e1 (by intro e; cases e)
          have hop : tOp P (mu (o.dst.getD 0)) o.op = some (.callv x l) := by
            cases hof with
            | same h => exact absurd rfl ((tOp_not h).2.1 _ _ _)
            | callk h => exact h
          rw [e2] at h
          simp only [Option.bind_eq_some_iff] at h
          obtain ⟨s1, hr, h⟩ := h
          exact yieldc_ok (hdst k o ho) hR hop hr fun γ' w' a1 hle hR1 => rec_ok γ' w' (.bool true) (.bool true) fr s1 a1 hle hR1 rfl h
    · have hb := tOperY_bad (tOperK_bad (fv := fv) (guard_bad (P := P) (mu := mu) hg))
      have : (guardTmp ops.toList o.guard) = none := by
        simp only [not_imp] at hg
        cases hgt : guardTmp ops.toList o.guard with
        | none => rfl
        | some x => rw [hgt] at hg; simp at hg
      have hwd2 : wd = true := by
        rw [this] at hwd
        simp [wantedA] at hwd
        exact hwd
      subst hwd2
      rw [hb] at h
      cases h

-- ---------------------------------------------------------------- in a deferred call

def PanR (γ : Gh) (w : World) : Pan → FrameMode → Prop
  | .off, _ => False
  | .quiet, u => u = .returning
  | .on v r, u => ∃ c, u = .panicking [{ v := c, recovered := r }] ∧ VR γ w v c

theorem PanR.mono {γ' : Gh} {w' : World} (h : Le γ w γ' w') {p : Pan} {u : FrameMode} (hp : PanR γ w p u) : PanR γ' w' p u := by
  cases p with
  | off => exact hp
  | quiet => exact hp
  | on v r => obtain ⟨c, e, hv⟩ := hp; exact ⟨c, e, hv.mono h⟩

theorem opsS_ok {call : CallFn} (hc : CallOk P call) {b : Bar} {mu : Nat → Bool} {fv : Nat → Option FuncId} {ops : Array Oper} {n : Nat} (hdst : ∀ (i : Nat) o, ops[i]? = some o → ∀ t, o.dst = some t → t < n) {e : Ex} {loc' : Env} {fr' : Fr} {s' : Sg} {c₀ : Frame} {cs : List Frame} {Q : Exit → Act → List Frame → World → Prop} :
    ∀ (os : List Oper) (k : Nat), (∀ j, os[j]? = ops[k + j]?) → ∀ {γ : Gh} {w : World} {loc : Env} {fr : Fr} {s : Sg} {a : Act} {u : FrameMode}, RelR P γ w loc fr s n a → PanR γ w fr.pan u →
      runOps call b (os.map (tOperY P mu fv ops.toList)) loc fr s = some (e, loc', fr', s') → (∀ γ' w' a' x u', Le γ w γ' w' → RelR P γ' w' loc' fr' s' n a' → PanR γ' w' fr'.pan u' → ExR γ' w' e x → Q x a' ({ c₀ with mode := u' } :: cs) w') → wpOpsS P ops Q (List.range' k os.length) a ({ c₀ with mode := u } :: cs) w
  | [], k, hos, γ, w, loc, fr, s, a, u, hR, hp, h, hQ => by
    simp only [List.map_nil, runOps, Option.some.injEq, Prod.mk.injEq] at h
    obtain ⟨rfl, rfl, rfl, rfl⟩ := h
    exact hQ γ w a .normal u (Le.refl _ _) hR hp trivial
  | o :: r, k, hos, γ, w, loc, fr, s, a, u, hR, hp, h, hQ => by
    have ho : ops[k]? = some o := by have := hos 0; simpa using this.symm
    have hos' : ∀ j, r[j]? = ops[k + 1 + j]? := fun j => by
      have := hos (j + 1)
      rw [show k + 1 + j = k + (j + 1) from by omega, ← this]
      simp
    simp only [List.length_cons, List.range'_succ, wpOpsS, ho]
    simp only [List.map_cons, runOps, Option.bind_eq_some_iff, tOperY_dst, tOperY_guard] at h
    obtain ⟨wd, hwd, h⟩ := h
    have rec_ok : ∀ γ' w' v c fr1 s1 (a1 : Act) u1, Le γ w γ' w' → RelR P γ' w' (setLoc loc o.dst v) fr1 s1 n (a1.put o.dst c) → PanR γ' w' fr1.pan u1 → runOps call b (r.map (tOperY P mu fv ops.toList)) (setLoc loc o.dst v) fr1 s1 = some (e, loc', fr', s') → wpOpsS P ops Q (List.range' (k + 1) r.length) (a1.put o.dst c) ({ c₀ with mode := u1 } :: cs) w' :=
      fun γ' w' v c fr1 s1 a1 u1 hle hR1 hpan hr => opsS_ok hc hdst r (k + 1) hos' hR1 hpan hr fun γ'' w'' a'' x u' hle' hR' hpan' hx => hQ γ'' w'' a'' x u' (hle.trans hle') hR' hpan' hx
    by_cases hg : (o.guard.isSome = true → (guardTmp ops.toList o.guard).isSome = true)
    · have hwt := wanted_ok hR.ev hg (wd := wd) hwd
      rw [hwt]
      cases wd with
      | false =>
        simp only [Bool.false_eq_true, if_false] at h ⊢
        exact rec_ok γ w (.tup []) undef fr s a u (Le.refl _ _) (hR.put (Le.refl _ _) hR.inv undef_VR (hdst k o ho) rfl rfl hR.defs) hp h
      | true =>
        simp only [if_true] at h ⊢
        rcases (toYield_op (tOperK P mu fv ops.toList o)).2.2 with eop | ⟨f, x, l, e1, e2⟩
        case inr =>
          have e2 : (tOperY P mu fv ops.toList o).op = .yieldc x l := e2
          rw [e2] at h
          simp only [Option.bind_eq_some_iff] at h
          obtain ⟨s1, hr, h⟩ := h
          obtain ⟨hpan, _⟩ := roundOp_inv hr
          rw [hpan] at hp
          exact hp.elim
        have eop : (tOperY P mu fv ops.toList o).op = (tOperK P mu fv ops.toList o).op := eop
        rw [eop] at h
        have hb : (tOperK P mu fv ops.toList o).op ≠ .bad := fun e => by rw [e] at h; cases h
        obtain ⟨hof, hni, _⟩ := tOperK_op rfl hb
        by_cases hrec : (tOperK P mu fv ops.toList o).op = .recover
        · -- a recover
          rw [hrec] at hof h
          have hop := of_recover hof
          have hcall : ∃ c, o.op = .call c ∧ c.callee = .builtin .recover := by
            rcases tOp_kind hop with ⟨_, e⟩ | ⟨_, e⟩ | ⟨c, hcc⟩ | ⟨c, hcc⟩ | ⟨x, hcc⟩
            · cases e
            · cases e
            · rw [hcc] at hop
              simp only [tOp] at hop
              rcases tCall_kind hop with ⟨_, e⟩ | ⟨_, e⟩ | ⟨_, _, e, _⟩ | ⟨_, _, _, e, _⟩ | ⟨_, hcl⟩ | ⟨_, _, _, _, e, _⟩
              · cases e
              · cases e
              · cases e
              · cases e
              · exact ⟨c, hcc, hcl⟩
              · cases e
            · rw [hcc] at hop
              obtain ⟨_, _, _, e, _⟩ := tDefer_kind hop; cases e
            · rw [hcc] at hop
              simp [tOp] at hop
          obtain ⟨c, hoc, hcl⟩ := hcall
          have hrun : (execOp a.eval o).run P w = .ok .recover w := by
            simp only [execOp, hoc, resolve, hcl]
            rfl
          rw [hrun]
          simp only [Option.bind_eq_some_iff] at h
          obtain ⟨⟨v, fr1⟩, hx, h⟩ := h
          unfold doRecover at hx
          split at hx
          · rename_i v0 hpan
            simp only [Option.some.injEq, Prod.mk.injEq] at hx
            obtain ⟨rfl, rfl⟩ := hx
            rw [hpan] at hp
            obtain ⟨cv, rfl, hv⟩ := hp
            exact rec_ok γ w v0 cv { fr with pan := .on v0 true } s a _ (Le.refl _ _) (hR.put (Le.refl _ _) hR.inv hv (hdst k o ho) rfl rfl hR.defs) ⟨cv, rfl, hv⟩ h
          · rename_i hpan
            simp only [Option.some.injEq, Prod.mk.injEq] at hx
            obtain ⟨rfl, rfl⟩ := hx
            have hpu : u = .returning := by rw [hpan] at hp; exact hp
            subst hpu
            exact rec_ok γ w .nilif .nilIface fr s a _ (Le.refl _ _) (hR.put (Le.refl _ _) hR.inv .nilif (hdst k o ho) rfl rfl hR.defs) hp h
          · cases hx
        · have key := op_ok hc (hdst k o ho) hR hof hrec (fun f y l e => absurd e (hni f y l)) h (K := fun a' w' => wpOpsS P ops Q (List.range' (k + 1) r.length) a' ({ c₀ with mode := u } :: cs) w') (Q := fun x a' w' => Q x a' ({ c₀ with mode := u } :: cs) w')
            (fun γ' w' v c fr1 s1 a1 hle hR1 hpan hr => rec_ok γ' w' v c fr1 s1 a1 u hle hR1 (by rw [hpan]; exact hp.mono hle) hr)
            (fun γ' w' v c s1 hle hR1 hv he hl hf hs => by
              subst he; subst hl; subst hf; subst hs
              exact hQ γ' w' a _ u hle hR1 (hp.mono hle) ⟨c, rfl, hv⟩)
          unfold Oper.wp at key
          split
          · rename_i hrn
            rw [hrn] at key
            exact key.elim
          · exact key
    · have hb := tOperY_bad (tOperK_bad (fv := fv) (guard_bad (P := P) (mu := mu) hg))
      have : (guardTmp ops.toList o.guard) = none := by
        simp only [not_imp] at hg
        cases hgt : guardTmp ops.toList o.guard with
        | none => rfl
        | some x => rw [hgt] at hg; simp at hg
      have hwd2 : wd = true := by
        rw [this] at hwd
        simp [wantedA] at hwd
        exact hwd
      subst hwd2
      rw [hb] at h
      cases h

-- ---------------------------------------------------------------- what lives beyond a region

theorem get_put (pers : Env) (t : Nat) (x : AV) (u : Nat) : Env.get (Env.put pers t x) u = if t = u then x else Env.get pers u := by
  have nb : ∀ {a b : Nat}, a ≠ b → Nat.beq a b = false := fun {a b} h => by
    cases hb : Nat.beq a b with
    | false => rfl
    | true => exact absurd (Nat.eq_of_beq_eq_true hb) h
  induction pers with
  | nil =>
    simp only [Env.put, Env.get]
    by_cases h : t = u
    · subst h; simp
    · rw [nb h, if_neg h]; simp
  | cons p r ih =>
    obtain ⟨q, v⟩ := p
    simp only [Env.put]
    by_cases hq : q = t
    · subst hq
      simp only [Nat.beq_refl, if_true, Env.get]
      by_cases h : q = u
      · subst h; simp
      · rw [nb h, if_neg h]; simp
    · rw [nb hq]
      simp only [Bool.false_eq_true, if_false, Env.get, ih]
      by_cases h : q = u
      · subst h
        simp [Ne.symm hq]
      · rw [nb h]; simp

theorem get_putOuts (loc : Env) : ∀ (outs : List Nat) (pers : Env) (t : Nat), Env.get (putOuts loc outs pers) t = if t ∈ outs ∧ Env.has loc t = true then Env.get loc t else Env.get pers t
  | [], pers, t => by simp [putOuts]
  | u :: r, pers, t => by
    simp only [putOuts]
    rw [get_putOuts loc r]
    by_cases h1 : t ∈ r ∧ Env.has loc t = true
    · rw [if_pos h1, if_pos ⟨List.mem_cons_of_mem _ h1.1, h1.2⟩]
    · rw [if_neg h1]
      by_cases hu : Env.has loc u = true
      · rw [if_pos hu, get_put]
        by_cases e : u = t
        · subst e
          rw [if_pos rfl, if_pos ⟨List.mem_cons_self, hu⟩]
        · rw [if_neg e, if_neg]
          rintro ⟨hm, hh⟩
          rcases List.mem_cons.1 hm with rfl | hm
          · exact e rfl
          · exact h1 ⟨hm, hh⟩
      · rw [if_neg hu, if_neg]
        rintro ⟨hm, hh⟩
        rcases List.mem_cons.1 hm with rfl | hm
        · exact hu hh
        · exact h1 ⟨hm, hh⟩

theorem look_nil (pers : Env) (t : Nat) : Env.look [] pers t = Env.get pers t := rfl

theorem look_has : ∀ (loc pers : Env) (t : Nat), Env.look loc pers t = if Env.has loc t = true then Env.get loc t else Env.get pers t
  | [], pers, t => by simp [Env.look, Env.has]
  | (u, v) :: r, pers, t => by
    simp only [Env.look, Env.has, Env.get]
    by_cases hb : Nat.beq u t = true
    · simp [hb]
    · simp [hb, look_has r pers t]

/-- the temporaries that live on are among the slots -/
def SlotsOk (slots : List Nat) (pers : Env) : Prop := ∀ t, Env.get pers t ≠ .undef → t ∈ slots

theorem outs_ok {loc pers : Env} {slots outs dsts : List Nat} (hs : SlotsOk slots pers) (hloc : ∀ t, Env.has loc t = true → t ∈ dsts) (houts : ∀ t, t ∈ outs ↔ t ∈ dsts ∧ t ∈ slots) {a : Act} (hE : EvR γ w loc pers a) :
    EvR γ w [] (putOuts loc outs pers) a ∧ SlotsOk slots (putOuts loc outs pers) := by
  constructor
  · intro t hne
    rw [look_nil, get_putOuts] at hne ⊢
    by_cases h : t ∈ outs ∧ Env.has loc t = true
    · rw [if_pos h] at hne ⊢
      have := hE t
      rw [look_has, if_pos h.2] at this
      exact this hne
    · rw [if_neg h] at hne ⊢
      have hsl := hs t hne
      have : Env.has loc t ≠ true := fun hh => h ⟨(houts t).2 ⟨hloc t hh, hsl⟩, hh⟩
      have hE' := hE t
      rw [look_has, if_neg this] at hE'
      exact hE' hne
  · intro t hne
    rw [get_putOuts] at hne
    by_cases h : t ∈ outs ∧ Env.has loc t = true
    · exact ((houts t).1 h.1).2
    · rw [if_neg h] at hne
      exact hs t hne

/-- what a region has written is among what it writes -/
theorem has_ops {call : CallFn} {b : Bar} : ∀ {os : List AOper} {loc : Env} {fr : Fr} {s : Sg} {e : Ex} {loc' : Env} {fr' : Fr} {s' : Sg}, runOps call b os loc fr s = some (e, loc', fr', s') → (∀ t, Env.has loc' t = true → Env.has loc t = true ∨ t ∈ os.filterMap (·.dst)) ∧ fr'.pers = fr.pers
  | [], loc, fr, s, e, loc', fr', s', h => by
    simp only [runOps, Option.some.injEq, Prod.mk.injEq] at h
    obtain ⟨_, rfl, rfl, _⟩ := h
    exact ⟨fun t h => .inl h, rfl⟩
  | o :: r, loc, fr, s, e, loc', fr', s', h => by
    have step : ∀ {v : AV} {fr1 : Fr} {s1 : Sg}, fr1.pers = fr.pers → runOps call b r (setLoc loc o.dst v) fr1 s1 = some (e, loc', fr', s') → (∀ t, Env.has loc' t = true → Env.has loc t = true ∨ t ∈ (o :: r).filterMap (·.dst)) ∧ fr'.pers = fr.pers := fun {v fr1 s1} hp hr => by
      obtain ⟨h1, h2⟩ := has_ops hr
      refine ⟨fun t ht => ?_, h2.trans hp⟩
      rcases h1 t ht with h1 | h1
      · cases hd : o.dst with
        | none => rw [hd] at h1; exact .inl h1
        | some d =>
          rw [hd] at h1
          simp only [setLoc, Env.has, Bool.or_eq_true] at h1
          rcases h1 with h1 | h1
          · have := Nat.eq_of_beq_eq_true h1
            subst this
            refine .inr ?_
            simp [List.filterMap_cons, hd]
          · exact .inl h1
      · refine .inr ?_
        simp only [List.filterMap_cons]
        split
        · exact h1
        · exact List.mem_cons_of_mem _ h1
    have stay : ∀ {e1 : Ex} {s1 : Sg}, (some (e1, loc, fr, s1) : Option (Ex × Env × Fr × Sg)) = some (e, loc', fr', s') → (∀ t, Env.has loc' t = true → Env.has loc t = true ∨ t ∈ (o :: r).filterMap (·.dst)) ∧ fr'.pers = fr.pers := fun hh => by
      simp only [Option.some.injEq, Prod.mk.injEq] at hh
      obtain ⟨_, rfl, rfl, _⟩ := hh
      exact ⟨fun t h => .inl h, rfl⟩
    simp only [runOps, Option.bind_eq_some_iff] at h
    obtain ⟨wd, hwd, h⟩ := h
    split at h
    · split at h
      · simp only [Option.bind_eq_some_iff] at h
        obtain ⟨v, _, h⟩ := h
        exact step rfl h
      · simp only [Option.bind_eq_some_iff] at h
        obtain ⟨v, hv, h⟩ := h
        exact step rfl h
      · simp only [Option.bind_eq_some_iff] at h
        obtain ⟨l, _, x, hx, h⟩ := h
        split at h
        · exact step rfl h
        · exact stay h
      · simp only [Option.bind_eq_some_iff] at h
        obtain ⟨y, _, l, _, c, _, x, hx, h⟩ := h
        split at h
        · exact step rfl h
        · exact stay h
      · simp only [Option.bind_eq_some_iff] at h
        obtain ⟨v, hv, h⟩ := h
        exact step rfl h
      · simp only [Option.bind_eq_some_iff] at h
        obtain ⟨l, _, l', _, h⟩ := h
        split at h
        · simp only [Option.bind_eq_some_iff] at h
          obtain ⟨x, hx, h⟩ := h
          split at h
          · exact step rfl h
          · cases h
        · cases h
      · simp only [Option.bind_eq_some_iff] at h
        obtain ⟨l, _, l', _, x, hx, h⟩ := h
        split at h
        · exact step rfl h
        · exact stay h
      · simp only [Option.bind_eq_some_iff] at h
        obtain ⟨y, _, l, _, c, _, x, hx, h⟩ := h
        split at h
        · exact step rfl h
        · exact stay h
      · simp only [Option.bind_eq_some_iff] at h
        obtain ⟨s1, _, h⟩ := h
        exact step rfl h
      · simp only [Option.bind_eq_some_iff] at h
        obtain ⟨_, _, _, _, h⟩ := h
        exact stay h
      · simp only [Option.bind_eq_some_iff] at h
        obtain ⟨_, _, _, _, c, _, h⟩ := h
        exact step (fr1 := { fr with defers := c :: fr.defers }) rfl h
      · simp only [Option.bind_eq_some_iff] at h
        obtain ⟨x, hx, h⟩ := h
        refine step ?_ h
        unfold doRecover at hx
        split at hx
        · cases hx; rfl
        · cases hx; rfl
        · cases hx
      · cases h
    · exact step rfl h

end Go.Am

/-
  The abstract machine, twenty-third part: on what an operation hangs.
-/
namespace Go.Am
open Go.RowKit (Below)

variable {P : Program} {γ : Gh} {w : World} {s : Sg}

-- ---------------------------------------------------------------- operands alone

theorem evAll_congr {loc loc' pers : Env} : ∀ {xs : List AOpd}, (∀ x ∈ xs, x.ev loc pers = x.ev loc' pers) → evAll loc pers xs = evAll loc' pers xs
  | [], _ => rfl
  | x :: r, h => by
    simp only [evAll]
    rw [h x List.mem_cons_self, evAll_congr fun y hy => h y (List.mem_cons_of_mem _ hy)]

theorem fillParts_congr {loc loc' pers : Env} : ∀ {ps : List (Nat × Nat × AOpd)} {cs : List AV}, (∀ x ∈ ps.map (·.2.2), x.ev loc pers = x.ev loc' pers) → fillParts loc pers ps cs = fillParts loc' pers ps cs
  | [], _, _ => rfl
  | (o, n, x) :: r, cs, h => by
    simp only [fillParts]
    rw [h x (by simp)]
    have ih : ∀ cs', fillParts loc pers r cs' = fillParts loc' pers r cs' := fun cs' => fillParts_congr fun y hy => h y (by simp only [List.map_cons]; exact List.mem_cons_of_mem _ hy)
    simp only [ih]

theorem fillEls_congr {loc loc' pers : Env} {sz : Nat} : ∀ {ps : List (Nat × AOpd)} {cs : List AV}, (∀ x ∈ ps.map (·.2), x.ev loc pers = x.ev loc' pers) → fillEls loc pers sz ps cs = fillEls loc' pers sz ps cs
  | [], _, _ => rfl
  | (i, x) :: r, cs, h => by
    simp only [fillEls]
    rw [h x (by simp)]
    have ih : ∀ cs', fillEls loc pers sz r cs' = fillEls loc' pers sz r cs' := fun cs' => fillEls_congr fun y hy => h y (by simp only [List.map_cons]; exact List.mem_cons_of_mem _ hy)
    simp only [ih]

theorem evOpt_congr {loc loc' pers : Env} {x : Option AOpd} (h : ∀ y ∈ optL x, y.ev loc pers = y.ev loc' pers) : evOpt loc pers x = evOpt loc' pers x := by
  cases x with
  | none => rfl
  | some x => simp only [evOpt]; rw [h x (by simp [optL])]

theorem evV_congr {loc loc' pers : Env} {p : VOp} (h : ∀ x ∈ p.opds, x.ev loc pers = x.ev loc' pers) : evV loc pers s p = evV loc' pers s p := by
  cases p with
  | build z parts => simp only [evV]; rw [fillParts_congr h]
  | buildSl sz z len parts => simp only [evV]; rw [fillEls_congr h]
  | mm mx xs => simp only [evV]; rw [evAll_congr (xs := xs) h]
  | mkFunc f a c =>
    simp only [evV]
    rw [evAll_congr fun x hx => h x (by simp only [VOp.opds, List.mem_append]; exact .inl hx), evAll_congr (xs := c) fun x hx => h x (by simp only [VOp.opds, List.mem_append]; exact .inr hx)]
  | slice sz x lo hi mx =>
    simp only [evV]
    rw [h x (by simp [VOp.opds]), evOpt_congr (x := lo) fun y hy => h y (by simp [VOp.opds, hy]), evOpt_congr (x := hi) fun y hy => h y (by simp [VOp.opds, hy]), evOpt_congr (x := mx) fun y hy => h y (by simp [VOp.opds, hy])]
  | sliceA n sz x lo hi =>
    simp only [evV]
    rw [h x (by simp [VOp.opds]), evOpt_congr (x := lo) fun y hy => h y (by simp [VOp.opds, hy]), evOpt_congr (x := hi) fun y hy => h y (by simp [VOp.opds, hy])]
  | sliceS x lo hi =>
    simp only [evV]
    rw [h x (by simp [VOp.opds]), evOpt_congr (x := lo) fun y hy => h y (by simp [VOp.opds, hy]), evOpt_congr (x := hi) fun y hy => h y (by simp [VOp.opds, hy])]
  | constInt n => rfl
  | _ => simp only [evV]; simp only [VOp.opds, List.mem_cons, List.not_mem_nil, or_false, forall_eq_or_imp, forall_eq] at h; simp only [h]

theorem evE_congr {b : Bar} {loc loc' pers : Env} {p : EOp} (h : ∀ x ∈ p.opds, x.ev loc pers = x.ev loc' pers) : evE b loc pers s p = evE b loc' pers s p := by
  cases p with
  | alloc z => rfl
  | buildMs sz z len parts => simp only [evE]; rw [fillEls_congr h]
  | copy _ _ _ => rfl
  | makeMap => rfl
  | _ => simp only [evE]; simp only [EOp.opds, List.mem_cons, List.not_mem_nil, or_false, forall_eq_or_imp, forall_eq] at h; simp only [h]

theorem evF_congr {b : Bar} {loc loc' pers : Env} {k : Nat} {p : EOp} (h : ∀ x ∈ p.opds, x.ev loc pers = x.ev loc' pers) : evF b loc pers s k p = evF b loc' pers s k p := by
  have hp : plainApp loc pers p = plainApp loc' pers p := by
    cases p <;> try rfl
    simp only [EOp.opds, List.mem_cons, List.not_mem_nil, or_false, forall_eq_or_imp, forall_eq] at h
    simp only [plainApp, h]
  simp only [evF]
  rw [evE_congr h, hp]

theorem fnArgs_congr {loc loc' pers : Env} {f : FuncId} {y : Option AOpd} {l : List AV} (h : ∀ x ∈ optL y, x.ev loc pers = x.ev loc' pers) : fnArgs loc pers f y l = fnArgs loc' pers f y l := by
  cases y with
  | none => rfl
  | some y => simp only [fnArgs]; rw [h y (by simp [optL])]

theorem cls_v {cfg : Cfg} (p : VOp) : (clsOf cfg (.v p) = .pure ∧ p.looks = false) ∨ (clsOf cfg (.v p) = .load ∧ ∃ t, p.loadOpd = some (.tmp t)) ∨ clsOf cfg (.v p) = .eff := by
  simp only [clsOf]
  cases hl : p.looks with
  | false => exact .inl ⟨by simp, rfl⟩
  | true =>
    simp only [if_true]
    split
    · rename_i t ht; exact .inr (.inl ⟨rfl, t, ht⟩)
    · exact .inr (.inr rfl)

/-- an operation that does not look at the abstract heap -/
theorem evV_pure {loc pers : Env} {p : VOp} (h : p.looks = false) (s s' : Sg) : evV loc pers s p = evV loc pers s' p := by
  cases p <;> first | rfl | (simp [VOp.looks] at h; done) | (rename_i k x; cases k <;> first | rfl | (simp [VOp.looks] at h))

-- ---------------------------------------------------------------- one operation by itself

theorem ops_cons {call : CallFn} {b : Bar} {o : AOper} {r : List AOper} {loc : Env} {fr : Fr} {s : Sg} {loc' : Env} {fr' : Fr} {s' : Sg} (h : runOps call b (o :: r) loc fr s = some (.normal, loc', fr', s')) :
    ∃ v fr1 s1, runOps call b [o] loc fr s = some (.normal, setLoc loc o.dst v, fr1, s1) ∧ runOps call b r (setLoc loc o.dst v) fr1 s1 = some (.normal, loc', fr', s') := by
  simp only [runOps, Option.bind_eq_some_iff] at h
  obtain ⟨wd, hwd, h⟩ := h
  cases wd with
  | false =>
    simp only [Bool.false_eq_true, if_false] at h
    exact ⟨.tup [], fr, s, by simp [runOps, hwd], h⟩
  | true =>
    simp only [if_true] at h
    simp only [runOps, hwd, Option.bind_some, if_true]
    split at h
    · rename_i p hp
      simp only [Option.bind_eq_some_iff] at h
      obtain ⟨v, hv, h⟩ := h
      exact ⟨v, fr, s, by simp [hv], h⟩
    · rename_i p hp
      simp only [Option.bind_eq_some_iff] at h
      obtain ⟨⟨v, s1⟩, hv, h⟩ := h
      exact ⟨v, fr, s1, by simp [hv], h⟩
    · simp only [Option.bind_eq_some_iff] at h
      obtain ⟨l, hl, ⟨out, s1⟩, hx, h⟩ := h
      cases out with
      | ret v => exact ⟨v, fr, s1, by simp [hl, hx], h⟩
      | panic v => simp at h
    · simp only [Option.bind_eq_some_iff] at h
      obtain ⟨u, hu, l, hl, c, hc, ⟨out, s1⟩, hx, h⟩ := h
      cases out with
      | ret v => exact ⟨v, fr, s1, by simp [hu, hl, hc, hx], h⟩
      | panic v => simp at h
    · simp only [Option.bind_eq_some_iff] at h
      obtain ⟨⟨v, s1⟩, hv, h⟩ := h
      exact ⟨v, fr, s1, by simp [hv], h⟩
    · simp only [Option.bind_eq_some_iff] at h
      obtain ⟨l, hl, l', hl', h⟩ := h
      split at h
      · rename_i ho
        simp only [Option.bind_eq_some_iff] at h
        obtain ⟨⟨out, s1⟩, hx, h⟩ := h
        cases out with
        | ret v => exact ⟨v, fr, s, by simp [hl, hl', ho, hx], h⟩
        | panic v => simp at h
      · cases h
    · simp only [Option.bind_eq_some_iff] at h
      obtain ⟨l, hl, l', hl', ⟨out, s1⟩, hx, h⟩ := h
      cases out with
      | ret v => exact ⟨v, fr, s1, by simp [hl, hl', hx], h⟩
      | panic v => simp at h
    · simp only [Option.bind_eq_some_iff] at h
      obtain ⟨u, hu, l, hl, c, hc, ⟨out, s1⟩, hx, h⟩ := h
      cases out with
      | ret v => exact ⟨v, fr, s1, by simp [hu, hl, hc, hx], h⟩
      | panic v => simp at h
    · simp only [Option.bind_eq_some_iff] at h
      obtain ⟨s1, h1, h⟩ := h
      exact ⟨.bool true, fr, s1, by simp [h1], h⟩
    · simp only [Option.bind_eq_some_iff] at h
      obtain ⟨_, _, _, _, h⟩ := h
      simp at h
    · simp only [Option.bind_eq_some_iff] at h
      obtain ⟨u, hu, l, hl, c, hc, h⟩ := h
      exact ⟨.tup [], _, s, by simp [hu, hl, hc], h⟩
    · simp only [Option.bind_eq_some_iff] at h
      obtain ⟨x, hx, h⟩ := h
      exact ⟨x.1, x.2, s, by simp [hx], h⟩
    · cases h

/-- a run, operation by operation -/
def TraceOk (call : CallFn) (b : Bar) (as : List AOper) (loc : Nat → Env) (fr : Nat → Fr) (sg : Nat → Sg) (val : Nat → AV) : Prop :=
  ∀ k a, as[k]? = some a → runOps call b [a] (loc k) (fr k) (sg k) = some (.normal, loc (k + 1), fr (k + 1), sg (k + 1)) ∧ loc (k + 1) = setLoc (loc k) a.dst (val k)

theorem ops_step {call : CallFn} {b : Bar} (o : AOper) (r : List AOper) (loc : Env) (fr : Fr) (s : Sg) {loc1 : Env} {fr1 : Fr} {s1 : Sg} (h : runOps call b [o] loc fr s = some (.normal, loc1, fr1, s1)) : runOps call b (o :: r) loc fr s = runOps call b r loc1 fr1 s1 := by
  obtain ⟨dst, op, guard⟩ := o
  simp only [runOps] at h ⊢
  cases hw : wantedA loc fr.pers guard with
  | none => rw [hw] at h; cases h
  | some wd =>
    rw [hw] at h
    simp only [Option.bind_some] at h ⊢
    cases wd with
    | false =>
      simp only [Bool.false_eq_true, if_false, Option.some.injEq, Prod.mk.injEq, true_and] at h ⊢
      obtain ⟨rfl, rfl, rfl⟩ := h
      rfl
    | true =>
      simp only [if_true] at h ⊢
      have outc : ∀ {x : Out × Sg} {q : AV → Sg → Env × Fr × Sg}, (match x.1 with
          | .ret v => some (Ex.normal, setLoc loc dst v, fr, x.2)
          | .panic v => some (Ex.panic v, loc, fr, x.2)) = some (.normal, loc1, fr1, s1) → (match x.1 with
          | .ret v => runOps call b r (setLoc loc dst v) fr x.2
          | .panic v => some (.panic v, loc, fr, x.2)) = runOps call b r loc1 fr1 s1 := fun {x q} hx => by
        obtain ⟨o1, s2⟩ := x
        cases o1 with
        | ret v =>
          simp only [Option.some.injEq, Prod.mk.injEq, true_and] at hx
          obtain ⟨rfl, rfl, rfl⟩ := hx
          rfl
        | panic v => simp at hx
      cases op with
      | v p =>
        simp only [Option.bind_eq_some_iff] at h
        obtain ⟨v, hv, h⟩ := h
        cases h
        simp only [hv, Option.bind_some]
      | e p =>
        simp only [Option.bind_eq_some_iff] at h
        obtain ⟨v, hv, h⟩ := h
        cases h
        simp only [hv, Option.bind_some]
      | fill k p =>
        simp only [Option.bind_eq_some_iff] at h
        obtain ⟨v, hv, h⟩ := h
        cases h
        simp only [hv, Option.bind_some]
      | call f args =>
        simp only [Option.bind_eq_some_iff] at h
        obtain ⟨l, hl, x, hx, h⟩ := h
        simp only [hl, hx, Option.bind_some]
        exact outc (q := fun _ _ => (loc, fr, s)) h
      | callv y args =>
        simp only [Option.bind_eq_some_iff] at h
        obtain ⟨u, hu, l, hl, c, hc, x, hx, h⟩ := h
        simp only [hu, hl, hc, hx, Option.bind_some]
        exact outc (q := fun _ _ => (loc, fr, s)) h
      | invk tbl y args =>
        simp only [Option.bind_eq_some_iff] at h
        obtain ⟨u, hu, l, hl, c, hc, x, hx, h⟩ := h
        simp only [hu, hl, hc, hx, Option.bind_some]
        exact outc (q := fun _ _ => (loc, fr, s)) h
      | callk f y args =>
        simp only [Option.bind_eq_some_iff] at h
        obtain ⟨l, hl, l', hl', x, hx, h⟩ := h
        simp only [hl, hl', hx, Option.bind_some]
        exact outc (q := fun _ _ => (loc, fr, s)) h
      | calli f y args =>
        simp only [Option.bind_eq_some_iff] at h
        obtain ⟨l, hl, l', hl', h⟩ := h
        split at h
        · rename_i ho
          simp only [Option.bind_eq_some_iff] at h
          obtain ⟨x, hx, h⟩ := h
          simp only [hl, hl', Option.bind_some, if_pos ho, hx]
          obtain ⟨o1, s2⟩ := x
          cases o1 with
          | ret v =>
            simp only [Option.some.injEq, Prod.mk.injEq, true_and] at h
            obtain ⟨rfl, rfl, rfl⟩ := h
            rfl
          | panic v => simp at h
        · cases h
      | yieldc y args =>
        simp only [Option.bind_eq_some_iff] at h
        obtain ⟨s2, h1, h⟩ := h
        cases h
        simp only [h1, Option.bind_some]
      | panic x =>
        simp only [Option.bind_eq_some_iff] at h
        obtain ⟨_, _, _, _, h⟩ := h
        simp at h
      | defer y args =>
        simp only [Option.bind_eq_some_iff] at h
        obtain ⟨u, hu, l, hl, c, hc, h⟩ := h
        cases h
        simp only [hu, hl, hc, Option.bind_some]
      | recover =>
        simp only [Option.bind_eq_some_iff] at h
        obtain ⟨x, hx, h⟩ := h
        cases h
        simp only [hx, Option.bind_some]
      | bad => cases h

theorem trace_take {call : CallFn} {b : Bar} : ∀ {as : List AOper} {l : Nat → Env} {f : Nat → Fr} {g : Nat → Sg} {v : Nat → AV}, TraceOk call b as l f g v → ∀ e, e ≤ as.length → runOps call b (as.take e) (l 0) (f 0) (g 0) = some (.normal, l e, f e, g e)
  | as, l, f, g, v, _, 0, _ => by simp [runOps]
  | [], _, _, _, _, _, e + 1, h => by simp at h
  | o :: r, l, f, g, v, ht, e + 1, h => by
    rw [List.take_succ_cons, ops_step o _ _ _ _ (ht 0 o rfl).1]
    exact trace_take (as := r) (l := fun k => l (k + 1)) (f := fun k => f (k + 1)) (g := fun k => g (k + 1)) (v := fun k => v (k + 1)) (fun k a ha => ht (k + 1) a (by simpa using ha)) e (by simpa using h)

theorem trace_of {call : CallFn} {b : Bar} : ∀ {as : List AOper} {loc : Env} {fr : Fr} {s : Sg} {loc' : Env} {fr' : Fr} {s' : Sg}, runOps call b as loc fr s = some (.normal, loc', fr', s') →
    ∃ (l : Nat → Env) (f : Nat → Fr) (g : Nat → Sg) (v : Nat → AV), TraceOk call b as l f g v ∧ l 0 = loc ∧ f 0 = fr ∧ g 0 = s ∧ l as.length = loc' ∧ f as.length = fr' ∧ g as.length = s'
  | [], loc, fr, s, loc', fr', s', h => by
    simp only [runOps, Option.some.injEq, Prod.mk.injEq, true_and] at h
    obtain ⟨rfl, rfl, rfl⟩ := h
    exact ⟨fun _ => loc, fun _ => fr, fun _ => s, fun _ => .undef, fun k a h => by simp at h, rfl, rfl, rfl, rfl, rfl, rfl⟩
  | o :: r, loc, fr, s, loc', fr', s', h => by
    obtain ⟨v, fr1, s1, h1, h2⟩ := ops_cons h
    obtain ⟨l, f, g, vs, ht, e1, e2, e3, e4, e5, e6⟩ := trace_of h2
    refine ⟨fun k => match k with | 0 => loc | k + 1 => l k, fun k => match k with | 0 => fr | k + 1 => f k, fun k => match k with | 0 => s | k + 1 => g k, fun k => match k with | 0 => v | k + 1 => vs k, ?_, rfl, rfl, rfl, e4, e5, e6⟩
    intro k a ha
    cases k with
    | zero =>
      simp at ha
      subst ha
      dsimp only
      rw [e1, e2, e3]
      exact ⟨h1, rfl⟩
    | succ k =>
      simp at ha
      exact ht k a ha

end Go.Am

/-
  The abstract machine, twenty-fourth part: what is checked of a region whose order is drawn.
-/
namespace Go.Am
open Go.RowKit (Below)

variable {P : Program} {γ : Gh} {w : World} {s : Sg}

/-- one operation waits for another -/
inductive Before (ops : List Oper) : Nat → Nat → Prop
  | edge {i : Nat} {o : Oper} {e : Edge} : ops[i]? = some o → e ∈ o.after.toList → Region.binds .any e = true → Before ops e.on i
  | trans {i j : Nat} {o : Oper} {e : Edge} : ops[i]? = some o → e ∈ o.after.toList → Region.binds .any e = true → Before ops j e.on → Before ops j i

theorem mask_bit {acc : List Nat} {j : Nat} : ∀ (l : List Edge) (s : Nat), (l.foldl (fun s e => if Region.binds .any e then s ||| (2 ^ e.on ||| acc.getD e.on 0) else s) s).testBit j = true →
    s.testBit j = true ∨ ∃ e ∈ l, Region.binds .any e = true ∧ (j = e.on ∨ (acc.getD e.on 0).testBit j = true)
  | [], s, h => .inl h
  | e :: r, s, h => by
    simp only [List.foldl_cons] at h
    rcases mask_bit r _ h with h | ⟨e', he', hb⟩
    · split at h
      · rename_i hb
        simp only [Nat.testBit_or, Bool.or_eq_true] at h
        rcases h with h | h | h
        · exact .inl h
        · refine .inr ⟨e, List.mem_cons_self, hb, .inl ?_⟩
          simp [Nat.testBit_two_pow] at h
          exact h.symm
        · exact .inr ⟨e, List.mem_cons_self, hb, .inr h⟩
      · exact .inl h
    · exact .inr ⟨e', List.mem_cons_of_mem _ he', hb⟩

theorem masks_ok {ops : List Oper} : ∀ (os : List Oper) (acc : List Nat), (∀ j, os[j]? = ops[acc.length + j]?) → (∀ (i m : Nat), acc[i]? = some m → ∀ j, m.testBit j = true → Before ops j i) →
    (masks os acc).length = acc.length + os.length ∧ ∀ (i m : Nat), (masks os acc)[i]? = some m → ∀ j, m.testBit j = true → Before ops j i
  | [], acc, _, h => ⟨rfl, h⟩
  | o :: r, acc, hos, h => by
    have ho : ops[acc.length]? = some o := by have := hos 0; simpa using this.symm
    have := masks_ok r (acc ++ [maskOf o acc]) (fun j => by
      have := hos (j + 1)
      simp only [List.length_append, List.length_cons, List.length_nil]
      rw [show acc.length + (0 + 1) + j = acc.length + (j + 1) from by omega, ← this]
      simp) (fun i m hm j hj => by
      rw [List.getElem?_append] at hm
      split at hm
      · exact h i m hm j hj
      · rename_i hge
        have hi : i - acc.length = 0 := by
          have := lt_of_getElem? hm
          simp at this
          omega
        rw [hi] at hm
        simp at hm
        subst hm
        have hia : i = acc.length := by omega
        subst hia
        rcases mask_bit _ _ hj with h0 | ⟨e, he, hb, h0⟩
        · simp at h0
        · rcases h0 with rfl | h0
          · exact .edge ho he hb
          · refine .trans ho he hb ?_
            cases hg : acc[e.on]? with
            | none => rw [List.getD_eq_getElem?_getD, hg] at h0; simp at h0
            | some m' =>
              rw [List.getD_eq_getElem?_getD, hg] at h0
              exact h e.on m' hg j h0)
    simp only [masks]
    refine ⟨?_, this.2⟩
    rw [this.1]
    simp
    omega

/-- an operation whose waits end -/
inductive Ends (md : Region.Mode) (ops : List Oper) : Nat → Prop
  | mk {i : Nat} : i < ops.length → (∀ o, ops[i]? = some o → ∀ e ∈ o.after.toList, Region.binds md e = true → Ends md ops e.on) → Ends md ops i

theorem Ends.lt {md : Region.Mode} {ops : List Oper} {i : Nat} (h : Ends md ops i) : i < ops.length := by cases h; assumption

theorem pass_ok {md : Region.Mode} {ops : List Oper} : ∀ (os : List Oper) (i seen : Nat), (∀ j, os[j]? = ops[i + j]?) → (∀ j, seen.testBit j = true → Ends md ops j) → ∀ j, (pass md os i seen).testBit j = true → Ends md ops j
  | [], i, seen, _, h => h
  | o :: r, i, seen, hos, h => by
    have ho : ops[i]? = some o := by have := hos 0; simpa using this.symm
    refine pass_ok r (i + 1) _ (fun j => by
      have := hos (j + 1)
      rw [show i + 1 + j = i + (j + 1) from by omega, ← this]
      simp) fun j hj => ?_
    split at hj
    · rename_i hall
      simp only [Nat.testBit_or, Bool.or_eq_true] at hj
      rcases hj with hj | hj
      · exact h j hj
      · simp only [Nat.testBit_two_pow, decide_eq_true_eq] at hj
        subst hj
        refine .mk (lt_of_getElem? ho) fun o' ho' e he hb => ?_
        rw [ho] at ho'
        cases ho'
        simp only [List.all_eq_true] at hall
        have := hall e he
        rw [hb] at this
        exact h _ (by simpa using this)
    · exact h j hj

theorem passes_ok {md : Region.Mode} {ops : List Oper} : ∀ (k seen : Nat), (∀ j, seen.testBit j = true → Ends md ops j) → ∀ j, (passes md ops k seen).testBit j = true → Ends md ops j
  | 0, seen, h => h
  | k + 1, seen, h => by
    simp only [passes]
    split
    · exact h
    · exact passes_ok k _ (pass_ok ops 0 seen (fun j => by simp) h)

theorem allBits_ok : ∀ {n seen : Nat}, allBits n seen = true → ∀ i, i < n → seen.testBit i = true
  | 0, _, _, i, hi => by omega
  | n + 1, seen, h, i, hi => by
    simp only [allBits, Bool.and_eq_true] at h
    rcases Nat.lt_or_ge i n with a | a
    · exact allBits_ok h.2 i a
    · have : i = n := by omega
      subst this
      exact h.1

theorem topo_ok {md : Region.Mode} {ops : List Oper} (h : topoOk md ops = true) (i : Nat) (hi : i < ops.length) : Ends md ops i :=
  passes_ok ops.length 0 (fun j hj => by simp at hj) i (allBits_ok h i hi)

theorem binds_any {md : Region.Mode} {e : Edge} (h : Region.binds .any e = true) : Region.binds md e = true := by
  unfold Region.binds at *
  cases hg : e.ground <;> rw [hg] at h <;> first | rfl | cases h

theorem rows_ok {cfg : Cfg} : ∀ {as : List AOper} {ms : List Nat} {i : Nat}, as.length = ms.length → ∀ (k : Nat) a, as[k]? = some a → ∃ m, ms[k]? = some m ∧ (mkRows cfg as ms i)[k]? = some { i := i + k, o := a, cls := clsOf cfg a.op, mask := m, uses := aUses a }
  | [], _, _, _, k, a, ha => by simp at ha
  | x :: r, [], _, h, k, a, ha => by simp at h
  | x :: r, m :: ms, i, h, k, a, ha => by
    cases k with
    | zero =>
      simp at ha
      subst ha
      exact ⟨m, rfl, rfl⟩
    | succ k =>
      simp at ha
      obtain ⟨m', h1, h2⟩ := rows_ok (i := i + 1) (by simpa using h) k a ha
      refine ⟨m', by simpa using h1, ?_⟩
      simp only [mkRows, List.getElem?_cons_succ]
      rw [h2]
      simp only [Option.some.injEq, Row.mk.injEq, and_true]
      omega

theorem pairsWith_ok {rows : List Row} {x : Row} : ∀ {l : List Row} {ps : List Chk}, pairsWith rows x l = some ps → ∀ (j : Nat) y, l[j]? = some y → ∃ q, pairOf rows x y = some q ∧ ∀ z ∈ q, z ∈ ps
  | [], _, _, j, y, hy => by simp at hy
  | y' :: r, ps, h, j, y, hy => by
    simp only [pairsWith] at h
    split at h
    · rename_i a b h1 h2
      cases h
      cases j with
      | zero =>
        simp at hy
        subst hy
        exact ⟨a, h1, fun z hz => List.mem_append_left _ hz⟩
      | succ j =>
        simp at hy
        obtain ⟨q, g1, g2⟩ := pairsWith_ok h2 j y hy
        exact ⟨q, g1, fun z hz => List.mem_append_right _ (g2 z hz)⟩
    · cases h

theorem allPairs_ok {rows : List Row} : ∀ {l : List Row} {ps : List Chk}, allPairs rows l = some ps → ∀ (i j : Nat) x y, i < j → l[i]? = some x → l[j]? = some y → ∃ q, pairOf rows x y = some q ∧ ∀ z ∈ q, z ∈ ps
  | [], _, _, i, j, x, y, _, hx, _ => by simp at hx
  | x' :: r, ps, h, i, j, x, y, hij, hx, hy => by
    simp only [allPairs] at h
    split at h
    · rename_i a b h1 h2
      cases h
      cases j with
      | zero => omega
      | succ j =>
        simp at hy
        cases i with
        | zero =>
          simp at hx
          subst hx
          obtain ⟨q, g1, g2⟩ := pairsWith_ok h1 j y hy
          exact ⟨q, g1, fun z hz => List.mem_append_left _ (g2 z hz)⟩
        | succ i =>
          simp at hx
          obtain ⟨q, g1, g2⟩ := allPairs_ok h2 i j x y (by omega) hx hy
          exact ⟨q, g1, fun z hz => List.mem_append_right _ (g2 z hz)⟩
    · cases h

theorem pairsOk_mem {n0 : Nat} {loc pers : Env} : ∀ {ps : List Chk}, pairsOk n0 loc pers ps = true → ∀ z ∈ ps, z.ok n0 loc pers = true
  | [], _, z, hz => by simp at hz
  | c :: r, h, z, hz => by
    simp only [pairsOk, Bool.and_eq_true] at h
    rcases List.mem_cons.1 hz with rfl | hz
    · exact h.1
    · exact pairsOk_mem h.2 z hz

theorem tail_eq {a b : Tail} (h : a.same b = true) : a = b := by
  unfold Tail.same at h
  split at h
  · simp only [beq_iff_eq] at h; rw [h]
  · simp only [Bool.and_eq_true] at h; rw [Nat.eq_of_beq_eq_true h.1, Nat.eq_of_beq_eq_true h.2]
  · rfl
  · cases h

mutual
theorem same_eq : ∀ {a b : AV}, a.same b = true → a = b
  | .bool a, w, h => by simp only [AV.same] at h; split at h <;> first | (cases h; done) | (simp only [beq_iff_eq] at h; rw [h])
  | .int k a, w, h => by simp only [AV.same] at h; split at h <;> first | (cases h; done) | (simp only [Bool.and_eq_true, beq_iff_eq] at h; rw [h.1, h.2])
  | .cplx k a b, w, h => by simp only [AV.same] at h; split at h <;> first | (cases h; done) | (simp only [Bool.and_eq_true, beq_iff_eq] at h; rw [h.1, Nat.eq_of_beq_eq_true h.2.1, Nat.eq_of_beq_eq_true h.2.2])
  | .str a, w, h => by simp only [AV.same] at h; split at h <;> first | (cases h; done) | (simp only [beq_iff_eq] at h; rw [h])
  | .nilptr, w, h => by simp only [AV.same] at h; split at h <;> first | rfl | (cases h; done)
  | .nilsl, w, h => by simp only [AV.same] at h; split at h <;> first | rfl | (cases h; done)
  | .nilmap, w, h => by simp only [AV.same] at h; split at h <;> first | rfl | (cases h; done)
  | .nilfunc, w, h => by simp only [AV.same] at h; split at h <;> first | rfl | (cases h; done)
  | .nilif, w, h => by simp only [AV.same] at h; split at h <;> first | rfl | (cases h; done)
  | .ptr i g o, w, h => by
    simp only [AV.same] at h
    split at h <;> first | (cases h; done) | (simp only [Bool.and_eq_true] at h; rw [Nat.eq_of_beq_eq_true h.1, Nat.eq_of_beq_eq_true h.2.1, Nat.eq_of_beq_eq_true h.2.2])
  | .ms i g o l c z, w, h => by
    simp only [AV.same] at h
    split at h
    · simp only [Bool.and_eq_true] at h
      obtain ⟨h1, h2, h3, h4, h5, h6⟩ := h
      rw [Nat.eq_of_beq_eq_true h1, Nat.eq_of_beq_eq_true h2, Nat.eq_of_beq_eq_true h3, Nat.eq_of_beq_eq_true h4, Nat.eq_of_beq_eq_true h5, Nat.eq_of_beq_eq_true h6]
    · cases h
  | .map i, w, h => by simp only [AV.same] at h; split at h <;> first | (cases h; done) | rw [Nat.eq_of_beq_eq_true h]
  | .vec a t, w, h => by simp only [AV.same] at h; split at h <;> first | (cases h; done) | (simp only [Bool.and_eq_true] at h; rw [tail_eq h.1, sameAll_eq h.2])
  | .agg a, w, h => by simp only [AV.same] at h; split at h <;> first | (cases h; done) | rw [sameAll_eq h]
  | .pin a, w, h => by simp only [AV.same] at h; split at h <;> first | (cases h; done) | rw [same_eq h]
  | .iface t a, w, h => by simp only [AV.same] at h; split at h <;> first | (cases h; done) | (simp only [Bool.and_eq_true] at h; rw [Nat.eq_of_beq_eq_true h.1, same_eq h.2])
  | .func f a c, w, h => by simp only [AV.same] at h; split at h <;> first | (cases h; done) | (simp only [Bool.and_eq_true] at h; rw [Nat.eq_of_beq_eq_true h.1, sameAll_eq h.2.1, sameAll_eq h.2.2])
  | .undef, w, h => by simp [AV.same] at h
  | .flt .., w, h => by simp [AV.same] at h
  | .tup .., w, h => by simp [AV.same] at h
  | .yield .., w, h => by simp [AV.same] at h

theorem sameAll_eq : ∀ {a b : List AV}, sameAll a b = true → a = b
  | [], w, h => by simp only [sameAll] at h; split at h <;> first | rfl | (cases h; done)
  | a :: r, w, h => by
    simp only [sameAll] at h
    split at h
    · simp only [Bool.and_eq_true] at h
      rw [same_eq h.1, sameAll_eq h.2]
    · cases h
end

theorem sameObj_eq {a b : Option AObj} (h : sameObj a b = true) : a = b := by
  unfold sameObj at h
  split at h
  · simp only [Bool.and_eq_true] at h
    rw [Nat.eq_of_beq_eq_true h.1, sameAll_eq h.2]
  · cases h

theorem stills_mem {hs : Nat → Option (List AObj)} {n0 : Nat} {loc pers : Env} : ∀ {ps : List Chk}, stillsOk hs n0 loc pers ps = true → ∀ a e, Chk.still a e ∈ ps → ∀ i, a.at n0 loc pers = some i → ∃ h1 h2, hs e = some h1 ∧ hs (e + 1) = some h2 ∧ h1[i]? = h2[i]?
  | [], _, _, _, hz, _, _ => by cases hz
  | .still a' e' :: r, h, a, e, hz, i, hi => by
    simp only [stillsOk, Bool.and_eq_true] at h
    rcases List.mem_cons.1 hz with he | hz
    · cases he
      rw [hi] at h
      have h1 := h.1
      dsimp only at h1
      split at h1
      · rename_i h1' h2' e1 e2
        exact ⟨h1', h2', e1, e2, sameObj_eq h1⟩
      · cases h1
    · exact stills_mem h.2 a e hz i hi
  | .apart _ _ :: r, h, a, e, hz, i, hi => by
    rcases List.mem_cons.1 hz with he | hz
    · cases he
    · exact stills_mem (by simpa only [stillsOk] using h) a e hz i hi
  | .new _ :: r, h, a, e, hz, i, hi => by
    rcases List.mem_cons.1 hz with he | hz
    · cases he
    · exact stills_mem (by simpa only [stillsOk] using h) a e hz i hi
  | .unset _ :: r, h, a, e, hz, i, hi => by
    rcases List.mem_cons.1 hz with he | hz
    · cases he
    · exact stills_mem (by simpa only [stillsOk] using h) a e hz i hi

/-- nothing writes a temporary from an operation on -/
def Stab (as : List AOper) (i : Nat) : AOpd → Prop
  | .tmp t => ∀ (k : Nat) a, as[k]? = some a → i ≤ k → a.dst ≠ some t
  | .const _ => True

def StabFt (as : List AOper) (i : Nat) (a : Ft) : Prop := ∀ x, a.x = some x → Stab as i x

/-- an operation that works at one object -/
def Cls.one : Cls → Bool
  | .load | .write => true
  | _ => false

/-- two operations that may come in either order -/
def Free (cfg : Cfg) (as : List AOper) (ps : List Chk) (i : Nat) (x : AOper) (j : Nat) (y : AOper) : Prop :=
  clsOf cfg x.op = .pure ∨ clsOf cfg y.op = .pure ∨ ((clsOf cfg x.op).acts = false ∧ (clsOf cfg y.op).acts = false) ∨
  ((clsOf cfg x.op).one = true ∧ (clsOf cfg y.op).one = true ∧ Chk.apart x.op.ft y.op.ft ∈ ps ∧ StabFt as i x.op.ft ∧ StabFt as j y.op.ft) ∨
  (clsOf cfg x.op = .iso ∧ clsOf cfg y.op = .write ∧ Chk.new y.op.ft ∈ ps ∧ StabFt as j y.op.ft) ∨ (clsOf cfg x.op = .write ∧ clsOf cfg y.op = .iso ∧ Chk.new x.op.ft ∈ ps ∧ StabFt as i x.op.ft) ∨
  (clsOf cfg x.op = .load ∧ clsOf cfg y.op = .eff ∧ Chk.still x.op.ft j ∈ ps ∧ StabFt as i x.op.ft) ∨ (clsOf cfg x.op = .eff ∧ clsOf cfg y.op = .load ∧ Chk.still y.op.ft i ∈ ps ∧ StabFt as j y.op.ft)

structure PairFact (cfg : Cfg) (ops : List Oper) (as : List AOper) (ps : List Chk) (i : Nat) (x : AOper) (j : Nat) (y : AOper) : Prop where
  dst : ∀ t, x.dst = some t → y.dst ≠ some t
  or : Before ops i j ∨ ((∀ t, x.dst = some t → t ∉ aUses y) ∧ (∀ t, y.dst = some t → t ∉ aUses x) ∧ Free cfg as ps i x j y)

theorem stable_ok {cfg : Cfg} {as : List AOper} {ms : List Nat} (hl : as.length = ms.length) {i : Nat} {x : AOpd} (h : stable (mkRows cfg as ms 0) i x = true) : Stab as i x := by
  cases x with
  | const v => trivial
  | tmp t =>
    intro k a ha hik e
    obtain ⟨m, _, hr⟩ := rows_ok (cfg := cfg) (i := 0) hl k a ha
    simp only [stable, List.all_eq_true] at h
    have := h _ (List.mem_of_getElem? hr)
    rw [e] at this
    simp only [Nat.beq_refl, Bool.not_true, Bool.false_or, Nat.blt_eq] at this
    omega

theorem stableFt_ok {cfg : Cfg} {as : List AOper} {ms : List Nat} (hl : as.length = ms.length) {i : Nat} {a : Ft} (h : stableFt (mkRows cfg as ms 0) i a = true) : StabFt as i a := by
  intro x hx
  simp only [stableFt, hx] at h
  exact stable_ok hl h

theorem pair_fact0 {cfg : Cfg} {ops : List Oper} {as : List AOper} {ps : List Chk} (hl : as.length = ops.length) (h : allPairs (mkRows cfg as (masks ops []) 0) (mkRows cfg as (masks ops []) 0) = some ps) : ∀ (i j : Nat) x y, i < j → as[i]? = some x → as[j]? = some y → PairFact cfg ops as ps i x j y := by
  intro i j x y hij hx hy
  obtain ⟨hml, hm⟩ := masks_ok (ops := ops) ops [] (fun j => by simp) (fun i m hm => by simp at hm)
  have hl' : as.length = (masks ops []).length := by rw [hml, hl]; simp
  obtain ⟨m1, hm1, r1⟩ := rows_ok (cfg := cfg) (i := 0) hl' i x hx
  obtain ⟨m2, hm2, r2⟩ := rows_ok (cfg := cfg) (i := 0) hl' j y hy
  obtain ⟨q, hq, hps⟩ := allPairs_ok h i j _ _ hij r1 r2
  have hst : ∀ {k : Nat} {z : Ft}, stableFt (mkRows cfg as (masks ops []) 0) (0 + k) z = true → StabFt as k z := fun {k z} hz => by
    rw [Nat.zero_add] at hz
    exact stableFt_ok hl' hz
  unfold pairOf at hq
  split at hq
  · cases hq
  · rename_i hd
    have hdst : ∀ t, x.dst = some t → y.dst ≠ some t := fun t h1 h2 => by
      apply hd
      simp [sameDst, h1, h2]
    split at hq
    · rename_i hb
      refine ⟨hdst, .inl (hm j m2 hm2 i ?_)⟩
      simpa using hb
    · split at hq
      · cases hq
      · rename_i hw
        simp only [Bool.or_eq_true, not_or] at hw
        have hw1 : ∀ t, x.dst = some t → t ∉ aUses y := fun t h1 h2 => by
          apply hw.1
          simp only [writes, h1]
          simpa using h2
        have hw2 : ∀ t, y.dst = some t → t ∉ aUses x := fun t h1 h2 => by
          apply hw.2
          simp only [writes, h1]
          simpa using h2
        refine ⟨hdst, .inr ⟨hw1, hw2, ?_⟩⟩
        unfold clsPair at hq
        dsimp only at hq
        cases hcx : clsOf cfg x.op <;> cases hcy : clsOf cfg y.op <;> rw [hcx, hcy] at hq <;> dsimp only at hq <;> first
          | exact .inl hcx
          | exact .inr (.inl hcy)
          | exact .inr (.inr (.inl ⟨by rw [hcx]; rfl, by rw [hcy]; rfl⟩))
          | (cases hq; done)
          | (split at hq
             · cases hq
             · split at hq
               · rename_i hs
                 simp only [Bool.and_eq_true] at hs
                 cases hq
                 exact .inr (.inr (.inr (.inl ⟨by rw [hcx]; rfl, by rw [hcy]; rfl, hps _ (by simp), hst hs.1, hst hs.2⟩)))
               · cases hq)
          | (split at hq
             · rename_i hs
               first
                 | (simp only [Bool.and_eq_true] at hs
                    cases hq
                    exact .inr (.inr (.inr (.inl ⟨by rw [hcx]; rfl, by rw [hcy]; rfl, hps _ (by simp), hst hs.1, hst hs.2⟩))))
                 | (cases hq
                    exact .inr (.inr (.inr (.inr (.inl ⟨hcx, hcy, hps _ (by simp), hst hs⟩)))))
                 | (cases hq
                    exact .inr (.inr (.inr (.inr (.inr (.inl ⟨hcx, hcy, hps _ (by simp), hst hs⟩))))))
                 | (simp only [Bool.and_eq_true] at hs
                    cases hq
                    exact .inr (.inr (.inr (.inr (.inr (.inr (.inl ⟨hcx, hcy, hps _ (by simp), hst hs.2⟩)))))))
                 | (simp only [Bool.and_eq_true] at hs
                    cases hq
                    exact .inr (.inr (.inr (.inr (.inr (.inr (.inr (⟨hcx, hcy, hps _ (by simp), hst hs.2⟩))))))))
             · cases hq)

theorem pair_fact {cfg : Cfg} {ops : List Oper} {as : List AOper} {ps : List Chk} (hl : as.length = ops.length) (h : drawnPairs cfg ops as = some ps) : (topoOk .any ops && (topoOk .text ops && topoOk .gc ops)) = true ∧ ∀ (i j : Nat) x y, i < j → as[i]? = some x → as[j]? = some y → PairFact cfg ops as ps i x j y := by
  unfold drawnPairs at h
  split at h
  · rename_i he
    exact ⟨he, pair_fact0 hl h⟩
  · cases h

end Go.Am

/-
  The abstract machine, twenty-fifth part: a region whose order is drawn, operation by operation.
-/
namespace Go.Am
open Go.RowKit (Below)

variable {P : Program} {γ : Gh} {w : World} {s : Sg}

theorem getCells_same {h h' : List AObj} {i g : Nat} (e : h'[i]? = h[i]?) : getCells h' i g = getCells h i g := by simp only [getCells, e]

theorem load_same {p : VOp} {x : AOpd} (hp : p.loadOpd = some x) {loc pers : Env} {s s' : Sg} (h : ∀ u i, x.ev loc pers = some u → heapRef u = some i → s'.heap[i]? = s.heap[i]?) : evV loc pers s' p = evV loc pers s p := by
  cases p <;> simp only [VOp.loadOpd, Option.some.injEq, reduceCtorEq] at hp
  case load ag a =>
    subst hp
    simp only [evV]
    cases hu : a.ev loc pers with
    | none => rfl
    | some u =>
      simp only [Option.bind_some]
      cases u <;> try rfl
      rename_i i g off
      have := h _ i hu rfl
      dsimp only
      rw [getCells_same this]
  case indexAddrS ag x i =>
    subst hp
    simp only [evV]
    cases hu : x.ev loc pers with
    | none => rfl
    | some u =>
      simp only [Option.bind_some]
      cases u <;> try rfl
      rename_i h0 g off len cp sz
      have := h _ h0 hu rfl
      dsimp only
      rw [getCells_same this]
  case sliceA n sz x lo hi =>
    subst hp
    simp only [evV]
    cases hu : x.ev loc pers with
    | none => rfl
    | some u =>
      simp only [Option.bind_some]
      cases u <;> try rfl
      rename_i i g off
      have := h _ i hu rfl
      dsimp only
      rw [getCells_same this]
  case lookup str ok z m k =>
    subst hp
    simp only [evV]
    cases hu : m.ev loc pers with
    | none => rfl
    | some u =>
      simp only [Option.bind_some]
      cases u <;> try rfl
      rename_i i
      have := h _ i hu rfl
      have e : mapOf s'.heap (.map i) = mapOf s.heap (.map i) := by simp only [mapOf, getMap, this]
      rw [e]
  case conv k y =>
    cases k <;> simp only [reduceCtorEq, Option.some.injEq] at hp
    subst hp
    simp only [evV]
    cases hu : y.ev loc pers with
    | none => rfl
    | some u =>
      simp only [Option.bind_some]
      cases u <;> try rfl
      rename_i i g off len cp sz
      have := h _ i hu rfl
      simp only [evConvH, elemsOf]
      rw [getCells_same this]

/-- a write's run -/
def wrRun (b : Bar) (loc pers : Env) (s : Sg) : AOp → Option (AV × Sg)
  | .e p => evE b loc pers s p
  | .fill k p => evF b loc pers s k p
  | _ => none

/-- what is told besides of a state -/
def _root_.Go.Am.Sg.tt (s : Sg) : List Nat × List (Nat × Nat × Nat) × List (Nat × AV) := (s.toks, s.ty, s.gl)

/-- what is so of a write at an object: elsewhere nothing changes -/
structure WrAt (i : Option Nat) (s s' : Sg) : Prop where
  len : s'.heap.length = s.heap.length
  toks : s'.tt = s.tt
  out : ∀ j, i ≠ some j → s'.heap[j]? = s.heap[j]?

theorem WrAt.refl (i : Option Nat) (s : Sg) : WrAt i s s := ⟨rfl, rfl, fun _ _ => rfl⟩
theorem WrAt.set (i : Nat) (s : Sg) (o : AObj) : WrAt (some i) s { s with heap := setAt s.heap i o } :=
  ⟨by simp [length_setAt], rfl, fun j hj => by simp only [getElem?_setAt]; rw [if_neg (fun e => hj (by rw [e]))]⟩

/-- a write hangs on the object that it works at -/
def WrLocal (run : Sg → Option (AV × Sg)) (i : Option Nat) (s : Sg) (v : AV) (s' : Sg) : Prop :=
  WrAt i s s' ∧ ∀ S : Sg, S.heap.length = s.heap.length → S.tt = s.tt → (∀ j, i = some j → S.heap[j]? = s.heap[j]?) → ∃ S', run S = some (v, S') ∧ WrAt i S S' ∧ ∀ j, i = some j → S'.heap[j]? = s'.heap[j]?

theorem WrLocal.still {run : Sg → Option (AV × Sg)} {i : Option Nat} {v : AV} (h : ∀ S : Sg, (∀ j, i = some j → S.heap[j]? = s.heap[j]?) → S.heap.length = s.heap.length → run S = some (v, S)) : WrLocal run i s v s :=
  ⟨.refl _ _, fun S hl _ hi => ⟨S, h S hi hl, .refl _ _, fun j hj => hi j hj⟩⟩

theorem WrLocal.put {run : Sg → Option (AV × Sg)} {i : Nat} {v : AV} {o : AObj} (hlt : i < s.heap.length) (h : ∀ S : Sg, S.heap[i]? = s.heap[i]? → S.heap.length = s.heap.length → run S = some (v, { S with heap := setAt S.heap i o })) : WrLocal run (some i) s v { s with heap := setAt s.heap i o } :=
  ⟨.set _ _ _, fun S hl _ hi => ⟨_, h S (hi i rfl) hl, .set _ _ _, fun j hj => by
    cases hj
    simp only [getElem?_setAt, if_true]
    rw [if_pos hlt, if_pos (by omega)]⟩⟩

theorem elems_plain {h h' : List AObj} {ag : Option Nat} {u : AV} (hu : heapRef u = none) : elemsOf h' ag u = elemsOf h ag u := by cases u <;> first | rfl | simp [heapRef] at hu

/-- a fill of what is made -/
theorem fill_local {b : Bar} {loc pers : Env} {k : Nat} {p : EOp} {v : AV} {s' : Sg} {v0 : AV} {o : AObj} (h0 : evE b loc pers s p = some (v0, s.push o)) (hgen : ∀ S : Sg, S.heap.length = s.heap.length → evE b loc pers S p = some (v0, S.push o)) (h : evF b loc pers s k p = some (v, s')) :
    WrLocal (fun S => evF b loc pers S k p) (some (b.n0 + k)) s v s' := by
  unfold evF at h
  split at h
  · cases h
  rename_i hpl
  rw [h0] at h
  simp only [Option.bind_some] at h
  have hne : ∀ S : Sg, Nat.beq (S.push o).heap.length S.heap.length = false := fun S => by
    cases e : Nat.beq (S.push o).heap.length S.heap.length with
    | false => rfl
    | true => have := Nat.eq_of_beq_eq_true e; simp [Sg.push] at this
  have hlast : ∀ S : Sg, (S.push o).heap[S.heap.length]? = some o := fun S => by simp [Sg.push]
  rw [hne, hlast] at h
  simp only [Bool.false_eq_true, if_false, Option.bind_some, Option.bind_eq_some_iff] at h
  obtain ⟨q, hq, h⟩ := h
  split at h
  · rename_i hc
    simp only [Option.map_eq_some_iff, Prod.mk.injEq] at h
    obtain ⟨u, hu, rfl, rfl⟩ := h
    refine .put (lt_of_getElem? hq) fun S hS hl => ?_
    unfold evF
    rw [if_neg hpl, hgen S hl]
    simp only [Option.bind_some]
    rw [hne, hlast, hS, hq]
    simp only [Bool.false_eq_true, if_false, Option.bind_some]
    rw [hl, if_pos hc, hu]
    rfl
  · cases h

theorem fill_still {b : Bar} {loc pers : Env} {k : Nat} {p : EOp} {i : Option Nat} {v v' : AV} {s' : Sg} (h0 : evE b loc pers s p = some (v', s)) (hgen : ∀ S : Sg, (∀ j, i = some j → S.heap[j]? = s.heap[j]?) → evE b loc pers S p = some (v', S)) (h : evF b loc pers s k p = some (v, s')) :
    WrLocal (fun S => evF b loc pers S k p) i s v s' := by
  unfold evF at h
  split at h
  · cases h
  rename_i hpl
  rw [h0] at h
  simp only [Option.bind_some, Nat.beq_refl, if_true, Option.some.injEq, Prod.mk.injEq] at h
  obtain ⟨rfl, rfl⟩ := h
  refine .still fun S hS _ => ?_
  unfold evF
  rw [if_neg hpl, hgen S hS]
  simp only [Option.bind_some, Nat.beq_refl, if_true]

theorem fill_put {b : Bar} {loc pers : Env} {k : Nat} {p : EOp} {i : Nat} {v v' : AV} {s' : Sg} {o : AObj} (hlt : i < s.heap.length) (h0 : evE b loc pers s p = some (v', { s with heap := setAt s.heap i o })) (hgen : ∀ S : Sg, S.heap[i]? = s.heap[i]? → evE b loc pers S p = some (v', { S with heap := setAt S.heap i o })) (h : evF b loc pers s k p = some (v, s')) :
    WrLocal (fun S => evF b loc pers S k p) (some i) s v s' := by
  unfold evF at h
  split at h
  · cases h
  rename_i hpl
  rw [h0] at h
  simp only [Option.bind_some, length_setAt, Nat.beq_refl, if_true, Option.some.injEq, Prod.mk.injEq] at h
  obtain ⟨rfl, rfl⟩ := h
  refine .put hlt fun S hS _ => ?_
  unfold evF
  rw [if_neg hpl, hgen S hS]
  simp only [Option.bind_some, length_setAt, Nat.beq_refl, if_true]

theorem getMap_same {h h' : List AObj} {i : Nat} (e : h'[i]? = h[i]?) : getMap h' i = getMap h i := by simp only [getMap, e]

theorem write_local {cfg : Cfg} {b : Bar} {loc pers : Env} {op : AOp} (hc : clsOf cfg op = .write) {v : AV} {s' : Sg} (h : wrRun b loc pers s op = some (v, s')) : WrLocal (fun S => wrRun b loc pers S op) (op.ft.at b.n0 loc pers) s v s' := by
  cases op with
  | e p =>
    simp only [wrRun] at h ⊢
    cases p <;> try (simp [clsOf] at hc; done)
    case store n a x =>
      simp only [evE, Option.bind_eq_some_iff] at h
      obtain ⟨u, hu, d, hd, h⟩ := h
      cases u <;> try (simp at h; done)
      rename_i i g off
      simp only [Option.bind_eq_some_iff] at h
      obtain ⟨l, hl, cs, hcs, h⟩ := h
      have hat : (AOp.e (.store n a x)).ft.at b.n0 loc pers = some i := by simp [AOp.ft, Ft.at, hu, heapRef]
      rw [hat]
      split at h
      · rename_i hcond
        simp only [Option.map_eq_some_iff, Prod.mk.injEq] at h
        obtain ⟨cs', hw, rfl, rfl⟩ := h
        refine .put (lt_of_getElem? (getCells_some hcs)) fun S hS _ => ?_
        simp only [evE, hu, hd, Option.bind_some, hl, getCells_same hS, hcs, if_pos hcond, hw, Option.map_some]
      · cases h
    case mapPut str m k x =>
      simp only [evE, Option.bind_eq_some_iff] at h
      obtain ⟨u, hu, q, hq, d, hd, h⟩ := h
      cases u <;> try (simp at h; done)
      rename_i i
      simp only [Option.bind_eq_some_iff] at h
      obtain ⟨es, hes, y, hy, h⟩ := h
      have hat : (AOp.e (.mapPut str m k x)).ft.at b.n0 loc pers = some i := by simp [AOp.ft, Ft.at, hu, heapRef]
      rw [hat]
      have hlt : i < s.heap.length := by
        unfold getMap at hes
        split at hes
        · rename_i e; exact lt_of_getElem? e
        · cases hes
      split at h
      · rename_i hcond
        simp only [Option.map_eq_some_iff, Prod.mk.injEq] at h
        obtain ⟨es', hs, rfl, rfl⟩ := h
        refine .put hlt fun S hS _ => ?_
        simp only [evE, hu, hq, hd, Option.bind_some, getMap_same hS, hes, hy, if_pos hcond, hs, Option.map_some]
      · cases h
  | fill k p =>
    simp only [wrRun] at h ⊢
    cases p <;> try (simp [clsOf] at hc; done)
    case alloc z =>
      exact fill_local (v0 := .ptr s.heap.length 0 0) rfl (fun S hl => by simp only [evE, hl]) h
    case makeMap =>
      exact fill_local (v0 := .map s.heap.length) rfl (fun S hl => by simp only [evE, hl]) h
    case box x =>
      cases hx : (x.ev loc pers).bind AV.stored with
      | none =>
        exfalso
        unfold evF at h
        split at h
        · cases h
        have : evE b loc pers s (.box x) = none := by
          simp only [evE]
          cases hu : x.ev loc pers with
          | none => rfl
          | some u =>
            rw [hu] at hx
            have hx : u.stored = none := hx
            simp only [Option.bind_some, hx, Option.map_none]
        rw [this] at h
        cases h
      | some l =>
        have hE : ∀ S : Sg, evE b loc pers S (.box x) = some (.ptr S.heap.length 0 0, S.push (.cells l 0)) := fun S => by
          simp only [evE]
          cases hu : x.ev loc pers with
          | none => rw [hu] at hx; cases hx
          | some u =>
            rw [hu] at hx
            have hx : u.stored = some l := hx
            simp only [Option.bind_some, hx, Option.map_some]
        exact fill_local (hE s) (fun S hl => by rw [hE S, hl]) h
    case buildMs sz z len parts =>
      cases hx : fillEls loc pers sz parts (List.replicate len z) with
      | none =>
        exfalso
        unfold evF at h
        split at h
        · cases h
        have : evE b loc pers s (.buildMs sz z len parts) = none := by simp only [evE, hx, Option.map_none]
        rw [this] at h
        cases h
      | some es =>
        have hE : ∀ S : Sg, evE b loc pers S (.buildMs sz z len parts) = some (.ms S.heap.length 0 0 len len sz, S.push (.cells (flatAll es) 0)) := fun S => by
          simp only [evE, hx, Option.map_some]
        exact fill_local (hE s) (fun S hl => by rw [hE S, hl]) h
    case makeSl mu bytes z l c =>
      have hmu : mu = true := by cases mu <;> simp [clsOf] at hc ⊢
      subst hmu
      cases hx : evE b loc pers s (.makeSl true bytes z l c) with
      | none =>
        exfalso
        unfold evF at h
        split at h
        · cases h
        rw [hx] at h
        cases h
      | some q =>
        have hE : ∃ (f : Nat → AV) (o : AObj), ∀ S : Sg, evE b loc pers S (.makeSl true bytes z l c) = some (f S.heap.length, S.push o) := by
          simp only [evE, Option.bind_eq_some_iff] at hx
          obtain ⟨u, hu, d, hd, hx⟩ := hx
          split at hx
          · rename_i kl n kc m
            split at hx
            · cases hx
            · rename_i h1
              split at hx
              · rename_i h2
                refine ⟨fun k => .ms k 0 0 n.toNat m.toNat z.flat.length, .cells (flatAll (List.replicate m.toNat z)) 0, fun S => ?_⟩
                simp only [evE, hu, hd, Option.bind_some]
                rw [if_neg h1, if_pos h2]
                rfl
              · cases hx
          · cases hx
        obtain ⟨f, o, hE⟩ := hE
        exact fill_local (hE s) (fun S hl => by rw [hE S, hl]) h
    case append mu ag bytes x y =>
      have hmu : mu = true := by cases mu <;> simp [clsOf] at hc ⊢
      subst hmu
      -- the operands
      cases hu : x.ev loc pers with
      | none =>
        exfalso
        unfold evF at h
        split at h
        · cases h
        simp [evE, hu] at h
      | some u =>
      cases hd : y.ev loc pers with
      | none =>
        exfalso
        unfold evF at h
        split at h
        · cases h
        simp [evE, hu, hd] at h
      | some d =>
      have hpl : plainApp loc pers (.append true ag bytes x y) = true := by
        unfold evF at h
        split at h
        · cases h
        rename_i e; simpa using e
      simp only [plainApp, hu, hd, Option.bind_some, Bool.and_eq_true] at hpl
      have hdn : heapRef d = none := by
        cases e : heapRef d with
        | none => rfl
        | some i => rw [e] at hpl; cases hpl.2
      cases hys : elemsOf s.heap ag d with
      | none =>
        exfalso
        unfold evF at h
        split at h
        · cases h
        simp [evE, hu, hd, hys] at h
      | some ys =>
      have hysS : ∀ S : Sg, elemsOf S.heap ag d = some ys := fun S => by rw [elems_plain hdn (h := s.heap)]; exact hys
      by_cases hcond : (allSize (ag.getD 1) ys && allOneAll ys) = true
      · have hE : ∀ S : Sg, evE b loc pers S (.append true ag bytes x y) = evAppend b S true ag bytes u ys := fun S => by
          simp only [evE, hu, hd, Option.bind_some, hysS S, if_pos hcond]
        have hbad : evAppend b s true ag bytes u ys ≠ none := fun e => by
          unfold evF at h
          split at h
          · cases h
          rw [hE s, e] at h
          cases h
        have hat : (AOp.fill k (.append true ag bytes x y)).ft.at b.n0 loc pers = (match heapRef u with | some i => some i | none => some (b.n0 + k)) := by
          simp only [AOp.ft, Ft.at, hu, Option.bind_some]
          cases heapRef u <;> rfl
        rw [hat]
        -- nothing is added
        have none_ : (∀ S : Sg, evAppend b S true ag bytes u ys = some (u, S)) → ∀ i, WrLocal (fun S => evF b loc pers S k (.append true ag bytes x y)) i s v s' := fun e i =>
          fill_still ((hE s).trans (e s)) (fun S _ => (hE S).trans (e S)) h
        cases u <;> try (exact absurd rfl hbad)
        case nilsl =>
          cases ys with
          | nil => exact none_ (fun S => rfl) _
          | cons y0 yr =>
            by_cases hl : Nat.ble ((y0 :: yr).length * bytes) limit = true
            · have e : ∀ S : Sg, evAppend b S true ag bytes .nilsl (y0 :: yr) = some (.ms S.heap.length 0 0 (y0 :: yr).length (y0 :: yr).length (ag.getD 1), S.push (.cells (flatAll (y0 :: yr)) 0)) := fun S => by
                simp only [evAppend]
                rw [if_pos hl]
                rfl
              exact fill_local ((hE s).trans (e s)) (fun S hl' => (hE S).trans (by rw [e S, hl'])) h
            · exact absurd (by simp only [evAppend]; rw [if_neg hl]) hbad
        case vec es tl =>
          cases ys with
          | nil => exact none_ (fun S => rfl) _
          | cons y0 yr =>
            by_cases hl : (Nat.ble ((es.length + (y0 :: yr).length) * bytes) limit && allSize (ag.getD 1) es) = true
            · cases tl with
              | exact own =>
                have e : ∀ S : Sg, evAppend b S true ag bytes (.vec es (.exact own)) (y0 :: yr) = some (.ms S.heap.length 0 0 (es.length + (y0 :: yr).length) (es.length + (y0 :: yr).length) (ag.getD 1), S.push (.cells (flatAll (es ++ y0 :: yr)) 0)) := fun S => by
                  simp only [evAppend]
                  rw [if_pos hl]
                  rfl
                exact fill_local ((hE s).trans (e s)) (fun S hl' => (hE S).trans (by rw [e S, hl'])) h
              | tok t n => simp at hpl
              | shut => exact absurd (by simp only [evAppend]; rw [if_pos hl]) hbad
            · exact absurd (by simp only [evAppend]; rw [if_neg hl]) hbad
        case ms i g off len cp sz =>
          by_cases hl : (Nat.ble ((len + ys.length) * bytes) limit && Nat.beq sz (ag.getD 1) && b.lets i (flatAll ys)) = true
          · cases hcs : getCells s.heap i g with
            | none => exact absurd (by simp only [evAppend]; rw [if_pos hl, hcs]; rfl) hbad
            | some cs =>
              have hlt := lt_of_getElem? (getCells_some hcs)
              by_cases h2 : (Nat.beq off 0 && Nat.beq (len * sz) cs.length) = true
              · have e : ∀ S : Sg, S.heap[i]? = s.heap[i]? → evAppend b S true ag bytes (.ms i g off len cp sz) ys = some (.ms i (g + 1) 0 (len + ys.length) (len + ys.length) sz, { S with heap := setAt S.heap i (.cells (cs ++ flatAll ys) (g + 1)) }) := fun S hS => by
                  simp only [evAppend]
                  rw [if_pos hl, getCells_same hS, hcs]
                  simp only [Option.bind_some]
                  rw [if_pos h2]
                exact fill_put hlt ((hE s).trans (e s rfl)) (fun S hS => (hE S).trans (e S hS)) h
              · by_cases h3 : Nat.ble (len + ys.length) cp = true
                · cases hw : writeAt cs (off + len * sz) (flatAll ys) with
                  | none => exact absurd (by simp only [evAppend]; rw [if_pos hl, hcs]; simp only [Option.bind_some]; rw [if_neg h2, if_pos h3, hw]; rfl) hbad
                  | some cs' =>
                    have e : ∀ S : Sg, S.heap[i]? = s.heap[i]? → evAppend b S true ag bytes (.ms i g off len cp sz) ys = some (.ms i g off (len + ys.length) cp sz, { S with heap := setAt S.heap i (.cells cs' g) }) := fun S hS => by
                      simp only [evAppend]
                      rw [if_pos hl, getCells_same hS, hcs]
                      simp only [Option.bind_some]
                      rw [if_neg h2, if_pos h3, hw]
                      rfl
                    exact fill_put hlt ((hE s).trans (e s rfl)) (fun S hS => (hE S).trans (e S hS)) h
                · exact absurd (by simp only [evAppend]; rw [if_pos hl, hcs]; simp only [Option.bind_some]; rw [if_neg h2, if_neg h3]) hbad
          · exact absurd (by simp only [evAppend]; rw [if_neg hl]) hbad
      · exfalso
        unfold evF at h
        split at h
        · cases h
        have : evE b loc pers s (.append true ag bytes x y) = none := by simp only [evE, hu, hd, Option.bind_some, hys, if_neg hcond]
        rw [this] at h
        cases h
  | v p =>
    rcases cls_v (cfg := cfg) p with ⟨e, _⟩ | ⟨e, _⟩ | e <;> rw [e] at hc <;> cases hc
  | _ => cases h

end Go.Am

/-
  The abstract machine: one operation of a region whose order is drawn, in another order.
-/
namespace Go.Am
open Go.RowKit (Below)

variable {P : Program} {γ : Gh} {w : World} {s : Sg}

theorem ev_of_look {loc loc' pers : Env} {x : AOpd} (h : ∀ t, x = .tmp t → Env.look loc pers t = Env.look loc' pers t) : x.ev loc pers = x.ev loc' pers := by
  cases x with
  | tmp t => simp only [AOpd.ev]; rw [h t rfl]
  | const v => rfl

theorem mem_aUses {a : AOper} {x : AOpd} (hx : x ∈ a.op.opds) {t : Nat} (e : x = .tmp t) : t ∈ aUses a := by
  subst e
  refine List.mem_append_right _ (List.mem_filterMap.2 ⟨_, hx, rfl⟩)

/-- an operation that is asked for -/
def opRun (call : CallFn) (b : Bar) (loc : Env) (fr : Fr) (s : Sg) : AOp → Option (AV × Fr × Sg)
  | .v p => (evV loc fr.pers s p).map fun v => (v, fr, s)
  | .e p => (evE b loc fr.pers s p).map fun x => (x.1, fr, x.2)
  | .call f args => (evAll loc fr.pers args).bind fun l => (call b f l s).bind fun x => match x.1 with
    | .ret v => some (v, fr, x.2)
    | .panic _ => none
  | .callv y args => (y.ev loc fr.pers).bind fun u => (evAll loc fr.pers args).bind fun l => (u.fn? l).bind fun c => (call b c.1 c.2 s).bind fun x => match x.1 with
    | .ret v => some (v, fr, x.2)
    | .panic _ => none
  | .invk tbl y args => (y.ev loc fr.pers).bind fun u => (evAll loc fr.pers args).bind fun l => (u.meth? tbl l).bind fun c => (call b c.1 c.2 s).bind fun x => match x.1 with
    | .ret v => some (v, fr, x.2)
    | .panic _ => none
  | .fill k p => (evF b loc fr.pers s k p).map fun x => (x.1, fr, x.2)
  | .calli f y args => (evAll loc fr.pers args).bind fun l => (fnArgs loc fr.pers f y l).bind fun l => if AV.oldAll b.c0 l then (call b f l (s.cut b.c0 b.t0)).bind fun x => match x.1 with
    | .ret v => some (v, fr, s)
    | .panic _ => none else none
  | .callk f y args => (evAll loc fr.pers args).bind fun l => (fnArgs loc fr.pers f (some y) l).bind fun l => (call b f l s).bind fun x => match x.1 with
    | .ret v => some (v, fr, x.2)
    | .panic _ => none
  | .yieldc y args => (roundOp b fr loc s y args).map fun s' => (.bool true, fr, s')
  | .panic _ => none
  | .defer y args => (y.ev loc fr.pers).bind fun u => (evAll loc fr.pers args).bind fun l => (u.fn? l).map fun c => (.tup [], { fr with defers := c :: fr.defers }, s)
  | .recover => (doRecover fr).map fun x => (x.1, x.2, s)
  | .bad => none

theorem one_iff {call : CallFn} {b : Bar} {a : AOper} {loc : Env} {fr : Fr} {s : Sg} {loc' : Env} {fr' : Fr} {s' : Sg} : runOps call b [a] loc fr s = some (.normal, loc', fr', s') ↔
    (wantedA loc fr.pers a.guard = some false ∧ loc' = setLoc loc a.dst (.tup []) ∧ fr' = fr ∧ s' = s) ∨ (wantedA loc fr.pers a.guard = some true ∧ ∃ v, opRun call b loc fr s a.op = some (v, fr', s') ∧ loc' = setLoc loc a.dst v) := by
  simp only [runOps]
  cases hw : wantedA loc fr.pers a.guard with
  | none => simp
  | some wd =>
    cases wd with
    | false =>
      simp only [Option.bind_some, Bool.false_eq_true, if_false, Option.some.injEq, Prod.mk.injEq, true_and, false_and, or_false, reduceCtorEq]
      exact ⟨fun ⟨h1, h2, h3⟩ => ⟨h1.symm, h2.symm, h3.symm⟩, fun ⟨h1, h2, h3⟩ => ⟨h1.symm, h2.symm, h3.symm⟩⟩
    | true =>
      simp only [Option.bind_some, if_true, Option.some.injEq, Bool.true_eq_false, false_and, false_or, true_and]
      have fin : ∀ {v : AV} {f1 : Fr} {s1 : Sg}, (some (Ex.normal, setLoc loc a.dst v, f1, s1) = some (.normal, loc', fr', s')) ↔ ∃ v', some (v, f1, s1) = some (v', fr', s') ∧ loc' = setLoc loc a.dst v' := fun {v f1 s1} => by
        simp only [Option.some.injEq, Prod.mk.injEq, true_and]
        exact ⟨fun ⟨h1, h2, h3⟩ => ⟨v, ⟨rfl, h2, h3⟩, h1.symm⟩, fun ⟨v', ⟨h1, h2, h3⟩, h4⟩ => ⟨by rw [h4, h1], h2, h3⟩⟩
      have non : ∀ {α : Prop}, ¬ α → ((α) ↔ ∃ v', (none : Option (AV × Fr × Sg)) = some (v', fr', s') ∧ loc' = setLoc loc a.dst v') := fun {α} h => ⟨fun h' => absurd h' h, fun ⟨_, h', _⟩ => by cases h'⟩
      cases hop : a.op with
      | v p =>
        simp only [opRun]
        cases evV loc fr.pers s p with
        | none => exact non (by simp)
        | some v => exact fin
      | e p =>
        simp only [opRun]
        cases evE b loc fr.pers s p with
        | none => exact non (by simp)
        | some x => exact fin
      | fill k p =>
        simp only [opRun]
        cases evF b loc fr.pers s k p with
        | none => exact non (by simp)
        | some x => exact fin
      | call f args =>
        simp only [opRun]
        cases evAll loc fr.pers args with
        | none => exact non (by simp)
        | some l =>
          simp only [Option.bind_some]
          cases call b f l s with
          | none => exact non (by simp)
          | some x =>
            simp only [Option.bind_some]
            cases x.1 with
            | ret v => exact fin
            | panic v => exact non (by simp)
      | callv y args =>
        simp only [opRun]
        cases y.ev loc fr.pers with
        | none => exact non (by simp)
        | some u =>
          simp only [Option.bind_some]
          cases evAll loc fr.pers args with
          | none => exact non (by simp)
          | some l =>
            simp only [Option.bind_some]
            cases u.fn? l with
            | none => exact non (by simp)
            | some c =>
              simp only [Option.bind_some]
              cases call b c.1 c.2 s with
              | none => exact non (by simp)
              | some x =>
                simp only [Option.bind_some]
                cases x.1 with
                | ret v => exact fin
                | panic v => exact non (by simp)
      | invk tbl y args =>
        simp only [opRun]
        cases y.ev loc fr.pers with
        | none => exact non (by simp)
        | some u =>
          simp only [Option.bind_some]
          cases evAll loc fr.pers args with
          | none => exact non (by simp)
          | some l =>
            simp only [Option.bind_some]
            cases u.meth? tbl l with
            | none => exact non (by simp)
            | some c =>
              simp only [Option.bind_some]
              cases call b c.1 c.2 s with
              | none => exact non (by simp)
              | some x =>
                simp only [Option.bind_some]
                cases x.1 with
                | ret v => exact fin
                | panic v => exact non (by simp)
      | calli f y args =>
        simp only [opRun]
        cases evAll loc fr.pers args with
        | none => exact non (by simp)
        | some l =>
          simp only [Option.bind_some]
          cases fnArgs loc fr.pers f y l with
          | none => exact non (by simp)
          | some l' =>
            simp only [Option.bind_some]
            split
            · cases call b f l' (s.cut b.c0 b.t0) with
              | none => exact non (by simp)
              | some x =>
                simp only [Option.bind_some]
                cases x.1 with
                | ret v => exact fin
                | panic v => exact non (by simp)
            · exact non (by simp)
      | callk f y args =>
        simp only [opRun]
        cases evAll loc fr.pers args with
        | none => exact non (by simp)
        | some l =>
          simp only [Option.bind_some]
          cases fnArgs loc fr.pers f (some y) l with
          | none => exact non (by simp)
          | some l' =>
            simp only [Option.bind_some]
            cases call b f l' s with
            | none => exact non (by simp)
            | some x =>
              simp only [Option.bind_some]
              cases x.1 with
              | ret v => exact fin
              | panic v => exact non (by simp)
      | yieldc y args =>
        simp only [opRun]
        cases roundOp b fr loc s y args with
        | none => exact non (by simp)
        | some s2 => exact fin
      | panic x =>
        refine non ?_
        simp only [Option.bind_eq_some_iff, not_exists]
        rintro u ⟨_, v, _, h⟩
        simp at h
      | defer y args =>
        simp only [opRun]
        cases y.ev loc fr.pers with
        | none => exact non (by simp)
        | some u =>
          simp only [Option.bind_some]
          cases evAll loc fr.pers args with
          | none => exact non (by simp)
          | some l =>
            simp only [Option.bind_some]
            cases u.fn? l with
            | none => exact non (by simp)
            | some c => exact fin
      | recover =>
        simp only [opRun]
        cases doRecover fr with
        | none => exact non (by simp)
        | some x => exact fin
      | bad => exact non (by simp)

/-- calls of functions that change nothing -/
def PureCalls (cfg : Cfg) (call : CallFn) : Prop := ∀ f, cfg.mode f = .pure → PureAt call f

/-- what a heap has to have of what it was, for an operation to be as it was -/
def Agree (cfg : Cfg) (b : Bar) (a : AOper) (loc : Env) (fr frK : Fr) (s S : Sg) : Prop :=
  match clsOf cfg a.op with
  | .pure => True
  | .load => ∀ i, a.op.ft.at b.n0 loc fr.pers = some i → S.heap[i]? = s.heap[i]?
  | .call => S = s
  | .iso => S.cut b.c0 b.t0 = s.cut b.c0 b.t0
  | .write => S.heap.length = s.heap.length ∧ S.tt = s.tt ∧ ∀ i, a.op.ft.at b.n0 loc fr.pers = some i → S.heap[i]? = s.heap[i]?
  | .eff => frK = fr ∧ S = s

/-- what comes of it -/
def Comes (cfg : Cfg) (b : Bar) (a : AOper) (loc : Env) (fr : Fr) (frK : Fr) (S : Sg) (fr' : Fr) (s' : Sg) (frK' : Fr) (S' : Sg) : Prop :=
  match clsOf cfg a.op with
  | .eff => frK' = fr' ∧ S' = s'
  | .write => frK' = frK ∧ WrAt (a.op.ft.at b.n0 loc fr.pers) S S' ∧ ∀ i, a.op.ft.at b.n0 loc fr.pers = some i → S'.heap[i]? = s'.heap[i]?
  | _ => frK' = frK ∧ S' = S

/-- an operation done in its own place -/
theorem one_trace {call : CallFn} {cfg : Cfg} (hpure : PureCalls cfg call) {b : Bar} {a : AOper} {loc : Env} {fr : Fr} {s : Sg} {loc' : Env} {fr' : Fr} {s' : Sg} (h : runOps call b [a] loc fr s = some (.normal, loc', fr', s')) :
    (clsOf cfg a.op ≠ .eff → fr' = fr) ∧ ((clsOf cfg a.op).acts = false → s' = s) ∧ (clsOf cfg a.op = .write → WrAt (a.op.ft.at b.n0 loc fr.pers) s s') := by
  rcases one_iff.1 h with ⟨_, _, rfl, rfl⟩ | ⟨_, v, hr, _⟩
  · exact ⟨fun _ => rfl, fun _ => rfl, fun _ => .refl _ _⟩
  · cases hop : a.op with
    | v p =>
      rw [hop] at hr
      simp only [opRun, Option.map_eq_some_iff, Prod.mk.injEq] at hr
      obtain ⟨_, _, _, rfl, rfl⟩ := hr
      exact ⟨fun _ => rfl, fun _ => rfl, fun hc => by rcases cls_v (cfg := cfg) p with ⟨e, _⟩ | ⟨e, _⟩ | e <;> rw [e] at hc <;> cases hc⟩
    | e p =>
      rw [hop] at hr
      simp only [opRun, Option.map_eq_some_iff, Prod.mk.injEq] at hr
      obtain ⟨⟨v', s1⟩, hv, _, rfl, rfl⟩ := hr
      exact ⟨fun _ => rfl, fun hc => by cases p <;> simp [clsOf, Cls.acts] at hc, fun hc => (write_local hc (op := .e p) hv).1⟩
    | fill k p =>
      rw [hop] at hr
      simp only [opRun, Option.map_eq_some_iff, Prod.mk.injEq] at hr
      obtain ⟨⟨v', s1⟩, hv, _, rfl, rfl⟩ := hr
      refine ⟨fun _ => rfl, fun hc => ?_, fun hc => (write_local hc (op := .fill k p) hv).1⟩
      cases p <;> try (simp [clsOf, Cls.acts] at hc; done)
      all_goals (rename_i mu _ _ _ _; cases mu <;> simp [clsOf, Cls.acts] at hc)
    | call f args =>
      rw [hop] at hr
      simp only [opRun, Option.bind_eq_some_iff] at hr
      obtain ⟨l, _, ⟨out, s1⟩, hx, hr⟩ := hr
      cases out with
      | panic _ => cases hr
      | ret v' =>
        simp only [Option.some.injEq, Prod.mk.injEq] at hr
        obtain ⟨_, rfl, rfl⟩ := hr
        refine ⟨fun _ => rfl, fun hc => ?_, fun hc => ?_⟩
        · cases hm : cfg.mode f with
          | pure => exact (hpure f hm _ _ _ _ _ hx).1
          | raw => simp [clsOf, hm, Cls.acts] at hc
          | eff => simp [clsOf, hm, Cls.acts] at hc
        · cases hm : cfg.mode f <;> simp [clsOf, hm] at hc
    | callk f y args =>
      rw [hop] at hr
      simp only [opRun, Option.bind_eq_some_iff] at hr
      obtain ⟨l, _, l', _, ⟨out, s1⟩, hx, hr⟩ := hr
      cases out with
      | panic _ => cases hr
      | ret v' =>
        simp only [Option.some.injEq, Prod.mk.injEq] at hr
        obtain ⟨_, rfl, rfl⟩ := hr
        refine ⟨fun _ => rfl, fun hc => ?_, fun hc => ?_⟩
        · cases hm : cfg.mode f with
          | pure => exact (hpure f hm _ _ _ _ _ hx).1
          | raw => simp [clsOf, hm, Cls.acts] at hc
          | eff => simp [clsOf, hm, Cls.acts] at hc
        · cases hm : cfg.mode f <;> simp [clsOf, hm] at hc
    | calli f y args =>
      rw [hop] at hr
      simp only [opRun, Option.bind_eq_some_iff] at hr
      obtain ⟨l, _, l', _, hr⟩ := hr
      split at hr
      · simp only [Option.bind_eq_some_iff] at hr
        obtain ⟨⟨out, s1⟩, hx, hr⟩ := hr
        cases out with
        | panic _ => cases hr
        | ret v' =>
          simp only [Option.some.injEq, Prod.mk.injEq] at hr
          obtain ⟨_, rfl, rfl⟩ := hr
          exact ⟨fun _ => rfl, fun _ => rfl, fun hc => by cases hm : cfg.mode f <;> simp [clsOf, hm] at hc⟩
      · cases hr
    | _ => exact ⟨fun hc => absurd rfl hc, fun hc => by simp [clsOf, Cls.acts] at hc, fun hc => by simp [clsOf] at hc⟩

/-- an operation done in another order -/
theorem one_move {call : CallFn} {cfg : Cfg} (hpure : PureCalls cfg call) {b : Bar} {a : AOper} {loc locL : Env} {fr frK : Fr} {s S : Sg} {loc' : Env} {fr' : Fr} {s' : Sg} {v : AV} (h : runOps call b [a] loc fr s = some (.normal, loc', fr', s')) (hv : loc' = setLoc loc a.dst v)
    (hp : frK.pers = fr.pers) (hu : ∀ t ∈ aUses a, Env.look locL fr.pers t = Env.look loc fr.pers t) (hag : Agree cfg b a loc fr frK s S) :
    ∃ v' frK' S', runOps call b [a] locL frK S = some (.normal, setLoc locL a.dst v', frK', S') ∧ (a.dst ≠ none → v' = v) ∧ Comes cfg b a loc fr frK S fr' s' frK' S' := by
  have hvd : ∀ {v'}, loc' = setLoc loc a.dst v' → a.dst ≠ none → v' = v := fun {v'} e hne => by
    cases hdd : a.dst with
    | none => exact absurd hdd hne
    | some d =>
      rw [hdd] at e hv
      rw [hv] at e
      simp only [setLoc, List.cons.injEq, Prod.mk.injEq, true_and, and_true] at e
      exact e.symm
  have hev : ∀ x ∈ a.op.opds, x.ev locL fr.pers = x.ev loc fr.pers := fun x hx => ev_of_look fun t e => hu t (mem_aUses hx e)
  have hw : wantedA locL frK.pers a.guard = wantedA loc fr.pers a.guard := by
    rw [hp]
    cases hg : a.guard with
    | none => rfl
    | some g =>
      obtain ⟨t, wt⟩ := g
      simp only [wantedA]
      rw [hu t (List.mem_append_left _ (by rw [hg]; simp))]
  have same : ∀ {x : Cls}, clsOf cfg a.op = x → x.acts = false → Comes cfg b a loc fr frK S fr' s' frK S := fun {x} e hx => by
    unfold Comes
    rw [e]
    cases x <;> first | exact ⟨rfl, rfl⟩ | cases hx
  rcases one_iff.1 h with ⟨h1, h2, rfl, rfl⟩ | ⟨h1, v', hr, h2⟩
  · refine ⟨.tup [], frK, S, one_iff.2 (.inl ⟨hw.trans h1, rfl, rfl, rfl⟩), hvd h2, ?_⟩
    unfold Comes
    unfold Agree at hag
    cases hc : clsOf cfg a.op <;> rw [hc] at hag <;> dsimp only at hag ⊢
    · exact ⟨rfl, rfl⟩
    · exact ⟨rfl, rfl⟩
    · exact ⟨rfl, rfl⟩
    · exact ⟨rfl, rfl⟩
    · exact ⟨rfl, .refl _ _, hag.2.2⟩
    · exact hag
  · have go : ∀ {frK' S'}, opRun call b locL frK S a.op = some (v', frK', S') → Comes cfg b a loc fr frK S fr' s' frK' S' → ∃ v' frK' S', runOps call b [a] locL frK S = some (.normal, setLoc locL a.dst v', frK', S') ∧ (a.dst ≠ none → v' = v) ∧ Comes cfg b a loc fr frK S fr' s' frK' S' := fun {frK' S'} e k =>
      ⟨v', frK', S', one_iff.2 (.inr ⟨hw.trans h1, v', e, rfl⟩), hvd h2, k⟩
    -- as it was
    have eq : frK = fr → S = s → clsOf cfg a.op = .eff → ∃ v' frK' S', runOps call b [a] locL frK S = some (.normal, setLoc locL a.dst v', frK', S') ∧ (a.dst ≠ none → v' = v) ∧ Comes cfg b a loc fr frK S fr' s' frK' S' := fun e1 e2 hc => by
      subst e1 e2
      refine go (frK' := fr') (S' := s') ?_ (by unfold Comes; rw [hc]; exact ⟨rfl, rfl⟩)
      rw [← hr]
      cases hop : a.op with
      | v p => rw [hop] at hev; simp only [opRun]; rw [evV_congr hev]
      | e p => rw [hop] at hev; simp only [opRun]; rw [evE_congr hev]
      | fill k p => rw [hop] at hev; simp only [opRun]; rw [evF_congr hev]
      | call f args => rw [hop] at hev; simp only [opRun]; rw [evAll_congr (xs := args) hev]
      | callv y args =>
        rw [hop] at hev
        simp only [opRun]
        rw [hev y (by simp [AOp.opds]), evAll_congr fun x hx => hev x (by simp only [AOp.opds]; exact List.mem_cons_of_mem _ hx)]
      | invk tbl y args =>
        rw [hop] at hev
        simp only [opRun]
        rw [hev y (by simp [AOp.opds]), evAll_congr fun x hx => hev x (by simp only [AOp.opds]; exact List.mem_cons_of_mem _ hx)]
      | calli f y args =>
        rw [hop] at hev
        simp only [opRun]
        rw [evAll_congr (xs := args) fun x hx => hev x (by simp only [AOp.opds]; exact List.mem_append_right _ hx)]
        have : ∀ l, fnArgs locL frK.pers f y l = fnArgs loc frK.pers f y l := fun l => fnArgs_congr fun x hx => hev x (by simp only [AOp.opds]; exact List.mem_append_left _ hx)
        simp only [this]
      | callk f y args =>
        rw [hop] at hev
        simp only [opRun]
        rw [evAll_congr (xs := args) fun x hx => hev x (by simp only [AOp.opds]; exact List.mem_cons_of_mem _ hx)]
        have : ∀ l, fnArgs locL frK.pers f (some y) l = fnArgs loc frK.pers f (some y) l := fun l => fnArgs_congr fun x hx => hev x (by
          simp only [optL, List.mem_singleton] at hx
          subst hx
          simp [AOp.opds])
        simp only [this]
      | yieldc y args =>
        rw [hop] at hev
        simp only [opRun, roundOp]
        rw [hev y (by simp [AOp.opds]), evAll_congr fun x hx => hev x (by simp only [AOp.opds]; exact List.mem_cons_of_mem _ hx)]
      | panic x => rw [hop] at hr; cases hr
      | defer y args =>
        rw [hop] at hev
        simp only [opRun]
        rw [hev y (by simp [AOp.opds]), evAll_congr fun x hx => hev x (by simp only [AOp.opds]; exact List.mem_cons_of_mem _ hx)]
      | recover => rfl
      | bad => rw [hop] at hr; cases hr
    cases hop : a.op with
    | v p =>
      rw [hop] at hr hev
      simp only [opRun, Option.map_eq_some_iff, Prod.mk.injEq] at hr
      obtain ⟨u, hu', rfl, rfl, rfl⟩ := hr
      rcases cls_v (cfg := cfg) p with ⟨hcl, hlk⟩ | ⟨hcl, t, ht⟩ | hcl
      · refine go (frK' := frK) (S' := S) ?_ (same (x := .pure) (by rw [hop]; exact hcl) rfl)
        rw [hop]
        simp only [opRun]
        rw [hp, evV_congr hev, evV_pure hlk S s, hu']
        rfl
      · unfold Agree at hag
        rw [hop, hcl] at hag
        refine go (frK' := frK) (S' := S) ?_ (same (x := .load) (by rw [hop]; exact hcl) rfl)
        rw [hop]
        simp only [opRun]
        rw [hp, evV_congr hev, load_same ht fun u i hu hi => hag i (by simp only [AOp.ft, Ft.at, ht, Option.bind_some, hu, hi]), hu']
        rfl
      · unfold Agree at hag
        rw [hop, hcl] at hag
        exact eq hag.1 hag.2 (by rw [hop]; exact hcl)
    | e p =>
      cases hc : clsOf cfg a.op with
      | write =>
        rw [hop] at hr hev
        simp only [opRun, Option.map_eq_some_iff, Prod.mk.injEq] at hr
        obtain ⟨⟨u, s1⟩, hu', rfl, rfl, rfl⟩ := hr
        unfold Agree at hag
        rw [hc] at hag
        obtain ⟨_, hloc⟩ := write_local (cfg := cfg) (hop ▸ hc) (op := .e p) hu'
        obtain ⟨S', q1, q2, q3⟩ := hloc S hag.1 hag.2.1 (hop ▸ hag.2.2)
        refine go (frK' := frK) (S' := S') ?_ (by unfold Comes; rw [hc]; exact ⟨rfl, hop ▸ q2, hop ▸ q3⟩)
        rw [hop]
        simp only [opRun]
        rw [hp, evE_congr hev]
        have q1 : evE b loc fr.pers S p = some (u, S') := q1
        rw [q1]
        rfl
      | eff => unfold Agree at hag; rw [hc] at hag; exact eq hag.1 hag.2 hc
      | _ => rw [hop] at hc; cases p <;> simp [clsOf] at hc
    | fill k p =>
      cases hc : clsOf cfg a.op with
      | write =>
        rw [hop] at hr hev
        simp only [opRun, Option.map_eq_some_iff, Prod.mk.injEq] at hr
        obtain ⟨⟨u, s1⟩, hu', rfl, rfl, rfl⟩ := hr
        unfold Agree at hag
        rw [hc] at hag
        obtain ⟨_, hloc⟩ := write_local (cfg := cfg) (hop ▸ hc) (op := .fill k p) hu'
        obtain ⟨S', q1, q2, q3⟩ := hloc S hag.1 hag.2.1 (hop ▸ hag.2.2)
        refine go (frK' := frK) (S' := S') ?_ (by unfold Comes; rw [hc]; exact ⟨rfl, hop ▸ q2, hop ▸ q3⟩)
        rw [hop]
        simp only [opRun]
        rw [hp, evF_congr hev]
        have q1 : evF b loc fr.pers S k p = some (u, S') := q1
        rw [q1]
        rfl
      | eff => unfold Agree at hag; rw [hc] at hag; exact eq hag.1 hag.2 hc
      | _ =>
        rw [hop] at hc
        cases p <;> try (simp [clsOf] at hc; done)
        all_goals (rename_i mu _ _ _ _; cases mu <;> simp [clsOf] at hc)
    | call f args =>
      cases hm : cfg.mode f with
      | pure =>
        have hcl : clsOf cfg a.op = .call := by rw [hop]; simp [clsOf, hm]
        unfold Agree at hag
        rw [hcl] at hag
        dsimp only at hag
        subst hag
        rw [hop] at hr hev
        simp only [opRun, Option.bind_eq_some_iff] at hr
        obtain ⟨l, hl, ⟨out, s1⟩, hx, hr⟩ := hr
        cases out with
        | panic _ => cases hr
        | ret v1 =>
          simp only [Option.some.injEq, Prod.mk.injEq] at hr
          obtain ⟨rfl, rfl, rfl⟩ := hr
          have e := (hpure f hm _ _ _ _ _ hx).1
          subst e
          refine go (frK' := frK) (S' := s1) ?_ (same hcl rfl)
          rw [hop]
          simp only [opRun]
          rw [hp, evAll_congr (xs := args) hev, hl]
          simp only [Option.bind_some, hx]
      | raw => unfold Agree at hag; have hcl : clsOf cfg a.op = .eff := by rw [hop]; simp [clsOf, hm]
               rw [hcl] at hag; exact eq hag.1 hag.2 hcl
      | eff => unfold Agree at hag; have hcl : clsOf cfg a.op = .eff := by rw [hop]; simp [clsOf, hm]
               rw [hcl] at hag; exact eq hag.1 hag.2 hcl
    | callk f y args =>
      cases hm : cfg.mode f with
      | pure =>
        have hcl : clsOf cfg a.op = .call := by rw [hop]; simp [clsOf, hm]
        unfold Agree at hag
        rw [hcl] at hag
        dsimp only at hag
        subst hag
        rw [hop] at hr hev
        simp only [opRun, Option.bind_eq_some_iff] at hr
        obtain ⟨l, hl, l', hl', ⟨out, s1⟩, hx, hr⟩ := hr
        cases out with
        | panic _ => cases hr
        | ret v1 =>
          simp only [Option.some.injEq, Prod.mk.injEq] at hr
          obtain ⟨rfl, rfl, rfl⟩ := hr
          have e := (hpure f hm _ _ _ _ _ hx).1
          subst e
          refine go (frK' := frK) (S' := s1) ?_ (same hcl rfl)
          rw [hop]
          simp only [opRun]
          rw [hp, evAll_congr (xs := args) fun x hx => hev x (by simp only [AOp.opds]; exact List.mem_cons_of_mem _ hx), hl]
          simp only [Option.bind_some]
          rw [fnArgs_congr (loc' := loc) fun x hx => hev x (by
            simp only [optL, List.mem_singleton] at hx
            subst hx
            simp [AOp.opds]), hl']
          simp only [Option.bind_some, hx]
      | raw => unfold Agree at hag; have hcl : clsOf cfg a.op = .eff := by rw [hop]; simp [clsOf, hm]
               rw [hcl] at hag; exact eq hag.1 hag.2 hcl
      | eff => unfold Agree at hag; have hcl : clsOf cfg a.op = .eff := by rw [hop]; simp [clsOf, hm]
               rw [hcl] at hag; exact eq hag.1 hag.2 hcl
    | calli f y args =>
      cases hm : cfg.mode f with
      | pure =>
        have hcl : clsOf cfg a.op = .iso := by rw [hop]; simp [clsOf, hm]
        unfold Agree at hag
        rw [hcl] at hag
        dsimp only at hag
        rw [hop] at hr hev
        simp only [opRun, Option.bind_eq_some_iff] at hr
        obtain ⟨l, hl, l', hl', hr⟩ := hr
        split at hr
        · rename_i ho
          simp only [Option.bind_eq_some_iff] at hr
          obtain ⟨⟨out, s1⟩, hx, hr⟩ := hr
          cases out with
          | panic _ => cases hr
          | ret v1 =>
            simp only [Option.some.injEq, Prod.mk.injEq] at hr
            obtain ⟨rfl, rfl, rfl⟩ := hr
            refine go (frK' := frK) (S' := S) ?_ (same hcl rfl)
            rw [hop]
            simp only [opRun]
            rw [hp, evAll_congr (xs := args) fun x hx => hev x (by simp only [AOp.opds]; exact List.mem_append_right _ hx), hl]
            simp only [Option.bind_some]
            rw [fnArgs_congr (loc' := loc) fun x hx => hev x (by simp only [AOp.opds]; exact List.mem_append_left _ hx), hl']
            simp only [Option.bind_some]
            rw [if_pos ho, hag, hx]
            rfl
        · cases hr
      | raw => unfold Agree at hag; have hcl : clsOf cfg a.op = .eff := by rw [hop]; simp [clsOf, hm]
               rw [hcl] at hag; exact eq hag.1 hag.2 hcl
      | eff => unfold Agree at hag; have hcl : clsOf cfg a.op = .eff := by rw [hop]; simp [clsOf, hm]
               rw [hcl] at hag; exact eq hag.1 hag.2 hcl
    | callv y args => unfold Agree at hag; rw [hop] at hag; exact eq hag.1 hag.2 (by rw [hop]; rfl)
    | invk tbl y args => unfold Agree at hag; rw [hop] at hag; exact eq hag.1 hag.2 (by rw [hop]; rfl)
    | yieldc y args => unfold Agree at hag; rw [hop] at hag; exact eq hag.1 hag.2 (by rw [hop]; rfl)
    | panic x => rw [hop] at hr; cases hr
    | defer y args => unfold Agree at hag; rw [hop] at hag; exact eq hag.1 hag.2 (by rw [hop]; rfl)
    | recover => unfold Agree at hag; rw [hop] at hag; exact eq hag.1 hag.2 (by rw [hop]; rfl)
    | bad => rw [hop] at hr; cases hr

end Go.Am

/-
  The abstract machine, twenty-sixth part: a region whose order is drawn.
-/
namespace Go.Am
open Go.RowKit (Below)

variable {P : Program} {γ : Gh} {w : World} {s : Sg}

theorem ops_pan {call : CallFn} {b : Bar} {a : AOper} {loc : Env} {fr : Fr} {s : Sg} {loc' : Env} {fr' : Fr} {s' : Sg} (h : runOps call b [a] loc fr s = some (.normal, loc', fr', s')) (hp : fr.pan = .off ∨ a.op ≠ .recover) : fr'.pan = fr.pan := by
  rcases one_iff.1 h with ⟨_, _, rfl, _⟩ | ⟨_, v, hr, _⟩
  · rfl
  · cases hop : a.op with
    | v p => rw [hop] at hr; simp only [opRun, Option.map_eq_some_iff, Prod.mk.injEq] at hr; obtain ⟨_, _, _, rfl, _⟩ := hr; rfl
    | e p => rw [hop] at hr; simp only [opRun, Option.map_eq_some_iff, Prod.mk.injEq] at hr; obtain ⟨_, _, _, rfl, _⟩ := hr; rfl
    | fill k p => rw [hop] at hr; simp only [opRun, Option.map_eq_some_iff, Prod.mk.injEq] at hr; obtain ⟨_, _, _, rfl, _⟩ := hr; rfl
    | call f args =>
      rw [hop] at hr
      simp only [opRun, Option.bind_eq_some_iff] at hr
      obtain ⟨_, _, ⟨out, _⟩, _, hr⟩ := hr
      cases out with
      | ret v => simp only [Option.some.injEq, Prod.mk.injEq] at hr; obtain ⟨_, rfl, _⟩ := hr; rfl
      | panic v => cases hr
    | callv y args =>
      rw [hop] at hr
      simp only [opRun, Option.bind_eq_some_iff] at hr
      obtain ⟨_, _, _, _, _, _, ⟨out, _⟩, _, hr⟩ := hr
      cases out with
      | ret v => simp only [Option.some.injEq, Prod.mk.injEq] at hr; obtain ⟨_, rfl, _⟩ := hr; rfl
      | panic v => cases hr
    | invk tbl y args =>
      rw [hop] at hr
      simp only [opRun, Option.bind_eq_some_iff] at hr
      obtain ⟨_, _, _, _, _, _, ⟨out, _⟩, _, hr⟩ := hr
      cases out with
      | ret v => simp only [Option.some.injEq, Prod.mk.injEq] at hr; obtain ⟨_, rfl, _⟩ := hr; rfl
      | panic v => cases hr
    | callk f y args =>
      rw [hop] at hr
      simp only [opRun, Option.bind_eq_some_iff] at hr
      obtain ⟨_, _, _, _, ⟨out, _⟩, _, hr⟩ := hr
      cases out with
      | ret v => simp only [Option.some.injEq, Prod.mk.injEq] at hr; obtain ⟨_, rfl, _⟩ := hr; rfl
      | panic v => cases hr
    | calli f y args =>
      rw [hop] at hr
      simp only [opRun, Option.bind_eq_some_iff] at hr
      obtain ⟨_, _, _, _, hr⟩ := hr
      split at hr
      · simp only [Option.bind_eq_some_iff] at hr
        obtain ⟨⟨out, _⟩, _, hr⟩ := hr
        cases out with
        | ret v => simp only [Option.some.injEq, Prod.mk.injEq] at hr; obtain ⟨_, rfl, _⟩ := hr; rfl
        | panic v => cases hr
      · cases hr
    | yieldc y args =>
      rw [hop] at hr
      simp only [opRun, Option.map_eq_some_iff, Prod.mk.injEq] at hr
      obtain ⟨_, _, _, rfl, _⟩ := hr
      rfl
    | panic x => rw [hop] at hr; cases hr
    | defer y args =>
      rw [hop] at hr
      simp only [opRun, Option.bind_eq_some_iff, Option.map_eq_some_iff, Prod.mk.injEq] at hr
      obtain ⟨_, _, _, _, _, _, _, rfl, _⟩ := hr
      rfl
    | recover =>
      rcases hp with hp | hp
      · rw [hop] at hr
        simp [opRun, doRecover, hp] at hr
      · exact absurd hop hp
    | bad => rw [hop] at hr; cases hr

/-- what an operation of a drawn region has become -/
structure Made (P : Program) (cfg : Cfg) (mu : Nat → Bool) (ops : List Oper) (o : Oper) (x : AOper) : Prop where
  dst : x.dst = o.dst
  guard : x.guard = guardTmp ops o.guard
  of : x.op ≠ .bad → Of P (mu (o.dst.getD 0)) o.op x.op ∧ (o.guard.isSome = true → (guardTmp ops o.guard).isSome = true)
  iso : ∀ f y l, x.op = .calli f y l → cfg.mode f = .pure

/-- one operation, as the kit's rule for a drawn order has it -/
theorem op1_ok {call : CallFn} {cfg : Cfg} (hc : CallOk P call) (hpure : PureCalls cfg call) {b : Bar} {mu : Nat → Bool} {ops : Array Oper} {n i : Nat} {o : Oper} {x : AOper} (hx : Made P cfg mu ops.toList o x) (ho : ops[i]? = some o) (hdst : ∀ t, o.dst = some t → t < n) {loc' : Env} {fr' : Fr} {s' : Sg} {Q : Exit → Act → World → Prop} {K : Act → World → Prop}
    {γ : Gh} {w : World} {loc : Env} {fr : Fr} {s : Sg} {a : Act} (hR : RelR P γ w loc fr s n a) (hp : fr.pan = .off ∨ opNoRec o = true) (hiso : ∀ f y l, x.op = .calli f y l → IsoOk b s) (h : runOps call b [x] loc fr s = some (.normal, loc', fr', s'))
    (hK : ∀ γ' w' a', Le γ w γ' w' → RelR P γ' w' loc' fr' s' n a' → K a' w') : wpOp P ops Q i K a w := by
  simp only [runOps, Option.bind_eq_some_iff, hx.guard, hx.dst] at h
  obtain ⟨wd, hwd, h⟩ := h
  unfold wpOp
  simp only [ho]
  by_cases hb : x.op = .bad
  · cases wd with
    | true =>
      simp only [if_true, hb] at h
      cases h
    | false =>
      -- the guard says no
      have hg : (o.guard.isSome = true → (guardTmp ops.toList o.guard).isSome = true) := fun e => by
        cases hgt : guardTmp ops.toList o.guard with
        | some g => rfl
        | none => rw [hgt] at hwd; cases hwd
      have hwt := wanted_ok hR.ev hg (wd := false) hwd
      rw [hwt]
      simp only [Bool.false_eq_true, if_false, Option.some.injEq, Prod.mk.injEq, true_and] at h ⊢
      obtain ⟨rfl, rfl, rfl⟩ := h
      exact hK γ w _ (Le.refl _ _) (hR.put (Le.refl _ _) hR.inv undef_VR hdst rfl rfl hR.defs)
  · obtain ⟨hof, hg⟩ := hx.of hb
    have hwt := wanted_ok hR.ev hg (wd := wd) hwd
    rw [hwt]
    cases wd with
    | false =>
      simp only [Bool.false_eq_true, if_false, Option.some.injEq, Prod.mk.injEq, true_and] at h ⊢
      obtain ⟨rfl, rfl, rfl⟩ := h
      exact hK γ w _ (Le.refl _ _) (hR.put (Le.refl _ _) hR.inv undef_VR hdst rfl rfl hR.defs)
    | true =>
      simp only [if_true] at h ⊢
      refine .inl ?_
      have hrec : x.op ≠ .recover := by
        rcases hp with hp | hp
        · intro e
          rw [e] at h
          simp [doRecover, hp] at h
        · exact fun e => noRec_op hp (of_recover (e ▸ hof)) rfl
      refine op_ok hc hdst hR hof hrec (fun f y l e => ⟨hpure f (hx.iso f y l e), hiso f y l e⟩) (r := []) (K := K) (e := .normal) (loc' := loc') (fr' := fr') (s' := s') h (fun γ' w' v c fr1 s1 a1 hle hR1 hpan hr => ?_) fun γ' w' v c s1 hle hR1 hv he hl hf hs => by cases he
      simp only [runOps, Option.some.injEq, Prod.mk.injEq, true_and] at hr
      obtain ⟨rfl, rfl, rfl⟩ := hr
      exact hK γ' w' _ hle hR1

theorem filter_lt {α : Type} {p q : α → Bool} : ∀ {l : List α}, (∀ x ∈ l, q x = true → p x = true) → (∃ x ∈ l, p x = true ∧ q x = false) → (l.filter q).length < (l.filter p).length
  | [], _, h => by obtain ⟨x, hx, _⟩ := h; simp at hx
  | y :: r, hq, h => by
    have hle : ∀ {l : List α}, (∀ x ∈ l, q x = true → p x = true) → (l.filter q).length ≤ (l.filter p).length := by
      intro l
      induction l with
      | nil => intro _; simp
      | cons z t ih =>
        intro hh
        have := ih fun x hx => hh x (List.mem_cons_of_mem _ hx)
        have hz := hh z List.mem_cons_self
        simp only [List.filter_cons]
        cases hqz : q z <;> cases hpz : p z <;> simp_all <;> omega
    have h1 : ∀ x ∈ r, q x = true → p x = true := fun x hx => hq x (List.mem_cons_of_mem _ hx)
    obtain ⟨x, hx, hp, hqx⟩ := h
    simp only [List.filter_cons]
    rcases List.mem_cons.1 hx with rfl | hx
    · have := hle h1
      simp [hp, hqx]
      omega
    · have := filter_lt h1 ⟨x, hx, hp, hqx⟩
      have hy := hq y List.mem_cons_self
      cases hqy : q y <;> cases hpy : p y <;> simp_all <;> omega

/-- how many operations are not yet done -/
def left (n : Nat) (listed : Array Bool) : Nat := ((List.range n).filter fun i => !listed.getD i true).length

theorem left_set {n i : Nat} {listed : Array Bool} (hi : i < n) (hs : listed.size = n) (h : listed.getD i true = false) : left n (listed.setIfInBounds i true) < left n listed := by
  refine filter_lt (fun x hx hq => ?_) ⟨i, List.mem_range.2 hi, by simp [h], ?_⟩
  · simp only [Bool.not_eq_true', Array.getD_eq_getD_getElem?] at hq ⊢
    by_cases e : i = x
    · subst e
      rw [Array.getElem?_setIfInBounds] at hq
      simp [show i < listed.size by omega] at hq
    · rw [Array.getElem?_setIfInBounds_ne e] at hq
      exact hq
  · simp [Array.getD_eq_getD_getElem?, Array.getElem?_setIfInBounds, show i < listed.size by omega]

section
variable {call : CallFn} {cfg : Cfg} {b : Bar} {mu : Nat → Bool} {ops : Array Oper} {n : Nat}

structure Tr (call : CallFn) (b : Bar) (as : List AOper) (fr : Fr) (l : Nat → Env) (f : Nat → Fr) (g : Nat → Sg) (v : Nat → AV) : Prop where
  ok : TraceOk call b as l f g v
  l0 : l 0 = []
  f0 : f 0 = fr

variable {as : List AOper} {fr : Fr} {l : Nat → Env} {f : Nat → Fr} {g : Nat → Sg} {v : Nat → AV}

theorem Tr.pers (h : Tr call b as fr l f g v) : ∀ k, k ≤ as.length → (f k).pers = fr.pers
  | 0, _ => by rw [h.f0]
  | k + 1, hk => by
    have ha : as[k]? = some as[k] := List.getElem?_eq_getElem (by omega)
    rw [(has_ops (h.ok k _ ha).1).2]
    exact h.pers k (by omega)

theorem Tr.pan (h : Tr call b as fr l f g v) (hp : fr.pan = .off ∨ ∀ a ∈ as, a.op ≠ .recover) : ∀ k, k ≤ as.length → (f k).pan = fr.pan
  | 0, _ => by rw [h.f0]
  | k + 1, hk => by
    have ha : as[k]? = some as[k] := List.getElem?_eq_getElem (by omega)
    have ih := h.pan hp k (by omega)
    rw [ops_pan (h.ok k _ ha).1 (hp.imp (fun e => ih.trans e) fun e => e _ (List.getElem_mem _))]
    exact ih

theorem Tr.look (h : Tr call b as fr l f g v) (hd : ∀ (i j : Nat) x y, i < j → as[i]? = some x → as[j]? = some y → ∀ t, x.dst = some t → y.dst ≠ some t) (pers : Env) : ∀ k, k ≤ as.length →
    (∀ (j : Nat) x t, j < k → as[j]? = some x → x.dst = some t → Env.look (l k) pers t = v j) ∧ ∀ t, (∀ (j : Nat) x, j < k → as[j]? = some x → x.dst ≠ some t) → Env.look (l k) pers t = Env.get pers t
  | 0, _ => ⟨fun j x t hj => by omega, fun t _ => by rw [h.l0]; rfl⟩
  | k + 1, hk => by
    have ha : as[k]? = some as[k] := List.getElem?_eq_getElem (by omega)
    obtain ⟨i1, i2⟩ := h.look hd pers k (by omega)
    have hs := (h.ok k _ ha).2
    constructor
    · intro j x t hj hx ht
      rw [hs]
      rcases Nat.lt_or_ge j k with hjk | hjk
      · have hne := hd j k x _ hjk hx ha t ht
        cases hdk : as[k].dst with
        | none => exact i1 j x t hjk hx ht
        | some d =>
          simp only [setLoc, look_cons]
          rw [if_neg (fun e => hne (by rw [hdk, e])), i1 j x t hjk hx ht]
      · have : j = k := by omega
        subst this
        rw [ha] at hx
        cases hx
        rw [ht]
        simp [setLoc, look_cons]
    · intro t hne
      rw [hs]
      have hk' := hne k _ (by omega) ha
      cases hdk : as[k].dst with
      | none => exact i2 t fun j x hj hx => hne j x (by omega) hx
      | some d =>
        simp only [setLoc, look_cons]
        rw [if_neg (fun e => hk' (by rw [hdk, e])), i2 t fun j x hj hx => hne j x (by omega) hx]

theorem Tr.stab (h : Tr call b as fr l f g v) {i : Nat} {x : AOpd} (hs : Stab as i x) (pers : Env) : ∀ k, i ≤ k → k ≤ as.length → x.ev (l k) pers = x.ev (l i) pers
  | 0, hik, _ => by have : i = 0 := by omega
                    rw [this]
  | k + 1, hik, hk => by
    rcases Nat.lt_or_ge k i with hki | hki
    · have : i = k + 1 := by omega
      rw [this]
    · have ha : as[k]? = some as[k] := List.getElem?_eq_getElem (by omega)
      have hl := (h.ok k _ ha).2
      rw [← h.stab hs pers k hki (by omega)]
      refine ev_of_look fun t e => ?_
      subst e
      have := hs k _ ha hki
      rw [hl]
      cases hdk : as[k].dst with
      | none => rfl
      | some d =>
        simp only [setLoc, look_cons]
        rw [if_neg (fun e => this (by rw [hdk, e]))]

/-- does an operation change an object? -/
def Touch (cfg : Cfg) (b : Bar) (l : Nat → Env) (g : Nat → Sg) (pers : Env) (e : Nat) (y : AOper) (i : Nat) : Prop :=
  (clsOf cfg y.op = .eff ∧ (g e).heap[i]? ≠ (g (e + 1)).heap[i]?) ∨ (clsOf cfg y.op = .write ∧ y.op.ft.at b.n0 (l e) pers = some i)

theorem Tr.frame (hpure : PureCalls cfg call) (h : Tr call b as fr l f g v) (p : Nat) : ∀ q, p ≤ q → q ≤ as.length → (∀ (e : Nat) y, p ≤ e → e < q → as[e]? = some y → clsOf cfg y.op ≠ .eff) → f q = f p ∧ (g q).heap.length = (g p).heap.length ∧ (g q).tt = (g p).tt
  | 0, hpq, _, _ => by have : p = 0 := by omega
                       subst this; exact ⟨rfl, rfl, rfl⟩
  | q + 1, hpq, hq, hn => by
    rcases Nat.lt_or_ge q p with hqp | hqp
    · have : p = q + 1 := by omega
      subst this; exact ⟨rfl, rfl, rfl⟩
    · have ha : as[q]? = some as[q] := List.getElem?_eq_getElem (by omega)
      have hne := hn q _ hqp (by omega) ha
      obtain ⟨h1, h2, h3⟩ := one_trace hpure (h.ok q _ ha).1
      obtain ⟨k1, k2, k3⟩ := h.frame hpure p q hqp (by omega) fun e y h1 h2 => hn e y h1 (by omega)
      refine ⟨(h1 hne).trans k1, ?_⟩
      cases hw : (clsOf cfg as[q].op).acts with
      | false => rw [h2 hw]; exact ⟨k2, k3⟩
      | true =>
        have hwr : clsOf cfg as[q].op = .write := by cases hc : clsOf cfg as[q].op <;> rw [hc] at hw hne <;> first | rfl | exact absurd rfl hne | (cases hw; done)
        have := h3 hwr
        exact ⟨this.len.trans k2, this.toks.trans k3⟩

theorem Tr.obj (hpure : PureCalls cfg call) (h : Tr call b as fr l f g v) {i0 : Nat} (p : Nat) : ∀ q, p ≤ q → q ≤ as.length → (∀ (e : Nat) y, p ≤ e → e < q → as[e]? = some y → ¬ Touch cfg b l g fr.pers e y i0) → (g q).heap[i0]? = (g p).heap[i0]?
  | 0, hpq, _, _ => by have : p = 0 := by omega
                       subst this; rfl
  | q + 1, hpq, hq, hn => by
    rcases Nat.lt_or_ge q p with hqp | hqp
    · have : p = q + 1 := by omega
      subst this; rfl
    · have ha : as[q]? = some as[q] := List.getElem?_eq_getElem (by omega)
      have hne := hn q _ hqp (by omega) ha
      obtain ⟨h1, h2, h3⟩ := one_trace hpure (h.ok q _ ha).1
      rw [← h.obj hpure p q hqp (by omega) fun e y h1 h2 => hn e y h1 (by omega)]
      by_cases hce : clsOf cfg as[q].op = .eff
      · exact (Classical.byContradiction fun hch => hne (.inl ⟨hce, hch⟩)).symm
      cases hw : (clsOf cfg as[q].op).acts with
      | false => rw [h2 hw]
      | true =>
        have hwr : clsOf cfg as[q].op = .write := by
          cases hc : clsOf cfg as[q].op <;> rw [hc] at hw <;> first | rfl | (cases hw; done) | exact absurd hc hce
        refine (h3 hwr).out i0 fun e => hne (.inr ⟨hwr, ?_⟩)
        rw [h.pers q (by omega)] at e
        exact e

theorem Tr.keeps (hk : CallKeeps call) (h : Tr call b as fr l f g v) : ∀ q, q ≤ as.length → Keeps b (g 0) (g q)
  | 0, _ => .refl _ _
  | q + 1, hq => by
    have ha : as[q]? = some as[q] := List.getElem?_eq_getElem (by omega)
    exact (h.keeps hk q (by omega)).trans (keeps_ops hk b (h.ok q _ ha).1)

theorem Tr.at (h : Tr call b as fr l f g v) {i : Nat} {a : Ft} (hs : StabFt as i a) (hi : i ≤ as.length) (pers : Env) : a.at b.n0 (l as.length) pers = a.at b.n0 (l i) pers := by
  cases hx : a.x with
  | none => simp only [Ft.at, hx, Option.bind_none]
  | some x =>
    have := h.stab (hs x hx) pers as.length hi (Nat.le_refl _)
    simp only [Ft.at, hx, Option.bind_some, this]

end

end Go.Am

/-
  The abstract machine, twenty-seventh part: a region whose order is drawn, joined.
-/
namespace Go.Am
open Go.RowKit (Below)

variable {P : Program}

section
variable {call : CallFn} {cfg : Cfg} {b : Bar} {mu : Nat → Bool} {ops : Array Oper} {oX : List Oper} {n : Nat} {as : List AOper} {ps : List Chk} {fr : Fr} {l : Nat → Env} {f : Nat → Fr} {g : Nat → Sg} {v : Nat → AV}

def done (listed : Array Bool) (i : Nat) : Prop := listed.getD i false = true

structure Sch (P : Program) (cfg : Cfg) (b : Bar) (ops : List Oper) (as : List AOper) (n : Nat) (fr : Fr) (l : Nat → Env) (f : Nat → Fr) (g : Nat → Sg) (v : Nat → AV) (listed : Array Bool) (K : Nat) (S : Sg) (loc : Env) (γ : Gh) (w : World) (a : Act) : Prop where
  size : listed.size = as.length
  closed : ∀ i j, Before ops j i → done listed i → done listed j
  le : K ≤ as.length
  gen : ∀ (k : Nat) y, as[k]? = some y → clsOf cfg y.op = .eff → (done listed k ↔ k < K)
  rel : RelR P γ w loc (f K) S n a
  len : S.heap.length = (g K).heap.length
  toks : S.tt = (g K).tt
  obj : ∀ i, ∃ p, p ≤ as.length ∧ S.heap[i]? = (g p).heap[i]? ∧ ∀ (k : Nat) y, as[k]? = some y → Touch cfg b l g fr.pers k y i → (done listed k ↔ k < p)
  look1 : ∀ (j : Nat) x t, as[j]? = some x → done listed j → x.dst = some t → Env.look loc fr.pers t = v j
  look2 : ∀ t, (∀ (j : Nat) x, as[j]? = some x → done listed j → x.dst ≠ some t) → Env.look loc fr.pers t = Env.get fr.pers t

theorem done_set {listed : Array Bool} {i k : Nat} (hi : i < listed.size) : done (listed.setIfInBounds i true) k ↔ k = i ∨ done listed k := by
  unfold done
  simp only [Array.getD_eq_getD_getElem?, Array.getElem?_setIfInBounds]
  by_cases e : i = k
  · subst e
    simp [hi]
  · rw [if_neg e]
    constructor
    · exact .inr
    · rintro (h | h)
      · exact absurd h.symm e
      · exact h

/-- what is so of a region's operations -/
structure Reg (P : Program) (call : CallFn) (cfg : Cfg) (b : Bar) (mu : Nat → Bool) (ops : Array Oper) (oX : List Oper) (n : Nat) (as : List AOper) (ps : List Chk) (fr : Fr) (l : Nat → Env) (f : Nat → Fr) (g : Nat → Sg) (v : Nat → AV) : Prop where
  cok : CallOk P call
  pure : PureCalls cfg call
  dst : ∀ (i : Nat) o, ops[i]? = some o → ∀ t, o.dst = some t → t < n
  len : as.length = ops.size
  made : ∀ (i : Nat) o x, ops[i]? = some o → as[i]? = some x → Made P cfg mu ops.toList o x
  tr : Tr call b as fr l f g v
  rec_ : fr.pan = .off ∨ ∀ o ∈ ops.toList, opNoRec o = true
  pan : ∀ k, k ≤ as.length → (f k).pan = fr.pan
  pf : ∀ (i j : Nat) x y, i < j → as[i]? = some x → as[j]? = some y → PairFact cfg oX as ps i x j y
  pok : pairsOk b.n0 (l as.length) fr.pers ps = true
  stl : ∀ a e, e < as.length → Chk.still a e ∈ ps → ∀ o, a.at b.n0 (l as.length) fr.pers = some o → (g e).heap[o]? = (g (e + 1)).heap[o]?
  n0 : b.n0 ≤ (g 0).heap.length
  c0 : b.c0 ≤ b.n0
  t0 : b.t0 ≤ (g 0).toks.length
  es : ∀ x ∈ as, x.op.isIso = true → b.c0 ∈ b.es
  old : ∀ (i : Nat) o, i < b.c0 → (g 0).heap[i]? = some o → o.old b.c0 = true

/-- two operations that work at one object do not come in any order -/
theorem Reg.apart (h : Reg P call cfg b mu ops oX n as ps fr l f g v) {i j : Nat} {x y : AOper} (hi : i ≤ as.length) (hj : j ≤ as.length) {o : Nat} (hx : x.op.ft.at b.n0 (l i) fr.pers = some o) (hy : y.op.ft.at b.n0 (l j) fr.pers = some o) (hm : Chk.apart x.op.ft y.op.ft ∈ ps) (sx : StabFt as i x.op.ft) (sy : StabFt as j y.op.ft) : False := by
  have := pairsOk_mem h.pok _ hm
  simp only [Chk.ok] at this
  rw [h.tr.at sx hi, h.tr.at sy hj, hx, hy] at this
  simp [Nat.beq_refl] at this

theorem Reg.new (h : Reg P call cfg b mu ops oX n as ps fr l f g v) {j : Nat} {y : AOper} (hj : j ≤ as.length) {o : Nat} (hy : y.op.ft.at b.n0 (l j) fr.pers = some o) (hm : Chk.new y.op.ft ∈ ps) (sy : StabFt as j y.op.ft) : b.n0 ≤ o := by
  have := pairsOk_mem h.pok _ hm
  simp only [Chk.ok] at this
  rw [h.tr.at sy hj, hy] at this
  exact Nat.le_of_ble_eq_true this

/-- an operation leaves another one's object as it is -/
theorem Reg.still (h : Reg P call cfg b mu ops oX n as ps fr l f g v) {k e : Nat} {x : AOper} (hk : k ≤ as.length) (he : e < as.length) {o : Nat} (hx : x.op.ft.at b.n0 (l k) fr.pers = some o) (hm : Chk.still x.op.ft e ∈ ps) (sx : StabFt as k x.op.ft) : (g e).heap[o]? = (g (e + 1)).heap[o]? :=
  h.stl _ _ he hm o (by rw [h.tr.at sx hk]; exact hx)

theorem eff_notFree {as : List AOper} {ps : List Chk} {cfg : Cfg} {k e : Nat} {x y : AOper} (h1 : clsOf cfg x.op ≠ .pure) (h2 : clsOf cfg x.op ≠ .load) (hy : clsOf cfg y.op = .eff) : ¬ Free cfg as ps k x e y ∧ ¬ Free cfg as ps e y k x := by
  constructor
  · rintro (e1 | e1 | ⟨_, e1⟩ | ⟨_, e1, _⟩ | ⟨_, e1, _⟩ | ⟨_, e1, _⟩ | ⟨e1, _⟩ | ⟨_, e1, _⟩)
    · exact h1 e1
    · rw [hy] at e1; cases e1
    · rw [hy] at e1; cases e1
    · rw [hy] at e1; cases e1
    · rw [hy] at e1; cases e1
    · rw [hy] at e1; cases e1
    · exact h2 e1
    · rw [hy] at e1; cases e1
  · rintro (e1 | e1 | ⟨e1, _⟩ | ⟨e1, _⟩ | ⟨e1, _⟩ | ⟨e1, _⟩ | ⟨e1, _⟩ | ⟨_, e1, _⟩)
    · rw [hy] at e1; cases e1
    · exact h1 e1
    · rw [hy] at e1; cases e1
    · rw [hy] at e1; cases e1
    · rw [hy] at e1; cases e1
    · rw [hy] at e1; cases e1
    · rw [hy] at e1; cases e1
    · exact h2 e1

/-- which objects hang together with an operation -/
def Binds (cfg : Cfg) (b : Bar) (l : Nat → Env) (pers : Env) (k : Nat) (x : AOper) (i : Nat) : Prop :=
  match clsOf cfg x.op with
  | .pure => False
  | .load | .write => x.op.ft.at b.n0 (l k) pers = some i
  | .iso => i < b.c0
  | .call | .eff => True

theorem Reg.notFree (h : Reg P call cfg b mu ops oX n as ps fr l f g v) {k e i : Nat} {x y : AOper} (hk : k ≤ as.length) (he : e < as.length) (hx : Binds cfg b l fr.pers k x i) (hy : Touch cfg b l g fr.pers e y i) : ¬ Free cfg as ps k x e y ∧ ¬ Free cfg as ps e y k x := by
  unfold Binds at hx
  rcases hy with ⟨hy, hch⟩ | ⟨hy, hyi⟩
  · by_cases hxl : clsOf cfg x.op = .load
    · rw [hxl] at hx
      constructor
      · rintro (e1 | e1 | ⟨_, e1⟩ | ⟨_, e1, _⟩ | ⟨_, e1, _⟩ | ⟨_, e1, _⟩ | ⟨_, _, h3, h4⟩ | ⟨_, e1, _⟩)
        · rw [hxl] at e1; cases e1
        · rw [hy] at e1; cases e1
        · rw [hy] at e1; cases e1
        · rw [hy] at e1; cases e1
        · rw [hy] at e1; cases e1
        · rw [hy] at e1; cases e1
        · exact hch (h.still hk he hx h3 h4)
        · rw [hy] at e1; cases e1
      · rintro (e1 | e1 | ⟨e1, _⟩ | ⟨e1, _⟩ | ⟨e1, _⟩ | ⟨e1, _⟩ | ⟨e1, _⟩ | ⟨_, _, h3, h4⟩)
        · rw [hy] at e1; cases e1
        · rw [hxl] at e1; cases e1
        · rw [hy] at e1; cases e1
        · rw [hy] at e1; cases e1
        · rw [hy] at e1; cases e1
        · rw [hy] at e1; cases e1
        · rw [hy] at e1; cases e1
        · exact hch (h.still hk he hx h3 h4)
    · exact eff_notFree (fun e1 => by rw [e1] at hx; exact hx) hxl hy
  · have one : (clsOf cfg x.op).one = true → x.op.ft.at b.n0 (l k) fr.pers = some i := fun e1 => by
      cases hc : clsOf cfg x.op <;> rw [hc] at e1 hx <;> first | exact hx | (cases e1; done)
    have iso : clsOf cfg x.op = .iso → i < b.c0 := fun e1 => by rw [e1] at hx; exact hx
    constructor
    · rintro (e1 | e1 | ⟨_, e1⟩ | ⟨e1, _, h3, h4, h5⟩ | ⟨e1, _, h3, h4⟩ | ⟨_, e1, _⟩ | ⟨_, e1, _⟩ | ⟨_, e1, _⟩)
      · rw [e1] at hx; exact hx
      · rw [hy] at e1; cases e1
      · rw [hy] at e1; cases e1
      · exact h.apart hk (Nat.le_of_lt he) (one e1) hyi h3 h4 h5
      · have := h.new (Nat.le_of_lt he) hyi h3 h4
        have := iso e1
        have := h.c0
        omega
      · rw [hy] at e1; cases e1
      · rw [hy] at e1; cases e1
      · rw [hy] at e1; cases e1
    · rintro (e1 | e1 | ⟨e1, _⟩ | ⟨_, e1, h3, h4, h5⟩ | ⟨e1, _⟩ | ⟨_, e1, h3, h4⟩ | ⟨e1, _⟩ | ⟨e1, _⟩)
      · rw [hy] at e1; cases e1
      · rw [e1] at hx; exact hx
      · rw [hy] at e1; cases e1
      · exact h.apart (Nat.le_of_lt he) hk hyi (one e1) h3 h4 h5
      · rw [hy] at e1; cases e1
      · have := h.new (Nat.le_of_lt he) hyi h3 h4
        have := iso e1
        have := h.c0
        omega
      · rw [hy] at e1; cases e1
      · rw [hy] at e1; cases e1

theorem sch_pre (R : Reg P call cfg b mu ops oX n as ps fr l f g v)
    {listed : Array Bool} {K : Nat} {S : Sg} {loc : Env} {γ : Gh} {w : World} {a : Act} (h : Sch P cfg b oX as n fr l f g v listed K S loc γ w a) {i : Nat} {o : Oper} {x : AOper} (hnl : listed.getD i true = false) (ho : ops[i]? = some o) (hx : as[i]? = some x) (hbef : ∀ {j}, Before oX j i → done listed j) :
    ∃ v' frK' S', runOps call b [x] loc (f K) S = some (.normal, setLoc loc x.dst v', frK', S') ∧ (∀ f' y l', x.op = .calli f' y l' → IsoOk b S) ∧
      ∀ γ' w' a', RelR P γ' w' (setLoc loc x.dst v') frK' S' n a' → ∃ K', Sch P cfg b oX as n fr l f g v (listed.setIfInBounds i true) K' S' (setLoc loc x.dst v') γ' w' a' := by
  have hlen := R.len
  have hin : i < as.length := lt_of_getElem? hx
  have hsz := h.size
  have hni : ¬ done listed i := by
    unfold done
    rw [Array.getD_eq_getD_getElem?] at hnl ⊢
    rw [Array.getElem?_eq_getElem (by omega)] at hnl ⊢
    simp only [Option.getD_some] at hnl ⊢
    rw [hnl]
    exact Bool.false_ne_true
  have hmade := R.made i o x ho hx
  have haft : ∀ {j}, Before oX i j → ¬ done listed j := fun {j} hb hd => hni (h.closed _ _ hb hd)
  have hpK := R.tr.pers K h.le
  have hpi := R.tr.pers i (by omega)
  -- what an operation that changes an object stands to this one
  have order : ∀ {o' : Nat}, Binds cfg b l fr.pers i x o' → ∀ (e : Nat) y, as[e]? = some y → Touch cfg b l g fr.pers e y o' → e ≠ i → (done listed e ↔ e < i) := fun {o'} hb e y hy ht hne => by
    have hel : e < as.length := lt_of_getElem? hy
    obtain ⟨n1, n2⟩ := R.notFree (by omega) (by omega) hb ht
    rcases Nat.lt_or_ge e i with hlt | hge
    · have := (R.pf e i y x hlt hy hx).or
      have hbe : Before oX e i := by
        rcases this with hb | ⟨_, _, hf⟩
        · exact hb
        · exact absurd hf n2
      exact ⟨fun _ => hlt, fun _ => hbef hbe⟩
    · have hlt : i < e := by omega
      have := (R.pf i e x y hlt hx hy).or
      have hbe : Before oX i e := by
        rcases this with hb | ⟨_, _, hf⟩
        · exact hb
        · exact absurd hf n1
      exact ⟨fun hd => absurd hd (haft hbe), fun h => by omega⟩
  -- an object that hangs together with this operation is as it was in its place
  have near : ∀ {o' : Nat}, Binds cfg b l fr.pers i x o' → S.heap[o']? = (g i).heap[o']? := fun {o'} hb => by
    obtain ⟨p, hp, hS, hact⟩ := h.obj o'
    rw [hS]
    have no : ∀ (e : Nat) y, as[e]? = some y → (p ≤ e ∧ e < i ∨ i ≤ e ∧ e < p) → ¬ Touch cfg b l g fr.pers e y o' := fun e y hy hr ht => by
      have h1 := hact e y hy ht
      by_cases hei : e = i
      · subst hei
        have : e < p := by omega
        exact hni (h1.2 this)
      · have h2 := order hb e y hy ht hei
        rcases hr with ⟨r1, r2⟩ | ⟨r1, r2⟩
        · have := h1.1 (h2.2 r2); omega
        · have := h2.1 (h1.2 r2); omega
    rcases Nat.lt_or_ge i p with hip | hpi'
    · exact R.tr.obj R.pure i p (by omega) hp fun e y h1 h2 hy => no e y hy (.inr ⟨h1, h2⟩)
    · exact (R.tr.obj R.pure p i hpi' (by omega) fun e y h1 h2 hy => no e y hy (.inl ⟨h1, h2⟩)).symm
  -- nothing else than what is in order changes frames, lengths and tokens
  have gens : clsOf cfg x.op ≠ .pure → clsOf cfg x.op ≠ .load → (∀ (e : Nat) y, as[e]? = some y → clsOf cfg y.op = .eff → e ≠ i → (done listed e ↔ e < i)) := fun np nl e y hy hc hne => by
    obtain ⟨n1, n2⟩ := eff_notFree (as := as) (ps := ps) (k := i) (e := e) np nl hc
    rcases Nat.lt_or_ge e i with hlt | hge
    · have hbe : Before oX e i := (R.pf e i y x hlt hy hx).or.resolve_right fun ⟨_, _, hf⟩ => n2 hf
      exact ⟨fun _ => hlt, fun _ => hbef hbe⟩
    · have hlt : i < e := by omega
      have hbe : Before oX i e := (R.pf i e x y hlt hx hy).or.resolve_right fun ⟨_, _, hf⟩ => n1 hf
      exact ⟨fun hd => absurd hd (haft hbe), fun h => by omega⟩
  have still : clsOf cfg x.op ≠ .pure → clsOf cfg x.op ≠ .load → f K = f i ∧ (g K).heap.length = (g i).heap.length ∧ (g K).tt = (g i).tt := fun np nl => by
    have no : ∀ (e : Nat) y, as[e]? = some y → (K ≤ e ∧ e < i ∨ i ≤ e ∧ e < K) → clsOf cfg y.op ≠ .eff := fun e y hy hr hc => by
      have h1 := h.gen e y hy hc
      by_cases hei : e = i
      · subst hei
        have : e < K := by omega
        exact hni (h1.2 this)
      · have h2 := gens np nl e y hy hc hei
        rcases hr with ⟨r1, r2⟩ | ⟨r1, r2⟩
        · have := h1.1 (h2.2 r2); omega
        · have := h2.1 (h1.2 r2); omega
    rcases Nat.lt_or_ge i K with hiK | hKi
    · exact R.tr.frame R.pure i K (by omega) h.le fun e y h1 h2 hy => no e y hy (.inr ⟨h1, h2⟩)
    · obtain ⟨e1, e2, e3⟩ := R.tr.frame R.pure K i hKi (by omega) fun e y h1 h2 hy => no e y hy (.inl ⟨h1, h2⟩)
      exact ⟨e1.symm, e2.symm, e3.symm⟩
  have whole : clsOf cfg x.op ≠ .pure → clsOf cfg x.op ≠ .load → (∀ o', Binds cfg b l fr.pers i x o') → S = g i := fun np nl hb => by
    obtain ⟨_, _, e3⟩ := still np nl
    have e1 : S.heap = (g i).heap := List.ext_getElem? fun o' => near (hb o')
    have e2 : S.tt = (g i).tt := h.toks.trans e3
    cases S
    cases hgi : g i
    rw [hgi] at e1 e2
    simp only [Sg.tt, Prod.mk.injEq] at e1 e2
    rw [e1, e2.1, e2.2.1, e2.2.2]
  -- operands
  have huse : ∀ t ∈ aUses x, Env.look loc fr.pers t = Env.look (l i) fr.pers t := fun t ht => by
    have hdd : ∀ (i j : Nat) x y, i < j → as[i]? = some x → as[j]? = some y → ∀ t, x.dst = some t → y.dst ≠ some t := fun i j x y hij hx hy => (R.pf i j x y hij hx hy).dst
    obtain ⟨cl1, cl2⟩ := R.tr.look hdd fr.pers i (by omega)
    by_cases hwr : ∃ (j : Nat) (y : AOper), as[j]? = some y ∧ y.dst = some t
    · obtain ⟨j, y, hy, hyt⟩ := hwr
      rcases Nat.lt_trichotomy j i with hj | hj | hj
      · have := (R.pf j i y x hj hy hx).or
        rcases this with hb | ⟨hw1, _, _⟩
        · rw [h.look1 j y t hy (hbef hb) hyt, cl1 j y t hj hy hyt]
        · exact absurd ht (hw1 t hyt)
      · subst hj
        rw [hx] at hy
        cases hy
        -- it writes what it looks at: neither is done
        have e1 : Env.look loc fr.pers t = Env.get fr.pers t := h.look2 t fun j' y' hy' hd' e' => by
          rcases Nat.lt_trichotomy j' j with q | q | q
          · exact hdd j' j y' x q hy' hx t e' hyt
          · subst q; exact hni hd'
          · exact hdd j j' x y' q hx hy' t hyt e'
        have e2 : Env.look (l j) fr.pers t = Env.get fr.pers t := cl2 t fun j' y' hj' hy' e' => hdd j' j y' x hj' hy' hx t e' hyt
        rw [e1, e2]
      · have := (R.pf i j x y hj hx hy).or
        rcases this with hb | ⟨_, hw2, _⟩
        · have hnd := haft hb
          have e1 : Env.look loc fr.pers t = Env.get fr.pers t := h.look2 t fun j' y' hy' hd' e' => by
            rcases Nat.lt_trichotomy j' j with q | q | q
            · exact hdd j' j y' y q hy' hy t e' hyt
            · subst q; exact hnd hd'
            · exact hdd j j' y y' q hy hy' t hyt e'
          have e2 : Env.look (l i) fr.pers t = Env.get fr.pers t := cl2 t fun j' y' hj' hy' e' => by
            rcases Nat.lt_trichotomy j' j with q | q | q
            · exact hdd j' j y' y q hy' hy t e' hyt
            · omega
            · omega
          rw [e1, e2]
        · exact absurd ht (hw2 t hyt)
    · have e1 := h.look2 t fun j y hy _ e => hwr ⟨j, y, hy, e⟩
      have e2 := cl2 t fun j y _ hy e => hwr ⟨j, y, hy, e⟩
      rw [e1, e2]
  -- what the operation asks for is there
  have hag : Agree cfg b x (l i) (f i) (f K) (g i) S := by
    unfold Agree
    rw [hpi]
    cases hc : clsOf cfg x.op <;> dsimp only
    case load => exact fun o' ho' => near (by unfold Binds; rw [hc]; exact ho')
    case call => exact whole (by rw [hc]; nofun) (by rw [hc]; nofun) fun o' => by unfold Binds; rw [hc]; trivial
    case iso =>
      have hb : ∀ {o'}, o' < b.c0 → Binds cfg b l fr.pers i x o' := fun {o'} h => by unfold Binds; rw [hc]; exact h
      have e1 : S.heap.take b.c0 = (g i).heap.take b.c0 := List.ext_getElem? fun o' => by
        simp only [List.getElem?_take]
        split
        · rename_i hlt; exact near (hb hlt)
        · rfl
      have e2 : S.tt = (g i).tt := h.toks.trans (still (by rw [hc]; nofun) (by rw [hc]; nofun)).2.2
      have e3 : S.gl = (g i).gl := congrArg (fun q => q.2.2) e2
      have e2 : S.toks = (g i).toks := congrArg Prod.fst e2
      simp only [Sg.cut, e1, e2, e3]
    case write =>
      have hst := (still (by rw [hc]; nofun) (by rw [hc]; nofun)).2
      exact ⟨h.len.trans hst.1, h.toks.trans hst.2, fun o' ho' => near (by unfold Binds; rw [hc]; exact ho')⟩
    case eff =>
      have hb : ∀ o', Binds cfg b l fr.pers i x o' := fun o' => by unfold Binds; rw [hc]; trivial
      exact ⟨(still (by rw [hc]; nofun) (by rw [hc]; nofun)).1, whole (by rw [hc]; nofun) (by rw [hc]; nofun) hb⟩
  -- the operation itself
  obtain ⟨hrun, hloc⟩ := R.tr.ok i x hx
  obtain ⟨v', frK', S', hrun', hv', hcomes⟩ := one_move R.pure (frK := f K) (S := S) (locL := loc) hrun hloc (by rw [hpK, hpi]) (by rw [hpi]; exact huse) hag
  have hpK' := R.pan K h.le
  have hiso : ∀ f' y l', x.op = .calli f' y l' → IsoOk b S := fun f' y l' e => by
    have hkeep := fun q hq => R.tr.keeps R.cok.keeps q hq
    refine ⟨?_, ?_, fun o' ob ho' hob => ?_⟩
    · rw [h.len]; exact Nat.le_trans R.c0 (Nat.le_trans R.n0 (hkeep K h.le).len)
    · rw [show S.toks = (g K).toks from congrArg Prod.fst h.toks]; exact Nat.le_trans R.t0 (hkeep K h.le).tlen
    · obtain ⟨p, hp, hS, _⟩ := h.obj o'
      rw [hS] at hob
      exact (hkeep p hp).es b.c0 (R.es x (List.mem_of_getElem? hx) (by rw [e]; rfl)) (Nat.le_trans R.c0 R.n0) o' ho' (fun ob' h' => R.old o' ob' ho' h') ob hob
  refine ⟨v', frK', S', hrun', hiso, fun γ' w' a' hR' => ?_⟩
  have hdset : ∀ {k}, done (listed.setIfInBounds i true) k ↔ k = i ∨ done listed k := fun {k} => done_set (by omega)
  have hcl' : ∀ i' j, Before oX j i' → done (listed.setIfInBounds i true) i' → done (listed.setIfInBounds i true) j := fun i' j hb hd => by
    rw [hdset] at hd ⊢
    rcases hd with rfl | hd
    · exact .inr (hbef hb)
    · exact .inr (h.closed _ _ hb hd)
  have hdne : ∀ {j : Nat} {y : AOper} {t : Nat}, j ≠ i → as[j]? = some y → y.dst = some t → x.dst ≠ some t := fun {j y t} hji hy hyt e => by
    rcases Nat.lt_or_ge j i with q | q
    · exact (R.pf j i y x q hy hx).dst t hyt e
    · exact (R.pf i j x y (by omega) hx hy).dst t e hyt
  have hl1 : ∀ (j : Nat) y t, as[j]? = some y → done (listed.setIfInBounds i true) j → y.dst = some t → Env.look (setLoc loc x.dst v') fr.pers t = v j := fun j y t hy hd hyt => by
    by_cases e : j = i
    · subst e
      rw [hx] at hy
      cases hy
      rw [hyt]
      simp only [setLoc, look_cons, if_true]
      exact hv' (by rw [hyt]; exact fun e => by cases e)
    · have hd' : done listed j := (hdset.1 hd).resolve_left e
      have hne := hdne e hy hyt
      rw [← h.look1 j y t hy hd' hyt]
      cases hxd : x.dst with
      | none => rfl
      | some d =>
        simp only [setLoc, look_cons]
        rw [if_neg (fun e => hne (by rw [hxd, e]))]
  have hl2 : ∀ t, (∀ (j : Nat) y, as[j]? = some y → done (listed.setIfInBounds i true) j → y.dst ≠ some t) → Env.look (setLoc loc x.dst v') fr.pers t = Env.get fr.pers t := fun t ht => by
    have hxt := ht i x hx (hdset.2 (.inl rfl))
    rw [← h.look2 t fun j y hy hd => ht j y hy (hdset.2 (.inr hd))]
    cases hxd : x.dst with
    | none => rfl
    | some d =>
      simp only [setLoc, look_cons]
      rw [if_neg (fun e => hxt (by rw [hxd, e]))]
  -- an operation that touches nothing
  have quiet : clsOf cfg x.op ≠ .eff → (∀ o', ¬ Touch cfg b l g fr.pers i x o') → frK' = f K → S' = S → ∃ K', Sch P cfg b oX as n fr l f g v (listed.setIfInBounds i true) K' S' (setLoc loc x.dst v') γ' w' a' := fun hne hnt e1 e2 => by
    subst e1 e2
    refine ⟨K, by simp [hsz], hcl', h.le, fun k y hy hya => ?_, hR', h.len, h.toks, fun o' => ?_, hl1, hl2⟩
    · rw [hdset, ← h.gen k y hy hya]
      refine ⟨fun hd => hd.resolve_left fun e => ?_, .inr⟩
      subst e
      rw [hx] at hy
      cases hy
      exact hne hya
    · obtain ⟨p, hp, hS, hact⟩ := h.obj o'
      refine ⟨p, hp, hS, fun k y hy ht => ?_⟩
      rw [hdset, ← hact k y hy ht]
      refine ⟨fun hd => hd.resolve_left fun e => ?_, .inr⟩
      subst e
      rw [hx] at hy
      cases hy
      exact hnt o' ht
  unfold Comes at hcomes
  rw [hpi] at hcomes
  have nt : ∀ {c : Cls}, clsOf cfg x.op = c → c ≠ .eff → c ≠ .write → ∀ o', ¬ Touch cfg b l g fr.pers i x o' := fun {c} hc h1 h2 o' ht => by
    rcases ht with ⟨ht, _⟩ | ⟨ht, _⟩
    · exact h1 (hc.symm.trans ht)
    · exact h2 (hc.symm.trans ht)
  cases hc : clsOf cfg x.op <;> rw [hc] at hcomes <;> dsimp only at hcomes
  case pure => exact quiet (by rw [hc]; nofun) (nt hc nofun nofun) hcomes.1 hcomes.2
  case load => exact quiet (by rw [hc]; nofun) (nt hc nofun nofun) hcomes.1 hcomes.2
  case call => exact quiet (by rw [hc]; nofun) (nt hc nofun nofun) hcomes.1 hcomes.2
  case iso => exact quiet (by rw [hc]; nofun) (nt hc nofun nofun) hcomes.1 hcomes.2
  case write =>
    obtain ⟨e1, hwr, hobj⟩ := hcomes
    subst e1
    refine ⟨K, by simp [hsz], hcl', h.le, fun k y hy hya => ?_, hR', hwr.len.trans h.len, hwr.toks.trans h.toks, fun o' => ?_, hl1, hl2⟩
    · rw [hdset, ← h.gen k y hy hya]
      refine ⟨fun hd => hd.resolve_left fun e => ?_, .inr⟩
      subst e
      rw [hx] at hy
      cases hy
      rw [hc] at hya
      cases hya
    · by_cases hat : x.op.ft.at b.n0 (l i) fr.pers = some o'
      · refine ⟨i + 1, by omega, hobj o' hat, fun k y hy ht => ?_⟩
        rw [hdset]
        by_cases hki : k = i
        · subst hki
          exact ⟨fun _ => by omega, fun _ => .inl rfl⟩
        · have := order (by unfold Binds; rw [hc]; exact hat) k y hy ht hki
          rw [this]
          omega
      · obtain ⟨p, hp, hS, hact⟩ := h.obj o'
        refine ⟨p, hp, (hwr.out o' hat).trans hS, fun k y hy ht => ?_⟩
        rw [hdset, ← hact k y hy ht]
        refine ⟨fun hd => hd.resolve_left fun e => ?_, .inr⟩
        subst e
        rw [hx] at hy
        cases hy
        rcases ht with ⟨ht, _⟩ | ⟨_, ht⟩
        · rw [hc] at ht; cases ht
        · exact hat ht
  case eff =>
    obtain ⟨e1, e2⟩ := hcomes
    subst e1 e2
    have hb : ∀ o', Binds cfg b l fr.pers i x o' := fun o' => by unfold Binds; rw [hc]; trivial
    refine ⟨i + 1, by simp [hsz], hcl', by omega, fun k y hy hya => ?_, hR', rfl, rfl, fun o' => ⟨i + 1, by omega, rfl, fun k y hy ht => ?_⟩, hl1, hl2⟩
    · rw [hdset]
      by_cases hki : k = i
      · subst hki
        exact ⟨fun _ => by omega, fun _ => .inl rfl⟩
      · have := gens (by rw [hc]; nofun) (by rw [hc]; nofun) k y hy hya hki
        rw [this]
        omega
    · rw [hdset]
      by_cases hki : k = i
      · subst hki
        exact ⟨fun _ => by omega, fun _ => .inl rfl⟩
      · have := order (hb o') k y hy ht hki
        rw [this]
        omega

theorem bef_ready {oX : List Oper} {as : List AOper} {n : Nat} {listed : Array Bool} {K : Nat} {S : Sg} {loc : Env} {γ : Gh} {w : World} {a : Act} (h : Sch P cfg b oX as n fr l f g v listed K S loc γ w a) {i : Nat} {o : Oper} (hol : oX[i]? = some o) (hdeps : ∀ e ∈ o.after.toList, Region.binds .any e = true → listed.getD e.on false = true) {j : Nat} (hb : Before oX j i) : done listed j := by
  cases hb with
  | edge h1 h2 h3 =>
    rw [hol] at h1
    cases h1
    exact hdeps _ h2 h3
  | trans h1 h2 h3 h4 =>
    rw [hol] at h1
    cases h1
    exact h.closed _ _ h4 (hdeps _ h2 h3)

theorem sch_step (R : Reg P call cfg b mu ops oX n as ps fr l f g v)
    {listed : Array Bool} {K : Nat} {S : Sg} {loc : Env} {γ : Gh} {w : World} {a : Act} (h : Sch P cfg b oX as n fr l f g v listed K S loc γ w a) {i : Nat} {o : Oper} (hnl : listed.getD i true = false) (ho : ops[i]? = some o) (hbef : ∀ {j}, Before oX j i → done listed j) {Q : Exit → Act → World → Prop} {KK : Act → World → Prop}
    (hK : ∀ K' S' loc' γ' w' a', Le γ w γ' w' → Sch P cfg b oX as n fr l f g v (listed.setIfInBounds i true) K' S' loc' γ' w' a' → KK a' w') : wpOp P ops Q i KK a w := by
  have hin : i < as.length := by rw [R.len]; exact (Array.getElem?_eq_some_iff.1 ho).1
  obtain ⟨x, hx⟩ : ∃ x, as[i]? = some x := ⟨as[i], List.getElem?_eq_getElem hin⟩
  obtain ⟨v', frK', S', hrun', hiso, hS⟩ := sch_pre R h hnl ho hx hbef
  have hpK' := R.pan K h.le
  refine op1_ok R.cok R.pure (R.made i o x ho hx) ho (R.dst i o ho) h.rel (by
    rcases R.rec_ with e | e
    · exact .inl (hpK'.trans e)
    · exact .inr (e o (List.mem_of_getElem? (by rw [Array.getElem?_toList]; exact ho)))) hiso hrun' fun γ' w' a' hle hR' => ?_
  obtain ⟨K', h'⟩ := hS γ' w' a' hR'
  exact hK K' S' _ γ' w' a' hle h'

/-- all is done -/
theorem sch_fin (R : Reg P call cfg b mu ops oX n as ps fr l f g v) {listed : Array Bool} {K : Nat} {S : Sg} {loc : Env} {γ : Gh} {w : World} {a : Act} (h : Sch P cfg b oX as n fr l f g v listed K S loc γ w a) (hall : ∀ i, i < as.length → done listed i) : RelR P γ w (l as.length) (f as.length) (g as.length) n a := by
  have hdd : ∀ (i j : Nat) x y, i < j → as[i]? = some x → as[j]? = some y → ∀ t, x.dst = some t → y.dst ≠ some t := fun i j x y hij hx hy => (R.pf i j x y hij hx hy).dst
  obtain ⟨e1, e2, e3⟩ := R.tr.frame R.pure K as.length h.le (Nat.le_refl _) fun e y h1 h2 hy hc => by
    have := (h.gen e y hy hc).1 (hall e h2)
    omega
  have eS : S = g as.length := by
    have a1 : S.heap = (g as.length).heap := List.ext_getElem? fun i => by
      obtain ⟨p, hp, hS, hact⟩ := h.obj i
      rw [hS]
      exact (R.tr.obj R.pure p as.length hp (Nat.le_refl _) fun e y h1 h2 hy ht => by
        have := (hact e y hy ht).1 (hall e h2)
        omega).symm
    have a2 : S.tt = (g as.length).tt := h.toks.trans e3.symm
    cases S
    cases hgi : g as.length
    rw [hgi] at a1 a2
    simp only [Sg.tt, Prod.mk.injEq] at a1 a2
    rw [a1, a2.1, a2.2.1, a2.2.2]
  obtain ⟨cl1, cl2⟩ := R.tr.look hdd fr.pers as.length (Nat.le_refl _)
  rw [e1, ← eS]
  refine ⟨h.rel.inv, ?_, h.rel.defs, h.rel.size⟩
  have hpK := R.tr.pers K h.le
  have hlook : ∀ t, Env.look (l as.length) fr.pers t = Env.look loc fr.pers t := fun t => by
    by_cases hw : ∃ (j : Nat) (y : AOper), as[j]? = some y ∧ y.dst = some t
    · obtain ⟨j, y, hy, hyt⟩ := hw
      have hj := lt_of_getElem? hy
      rw [cl1 j y t hj hy hyt, h.look1 j y t hy (hall j hj) hyt]
    · rw [cl2 t fun j y _ hy e => hw ⟨j, y, hy, e⟩, h.look2 t fun j y hy _ e => hw ⟨j, y, hy, e⟩]
  intro t hne
  have hev := h.rel.ev t
  rw [hpK] at hne hev ⊢
  rw [hlook] at hne ⊢
  exact hev hne

theorem not_done {m : Nat} {listed : Array Bool} {i : Nat} (hs : listed.size = m) (hi : i < m) (hn : ¬ done listed i) : listed.getD i true = false := by
  unfold done at hn
  rw [Array.getD_eq_getD_getElem?] at hn ⊢
  rw [Array.getElem?_eq_getElem (by omega)] at hn ⊢
  simpa using hn

end

end Go.Am

/-
  The abstract machine, twenty-eighth part: drawn regions, whole.
-/
namespace Go.Am
open Go.RowKit (Below)

variable {P : Program}

theorem slotted_ok : ∀ (l : List AOper) (k0 : Nat), (slotted l k0).1.length = l.length ∧ ∀ (i : Nat) a, l[i]? = some a → ∃ a', (slotted l k0).1[i]? = some a' ∧ a'.dst = a.dst ∧ a'.guard = a.guard ∧ (a'.op = a.op ∨ ∃ k p, a.op = .e p ∧ a'.op = .fill k p)
  | [], _ => ⟨rfl, fun i a h => by simp at h⟩
  | o :: r, k0 => by
    have same : ∀ k1, ((o :: (slotted r k1).1).length = (o :: r).length ∧ ∀ (i : Nat) a, (o :: r)[i]? = some a → ∃ a', (o :: (slotted r k1).1)[i]? = some a' ∧ a'.dst = a.dst ∧ a'.guard = a.guard ∧ (a'.op = a.op ∨ ∃ k p, a.op = .e p ∧ a'.op = .fill k p)) := fun k1 => by
      obtain ⟨h1, h2⟩ := slotted_ok r k1
      refine ⟨by simp [h1], fun i a h => ?_⟩
      cases i with
      | zero => simp at h; subst h; exact ⟨o, rfl, rfl, rfl, .inl rfl⟩
      | succ i => simp at h; simpa using h2 i a h
    unfold slotted
    split
    · rename_i p hp
      split
      · obtain ⟨h1, h2⟩ := slotted_ok r (k0 + 1)
        refine ⟨by simp [h1], fun i a h => ?_⟩
        cases i with
        | zero => simp at h; subst h; exact ⟨_, rfl, rfl, rfl, .inr ⟨k0, p, hp, rfl⟩⟩
        | succ i => simp at h; simpa using h2 i a h
      · exact same k0
    · exact same k0

theorem isoOp_ok (cfg : Cfg) (rows : List Row) (x : Row) : isoOp cfg rows x = x.o.op ∨ (∃ f l, x.o.op = .call f l ∧ cfg.mode f = .pure ∧ isoOp cfg rows x = .calli f none l) ∨ ∃ f y l, x.o.op = .callk f y l ∧ cfg.mode f = .pure ∧ isoOp cfg rows x = .calli f (some y) l := by
  unfold isoOp
  split
  · rename_i f l h
    split
    · rename_i hm
      split
      · exact .inr (.inl ⟨f, l, h, hm, rfl⟩)
      · exact .inl h.symm
    · exact .inl h.symm
  · rename_i f y l h
    split
    · rename_i hm
      split
      · exact .inr (.inr ⟨f, y, l, h, hm, rfl⟩)
      · exact .inl h.symm
    · exact .inl h.symm
  · exact .inl rfl

/-- a drawn region's operations: each is one that the program's may become -/
theorem drawnOps_ok {cfg : Cfg} {mu : Nat → Bool} {fv : Nat → Option FuncId} {ops : List Oper} : (drawnOps cfg ops (tOps P mu fv ops)).1.length = ops.length ∧ ∀ (i : Nat) o x, ops[i]? = some o → (drawnOps cfg ops (tOps P mu fv ops)).1[i]? = some x → Made P cfg mu ops o x := by
  obtain ⟨s1, s2⟩ := slotted_ok (tOps P mu fv ops) 0
  have hl : (tOps P mu fv ops).length = ops.length := by simp [tOps]
  obtain ⟨hml, _⟩ := masks_ok (ops := ops) ops [] (fun j => by simp) (fun i m hm => by simp at hm)
  have hl' : (slotted (tOps P mu fv ops) 0).1.length = (masks ops []).length := by rw [hml, s1, hl]; simp
  have hget : ∀ (i : Nat) o, ops[i]? = some o → ∃ x, (drawnOps cfg ops (tOps P mu fv ops)).1[i]? = some x ∧ Made P cfg mu ops o x := fun i o ho => by
    have h1 : (tOps P mu fv ops)[i]? = some (tOperK P mu fv ops o) := by
      simp only [tOps, List.getElem?_map, ho, Option.map_some]
      rfl
    obtain ⟨a', q1, q2, q3, q4⟩ := s2 i _ h1
    obtain ⟨m, _, hr⟩ := rows_ok (cfg := cfg) (i := 0) hl' i a' q1
    refine ⟨_, by simp only [drawnOps, List.getElem?_map, hr, Option.map_some]; rfl, ?_⟩
    have hd : a'.dst = o.dst := q2.trans tOperK_dst
    have hg : a'.guard = guardTmp ops o.guard := q3.trans tOperK_guard
    have hbad : ∀ {ao}, (tOperK P mu fv ops o).op = ao → ao ≠ .bad → Of P (mu (o.dst.getD 0)) o.op ao ∧ (∀ f y l, ao ≠ .calli f y l) ∧ (o.guard.isSome = true → (guardTmp ops o.guard).isSome = true) := fun h1 h2 => tOperK_op h1 h2
    refine ⟨hd, hg, fun hb => ?_, fun f y l e => ?_⟩
    · rcases isoOp_ok cfg (mkRows cfg (slotted (tOps P mu fv ops) 0).1 (masks ops []) 0) { i := 0 + i, o := a', cls := clsOf cfg a'.op, mask := m, uses := aUses a' } with e | ⟨f, l, e1, e2, e3⟩ | ⟨f, y, l, e1, e2, e3⟩
      · rw [e] at hb ⊢
        dsimp only at hb ⊢
        rcases q4 with e4 | ⟨k, p, e4, e5⟩
        · rw [e4] at hb ⊢
          obtain ⟨h1, _, h2⟩ := hbad rfl hb
          exact ⟨h1, h2⟩
        · rw [e5]
          obtain ⟨h1, _, h2⟩ := hbad e4 (by intro e; cases e)
          refine ⟨.fill ?_, h2⟩
          cases h1; assumption
      · rw [e3]
        dsimp only at e1
        rcases q4 with e4 | ⟨k, p, _, e5⟩
        · obtain ⟨h1, _, h2⟩ := hbad (e4.symm.trans e1) (by intro e; cases e)
          refine ⟨.calli ?_, h2⟩
          cases h1; assumption
        · rw [e1] at e5; cases e5
      · rw [e3]
        dsimp only at e1
        rcases q4 with e4 | ⟨k, p, _, e5⟩
        · obtain ⟨h1, _, h2⟩ := hbad (e4.symm.trans e1) (by intro e; cases e)
          refine ⟨.calliv ?_, h2⟩
          cases h1 with
          | same h => exact absurd rfl ((tOp_not h).2.1 _ _ _)
          | callk h => exact h
        · rw [e1] at e5; cases e5
    · rcases isoOp_ok cfg (mkRows cfg (slotted (tOps P mu fv ops) 0).1 (masks ops []) 0) { i := 0 + i, o := a', cls := clsOf cfg a'.op, mask := m, uses := aUses a' } with e0 | ⟨f', l', e1, e2, e3⟩ | ⟨f', y', l', e1, e2, e3⟩
      · rw [e0] at e
        dsimp only at e
        rcases q4 with e4 | ⟨k, p, _, e5⟩
        · obtain ⟨_, h2, _⟩ := hbad (e4.symm.trans e) (by intro e; cases e)
          exact absurd rfl (h2 f y l)
        · rw [e] at e5; cases e5
      · rw [e3] at e; cases e; exact e2
      · rw [e3] at e; cases e; exact e2
  refine ⟨by
    have hmk : ∀ {as : List AOper} {ms : List Nat} {i : Nat}, as.length = ms.length → (mkRows cfg as ms i).length = as.length := by
      intro as
      induction as with
      | nil => intro ms i h; cases ms <;> rfl
      | cons a r ih =>
        intro ms i h
        cases ms with
        | nil => simp at h
        | cons m ms => simp only [mkRows, List.length_cons]; rw [ih (by simpa using h)]
    simp only [drawnOps, List.length_map]
    rw [hmk hl', s1, hl], fun i o x ho hx => ?_⟩
  obtain ⟨x', h1, h2⟩ := hget i o ho
  rw [h1] at hx
  cases hx
  exact h2

theorem drawn_any {call : CallFn} {cfg : Cfg} {b : Bar} {mu : Nat → Bool} {ops : Array Oper} {n : Nat} {as : List AOper} {ps : List Chk} {fr : Fr} {l : Nat → Env} {f : Nat → Fr} {g : Nat → Sg} {v : Nat → AV}
    (R : Reg P call cfg b mu ops ops.toList n as ps fr l f g v) {md : Region.Mode} (htopo : topoOk md ops.toList = true) {Q : Exit → Act → World → Prop} :
    ∀ (fuel : Nat) (listed : Array Bool) (K : Nat) (S : Sg) (loc : Env) (γ : Gh) (w : World) (a : Act), Sch P cfg b ops.toList as n fr l f g v listed K S loc γ w a → left as.length listed ≤ fuel →
      (∀ γ' w' a', Le γ w γ' w' → RelR P γ' w' (l as.length) (f as.length) (g as.length) n a' → Q .normal a' w') → wpAny P md ops Q fuel listed a w := by
  have hlen : as.length = ops.size := R.len
  have fin : ∀ (listed : Array Bool) (K : Nat) (S : Sg) (loc : Env) (γ : Gh) (w : World) (a : Act), Sch P cfg b ops.toList as n fr l f g v listed K S loc γ w a → (∀ i, i < as.length → done listed i) → RelR P γ w (l as.length) (f as.length) (g as.length) n a := fun listed K S loc γ w a h hall => sch_fin R h hall
  have ready_lt : ∀ {listed : Array Bool} {i : Nat}, i ∈ Region.ready md ops listed → i < as.length ∧ listed.getD i true = false := fun {listed i} hi => by
    rw [mem_ready] at hi
    obtain ⟨h1, o, ho, _⟩ := hi
    exact ⟨by rw [hlen]; exact (Array.getElem?_eq_some_iff.1 ho).1, h1⟩
  intro fuel
  induction fuel with
  | zero =>
    intro listed K S loc γ w a h hl hQ
    have hall : ∀ i, i < as.length → done listed i := fun i hi => by
      apply Classical.byContradiction
      intro hn
      have hnn := not_done h.size hi hn
      have : 0 < left as.length listed := by
        unfold left
        rw [List.length_pos_iff_exists_mem]
        exact ⟨i, List.mem_filter.2 ⟨List.mem_range.2 hi, by rw [hnn]; rfl⟩⟩
      omega
    refine ⟨?_, hQ γ w a (Le.refl _ _) (fin listed K S loc γ w a h hall)⟩
    apply List.eq_nil_iff_forall_not_mem.2
    intro i hi
    obtain ⟨h1, h2⟩ := ready_lt hi
    have := hall i h1
    unfold done at this
    rw [Array.getD_eq_getD_getElem?] at this h2
    have hs := h.size
    rw [Array.getElem?_eq_getElem (by omega)] at this h2
    simp only [Option.getD_some] at this h2
    rw [this] at h2
    cases h2
  | succ fuel ih =>
    intro listed K S loc γ w a h hl hQ
    constructor
    · intro hr
      have hall : ∀ i, Ends md ops.toList i → i < as.length → done listed i := by
        intro i he
        induction he with
        | mk hlt hd ihd =>
          rename_i i
          intro hi
          apply Classical.byContradiction
          intro hn
          have hio : i < ops.size := by omega
          have hoi : ops[i]? = some ops[i] := Array.getElem?_eq_getElem hio
          have hmem : i ∈ Region.ready md ops listed := by
            rw [mem_ready]
            refine ⟨not_done h.size hi hn, ops[i], hoi, fun e he hb => ?_⟩
            have hel := ihd ops[i] (by rw [Array.getElem?_toList]; exact hoi) e (by simpa using he) hb
            have hlt := (hd ops[i] (by rw [Array.getElem?_toList]; exact hoi) e (by simpa using he) hb).lt
            rw [Array.length_toList] at hlt
            exact hel (by omega)
          rw [hr] at hmem
          cases hmem
      exact hQ γ w a (Le.refl _ _) (fin listed K S loc γ w a h fun i hi => hall i (topo_ok htopo i (by rw [Array.length_toList]; omega)) hi)
    · intro i hi
      obtain ⟨h1, h2⟩ := ready_lt hi
      obtain ⟨_, o, ho, hdeps⟩ := mem_ready.1 hi
      refine sch_step R h h2 ho (bef_ready h (by rw [Array.getElem?_toList]; exact ho) fun e he hb => hdeps e (by simpa using he) (binds_any hb)) fun K' S' loc' γ' w' a' hle h' => ?_
      have hlt := left_set h1 h.size h2
      exact ih _ K' S' loc' γ' w' a' h' (by omega) fun γ'' w'' a'' hle' hR => hQ γ'' w'' a'' (hle.trans hle') hR

/-- a region whose order is drawn -/
theorem drawnB_ok {call : CallFn} {cfg : Cfg} {bb : Bar} {mu : Nat → Bool} {fv : Nat → Option FuncId} {ops : Array Oper} {n id : Nat} {as : List AOper} {slots : Nat} {ps : List Chk} {fr : Fr} {s : Sg} {γ : Gh} {w : World} {a : Act} {loc' : Env} {fr' : Fr} {s' : Sg}
    (hc : CallOk P call) (hpure : PureCalls cfg call) (hdst : ∀ (i : Nat) o, ops[i]? = some o → ∀ t, o.dst = some t → t < n) (hrec : fr.pan = .off ∨ ∀ o ∈ ops.toList, opNoRec o = true)
    (has : as = (drawnOps cfg ops.toList (tOps P mu fv ops.toList)).1) (hb1 : bb.n0 = s.heap.length) (hb2 : bb.t0 = s.toks.length) (hb3 : bb.c0 ≤ s.heap.length) (hb4 : ∀ x ∈ as, x.op.isIso = true → bb.c0 ∈ bb.es) (hb5 : ∀ (i : Nat) o, i < bb.c0 → s.heap[i]? = some o → o.old bb.c0 = true) (hdr : drawnPairs cfg ops.toList as = some ps) (hR : RelR P γ w [] fr s n a) (hrun : runOps call bb as [] fr (s.keep slots) = some (.normal, loc', fr', s')) (hps : pairsOk s.heap.length loc' fr.pers ps = true) {Q : Exit → Act → World → Prop} (hst : stillsOk (fun e => (runOps call bb (as.take e) [] fr (s.keep slots)).map fun y => y.2.2.2.heap) s.heap.length loc' fr.pers ps = true)
    (hQ : ∀ γ' w' a', Le γ w γ' w' → RelR P γ' w' loc' fr' s' n a' → fr'.pan = fr.pan → Q .normal a' w') : (Code.region id ops true).wp P Q a w := by
  obtain ⟨hal, hmade⟩ := drawnOps_ok (P := P) (cfg := cfg) (mu := mu) (fv := fv) (ops := ops.toList)
  rw [← has] at hal hmade
  obtain ⟨hedge, hpf⟩ := pair_fact hal hdr
  obtain ⟨l, f, g, v, ht, e1, e2, e3, e4, e5, e6⟩ := trace_of hrun
  have hT : Tr call bb as fr l f g v := ⟨ht, e1, e2⟩
  have hlen : as.length = ops.size := by rw [hal]; simp
  have hrec' : fr.pan = .off ∨ ∀ x ∈ as, x.op ≠ .recover := hrec.imp (fun e => e) fun h x hx e => by
    obtain ⟨i, hi, rfl⟩ := List.mem_iff_getElem.1 hx
    have hio : i < ops.toList.length := by omega
    have hm := hmade i ops.toList[i] as[i] (List.getElem?_eq_getElem hio) (List.getElem?_eq_getElem hi)
    obtain ⟨hof, _⟩ := hm.of (by rw [e]; intro h; cases h)
    exact noRec_op (h _ (List.getElem_mem hio)) (of_recover (e ▸ hof)) rfl
  have hpan := hT.pan hrec'
  have hle0 := Le.drew γ w
  simp only [Bool.and_eq_true] at hedge
  obtain ⟨t1, t2, t3⟩ := hedge
  have hn0 : bb.n0 = s.heap.length := hb1
  have R : Reg P call cfg bb mu ops ops.toList n as ps fr l f g v :=
    { cok := hc, pure := hpure, dst := hdst, len := hlen
      made := fun i o x ho hx => hmade i o x (by rw [Array.getElem?_toList]; exact ho) hx
      tr := hT, rec_ := hrec, pan := hpan, pf := hpf
      pok := by rw [hn0, e4]; exact hps
      stl := fun a e he hm o ho => by
        rw [hn0, e4] at ho
        obtain ⟨h1, h2, q1, q2, q3⟩ := stills_mem hst a e hm o ho
        have t1 := trace_take ht e (by omega)
        have t2 := trace_take ht (e + 1) (by omega)
        rw [e1, e2, e3] at t1 t2
        rw [t1] at q1
        rw [t2] at q2
        cases q1
        cases q2
        exact q3
      n0 := by rw [e3, hn0]; simp [Sg.keep]
      c0 := by rw [hn0]; exact hb3
      t0 := by rw [e3, hb2]; exact Nat.le_refl _
      es := hb4
      old := fun i o hi ho => by
        rw [e3] at ho
        have hi' : i < s.heap.length := by omega
        simp only [Sg.keep, List.getElem?_append, if_pos hi'] at ho
        exact hb5 i o hi ho }
  obtain ⟨γ1, hle1, hI1⟩ := hR.inv.drew.keep slots
  have hle1' := hle0.trans hle1
  have none_ : ∀ {i : Nat}, ¬ done (Array.replicate ops.size false) i := fun {i} hd => by
    simp [done, Array.getD_eq_getD_getElem?, Array.getElem?_replicate] at hd
    split at hd <;> simp at hd
  have key : ∀ (md : Region.Mode) (t : Nat), topoOk md ops.toList = true → wpOps P ops Q (Region.linearise md ops t) a w.drew := fun md t htopo => by
    refine wpAny_sound ops.size t _ a w.drew ?_
    refine drawn_any R htopo ops.size _ 0 (s.keep slots) [] γ1 w.drew a ⟨by simp [hlen], ?_, Nat.zero_le _, ?_, ?_, by rw [e3], by rw [e3], ?_, ?_, ?_⟩ ?_ ?_
    · exact fun i j _ hd => absurd hd none_
    · exact fun k y hy hya => ⟨fun hd => absurd hd none_, fun h => by omega⟩
    · rw [e2]
      exact ⟨hI1, hR.ev.mono hle1', hR.defs.mono hle1', hR.size⟩
    · exact fun i => ⟨0, Nat.zero_le _, by rw [e3], fun k y hy _ => ⟨fun hd => absurd hd none_, fun h => by omega⟩⟩
    · exact fun j x t _ hd => absurd hd none_
    · intro t _
      rfl
    · rw [← hlen]
      unfold left
      exact Nat.le_trans (List.length_filter_le _ _) (by simp)
    · intro γ' w' a' hle hR'
      have hp := hpan _ (Nat.le_refl _)
      rw [e4, e5, e6] at hR'
      rw [e5] at hp
      exact hQ γ' w' a' (hle1'.trans hle) hR' hp
  refine wp_region_draw fun t => ?_
  unfold Region.schedule
  split
  · exact key .any t t1
  · split
    · exact key .text _ t2
    · exact key .gc _ t3

/-- a region whose order is drawn -/
theorem drawn_ok {call : CallFn} {cfg : Cfg} {b : Bar} {mu : Nat → Bool} {fv : Nat → Option FuncId} {ops : Array Oper} {n id : Nat} {as : List AOper} {slots : Nat} {iso : Bool} {ps : List Chk} {fr : Fr} {s : Sg} {γ : Gh} {w : World} {a : Act} {loc' : Env} {fr' : Fr} {s' : Sg}
    (hc : CallOk P call) (hpure : PureCalls cfg call) (hdst : ∀ (i : Nat) o, ops[i]? = some o → ∀ t, o.dst = some t → t < n) (hrec : fr.pan = .off ∨ ∀ o ∈ ops.toList, opNoRec o = true)
    (has : as = (drawnOps cfg ops.toList (tOps P mu fv ops.toList)).1) (hiso : iso = as.any fun o => o.op.isIso) (hdr : drawnPairs cfg ops.toList as = some ps) (hR : RelR P γ w [] fr s n a) (hrun : runOps call (b.drawn iso s) as [] fr (s.keep slots) = some (.normal, loc', fr', s')) (hps : pairsOk s.heap.length loc' fr.pers ps = true) {Q : Exit → Act → World → Prop} (hst : stillsOk (fun e => (runOps call (b.drawn iso s) (as.take e) [] fr (s.keep slots)).map fun y => y.2.2.2.heap) s.heap.length loc' fr.pers ps = true)
    (hQ : ∀ γ' w' a', Le γ w γ' w' → RelR P γ' w' loc' fr' s' n a' → fr'.pan = fr.pan → Q .normal a' w') : (Code.region id ops true).wp P Q a w := by
  refine drawnB_ok hc hpure hdst hrec has rfl rfl (Nat.le_refl _) (fun x hx hxi => ?_) (fun i o hi ho => ?_) hdr hR hrun hps hst hQ
  · have : iso = true := by rw [hiso]; exact List.any_eq_true.2 ⟨x, hx, hxi⟩
    subst this
    exact List.mem_cons_self
  · have := old_start hR.inv ho
    rw [← hR.inv.n] at this
    exact this

theorem allOld_get {e : Nat} : ∀ {l : List AObj}, allOld e l = true → ∀ (i : Nat) o, l[i]? = some o → o.old e = true
  | [], _, i, o, h => by simp at h
  | x :: r, h, 0, o, ho => by simp only [allOld, Bool.and_eq_true] at h; simp at ho; subst ho; exact h.1
  | x :: r, h, i + 1, o, ho => by simp only [allOld, Bool.and_eq_true] at h; simp at ho; exact allOld_get h.2 i o ho


end Go.Am
