/-
  An abstract machine over the compiled program: its values, its heap, and that its operations are the model's.
-/
import GoSem.Step
import Derived.WalkKit
import Derived.Lib.ConvBytes
import Derived.Laws.BytesString

/-
  The abstract machine, first part: its values, its operations, its run. Nothing of any program stands here.
-/
namespace Go.Am

/-- what lies behind a slice's last element -/
inductive Tail where
  | exact (own : Bool)   -- nothing: an append must grow; is the row the call's own, from its first cell?
  | tok (t n : Nat)      -- room that is this slice's alone, if version n of token t is the last one
  | shut                 -- nothing is known
  deriving Inhabited

inductive AV where
  | undef
  | bool (b : Bool)
  | int (k : IntKind) (n : Int)
  | flt (k : FloatKind) (b : Nat)
  | cplx (k : FloatKind) (re im : Nat)
  | str (s : List UInt8)
  | nilptr
  | ptr (i g off : Nat)              -- a cell of an object of the abstract heap
  | pin (v : AV)                     -- a place that is never written any more, with what it holds
  | nilsl
  | vec (es : List AV) (tl : Tail)   -- a slice that is never written any more
  | ms (i g off len cp sz : Nat)     -- a slice of an object of the abstract heap, with room for so many elements at least, and their size
  | nilmap
  | map (i : Nat)
  | func (f : FuncId) (first captured : List AV)
  | nilfunc
  | iface (t : TypeId) (v : AV)
  | nilif
  | agg (cs : List AV)
  | tup (vs : List AV)
  | yield (i : Nat)                  -- the body of a range over a function, at its record
  deriving Inhabited

/-- a value's cells -/
def AV.flat : AV → List AV
  | .agg cs => cs
  | v => [v]

/-- a value of one cell that may be stored -/
def AV.one : AV → Bool
  | .agg _ | .tup _ | .undef | .vec _ (.tok ..) => false
  | _ => true

def allOne : List AV → Bool
  | [] => true
  | v :: r => v.one && allOne r

inductive AOpd where
  | tmp (t : Nat)
  | const (v : AV)
  deriving Inhabited

inductive ConvK where
  | intInt (k : IntKind)
  | intFlt (k : FloatKind)
  | fltInt (k : IntKind)
  | same
  | ownBytes
  | strBytes
  | bytesStr
  | intStr
  deriving Inhabited

/-- operations that come to a value and change nothing -/
inductive VOp where
  | move (x : AOpd)
  | pick (c a b : AOpd)
  | build (z : List AV) (parts : List (Nat × Nat × AOpd))
  | buildSl (sz : Nat) (z : AV) (len : Nat) (parts : List (Nat × AOpd))
  | load (ag : Option Nat) (a : AOpd)
  | nilCheck (x : AOpd)
  | bin (op : BinOp) (x y : AOpd)
  | eqBool (neg : Bool) (x y : AOpd)
  | eqAgg (neg : Bool) (ks : List Nat) (x y : AOpd)
  | eqNil (neg : Bool) (k : Nat) (x : AOpd)
  | un (op : UnOp) (x : AOpd)
  | conv (k : ConvK) (x : AOpd)
  | field (off : Nat) (ag : Option Nat) (x : AOpd)
  | fieldAddr (off : Nat) (ag : Option Nat) (x : AOpd)
  | indexAddrS (ag : Option Nat) (x i : AOpd)
  | indexAddrA (len : Nat) (ag : Option Nat) (x i : AOpd)
  | indexA (len : Nat) (ag : Option Nat) (x i : AOpd)
  | indexS (x i : AOpd)
  | slice (sz : Nat) (x : AOpd) (lo hi mx : Option AOpd)
  | sliceA (len sz : Nat) (x : AOpd) (lo hi : Option AOpd)
  | sliceS (x : AOpd) (lo hi : Option AOpd)
  | extract (x : AOpd) (i : Nat)
  | len (k : Nat) (x : AOpd)
  | constInt (n : Nat)
  | mm (isMax : Bool) (xs : List AOpd)
  | part (im : Bool) (x : AOpd)
  | cplx (x y : AOpd)
  | mkIface (t : TypeId) (x : AOpd)
  | tassert (t : TypeId) (ok : Bool) (z : AV) (x : AOpd)
  | mkFunc (f : FuncId) (first captured : List AOpd)
  | lookup (str ok : Bool) (z : AV) (m k : AOpd)
  | eqPtr (neg : Bool) (x y : AOpd)
  | globAt (g len : Nat) (ag : Option Nat) (i : AOpd)
  deriving Inhabited

/-- operations that change the abstract heap, or the tokens -/
inductive EOp where
  | alloc (z : List AV)
  | box (x : AOpd)
  | buildMs (sz : Nat) (z : AV) (len : Nat) (parts : List (Nat × AOpd))
  | store (n : Nat) (a x : AOpd)
  | append (mu : Bool) (ag : Option Nat) (bytes : Nat) (x y : AOpd)
  | makeSl (mu : Bool) (bytes : Nat) (z : AV) (l c : AOpd)
  | copy (ag : Option Nat) (x y : AOpd)
  | makeMap
  | mapPut (str : Bool) (m k x : AOpd)
  | rangeS (x : AOpd)
  | nextS (x : AOpd)
  | clear (z : AV) (x : AOpd)
  | growz (bytes : Nat) (z : AV) (x y : AOpd)   -- so many zeros behind nothing
  deriving Inhabited

inductive AOp where
  | v (o : VOp)
  | e (o : EOp)
  | call (f : FuncId) (args : List AOpd)
  | callv (x : AOpd) (args : List AOpd)
  | fill (k : Nat) (p : EOp)                                    -- an object for a place that was kept
  | calli (f : FuncId) (x : Option AOpd) (args : List AOpd)     -- a call that sees what there was ahead of the region alone
  | callk (f : FuncId) (x : AOpd) (args : List AOpd)            -- a call of a value that has to be a function
  | invk (tbl : List (TypeId × FuncId)) (x : AOpd) (args : List AOpd)   -- a method of an interface value
  | yieldc (x : AOpd) (args : List AOpd)                        -- a call of a range's body
  | panic (x : AOpd)
  | defer (x : AOpd) (args : List AOpd)
  | recover
  | bad
  deriving Inhabited

def optL : Option AOpd → List AOpd
  | none => []
  | some x => [x]

def VOp.opds : VOp → List AOpd
  | .move x | .load _ x | .nilCheck x | .eqNil _ _ x | .un _ x | .conv _ x | .field _ _ x | .fieldAddr _ _ x | .extract x _ | .len _ x | .part _ x | .mkIface _ x | .tassert _ _ _ x => [x]
  | .pick c x y => [c, x, y]
  | .build _ parts => parts.map (·.2.2)
  | .buildSl _ _ _ parts => parts.map (·.2)
  | .bin _ x y | .eqBool _ x y | .eqAgg _ _ x y | .indexAddrS _ x y | .indexAddrA _ _ x y | .indexA _ _ x y | .indexS x y | .cplx x y | .lookup _ _ _ x y | .eqPtr _ x y => [x, y]
  | .slice _ x lo hi mx => x :: (optL lo ++ (optL hi ++ optL mx))
  | .sliceA _ _ x lo hi | .sliceS x lo hi => x :: (optL lo ++ optL hi)
  | .constInt _ => []
  | .globAt _ _ _ i => [i]
  | .mm _ xs => xs
  | .mkFunc _ a c => a ++ c

def EOp.opds : EOp → List AOpd
  | .alloc _ | .makeMap => []
  | .box x | .rangeS x | .nextS x | .clear _ x => [x]
  | .buildMs _ _ _ parts => parts.map (·.2)
  | .store _ x y | .append _ _ _ x y | .makeSl _ _ _ x y | .copy _ x y | .growz _ _ x y => [x, y]
  | .mapPut _ x y z => [x, y, z]

def AOp.opds : AOp → List AOpd
  | .v o => o.opds
  | .e o => o.opds
  | .call _ xs => xs
  | .callv x xs | .defer x xs | .callk _ x xs | .invk _ x xs | .yieldc x xs => x :: xs
  | .fill _ p => p.opds
  | .calli _ x xs => optL x ++ xs
  | .panic x => [x]
  | .recover | .bad => []

/-- where an operation works: at what an operand says, else at a place that was kept -/
structure Ft where
  x : Option AOpd
  k : Option Nat
  deriving Inhabited

/-- what has to be so of two operations that come in any order: they work at different objects; one works at a new object; one leaves the other's object as it is; a temporary holds nothing ahead of the region -/
inductive Chk where
  | apart (a b : Ft)
  | new (a : Ft)
  | still (a : Ft) (e : Nat)
  | unset (t : Nat)
  deriving Inhabited

structure AOper where
  dst : Option Nat
  op : AOp
  guard : Option (Nat × Bool)
  deriving Inhabited

inductive AObj where
  | cells (cs : List AV) (g : Nat)
  | mapo (es : List (AV × AV))
  | siter (s : List UInt8) (pos : Nat)   -- a text's iterator
  | pend                                 -- a place kept for an object that is not there yet
  | dead                                 -- an object that is never looked at any more
  | loopo (ts : List Nat) (cs : List AV) (ps : List Nat) (aops bops : List AOper) (busy : Bool)   -- the record of a range over a function: what the body finds in its temporaries, its parameters, its operations; is it under way?
  | defo                                 -- the block for calls that are deferred within a range over a function
  deriving Inhabited

/-- the abstract heap, the tokens' versions; what is known of objects' types: an object, its age, its row's elements; the tables -/
structure Sg where
  heap : List AObj
  toks : List Nat
  ty : List (Nat × Nat × Nat) := []
  gl : List (Nat × AV) := []
  deriving Inhabited

/-- objects from w on may be written, tokens from t on may be used; into objects ahead of each of es nothing newer than that may be stored;
    of a region whose order is drawn: how many objects and tokens there were ahead of it, and how many of these a call sees that comes in any order -/
structure Bar where
  w : Nat
  t : Nat
  es : List Nat
  n0 : Nat := 0
  t0 : Nat := 0
  c0 : Nat := 0
  deriving Inhabited

inductive ACode where
  | skip
  | region (ops : List AOper) (outs : List Nat)
  | drawn (ops : List AOper) (outs : List Nat) (pairs : List Chk) (iso : Bool) (slots : Nat)
  | drawnW (ops : List AOper) (outs : List Nat) (pairs : List Chk) (slots : Nat)
  | seq (a b : ACode)
  | cond (c : AOpd) (a b : ACode)
  | block (id : Nat) (c : ACode)
  | loop (c : ACode)
  | rangeF (x : AOpd) (g : FuncId) (ts ps : List Nat) (aops bops : List AOper)
  | exit (id : Nat)
  | ret
  | bad
  deriving Inhabited

/-- how a call is done: with all that there is as it is; without a change to what there is; with changes alone to what there is -/
inductive CallMode where
  | raw | pure | eff
  deriving Inhabited, DecidableEq

/-- where a result lies: a temporary, or a cell of a kind behind one; of a slice the kind of its elements -/
structure ARes where
  t : Nat
  cell : Option (Option Nat)
  el : Option (Option Nat)
  nk : Bool      -- does it stay nil, if it is nil?
  deriving Inhabited

structure AFunc where
  mode : CallMode
  keep : Bool            -- arguments keep their tokens
  slots : List Nat       -- the temporaries that live beyond a region
  results : List ARes
  dfr : Bool             -- may it be a deferred call?
  code : ACode
  deriving Inhabited

abbrev Env := List (Nat × AV)

def Env.get : Env → Nat → AV
  | [], _ => .undef
  | (u, v) :: r, t => if Nat.beq u t then v else Env.get r t

def Env.put : Env → Nat → AV → Env
  | [], t, x => [(t, x)]
  | (u, v) :: r, t, x => if Nat.beq u t then (u, x) :: r else (u, v) :: Env.put r t x

/-- a temporary of the region, else one that lives on -/
def Env.look : Env → Env → Nat → AV
  | [], pers, t => Env.get pers t
  | (u, v) :: r, pers, t => if Nat.beq u t then v else Env.look r pers t

def AV.def? : AV → Option AV
  | .undef => none
  | v => some v

def AOpd.ev (loc pers : Env) : AOpd → Option AV
  | .tmp t => (Env.look loc pers t).def?
  | .const v => some v

def evAll (loc pers : Env) : List AOpd → Option (List AV)
  | [] => some []
  | x :: r => (x.ev loc pers).bind fun v => (evAll loc pers r).bind fun l => some (v :: l)

-- ---------------------------------------------------------------- a value's make

def AV.str? : AV → Option (List UInt8) | .str s => some s | _ => none
def AV.bool? : AV → Option Bool | .bool b => some b | _ => none
def AV.agg? : AV → Option (List AV) | .agg cs => some cs | _ => none
def AV.tup? : AV → Option (List AV) | .tup cs => some cs | _ => none

mutual
/-- nothing of the abstract heap from i on is in a value, nor a token -/
def AV.old (i : Nat) : AV → Bool
  | .undef => false
  | .bool _ | .int .. | .flt .. | .cplx .. | .str _ | .nilptr | .nilsl | .nilmap | .nilfunc | .nilif => true
  | .ptr j _ _ | .ms j _ _ _ _ _ | .map j | .yield j => Nat.blt j i
  | .pin v => v.old i
  | .vec es tl => (match tl with | .tok .. => false | _ => true) && AV.oldAll i es
  | .func _ a b => AV.oldAll i a && AV.oldAll i b
  | .iface _ v => v.old i
  | .agg cs => AV.oldAll i cs
  | .tup cs => AV.oldAll i cs
def AV.oldAll (i : Nat) : List AV → Bool
  | [] => true
  | v :: r => v.old i && AV.oldAll i r
end

/-- a value that leaves where it was made: no token is left in it -/
def AV.weak : AV → AV
  | .vec es _ => .vec es .shut
  | .nilsl => .vec [] .shut
  | v => v

def AV.weakAll : List AV → List AV
  | [] => []
  | v :: r => v.weak :: AV.weakAll r

/-- what a value is stored as: no token is stored -/
def AV.kept : AV → AV
  | .vec es (.tok ..) => .vec es .shut
  | v => v

def keptAll : List AV → List AV
  | [] => []
  | v :: r => v.kept :: keptAll r

/-- the cells that a value is stored as; none: it may not be stored -/
def AV.stored (v : AV) : Option (List AV) :=
  if allOne (keptAll v.flat) then some (keptAll v.flat) else none

def limit : Nat := 2 ^ 46

def getCells (h : List AObj) (i g : Nat) : Option (List AV) :=
  match h[i]? with
  | some (.cells cs g') => if Nat.beq g g' then some cs else none
  | _ => none

def getMap (h : List AObj) (i : Nat) : Option (List (AV × AV)) :=
  match h[i]? with
  | some (.mapo es) => some es
  | _ => none

def getIter (h : List AObj) (i : Nat) : Option (List UInt8 × Nat) :=
  match h[i]? with
  | some (.siter l p) => some (l, p)
  | _ => none

/-- a part of cells, as a value -/
def partOf (cs : List AV) (off : Nat) : Option Nat → Option AV
  | none => cs[off]?
  | some n => if Nat.ble (off + n) cs.length then some (.agg ((cs.drop off).take n)) else none

def writeAt : List AV → Nat → List AV → Option (List AV)
  | cs, 0, [] => some cs
  | [], 0, _ :: _ => none
  | _ :: r, 0, x :: xs => (writeAt r 0 xs).bind fun l => some (x :: l)
  | [], _ + 1, _ => none
  | c :: r, n + 1, xs => (writeAt r n xs).bind fun l => some (c :: l)

def setAt {α : Type} : List α → Nat → α → List α
  | [], _, _ => []
  | _ :: r, 0, o => o :: r
  | c :: r, n + 1, o => c :: setAt r n o

/-- cells as elements of a kind -/
def chunk : (n : Nat) → Option Nat → List AV → Option (List AV)
  | 0, _, _ => some []
  | n + 1, none, c :: r => (chunk n none r).bind fun l => some (c :: l)
  | _ + 1, none, [] => none
  | n + 1, some sz, cs => if Nat.ble sz cs.length then (chunk n (some sz) (cs.drop sz)).bind fun l => some (.agg (cs.take sz) :: l) else none

def byteCells (s : List UInt8) : List AV := s.map fun b => .int .u8 b.toNat

/-- a slice's elements: bytes of a text, too -/
def elemsOf (h : List AObj) (ag : Option Nat) : AV → Option (List AV)
  | .nilsl => some []
  | .vec es _ => some es
  | .str s => some (byteCells s)
  | .ms i g off len _ sz => if Nat.beq sz (ag.getD 1) then (getCells h i g).bind fun cs => chunk len ag (cs.drop off) else none
  | _ => none

def allSize (sz : Nat) : List AV → Bool
  | [] => true
  | v :: r => Nat.beq v.flat.length sz && allSize sz r

/-- elements whose cells may all be stored -/
def allOneAll : List AV → Bool
  | [] => true
  | v :: r => allOne v.flat && allOneAll r

def flatAll : List AV → List AV
  | [] => []
  | v :: r => v.flat ++ flatAll r

def goInt (n : Nat) : AV := .int .i64 n

-- ---------------------------------------------------------------- operators

def intBin (op : BinOp) (k : IntKind) (a b : Int) : Option AV :=
  match op with
  | .add => some (.int k (k.wrap (a + b)))
  | .sub => some (.int k (k.wrap (a - b)))
  | .mul => some (.int k (k.wrap (a * b)))
  | .quo => if b = 0 then none else some (.int k (k.wrap (a.tdiv b)))
  | .rem => if b = 0 then none else some (.int k (a.tmod b))
  | .and => some (.int k (k.wrap (BitVec.ofInt k.bits a &&& BitVec.ofInt k.bits b).toNat))
  | .or => some (.int k (k.wrap (BitVec.ofInt k.bits a ||| BitVec.ofInt k.bits b).toNat))
  | .xor => some (.int k (k.wrap (BitVec.ofInt k.bits a ^^^ BitVec.ofInt k.bits b).toNat))
  | .andNot => some (.int k (k.wrap (BitVec.ofInt k.bits a &&& ~~~BitVec.ofInt k.bits b).toNat))
  | .eql => some (.bool (a == b))
  | .neq => some (.bool (a != b))
  | .lss => some (.bool (decide (a < b)))
  | .leq => some (.bool (decide (a ≤ b)))
  | .gtr => some (.bool (decide (a > b)))
  | .geq => some (.bool (decide (a ≥ b)))
  | _ => none

def shiftBin (op : BinOp) (k : IntKind) (a b : Int) : Option AV :=
  if b < 0 then none else
  match op with
  | .shl => some (.int k (k.wrap (a * 2 ^ (min b.toNat k.bits))))
  | .shr => some (.int k (a.fdiv (2 ^ (min b.toNat k.bits))))
  | _ => none

def strBin (op : BinOp) (a b : List UInt8) : Option AV :=
  match op with
  | .add => if a.length + b.length ≤ 2 ^ 62 then some (.str (a ++ b)) else none
  | .eql => some (.bool (a == b))
  | .neq => some (.bool (!(a == b)))
  | .lss => some (.bool (Op.bytesLess a b))
  | .leq => some (.bool (Op.bytesLess a b || a == b))
  | .gtr => some (.bool (!(Op.bytesLess a b || a == b)))
  | .geq => some (.bool (!(Op.bytesLess a b)))
  | _ => none

def fltBin (op : BinOp) (k : FloatKind) (a b : Nat) : Option AV :=
  match op with
  | .add => (k.format.add a b).map (.flt k)
  | .sub => (k.format.sub a b).map (.flt k)
  | .mul => (k.format.mul a b).map (.flt k)
  | .quo => (k.format.div a b).map (.flt k)
  | .eql => some (.bool (k.format.order a b == some .eq))
  | .neq => some (.bool (k.format.order a b != some .eq))
  | .lss => some (.bool (k.format.order a b == some .lt))
  | .leq => some (.bool (k.format.order a b == some .lt || k.format.order a b == some .eq))
  | .gtr => some (.bool (k.format.order a b == some .gt))
  | .geq => some (.bool (k.format.order a b == some .gt || k.format.order a b == some .eq))
  | _ => none

def cplxBin (op : BinOp) (k : FloatKind) (a b c d : Nat) : Option AV :=
  match op with
  | .add => (k.format.add a c).bind fun x => (k.format.add b d).map fun y => .cplx k x y
  | .sub => (k.format.sub a c).bind fun x => (k.format.sub b d).map fun y => .cplx k x y
  | .eql => some (.bool (k.format.order a c == some .eq && k.format.order b d == some .eq))
  | .neq => some (.bool (!(k.format.order a c == some .eq && k.format.order b d == some .eq)))
  | _ => none

def evBin (op : BinOp) (x y : AV) : Option AV :=
  match x, y with
  | .int k a, .int k' b => match op with
    | .shl => shiftBin .shl k a b
    | .shr => shiftBin .shr k a b
    | op => if k = k' then intBin op k a b else none
  | .str a, .str b => strBin op a b
  | .flt k a, .flt k' b => if k = k' then fltBin op k a b else none
  | .cplx k a b, .cplx k' c d => if k = k' then cplxBin op k a b c d else none
  | _, _ => none

def evUn (op : UnOp) : AV → Option AV
  | .int k n => match op with
    | .neg => intBin .sub k 0 n
    | .xor => intBin .xor k (if k.signed then -1 else k.max) n
    | _ => none
  | .bool b => match op with | .not => some (.bool (!b)) | _ => none
  | _ => none

/-- are cells of numbers (0), texts (1) and bools (2) the same? -/
def eqCells : List Nat → List AV → List AV → Option Bool
  | [], [], [] => some true
  | 0 :: q, .int k a :: r, .int k' b :: s => if k = k' then (eqCells q r s).map fun e => (a == b) && e else none
  | 1 :: q, .str a :: r, .str b :: s => (eqCells q r s).map fun e => (a == b) && e
  | 2 :: q, .bool a :: r, .bool b :: s => (eqCells q r s).map fun e => (a == b) && e
  | _, _, _ => none

/-- is a value of a kind (pointer, slice, map, function, interface) nil? -/
def isNil : Nat → AV → Option Bool
  | 0, .nilptr | 1, .nilsl | 2, .nilmap | 3, .nilfunc | 4, .nilif => some true
  | 0, .ptr .. | 0, .pin _ | 2, .map _ | 3, .func .. | 4, .iface .. | 1, .ms .. => some false
  | 1, .vec (_ :: _) _ => some false
  | _, _ => none

def bytesOf : List AV → Option (List UInt8)
  | [] => some []
  | .int .u8 n :: r => (bytesOf r).bind fun l => some (UInt8.ofNat n.toNat :: l)
  | _ => none

def evConv : ConvK → AV → Option AV
  | .intInt k, .int _ n => some (.int k (k.wrap n))
  | .intFlt k, .int _ n => some (.flt k (k.nearest n))
  | .fltInt k, .flt s b => ((s.decode b).toInt .zero).bind fun n => if k.min ≤ n ∧ n ≤ k.max then some (.int k n) else none
  | .same, .str s => some (.str s)
  | .ownBytes, .vec es (.exact true) => some (.vec es (.exact false))
  | .strBytes, .str s => some (.vec (byteCells s) .shut)
  | .bytesStr, .nilsl => some (.str [])
  | .bytesStr, .vec es _ => (bytesOf es).map .str
  | .intStr, .int _ n => some (.str (Utf8.encode n).data.toList)
  | _, _ => none

/-- a conversion that may look at a slice's cells -/
def evConvH (h : List AObj) : ConvK → AV → Option AV
  | .bytesStr, .ms i g off len cp sz => ((elemsOf h none (.ms i g off len cp sz)).bind bytesOf).map .str
  | k, u => evConv k u

/-- an index that is within a length -/
def idx (i : AV) (n : Nat) : Option Nat :=
  match i with
  | .int _ k => if 0 ≤ k ∧ k < n then some k.toNat else none
  | _ => none

/-- a bound that is at most a length -/
def bnd (i : Option AV) (dflt n : Nat) : Option Nat :=
  match i with
  | none => some dflt
  | some (.int _ k) => if 0 ≤ k ∧ k ≤ n then some k.toNat else none
  | some _ => none

/-- an operand that may be left away -/
def evOpt (loc pers : Env) : Option AOpd → Option (Option AV)
  | none => some none
  | some x => (x.ev loc pers).map some

def cutTail (n l h : Nat) (mx : Bool) (tl : Tail) : Tail :=
  if Nat.beq l h then (match tl with | .exact _ => if Nat.beq h n then .exact false else .shut | _ => .shut)
  else if mx then .exact false
  else if Nat.beq h n then (match tl with | .exact _ => .exact false | tl => tl) else .shut

def minmaxGo (isMax : Bool) (k : IntKind) : Int → List AV → Option AV
  | x, [] => some (.int k x)
  | x, .int k' y :: r => if k = k' then minmaxGo isMax k (if isMax then (if y > x then y else x) else (if y < x then y else x)) r else none
  | _, _ => none

def fltMM (isMax : Bool) (k : FloatKind) (a b : Nat) : Option Nat :=
  match k.format.order a b with
  | none => none
  | some .lt => some (if isMax then b else a)
  | some .gt => some (if isMax then a else b)
  | some .eq => some (if isMax then (if (k.decode a).neg then b else a) else (if (k.decode a).neg then a else b))

def minmaxFlt (isMax : Bool) (k : FloatKind) : Nat → List AV → Option AV
  | x, [] => some (.flt k x)
  | x, .flt k' y :: r => if k = k' then (fltMM isMax k x y).bind fun z => minmaxFlt isMax k z r else none
  | _, _ => none

def minmax (isMax : Bool) : List AV → Option AV
  | .int k x :: r => minmaxGo isMax k x r
  | .flt k x :: r => minmaxFlt isMax k x r
  | _ => none

/-- texts and numbers as keys -/
def keyEq : AV → AV → Option Bool
  | .int k a, .int k' b => if k = k' then some (a == b) else none
  | .str a, .str b => some (a == b)
  | _, _ => none

/-- is a value a key of a kind? -/
def AV.isKey (v : AV) (str : Bool) : Bool :=
  match v with
  | .int .. => !str
  | .str _ => str
  | _ => false

/-- what a look-up comes to -/
def lookV (ok : Bool) (z : AV) : Option AV → AV
  | some v => if ok then .tup [v, .bool true] else v
  | none => if ok then .tup [z, .bool false] else z

/-- a map's entries -/
def mapOf (h : List AObj) : AV → Option (List (AV × AV))
  | .nilmap => some []
  | .map i => getMap h i
  | _ => none

def mapFind (k : AV) : List (AV × AV) → Option (Option AV)
  | [] => some none
  | (k', v) :: r => (keyEq k k').bind fun e => if e then some (some v) else mapFind k r

def mapSet (k x : AV) : List (AV × AV) → Option (List (AV × AV))
  | [] => some [(k, x)]
  | (k', v) :: r => (keyEq k k').bind fun e => if e then some ((k', x) :: r) else (mapSet k x r).bind fun l => some ((k', v) :: l)

/-- may cells be stored into an object? -/
def letsAll (i : Nat) (xs : List AV) : List Nat → Bool
  | [] => true
  | e :: r => (!(Nat.blt i e) || AV.oldAll e xs) && letsAll i xs r

def Bar.lets (b : Bar) (i : Nat) (xs : List AV) : Bool := !(Nat.blt i b.w) && letsAll i xs b.es

def fillParts (loc pers : Env) : List (Nat × Nat × AOpd) → List AV → Option (List AV)
  | [], cs => some cs
  | (off, n, x) :: r, cs => (x.ev loc pers).bind fun v => v.stored.bind fun l =>
    if Nat.beq l.length n then (writeAt cs off l).bind fun cs' => fillParts loc pers r cs' else none

def setEl : List AV → Nat → AV → Option (List AV)
  | [], _, _ => none
  | _ :: r, 0, x => some (x :: r)
  | c :: r, n + 1, x => (setEl r n x).bind fun l => some (c :: l)

/-- an element as it is stored -/
def AV.storedEl (v : AV) : Option AV :=
  match v with
  | .agg _ => v.stored.map .agg
  | v => v.stored.bind fun _ => some v.kept

def fillEls (loc pers : Env) (sz : Nat) : List (Nat × AOpd) → List AV → Option (List AV)
  | [], cs => some cs
  | (i, x) :: r, cs => (x.ev loc pers).bind fun v => v.storedEl.bind fun u =>
    if Nat.beq u.flat.length sz then (setEl cs i u).bind fun cs' => fillEls loc pers sz r cs' else none

def negIf (neg e : Bool) : Bool := if neg then !e else e

/-- are two pointers the same? Of objects that are not the same nothing is said -/
def ptrEq (h : List AObj) : AV → AV → Option Bool
  | .nilptr, .nilptr => some true
  | .nilptr, .ptr .. | .ptr .., .nilptr => some false
  | .ptr i g o, .ptr j g' o' => if Nat.beq i j && Nat.beq g g' then (getCells h i g).map fun _ => Nat.beq o o' else none
  | _, _ => none

def glFind (g : Nat) : List (Nat × AV) → Option AV
  | [] => none
  | (k, v) :: r => if Nat.beq k g then some v else glFind g r

def evV (loc pers : Env) (s : Sg) : VOp → Option AV
  | .move x => x.ev loc pers
  | .pick c x y => (c.ev loc pers).bind fun c => c.bool?.bind fun t => if t then x.ev loc pers else y.ev loc pers
  | .build z parts => (fillParts loc pers parts z).map .agg
  | .buildSl sz z len parts => (fillEls loc pers sz parts (List.replicate len z)).map fun es => .vec es (.exact true)
  | .load ag a => (a.ev loc pers).bind fun a => match a with
    | .ptr i g off => (getCells s.heap i g).bind fun cs => partOf cs off ag
    | .pin v => match ag with
      | none => if v.one then some v else none
      | some n => v.agg?.bind fun cs => if Nat.beq cs.length n then some v else none
    | _ => none
  | .nilCheck x => (x.ev loc pers).bind fun x => match x with
    | .ptr .. | .pin _ | .func .. => some x
    | _ => none
  | .bin op x y => (x.ev loc pers).bind fun u => (y.ev loc pers).bind fun v => evBin op u v
  | .eqBool neg x y => (x.ev loc pers).bind fun u => u.bool?.bind fun a => (y.ev loc pers).bind fun v => v.bool?.map fun b => .bool (negIf neg (a == b))
  | .eqAgg neg ks x y => (x.ev loc pers).bind fun u => u.agg?.bind fun cs => (y.ev loc pers).bind fun v => v.agg?.bind fun ds => (eqCells ks cs ds).map fun e => .bool (negIf neg e)
  | .eqNil neg k x => (x.ev loc pers).bind fun u => (isNil k u).map fun e => .bool (negIf neg e)
  | .un op x => (x.ev loc pers).bind fun u => evUn op u
  | .conv k x => (x.ev loc pers).bind fun u => evConvH s.heap k u
  | .field off ag x => (x.ev loc pers).bind fun u => u.agg?.bind fun cs => partOf cs off ag
  | .fieldAddr off ag x => (x.ev loc pers).bind fun u => match u with
    | .ptr i g o => some (.ptr i g (o + off))
    | .pin v => v.agg?.bind fun cs => (partOf cs off ag).map .pin
    | _ => none
  | .indexAddrS ag x i => (x.ev loc pers).bind fun u => (i.ev loc pers).bind fun k => match u with
    | .vec es _ => (idx k es.length).bind fun j => (es[j]?).bind fun v => if Nat.beq v.flat.length (ag.getD 1) then some (.pin v) else none
    | .ms h g off len _ sz => if Nat.beq sz (ag.getD 1) then (idx k len).bind fun j => (getCells s.heap h g).bind fun _ => some (.ptr h g (off + j * sz)) else none
    | _ => none
  | .indexAddrA len ag x i => (x.ev loc pers).bind fun u => (i.ev loc pers).bind fun k => (idx k len).bind fun j => match u with
    | .ptr h g off => some (.ptr h g (off + j * ag.getD 1))
    | .pin v => v.agg?.bind fun cs => (partOf cs (j * ag.getD 1) ag).map .pin
    | _ => none
  | .indexA len ag x i => (x.ev loc pers).bind fun u => u.agg?.bind fun cs => (i.ev loc pers).bind fun k => (idx k len).bind fun j => partOf cs (j * ag.getD 1) ag
  | .indexS x i => (x.ev loc pers).bind fun u => u.str?.bind fun l => (i.ev loc pers).bind fun k => (idx k l.length).bind fun j => (l[j]?).map fun c => .int .u8 c.toNat
  | .sliceS x lo hi => (x.ev loc pers).bind fun u => u.str?.bind fun l => (evOpt loc pers lo).bind fun a => (evOpt loc pers hi).bind fun c =>
    (bnd c l.length l.length).bind fun h => (bnd a 0 h).map fun k => .str ((l.drop k).take (h - k))
  | .slice sz x lo hi mx => (x.ev loc pers).bind fun u => (evOpt loc pers lo).bind fun a => (evOpt loc pers hi).bind fun c => (evOpt loc pers mx).bind fun m => match u with
    | .vec es tl => (bnd c es.length es.length).bind fun h => (bnd a 0 h).bind fun k => (bnd m h h).bind fun q =>
      if Nat.beq q h && (Nat.beq k 0 || allSize sz (es.take 1)) then some (.vec ((es.drop k).take (h - k)) (cutTail es.length k h m.isSome tl)) else none
    | .nilsl => if m.isSome then none else (bnd c 0 0).bind fun _ => (bnd a 0 0).map fun _ => .nilsl
    | .ms i g off len cp z => if !(Nat.beq z sz) then none else (bnd c len len).bind fun h => (bnd a 0 h).bind fun k =>
      if m.isSome then (bnd m h h).bind fun q => if Nat.beq q h && Nat.beq k h then some (.vec [] (.exact false)) else none
      else if Nat.ble cp k then none else some (.ms i g (off + k * sz) (h - k) (cp - k) sz)
    | _ => none
  | .sliceA len sz x lo hi => (x.ev loc pers).bind fun u => (evOpt loc pers lo).bind fun a => (evOpt loc pers hi).bind fun c => match u with
    | .ptr i g off => (getCells s.heap i g).bind fun cs => (bnd c len len).bind fun h => (bnd a 0 h).bind fun k => if Nat.ble len k || !(Nat.ble (off + len * sz) cs.length) then none else some (.ms i g (off + k * sz) (h - k) (len - k) sz)
    | _ => none
  | .extract x i => (x.ev loc pers).bind fun u => u.tup?.bind fun vs => vs[i]?
  | .len k x => (x.ev loc pers).bind fun u => match k, u with
    | 1, .nilsl | 2, .nilmap | 3, .nilsl => some (goInt 0)
    | 1, .vec es _ => some (goInt es.length)
    | 1, .ms _ _ _ n _ _ => some (goInt n)
    | 0, .str l => some (goInt l.length)
    | _, _ => none
  | .constInt n => some (goInt n)
  | .mm mx xs => (evAll loc pers xs).bind fun l => minmax mx l
  | .part im x => (x.ev loc pers).bind fun u => match u with | .cplx q a c => some (.flt q (if im then c else a)) | _ => none
  | .cplx x y => (x.ev loc pers).bind fun u => (y.ev loc pers).bind fun v => match u, v with
    | .flt k a, .flt k' c => if k = k' then some (.cplx k a c) else none
    | _, _ => none
  | .mkIface t x => (x.ev loc pers).bind fun v => v.storedEl.map fun u => .iface t u
  | .tassert t ok z x => (x.ev loc pers).bind fun u => match u with
    | .nilif => if ok then some (.tup [z, .bool false]) else none
    | .iface t' v => if Nat.beq t' t then some (if ok then .tup [v, .bool true] else v) else if ok then some (.tup [z, .bool false]) else none
    | _ => none
  | .mkFunc f first captured => (evAll loc pers first).bind fun a => (evAll loc pers captured).bind fun c =>
    if allOne (keptAll a) && allOne (keptAll c) then some (.func f (keptAll a) (keptAll c)) else none
  | .lookup str ok z m k => (m.ev loc pers).bind fun u => (k.ev loc pers).bind fun q => (mapOf s.heap u).bind fun es => if q.isKey str then (mapFind q es).map fun r => lookV ok z r else none
  | .eqPtr neg x y => (x.ev loc pers).bind fun u => (y.ev loc pers).bind fun v => (ptrEq s.heap u v).map fun e => .bool (negIf neg e)
  | .globAt g len ag i => (i.ev loc pers).bind fun k => (idx k len).bind fun j => (glFind g s.gl).bind fun v => v.agg?.bind fun cs => (partOf cs (j * ag.getD 1) ag).map .pin

def Sg.push (s : Sg) (o : AObj) : Sg := { s with heap := s.heap ++ [o] }

/-- an append's slice, behind it -/
def evAppend (b : Bar) (s : Sg) (mu : Bool) (ag : Option Nat) (bytes : Nat) (v : AV) (ys : List AV) : Option (AV × Sg) :=
  match v with
  | .nilsl => match ys with
    | [] => some (.nilsl, s)
    | _ => if Nat.ble (ys.length * bytes) limit then
        some (if mu then (.ms s.heap.length 0 0 ys.length ys.length (ag.getD 1), s.push (.cells (flatAll ys) 0)) else (.vec ys (.tok s.toks.length 0), { s with toks := s.toks ++ [0] })) else none
  | .vec es tl => match ys with
    | [] => some (.vec es tl, s)
    | _ => if Nat.ble ((es.length + ys.length) * bytes) limit && allSize (ag.getD 1) es then (match tl with
      | .exact _ => some (if mu then (.ms s.heap.length 0 0 (es.length + ys.length) (es.length + ys.length) (ag.getD 1), s.push (.cells (flatAll (es ++ ys)) 0)) else (.vec (es ++ ys) (.tok s.toks.length 0), { s with toks := s.toks ++ [0] }))
      | .tok t n => if !(Nat.blt t b.t) then (s.toks[t]?).bind fun n' => if Nat.beq n n' then some (.vec (es ++ ys) (.tok t (n + 1)), { s with toks := setAt s.toks t (n + 1) }) else none else none
      | .shut => none) else none
  | .ms i g off len cp sz => if Nat.ble ((len + ys.length) * bytes) limit && Nat.beq sz (ag.getD 1) && b.lets i (flatAll ys) then (getCells s.heap i g).bind fun cs =>
      if Nat.beq off 0 && Nat.beq (len * sz) cs.length then some (.ms i (g + 1) 0 (len + ys.length) (len + ys.length) sz, { s with heap := setAt s.heap i (.cells (cs ++ flatAll ys) (g + 1)) })
      else if Nat.ble (len + ys.length) cp then (writeAt cs (off + len * sz) (flatAll ys)).map fun cs' => (.ms i g off (len + ys.length) cp sz, { s with heap := setAt s.heap i (.cells cs' g) }) else none
      else none
  | _ => none

def evE (b : Bar) (loc pers : Env) (s : Sg) : EOp → Option (AV × Sg)
  | .alloc z => some (.ptr s.heap.length 0 0, s.push (.cells z 0))
  | .box x => (x.ev loc pers).bind fun v => v.stored.map fun l => (.ptr s.heap.length 0 0, s.push (.cells l 0))
  | .buildMs sz z len parts => (fillEls loc pers sz parts (List.replicate len z)).map fun es => (.ms s.heap.length 0 0 len len sz, s.push (.cells (flatAll es) 0))
  | .store n a x => (a.ev loc pers).bind fun a => (x.ev loc pers).bind fun v => match a with
    | .ptr i g off => v.stored.bind fun l => (getCells s.heap i g).bind fun cs =>
      if Nat.beq l.length n && b.lets i l then (writeAt cs off l).map fun cs' => (.tup [], { s with heap := setAt s.heap i (.cells cs' g) }) else none
    | _ => none
  | .append mu ag bytes x y => (x.ev loc pers).bind fun v => (y.ev loc pers).bind fun u => (elemsOf s.heap ag u).bind fun ys =>
    if allSize (ag.getD 1) ys && allOneAll ys then evAppend b s mu ag bytes v ys else none
  | .makeMap => some (.map s.heap.length, s.push (.mapo []))
  | .mapPut str m k x => (m.ev loc pers).bind fun u => (k.ev loc pers).bind fun q => (x.ev loc pers).bind fun v => match u with
    | .map i => (getMap s.heap i).bind fun es => v.storedEl.bind fun y => if q.isKey str && b.lets i (q :: y.flat) then (mapSet q y es).map fun es' => (.tup [], { s with heap := setAt s.heap i (.mapo es') }) else none
    | _ => none
  | .makeSl mu bytes z l c => (l.ev loc pers).bind fun u => (c.ev loc pers).bind fun v => match u, v with
    | .int _ n, .int _ m => if n < 0 ∨ m < n then none else
      if Nat.ble (m.toNat * bytes) limit then (if mu then some (.ms s.heap.length 0 0 n.toNat m.toNat z.flat.length, s.push (.cells (flatAll (List.replicate m.toNat z)) 0))
        else if n = m then some (.vec (List.replicate n.toNat z) (.exact true), s) else none) else none
    | _, _ => none
  | .copy .. => none
  | .rangeS x => (x.ev loc pers).bind fun u => u.str?.map fun l => (.ptr s.heap.length 0 0, s.push (.siter l 0))
  | .nextS x => (x.ev loc pers).bind fun u => match u with
    | .ptr i g off => if Nat.beq g 0 && Nat.beq off 0 then (getIter s.heap i).bind fun q =>
        if q.2 < q.1.length then (if Nat.blt i b.w then none else
          some (.tup [.bool true, goInt q.2, .int .i32 (Utf8.decode ⟨q.1.toArray⟩ q.2).1], { s with heap := setAt s.heap i (.siter q.1 (q.2 + (Utf8.decode ⟨q.1.toArray⟩ q.2).2)) }))
        else some (.tup [.bool false], s) else none
    | _ => none
  | .clear z x => (x.ev loc pers).bind fun u => match u with
    | .nilsl => some (.tup [], s)
    | .vec [] _ => some (.tup [], s)
    | .ms i g off len _ sz => if Nat.beq sz z.flat.length && (!(Nat.beq len 0) && b.lets i (flatAll (List.replicate len z))) then (getCells s.heap i g).bind fun cs =>
        (writeAt cs off (flatAll (List.replicate len z))).map fun cs' => (.tup [], { s with heap := setAt s.heap i (.cells cs' g) }) else none
    | _ => none
  | .growz bytes z x y => (x.ev loc pers).bind fun u => (y.ev loc pers).bind fun v => match u, v with
    | .nilsl, .int _ n => if 0 < n ∧ Nat.ble (n.toNat * bytes) limit = true then some (.ms s.heap.length 0 0 n.toNat n.toNat z.flat.length, s.push (.cells (flatAll (List.replicate n.toNat z)) 0)) else none
    | _, _ => none

/-- an object's new name -/
def renum (n i : Nat) : AV → Option AV
  | .ptr j g o => if Nat.beq j n && (Nat.beq g 0 && Nat.beq o 0) then some (.ptr i 0 0) else none
  | .ms j g o len cp sz => if Nat.beq j n && (Nat.beq g 0 && Nat.beq o 0) then some (.ms i 0 0 len cp sz) else none
  | .map j => if Nat.beq j n then some (.map i) else none
  | _ => none

/-- is nothing of the abstract heap from e on in an object? -/
def AObj.old (e : Nat) : AObj → Bool
  | .cells cs _ => AV.oldAll e cs
  | .mapo es => es.all fun x => x.1.old e && x.2.old e
  | .siter _ _ => true
  | .pend => true
  | .dead => true
  | .loopo _ cs _ _ _ _ => AV.oldAll e cs
  | .defo => true

def AObj.isPend : AObj → Bool
  | .pend => true
  | _ => false

def allGe (i : Nat) : List Nat → Bool
  | [] => true
  | e :: r => Nat.ble e i && allGe i r

def heapRef : AV → Option Nat
  | .ptr i _ _ => some i
  | .ms i _ _ _ _ _ => some i
  | .map i => some i
  | _ => none

/-- of an append: no token is used, and what is added does not lie in the abstract heap -/
def plainApp (loc pers : Env) : EOp → Bool
  | .append _ _ _ x y => (match x.ev loc pers with | some (.vec _ (.tok ..)) => false | _ => true) && (match (y.ev loc pers).bind heapRef with | some _ => false | none => true)
  | _ => true

/-- an operation whose object, if it makes one, has a place already -/
def evF (b : Bar) (loc pers : Env) (s : Sg) (k : Nat) (p : EOp) : Option (AV × Sg) :=
  if !plainApp loc pers p then none else (evE b loc pers s p).bind fun x =>
    if Nat.beq x.2.heap.length s.heap.length then some x else
    (x.2.heap[s.heap.length]?).bind fun o => (s.heap[b.n0 + k]?).bind fun q =>
      if q.isPend && (!o.isPend && (o.old s.heap.length && (Nat.ble b.w (b.n0 + k) && allGe (b.n0 + k) b.es))) then
        (renum s.heap.length (b.n0 + k) x.1).map fun v => (v, { s with heap := setAt s.heap (b.n0 + k) o })
      else none

/-- what there was ahead of a region -/
def Sg.cut (s : Sg) (n t : Nat) : Sg := { heap := s.heap.take n, toks := s.toks.take t, gl := s.gl }

-- ---------------------------------------------------------------- the run

/-- how a call ends -/
inductive Out where
  | ret (v : AV)
  | panic (v : AV)
  deriving Inhabited

inductive Ex where
  | normal
  | exit (id : Nat)
  | ret
  | panic (v : AV)
  deriving Inhabited

/-- of a deferred call: the panic that it may recover, and whether it has -/
inductive Pan where
  | off
  | quiet
  | on (v : AV) (recovered : Bool)
  deriving Inhabited

/-- what a body bears with it: the temporaries that live on, the calls that are deferred, the panic that may be recovered -/
structure Fr where
  pers : Env
  defers : List (FuncId × List AV)
  pan : Pan
  deriving Inhabited

def Env.has : Env → Nat → Bool
  | [], _ => false
  | (u, _) :: r, t => Nat.beq u t || Env.has r t

def putOuts (loc : Env) : List Nat → Env → Env
  | [], pers => pers
  | t :: r, pers => putOuts loc r (if Env.has loc t then Env.put pers t (Env.get loc t) else pers)

/-- is an operation asked for? none: it can't be told -/
def wantedA (loc pers : Env) : Option (Nat × Bool) → Option Bool
  | none => some true
  | some (t, w) => match Env.look loc pers t with
    | .bool c => some (c == w)
    | .undef => none
    | _ => some false

def setLoc (loc : Env) (d : Option Nat) (v : AV) : Env :=
  match d with
  | some t => (t, v) :: loc
  | none => loc

/-- a range's record -/
def getLoopo (h : List AObj) (i : Nat) (bz : Bool) : Option (List Nat × List AV × List Nat × List AOper × List AOper) :=
  match h[i]? with
  | some (.loopo ts cs ps a c bz') => if bz == bz' then some (ts, cs, ps, a, c) else none
  | _ => none

/-- operations that only come to values or change the heap -/
def runPlain (b : Bar) : List AOper → Env → Sg → Option (Env × Sg)
  | [], loc, s => some (loc, s)
  | o :: r, loc, s => (wantedA loc [] o.guard).bind fun w =>
    if w then
      match o.op with
      | .v p => (evV loc [] s p).bind fun v => runPlain b r (setLoc loc o.dst v) s
      | .e p => (evE b loc [] s p).bind fun x => runPlain b r (setLoc loc o.dst x.1) x.2
      | _ => none
    else runPlain b r (setLoc loc o.dst (.tup [])) s

/-- what the body's temporaries hold at its beginning -/
def putParams (loc : Env) : List Nat → List AV → Option Env
  | [], [] => some loc
  | p :: ps, v :: vs => putParams ((p, v) :: loc) ps vs
  | _, _ => none

/-- a round of a range over a function -/
def roundA (b : Bar) (s : Sg) (i : Nat) (l : List AV) : Option Sg :=
  if Nat.blt i b.w then none else
  (getLoopo s.heap i false).bind fun q => (putParams (q.1.zip q.2.1) q.2.2.1 l).bind fun loc => (runPlain b q.2.2.2.1 loc s).bind fun x =>
    (getLoopo x.2.heap i false).bind fun q' => (runPlain b q.2.2.2.2 x.1 { x.2 with heap := setAt x.2.heap i (.loopo q'.1 q'.2.1 q'.2.2.1 q'.2.2.2.1 q'.2.2.2.2 true) }).bind fun y =>
      (getLoopo y.2.heap i true).map fun q2 => { y.2 with heap := setAt y.2.heap i (.loopo q2.1 q2.2.1 q2.2.2.1 q2.2.2.2.1 q2.2.2.2.2 false) }

abbrev CallFn := Bar → FuncId → List AV → Sg → Option (Out × Sg)
abbrev Ran := Option (Ex × Fr × Sg)

def AV.fn? : AV → List AV → Option (FuncId × List AV)
  | .func f first captured, l => some (f, first ++ l ++ captured)
  | _, _ => none

/-- the function of a type -/
def tblFind : List (TypeId × FuncId) → TypeId → Option FuncId
  | [], _ => none
  | (t, f) :: r, u => if Nat.beq t u then some f else tblFind r u

/-- of an interface value the method, and the receiver ahead of the arguments -/
def AV.meth? (tbl : List (TypeId × FuncId)) : AV → List AV → Option (FuncId × List AV)
  | .iface t v, l => (tblFind tbl t).map fun f => (f, v :: l)
  | _, _ => none

/-- a call's arguments: of a value that has to be a function, with what it bears -/
def fnArgs (loc pers : Env) (f : FuncId) (y : Option AOpd) (l : List AV) : Option (List AV) :=
  match y with
  | none => some l
  | some y => (y.ev loc pers).bind fun u => (u.fn? l).bind fun c => if Nat.beq c.1 f then some c.2 else none

def doRecover (fr : Fr) : Option (AV × Fr) :=
  match fr.pan with
  | .on v false => some (v, { fr with pan := .on v true })
  | .quiet => some (.nilif, fr)
  | _ => none

def AV.if? : AV → Option AV
  | .iface t v => some (.iface t v)
  | _ => none

/-- a call of a range's body -/
def roundOp (b : Bar) (fr : Fr) (loc : Env) (s : Sg) (y : AOpd) (args : List AOpd) : Option Sg :=
  match fr.pan with
  | .off => (y.ev loc fr.pers).bind fun u => (evAll loc fr.pers args).bind fun l => (match u with
    | .yield i => roundA b s i l
    | _ => none)
  | _ => none

/-- a region's operations, one behind the other -/
def runOps (call : CallFn) (b : Bar) : List AOper → Env → Fr → Sg → Option (Ex × Env × Fr × Sg)
  | [], loc, fr, s => some (.normal, loc, fr, s)
  | o :: r, loc, fr, s =>
    (wantedA loc fr.pers o.guard).bind fun w =>
    if w then
      match o.op with
      | .v p => (evV loc fr.pers s p).bind fun v => runOps call b r (setLoc loc o.dst v) fr s
      | .e p => (evE b loc fr.pers s p).bind fun x => runOps call b r (setLoc loc o.dst x.1) fr x.2
      | .call f args => (evAll loc fr.pers args).bind fun l => (call b f l s).bind fun x => match x.1 with
        | .ret v => runOps call b r (setLoc loc o.dst v) fr x.2
        | .panic v => some (.panic v, loc, fr, x.2)
      | .callv y args => (y.ev loc fr.pers).bind fun u => (evAll loc fr.pers args).bind fun l => (u.fn? l).bind fun c => (call b c.1 c.2 s).bind fun x => match x.1 with
        | .ret v => runOps call b r (setLoc loc o.dst v) fr x.2
        | .panic v => some (.panic v, loc, fr, x.2)
      | .fill k p => (evF b loc fr.pers s k p).bind fun x => runOps call b r (setLoc loc o.dst x.1) fr x.2
      | .calli f y args => (evAll loc fr.pers args).bind fun l => (fnArgs loc fr.pers f y l).bind fun l => if AV.oldAll b.c0 l then (call b f l (s.cut b.c0 b.t0)).bind fun x => match x.1 with
        | .ret v => runOps call b r (setLoc loc o.dst v) fr s
        | .panic _ => none else none
      | .callk f y args => (evAll loc fr.pers args).bind fun l => (fnArgs loc fr.pers f (some y) l).bind fun l => (call b f l s).bind fun x => match x.1 with
        | .ret v => runOps call b r (setLoc loc o.dst v) fr x.2
        | .panic v => some (.panic v, loc, fr, x.2)
      | .invk tbl y args => (y.ev loc fr.pers).bind fun u => (evAll loc fr.pers args).bind fun l => (u.meth? tbl l).bind fun c => (call b c.1 c.2 s).bind fun x => match x.1 with
        | .ret v => runOps call b r (setLoc loc o.dst v) fr x.2
        | .panic v => some (.panic v, loc, fr, x.2)
      | .yieldc y args => (roundOp b fr loc s y args).bind fun s' => runOps call b r (setLoc loc o.dst (.bool true)) fr s'
      | .panic x => (x.ev loc fr.pers).bind fun u => u.if?.bind fun v => some (.panic v, loc, fr, s)
      | .defer y args => (y.ev loc fr.pers).bind fun u => (evAll loc fr.pers args).bind fun l => (u.fn? l).bind fun c =>
        runOps call b r (setLoc loc o.dst (.tup [])) { fr with defers := c :: fr.defers } s
      | .recover => (doRecover fr).bind fun x => runOps call b r (setLoc loc o.dst x.1) x.2 s
      | .bad => none
    else runOps call b r (setLoc loc o.dst (.tup [])) fr s

/-- the object at which an operation works -/
def Ft.at (n0 : Nat) (loc pers : Env) (a : Ft) : Option Nat :=
  match ((a.x.bind fun x => x.ev loc pers).bind heapRef), a.k with
  | some i, _ => some i
  | none, some k => some (n0 + k)
  | none, none => none

def Chk.ok (n0 : Nat) (loc pers : Env) : Chk → Bool
  | .apart a b => (match a.at n0 loc pers, b.at n0 loc pers with | some i, some j => !(Nat.beq i j) | _, _ => true)
  | .new a => (match a.at n0 loc pers with | some i => Nat.ble n0 i | none => true)
  | .still _ _ => true
  | .unset t => (match Env.get pers t with | .undef => true | _ => false)

def pairsOk (n0 : Nat) (loc pers : Env) : List Chk → Bool
  | [] => true
  | c :: r => c.ok n0 loc pers && pairsOk n0 loc pers r

def Tail.same : Tail → Tail → Bool
  | .exact a, .exact b => a == b
  | .tok t n, .tok t' n' => Nat.beq t t' && Nat.beq n n'
  | .shut, .shut => true
  | _, _ => false

mutual
/-- values that are the same, by their text (of some kinds alone) -/
def AV.same : AV → AV → Bool
  | .bool a, w => (match w with | .bool b => a == b | _ => false)
  | .int k a, w => (match w with | .int k' b => k == k' && a == b | _ => false)
  | .cplx k a b, w => (match w with | .cplx k' c d => k == k' && (Nat.beq a c && Nat.beq b d) | _ => false)
  | .str a, w => (match w with | .str b => a == b | _ => false)
  | .nilptr, w => (match w with | .nilptr => true | _ => false)
  | .nilsl, w => (match w with | .nilsl => true | _ => false)
  | .nilmap, w => (match w with | .nilmap => true | _ => false)
  | .nilfunc, w => (match w with | .nilfunc => true | _ => false)
  | .nilif, w => (match w with | .nilif => true | _ => false)
  | .ptr i g o, w => (match w with | .ptr j g' o' => Nat.beq i j && (Nat.beq g g' && Nat.beq o o') | _ => false)
  | .ms i g o l c z, w => (match w with | .ms i' g' o' l' c' z' => Nat.beq i i' && (Nat.beq g g' && (Nat.beq o o' && (Nat.beq l l' && (Nat.beq c c' && Nat.beq z z')))) | _ => false)
  | .map i, w => (match w with | .map j => Nat.beq i j | _ => false)
  | .vec a t, w => (match w with | .vec b t' => t.same t' && sameAll a b | _ => false)
  | .agg a, w => (match w with | .agg b => sameAll a b | _ => false)
  | .pin a, w => (match w with | .pin b => AV.same a b | _ => false)
  | .iface t a, w => (match w with | .iface t' b => Nat.beq t t' && AV.same a b | _ => false)
  | .func f a c, w => (match w with | .func g b d => Nat.beq f g && (sameAll a b && sameAll c d) | _ => false)
  | _, _ => false
def sameAll : List AV → List AV → Bool
  | [], w => (match w with | [] => true | _ => false)
  | a :: r, w => (match w with | b :: s => AV.same a b && sameAll r s | _ => false)
end

def sameObj : Option AObj → Option AObj → Bool
  | some (.cells a g), some (.cells b g') => Nat.beq g g' && sameAll a b
  | _, _ => false

/-- objects that an operation has to leave as they are -/
def stillsOk (hs : Nat → Option (List AObj)) (n0 : Nat) (loc pers : Env) : List Chk → Bool
  | [] => true
  | .still a e :: r => (match a.at n0 loc pers with
      | some i => (match hs e, hs (e + 1) with | some h1, some h2 => sameObj h1[i]? h2[i]? | _, _ => false)
      | none => true) && stillsOk hs n0 loc pers r
  | _ :: r => stillsOk hs n0 loc pers r

def runRegion (call : CallFn) (b : Bar) (ops : List AOper) (outs : List Nat) (fr : Fr) (s : Sg) : Ran :=
  (runOps call b ops [] fr s).map fun x => (x.1, { x.2.2.1 with pers := putOuts x.2.1 outs x.2.2.1.pers }, x.2.2.2)

/-- places for objects of a region whose order is drawn -/
def Sg.keep (s : Sg) (k : Nat) : Sg := { s with heap := s.heap ++ List.replicate k .pend }

def Bar.drawn (b : Bar) (iso : Bool) (s : Sg) : Bar := { b with n0 := s.heap.length, t0 := s.toks.length, c0 := s.heap.length, es := if iso then s.heap.length :: b.es else b.es }

/-- calls that come in any order see what may not be written, alone -/
def Bar.drawnW (b : Bar) (s : Sg) : Bar := { b with n0 := s.heap.length, t0 := s.toks.length, c0 := b.w, es := b.w :: b.es }

/-- is nothing in objects that points beyond them? -/
def allOld (e : Nat) : List AObj → Bool
  | [] => true
  | o :: r => o.old e && allOld e r

/-- a region whose order is drawn: nothing in it may panic -/
def runDrawnB (call : CallFn) (bb : Bar) (ops : List AOper) (outs : List Nat) (pairs : List Chk) (slots : Nat) (fr : Fr) (s : Sg) : Ran :=
  (runOps call bb ops [] fr (s.keep slots)).bind fun x => match x.1 with
    | .normal => if pairsOk s.heap.length x.2.1 fr.pers pairs && stillsOk (fun e => (runOps call bb (ops.take e) [] fr (s.keep slots)).map fun y => y.2.2.2.heap) s.heap.length x.2.1 fr.pers pairs then some (.normal, { x.2.2.1 with pers := putOuts x.2.1 outs x.2.2.1.pers }, x.2.2.2) else none
    | _ => none

def runDrawn (call : CallFn) (b : Bar) (ops : List AOper) (outs : List Nat) (pairs : List Chk) (iso : Bool) (slots : Nat) (fr : Fr) (s : Sg) : Ran :=
  runDrawnB call (b.drawn iso s) ops outs pairs slots fr s

def runDrawnW (call : CallFn) (b : Bar) (ops : List AOper) (outs : List Nat) (pairs : List Chk) (slots : Nat) (fr : Fr) (s : Sg) : Ran :=
  if Nat.ble b.w s.heap.length && allOld b.w (s.heap.take b.w) then runDrawnB call (b.drawnW s) ops outs pairs slots fr s else none

/-- rounds of a loop, so many at most -/
def loopN : Nat → (Fr → Sg → Ran) → Fr → Sg → Ran
  | 0, _, _, _ => none
  | n + 1, f, fr, s => (f fr s).bind fun x => match x.1 with
    | .normal => loopN n f x.2.1 x.2.2
    | e => some (e, x.2.1, x.2.2)

/-- the mark among deferred calls -/
def markF : FuncId := 1000000000

/-- a range over a function -/
def runRangeF (call : CallFn) (b : Bar) (x : AOpd) (g : FuncId) (ts ps : List Nat) (aops bops : List AOper) (fr : Fr) (s : Sg) : Ran :=
  match fr.pan with
  | .off => (x.ev [] fr.pers).bind fun u => (evAll [] fr.pers (ts.map .tmp)).bind fun cs => if allOne (keptAll cs) && Nat.ble b.w s.heap.length then
      (u.fn? [.yield (s.heap.length + 1)]).bind fun c => if Nat.beq c.1 g then
        (call b g c.2 ((s.push .defo).push (.loopo ts (keptAll cs) ps aops bops false))).bind fun y => (match y.1 with
          | .ret _ => (getLoopo y.2.heap (s.heap.length + 1) false).map fun _ => (.normal, { fr with defers := (markF, [.undef, .ptr s.heap.length 0 0]) :: fr.defers }, { y.2 with heap := setAt y.2.heap (s.heap.length + 1) .dead })
          | .panic _ => none) else none
      else none
  | _ => none

def ACode.run (lp : (Fr → Sg → Ran) → Fr → Sg → Ran) (call : CallFn) (b : Bar) : ACode → Fr → Sg → Ran
  | .skip, fr, s => some (.normal, fr, s)
  | .region ops outs, fr, s => runRegion call b ops outs fr s
  | .drawn ops outs pairs iso slots, fr, s => runDrawn call b ops outs pairs iso slots fr s
  | .drawnW ops outs pairs slots, fr, s => runDrawnW call b ops outs pairs slots fr s
  | .seq x y, fr, s => (ACode.run lp call b x fr s).bind fun r => match r.1 with
    | .normal => ACode.run lp call b y r.2.1 r.2.2
    | e => some (e, r.2.1, r.2.2)
  | .cond c x y, fr, s => (c.ev [] fr.pers).bind fun v => v.bool?.bind fun t => if t then ACode.run lp call b x fr s else ACode.run lp call b y fr s
  | .block id x, fr, s => (ACode.run lp call b x fr s).bind fun r => match r.1 with
    | .exit j => some (if Nat.beq j id then .normal else .exit j, r.2.1, r.2.2)
    | e => some (e, r.2.1, r.2.2)
  | .loop x, fr, s => lp (fun fr s => ACode.run lp call b x fr s) fr s
  | .rangeF x g ts ps aops bops, fr, s => runRangeF call b x g ts ps aops bops fr s
  | .exit id, fr, s => some (.exit id, fr, s)
  | .ret, fr, s => some (.ret, fr, s)
  | .bad, _, _ => none

-- ---------------------------------------------------------------- calls

structure Tab where
  fn : FuncId → Option AFunc
  prim : FuncId → Option (List AV → Option AV)

def bindArgs (args : List AV) : List Nat → Env
  | [] => []
  | t :: r => (t, args.getD t .undef) :: bindArgs args r

/-- a function's results, of what its temporaries and the heap hold -/
def readRes (pers : Env) (s : Sg) : List ARes → Option (List AV)
  | [] => some []
  | a :: r => ((Env.get pers a.t).def?.bind fun v => match a.cell with
      | none => some v
      | some ag => match v with
        | .ptr i g off => (getCells s.heap i g).bind fun cs => partOf cs off ag
        | _ => none).bind fun v => (readRes pers s r).bind fun l => some (v :: l)

def oneRes : List AV → AV
  | [v] => v
  | l => .tup l

def Bar.into (b : Bar) (m : CallMode) (s : Sg) : Bar :=
  match m with
  | .raw => b
  | .pure => { w := s.heap.length, t := s.toks.length, es := [] }
  | .eff => { w := b.w, t := s.toks.length, es := s.heap.length :: b.es }

/-- values, each as a function says -/
def layAllBy (f : AV → Option AV) : List AV → Option (List AV)
  | [] => some []
  | v :: r => (f v).bind fun u => (layAllBy f r).map fun l => u :: l

/-- an element, or its cells -/
def layEl (f : AV → Option AV) : AV → Option AV
  | .agg cs => (layAllBy f cs).map .agg
  | v => f v

/-- a cell that leaves: slices of the call's own heap in it are laid down for good -/
def layV : Nat → List AObj → Nat → AV → Option AV
  | 0, _, _, _ => none
  | n + 1, h, b, v => if v.old b then some v else match v with
    | .ms i g off len _ sz => if Nat.blt i b then none else (getCells h i g).bind fun cs => (chunk len (if Nat.beq sz 1 then none else some sz) (cs.drop off)).bind fun es => (layAllBy (layEl (layV n h b)) es).map fun es => .vec es .shut
    | .vec es .shut => (layAllBy (layEl (layV n h b)) es).map fun es => .vec es .shut
    | .iface t v => (layEl (layV n h b) v).map (.iface t)
    | _ => none

/-- a result that leaves: a slice of the call's own heap is laid down for good, no token is left -/
def layOne (h : List AObj) (b : Nat) (k : Option (Option Nat)) : AV → Option AV
  | .ms i g off len cp sz => if Nat.blt i b then some (.ms i g off len cp sz) else k.bind fun ag => if Nat.beq sz (ag.getD 1) then (getCells h i g).bind fun cs => (chunk len ag (cs.drop off)).bind fun es =>
      (layAllBy (layEl (layV 16 h b)) es).map fun es => .vec es .shut else none
  | .agg cs => (layAllBy (layV 16 h b) cs).map .agg
  | v => layEl (layV 16 h b) v.weak

def AV.isNilsl : AV → Bool
  | .nilsl => true
  | _ => false

def layRes (h : List AObj) (b : Nat) (a : ARes) (v : AV) : Option AV := if a.nk && v.isNilsl then some .nilsl else layOne h b a.el v

def lay (h : List AObj) (b : Nat) : List AV → List ARes → Option (List AV)
  | v :: r, a :: ks => (layRes h b a v).bind fun u => (lay h b r ks).bind fun l => some (u :: l)
  | [], _ => some []
  | _, [] => none

/-- what a call leaves behind -/
def leave (m : CallMode) (s : Sg) (vs : List AV) (ks : List ARes) (s' : Sg) : Option (List AV × Sg) :=
  match m with
  | .raw => some (vs, s')
  | .pure => (lay s'.heap s.heap.length vs ks).bind fun l => if AV.oldAll s.heap.length l then some (l, s) else none
  | .eff => (lay s'.heap s.heap.length vs ks).bind fun l => if AV.oldAll s.heap.length l then some (l, { heap := s'.heap.take s.heap.length, toks := s.toks, ty := s.ty, gl := s.gl }) else none

def endRet (fn : AFunc) (s : Sg) (pers : Env) (s' : Sg) : Option (Out × Sg) :=
  (readRes pers s' fn.results).bind fun vs => (leave fn.mode s vs fn.results s').map fun x => (.ret (oneRes x.1), x.2)

def panRes : List ARes := [{ t := 0, cell := none, el := none, nk := false }]

def endPanic (fn : AFunc) (s : Sg) (v : AV) (s' : Sg) : Option (Out × Sg) :=
  (leave fn.mode s [v] panRes s').map fun x => (.panic (oneRes x.1), x.2)

abbrev DeferFn := Bar → FuncId → List AV → Option AV → Sg → Option (Option AV × Sg)

/-- the deferred calls of a body that has ended: 'u' is its panic, if any -/
def runDefers (callD : DeferFn) (b : Bar) : List (FuncId × List AV) → Option AV → Sg → Option (Option AV × Sg)
  | [], u, s => some (u, s)
  | c :: r, u, s => if Nat.beq c.1 markF then (match c.2 with
      | [.undef, .ptr i _ _] => (match s.heap[i]? with
        | some .defo => if Nat.blt i b.w then none else runDefers callD b r u { s with heap := setAt s.heap i .dead }
        | _ => none)
      | _ => none) else (callD b c.1 c.2 u s).bind fun x => runDefers callD b r x.1 x.2

/-- a body's end -/
def finish (callD : DeferFn) (b : Bar) (fn : AFunc) (s : Sg) (e : Ex) (fr : Fr) (s' : Sg) : Option (Out × Sg) :=
  match e with
  | .exit _ => none
  | .panic v => (runDefers callD b fr.defers (some v) s').bind fun x => (match x.1 with
      | none => endRet fn s fr.pers x.2
      | some u => endPanic fn s u x.2)
  | _ => (runDefers callD b fr.defers none s').bind fun x => (match x.1 with
      | none => endRet fn s fr.pers x.2
      | some _ => none)

def startFr (fn : AFunc) (args : List AV) (p : Pan) : Fr := { pers := bindArgs args fn.slots, defers := [], pan := p }

def panOf : Option AV → Pan
  | none => .quiet
  | some v => .on v false

/-- one call, by what runs loops and calls -/
def callStep (T : Tab) (lp : (Fr → Sg → Ran) → Fr → Sg → Ran) (call : CallFn) (callD : DeferFn) : CallFn := fun b f args s =>
  match T.prim f with
  | some p => (p args).bind fun v => if v.old s.heap.length then some (.ret v, s) else none
  | none => (T.fn f).bind fun fn =>
    (ACode.run lp call (b.into fn.mode s) fn.code (startFr fn (if fn.keep then args else AV.weakAll args) .off) s).bind fun x => finish callD (b.into fn.mode s) fn s x.1 x.2.1 x.2.2

def leftPan (fr : Fr) : Option AV := match fr.pan with | .on v false => some v | _ => none

/-- one deferred call: the panic that is left -/
def deferStep (T : Tab) (lp : (Fr → Sg → Ran) → Fr → Sg → Ran) (call : CallFn) : DeferFn := fun b f args u s =>
  (T.fn f).bind fun fn => if fn.dfr && fn.results.isEmpty then
    (ACode.run lp call b fn.code (startFr fn args (panOf u)) s).bind fun x => match x.1, x.2.1.defers with
      | .normal, [] | .ret, [] => some (leftPan x.2.1, x.2.2)
      | _, _ => none
  else none

def callF (T : Tab) : Nat → CallFn
  | 0 => fun _ _ _ _ => none
  | n + 1 => callStep T (loopN n) (callF T n) (deferStep T (loopN n) (callF T n))

end Go.Am

/-
  The abstract machine, second part: how a program's code becomes the machine's.
-/
namespace Go.Am

def ofScalar : Value → Option AV
  | .bool b => some (.bool b)
  | .int k n => some (.int k n)
  | .float k b => some (.flt k b)
  | .complex k a b => some (.cplx k a b)
  | .string s => some (.str s.data.toList)
  | .pointer none => some .nilptr
  | .slice none 0 0 => some .nilsl
  | .map none => some .nilmap
  | .nilFunc => some .nilfunc
  | .nilIface => some .nilif
  | _ => none

def ofScalars : List Value → Option (List AV)
  | [] => some []
  | v :: r => match ofScalar v with
    | some x => match ofScalars r with | some l => some (x :: l) | none => none
    | none => none

def ofConst : Value → Option AV
  | .agg cs => (ofScalars cs.toList).map .agg
  | v => ofScalar v

def tOpd : Operand → Option AOpd
  | .tmp t => some (.tmp t)
  | .const v => (ofConst v).map .const
  | .func f => some (.const (.func f [] []))
  | .global _ => none

def tOpds : List Operand → Option (List AOpd)
  | [] => some []
  | x :: r => match tOpd x with
    | some y => match tOpds r with | some l => some (y :: l) | none => none
    | none => none

/-- a type's kind: of one cell, or of so many -/
def kindOf (P : Program) (t : TypeId) : Option (Option Nat) :=
  match P.underlying t with
  | some (.struct _) | some (.array ..) => (P.info? t).map fun i => some i.size
  | some _ => some none
  | none => none

def sizeOfT (P : Program) (t : TypeId) : Option Nat := (P.info? t).map (·.size)

/-- a type's zero value, as cells -/
def zeroOf (P : Program) (t : TypeId) : Option (List AV) :=
  match (P.info? t).bind (·.zero) with
  | some v => ofScalars v.cells.toList
  | none => none

def zeroVal (P : Program) (t : TypeId) : Option AV :=
  match (P.info? t).bind (·.zero) with
  | some v => ofConst v
  | none => none

def tParts (P : Program) (fs : Array Field) : List (Nat × Operand) → Option (List (Nat × Nat × AOpd))
  | [] => some []
  | (i, x) :: r => match fs[i]?, tOpd x with
    | some f, some y => match sizeOfT P f.type, tParts P fs r with
      | some n, some l => some ((f.offset, n, y) :: l)
      | _, _ => none
    | _, _ => none

def tEls : List (Nat × Operand) → Option (List (Nat × AOpd))
  | [] => some []
  | (i, x) :: r => match tOpd x with
    | some y => match tEls r with | some l => some ((i, y) :: l) | none => none
    | none => none

def tElsA (sz : Nat) : List (Nat × Operand) → Option (List (Nat × Nat × AOpd))
  | [] => some []
  | (i, x) :: r => match tOpd x with
    | some y => match tElsA sz r with | some l => some ((i * sz, sz, y) :: l) | none => none
    | none => none

/-- fields of numbers, texts and bools, of one cell each, one behind the other -/
def plainKinds (P : Program) : Nat → List Field → Option (List Nat)
  | _, [] => some []
  | n, f :: r => if f.name = "_" || !(Nat.beq f.offset n) then none else
    (match P.underlying f.type with | some (.int _) => some 0 | some .string => some 1 | some .bool => some 2 | _ => none : Option Nat).bind fun k => (plainKinds P (n + 1) r).map (k :: ·)

def nilKind : TypeDesc → Option Nat
  | .pointer _ => some 0
  | .slice _ => some 1
  | .map .. => some 2
  | .func .. => some 3
  | .interface _ => some 4
  | _ => none

def isNilConst : Nat → Operand → Bool
  | 0, .const (.pointer none) | 1, .const (.slice none 0 0) | 2, .const (.map none) | 3, .const .nilFunc | 4, .const .nilIface => true
  | _, _ => false

def tOptOpd : Option Operand → Option (Option AOpd)
  | none => some none
  | some x => (tOpd x).map some

def tBin (P : Program) (op : BinOp) (t : TypeId) (x y : Operand) : Option VOp :=
  match tOpd x, tOpd y with
  | some a, some b =>
    match op with
    | .eql | .neq =>
      (match P.underlying t with
       | some (.int _) | some .string | some (.float _) | some (.complex _) => some (.bin op a b)
       | some .bool => some (.eqBool (match op with | .neq => true | _ => false) a b)
       | some (.struct fs) =>
         if P.stoodInHeld t then none else (plainKinds P 0 fs.toList).map fun ks => .eqAgg (match op with | .neq => true | _ => false) ks a b
       | some d => (nilKind d).bind fun k =>
         if isNilConst k y then some (.eqNil (match op with | .neq => true | _ => false) k a)
         else if isNilConst k x then some (.eqNil (match op with | .neq => true | _ => false) k b) else
           (match d with | .pointer e => (match sizeOfT P e with | some n => if Nat.beq n 0 then none else some (.eqPtr (match op with | .neq => true | _ => false) a b) | none => none) | _ => none)
       | _ => none)
    | _ => some (.bin op a b)
  | _, _ => none

def tConv (P : Program) (src dst : TypeId) : Option ConvK :=
  match P.underlying src, P.underlying dst with
  | some (.int _), some (.int k) => some (.intInt k)
  | some (.int _), some (.float k) => some (.intFlt k)
  | some (.float _), some (.int k) => some (.fltInt k)
  | some (.int _), some .string => some .intStr
  | some .string, some .string => some .same
  | some .string, some (.slice e) => (match P.underlying e with | some (.int .u8) => some .strBytes | _ => none)
  | some (.slice e), some .string => (match P.underlying e with | some (.int .u8) => some .bytesStr | _ => none)
  | some (.slice _), some (.slice e) => if src == dst then (match P.underlying e with | some (.int .u8) => some .ownBytes | _ => none) else none
  | _, _ => none

/-- an element's kind, and its bytes -/
def elSize (P : Program) (e : TypeId) : Option (Option Nat × Nat) :=
  match P.info? e, kindOf P e with
  | some i, some k => if (match i.zero with | some v => Nat.beq v.cells.size i.size | none => false) && Nat.beq i.size (k.getD 1) && !(Nat.beq i.size 0) && !(Nat.beq i.bytes 0) then some (k, i.bytes) else none
  | _, _ => none

/-- what is known of each function: how it is called, whether its arguments keep their tokens; which slices are made to be written -/
structure Cfg where
  mode : FuncId → CallMode
  keep : FuncId → Bool
  mu : FuncId → Nat → Bool
  fv : FuncId → Nat → Option FuncId := fun _ _ => none   -- which function a value is that is called

/-- a type's method that takes the value itself, a pointer -/
def methOf (P : Program) (t : TypeId) (name : String) : Option FuncId :=
  match (P.info? t).bind (fun i => i.methods.find? (·.name == name)), P.underlying t with
  | some m, some (.pointer _) => (match m.path.toList, m.func with | [], some (f, true) => some f | _, _ => none)
  | _, _ => none

/-- the types that have a method -/
def methTbl (P : Program) (name : String) : Nat → List (TypeId × FuncId)
  | 0 => []
  | n + 1 => match methOf P n name with
    | some f => (n, f) :: methTbl P name n
    | none => methTbl P name n

def tCall (P : Program) (c : Call) (mu : Bool) : Option AOp :=
  match c.callee with
  | .value (.func f) => (tOpds c.args.toList).map (.call f)
  | .value x => (tOpd x).bind fun y => (tOpds c.args.toList).map fun l => .callv y l
  | .invoke x name => (tOpd x).bind fun y => (tOpds c.args.toList).map fun l => .invk (methTbl P name P.types.size) y l
  | .builtin b =>
    match b, tOpds c.args.toList with
    | .len, some [x] => (match (c.argTypes[0]?).bind P.underlying with
      | some .string => some (.v (.len 0 x))
      | some (.slice _) => some (.v (.len 1 x))
      | some (.map ..) => some (.v (.len 2 x))
      | some (.array n _) => some (.v (.constInt n))
      | _ => none)
    | .append, some [x, y] => (match (c.argTypes[0]?).bind P.underlying, (c.argTypes[1]?).bind P.underlying with
      | some (.slice e), some (.slice _) | some (.slice e), some .string => (elSize P e).map fun k => .e (.append mu k.1 k.2 x y)
      | some (.slice e), some (.int _) => (match elSize P e, zeroVal P e with
        | some k, some z => if Nat.beq z.flat.length (k.1.getD 1) then some (.e (.growz k.2 z x y)) else none
        | _, _ => none)
      | _, _ => none)
    | .copy, some [x, y] => (match (c.argTypes[0]?).bind P.underlying with
      | some (.slice e) => (elSize P e).map fun k => .e (.copy k.1 x y)
      | _ => none)
    | .max, some l => some (.v (.mm true l))
    | .min, some l => some (.v (.mm false l))
    | .real, some [x] => some (.v (.part false x))
    | .imag, some [x] => some (.v (.part true x))
    | .complex, some [x, y] => some (.v (.cplx x y))
    | .recover, some [] => some .recover
    | .clear, some [x] => (match (c.argTypes[0]?).bind P.underlying with
      | some (.slice e) => (match elSize P e, zeroVal P e with
        | some k, some z => if Nat.beq z.flat.length (k.1.getD 1) then some (.e (.clear z x)) else none
        | _, _ => none)
      | _ => none)
    | .cap, some [x] => (match (c.argTypes[0]?).bind P.underlying with
      | some (.slice _) => some (.v (.len 3 x))
      | _ => none)
    | _, _ => none

def tOp (P : Program) (mu : Bool) : Op → Option AOp
  | .move x | .assign x => (tOpd x).map fun y => .v (.move y)
  | .pick c a b => match tOpd c, tOpd a, tOpd b with | some x, some y, some z => some (.v (.pick x y z)) | _, _, _ => none
  | .alloc e => (zeroOf P e).map fun z => .e (.alloc z)
  | .box _ x => (tOpd x).map fun y => .e (.box y)
  | .build t ps => match P.underlying t, zeroOf P t with
    | some (.struct fs), some z => if fs.toList.all (fun f => (sizeOfT P f.type).isSome) then (tParts P fs ps.toList).map fun l => .v (.build z l) else none
    | some (.array _ e), some z => match sizeOfT P e with | some sz => (tElsA sz ps.toList).map fun l => .v (.build z l) | none => none
    | _, _ => none
  | .buildSlice t len ps => match P.underlying t with
    | some (.slice e) => match elSize P e, zeroVal P e, tEls ps.toList with
      | some k, some z, some l => if Nat.ble (len * k.1.getD 1) (2 ^ 24) && Nat.beq z.flat.length (k.1.getD 1) then some (if mu then .e (.buildMs (k.1.getD 1) z len l) else .v (.buildSl (k.1.getD 1) z len l)) else none
      | _, _, _ => none
    | _ => none
  | .load t a => match kindOf P t, tOpd a with | some k, some x => some (.v (.load k x)) | _, _ => none
  | .store t a v => match sizeOfT P t, tOpd a, tOpd v with | some n, some x, some y => some (.e (.store n x y)) | _, _, _ => none
  | .nilCheck x => (tOpd x).map fun y => .v (.nilCheck y)
  | .binOp op t x y _ => (tBin P op t x y).map .v
  | .unOp op _ x => (tOpd x).map fun y => .v (.un op y)
  | .convert src dst x => match tConv P src dst, tOpd x with | some k, some y => some (.v (.conv k y)) | _, _ => none
  | .makeInterface t x => match P.underlying t, tOpd x with
    | some (.interface _), _ => none
    | some _, some y => some (.v (.mkIface t y))
    | _, _ => none
  | .makeFunc (.func f) first cap => (tOpds first.toList).bind fun a => (tOpds cap.toList).map fun c => .v (.mkFunc f a c)
  | .makeMap t none => match P.underlying t with | some (.map ..) => some (.e .makeMap) | _ => none
  | .makeMap t (some (.const (.int ..))) => match P.underlying t with | some (.map ..) => some (.e .makeMap) | _ => none
  | .slice t x lo hi mx => match tOpd x, tOptOpd lo, tOptOpd hi, tOptOpd mx with
    | some a, some l, some h, some m => (match P.underlying t with
      | some .string => (match m with | none => some (.v (.sliceS a l h)) | some _ => none)
      | some (.slice e) => (match m, h with | some _, none => none | _, _ => (sizeOfT P e).map fun n => .v (.slice n a l h m))
      | some (.array n e) => (match m with | none => (sizeOfT P e).map fun sz => .v (.sliceA n sz a l h) | some _ => none)
      | _ => none)
    | _, _, _, _ => none
  | .fieldAddr t x f => match P.underlying t, tOpd x with
    | some (.struct fs), some a => (match fs[f]? with
      | some fd => (match kindOf P fd.type, sizeOfT P fd.type with
        | some k, some n => if Nat.beq n 0 then none else some (.v (.fieldAddr fd.offset k a))
        | _, _ => none)
      | none => none)
    | _, _ => none
  | .field t x f => match P.underlying t, tOpd x with
    | some (.struct fs), some a => (match fs[f]? with
      | some fd => (kindOf P fd.type).map fun k => .v (.field fd.offset k a)
      | none => none)
    | _, _ => none
  | .indexAddr t x i => match tOpd x, tOpd i with
    | some a, some j => (match P.underlying t with
      | some (.slice e) => (match kindOf P e, sizeOfT P e with
        | some k, some n => if Nat.beq n (k.getD 1) then some (.v (.indexAddrS k a j)) else none
        | _, _ => none)
      | some (.array len e) => (match kindOf P e, sizeOfT P e with
        | some k, some n => if Nat.beq n (k.getD 1) then some (.v (.indexAddrA len k a j)) else none
        | _, _ => none)
      | _ => none)
    | none, some j => (match x, P.underlying t with
      | .global g, some (.array len e) => (match kindOf P e, sizeOfT P e with
        | some k, some n => if Nat.beq n (k.getD 1) then some (.v (.globAt g len k j)) else none
        | _, _ => none)
      | _, _ => none)
    | _, _ => none
  | .index t x i => match tOpd x, tOpd i with
    | some a, some j => (match P.underlying t with
      | some .string => some (.v (.indexS a j))
      | some (.array len e) => (match kindOf P e, sizeOfT P e with
        | some k, some n => if Nat.beq n (k.getD 1) then some (.v (.indexA len k a j)) else none
        | _, _ => none)
      | _ => none)
    | _, _ => none
  | .lookup t x k ok => match P.underlying t, tOpd x, tOpd k with
    | some (.map kt e), some a, some j => (match P.underlying kt with
      | some (.int _) => (zeroVal P e).map fun z => .v (.lookup false ok z a j)
      | some .string => (zeroVal P e).map fun z => .v (.lookup true ok z a j)
      | _ => none)
    | _, _, _ => none
  | .mapUpdate t m k x | .insert t m k x => match P.underlying t, tOpd m, tOpd k, tOpd x with
    | some (.map kt _), some a, some j, some y => (match P.underlying kt with
      | some (.int _) => some (.e (.mapPut false a j y))
      | some .string => some (.e (.mapPut true a j y))
      | _ => none)
    | _, _, _, _ => none
  | .typeAssert x _ t ok => match P.underlying t, tOpd x with
    | some (.interface _), _ => none
    | some _, some y => (zeroVal P t).map fun z => .v (.tassert t ok z y)
    | _, _ => none
  | .extract x i => (tOpd x).map fun y => .v (.extract y i)
  | .range t x => (match P.underlying t with
    | some .string => (tOpd x).map fun y => .e (.rangeS y)
    | _ => none)
  | .next x true => (tOpd x).map fun y => .e (.nextS y)
  | .call c => tCall P c mu
  | .defer c => match c.callee with
    | .value x => (match tOpd x, tOpds c.args.toList with | some y, some l => some (.defer y l) | _, _ => none)
    | _ => none
  | .makeSlice t l c => (match P.underlying t with
    | some (.slice e) => (elSize P e).bind fun k => (zeroVal P e).bind fun z => (tOpd l).bind fun l => (tOpd c).bind fun c =>
      if Nat.beq z.flat.length (k.1.getD 1) then some (.e (.makeSl mu k.2 z l c)) else none
    | _ => none)
  | .panic x => (tOpd x).map .panic
  | _ => none

/-- the temporaries that an operation looks at -/
def opdTmps : List Operand → List Nat
  | [] => []
  | .tmp t :: r => t :: opdTmps r
  | _ :: r => opdTmps r

def guardTmp (ops : List Oper) : Option (Nat × Bool) → Option (Nat × Bool)
  | none => none
  | some (j, w) => match (ops[j]?).bind (·.dst) with | some t => some (t, w) | none => none

def usesOf (ops : List Oper) (o : Oper) : List Nat :=
  (match guardTmp ops o.guard with | some (t, _) => [t] | none => []) ++ opdTmps o.op.operands.toList

/-- those that a region looks at ahead of writing them -/
def regionUses (all : List Oper) : List Oper → List Nat → List Nat
  | [], _ => []
  | o :: r, seen => (usesOf all o).filter (fun t => !seen.contains t) ++ regionUses all r (o.dst.toList ++ seen)

def codeUses : Code → List Nat
  | .rangeFunc x _ a c => opdTmps [x] ++ (codeUses a ++ codeUses c)
  | .region _ ops _ => regionUses ops.toList ops.toList []
  | .seq a b => codeUses a ++ codeUses b
  | .cond c a b => opdTmps [c] ++ (codeUses a ++ codeUses b)
  | .block _ c => codeUses c
  | .loop c => codeUses c
  | .scope c => codeUses c
  | _ => []

/-- each one once -/
def once : List Nat → List Nat → List Nat
  | [], acc => acc.reverse
  | t :: r, acc => if acc.contains t then once r acc else once r (t :: acc)

def tOper (P : Program) (mu : Nat → Bool) (ops : List Oper) (o : Oper) : AOper :=
  { dst := o.dst, op := if o.guard.isSome && (guardTmp ops o.guard).isNone then .bad else (tOp P (mu (o.dst.getD 0)) o.op).getD .bad, guard := guardTmp ops o.guard }

/-- an operation of a region whose order is drawn: of none, of one object read, of one object written, a call that reads, a call that sees what there was alone, any other -/
inductive Cls where
  | pure | load | call | iso | write | eff
  deriving DecidableEq

def VOp.looks : VOp → Bool
  | .load .. | .indexAddrS .. | .sliceA .. | .lookup .. | .eqPtr .. | .globAt .. | .conv .bytesStr _ => true
  | _ => false

/-- where an operation looks into the abstract heap -/
def VOp.loadOpd : VOp → Option AOpd
  | .load _ a | .indexAddrS _ a _ | .sliceA _ _ a _ _ | .lookup _ _ _ a _ | .conv .bytesStr a => some a
  | _ => none

def clsOf (cfg : Cfg) (o : AOp) : Cls :=
  match o with
  | .v p => if p.looks then (match p.loadOpd with | some (.tmp _) => .load | _ => .eff) else .pure
  | .e (.store ..) | .e (.mapPut ..) => .write
  | .fill _ (.alloc _) | .fill _ (.box _) | .fill _ (.buildMs ..) | .fill _ .makeMap | .fill _ (.append true ..) | .fill _ (.makeSl true ..) => .write
  | .call f _ | .callk f _ _ => (match cfg.mode f with | .pure => .call | _ => .eff)
  | .calli f _ _ => (match cfg.mode f with | .pure => .iso | _ => .eff)
  | _ => .eff

/-- where a write works -/
def AOp.ft : AOp → Ft
  | .v p => ⟨p.loadOpd, none⟩
  | .e (.store _ a _) => ⟨some a, none⟩
  | .e (.mapPut _ m _ _) => ⟨some m, none⟩
  | .fill k (.append _ _ _ x _) => ⟨some x, some k⟩
  | .fill k _ => ⟨none, some k⟩
  | _ => ⟨none, none⟩

def Cls.acts : Cls → Bool
  | .write | .eff => true
  | _ => false

/-- what each operation waits for -/
def maskOf (o : Oper) (acc : List Nat) : Nat := o.after.toList.foldl (fun s e => if Region.binds .any e then s ||| (2 ^ e.on ||| acc.getD e.on 0) else s) 0

def masks : List Oper → List Nat → List Nat
  | [], acc => acc
  | o :: r, acc => masks r (acc ++ [maskOf o acc])

/-- operations whose waits end, one pass more -/
def pass (md : Region.Mode) : List Oper → Nat → Nat → Nat
  | [], _, seen => seen
  | o :: r, i, seen => pass md r (i + 1) (if o.after.toList.all (fun e => !(Region.binds md e) || seen.testBit e.on) then seen ||| 2 ^ i else seen)

def allBits : Nat → Nat → Bool
  | 0, _ => true
  | n + 1, seen => seen.testBit n && allBits n seen

def passes (md : Region.Mode) (ops : List Oper) : Nat → Nat → Nat
  | 0, seen => seen
  | k + 1, seen => if allBits ops.length seen then seen else passes md ops k (pass md ops 0 seen)

/-- no wait is without an end -/
def topoOk (md : Region.Mode) (ops : List Oper) : Bool := allBits ops.length (passes md ops ops.length 0)

structure Row where
  i : Nat
  o : AOper
  cls : Cls
  mask : Nat
  uses : List Nat

def aUses (o : AOper) : List Nat := (match o.guard with | some (t, _) => [t] | none => []) ++ o.op.opds.filterMap fun | .tmp t => some t | _ => none

def mkRows (cfg : Cfg) : List AOper → List Nat → Nat → List Row
  | a :: as, m :: ms, i => { i := i, o := a, cls := clsOf cfg a.op, mask := m, uses := aUses a } :: mkRows cfg as ms (i + 1)
  | _, _, _ => []

def writes (x : Row) (y : Row) : Bool := match x.o.dst with | some t => y.uses.contains t | none => false

def sameDst (x y : Row) : Bool := match x.o.dst, y.o.dst with | some a, some b => Nat.beq a b | _, _ => false

/-- nothing writes an operand from an operation on -/
def stable (rows : List Row) (i : Nat) : AOpd → Bool
  | .tmp t => rows.all fun z => (match z.o.dst with | some u => !(Nat.beq u t) | none => true) || Nat.blt z.i i
  | .const _ => true

def stableFt (rows : List Row) (i : Nat) (a : Ft) : Bool := match a.x with | some x => stable rows i x | none => true

/-- do two operations work at one place, by their text? -/
def sameFt (a b : Ft) : Bool :=
  match a.x, b.x with
  | some (.tmp t), some (.tmp u) => Nat.beq t u
  | _, _ => false

/-- is it a call? -/
def AOp.isCall : AOp → Bool
  | .call .. | .callv .. | .callk .. => true
  | _ => false

/-- two operations of kinds that may come in any order: what has to be so of them -/
def clsPair (rows : List Row) (x y : Row) : Option (List Chk) :=
  match x.cls, y.cls with
  | .pure, _ | _, .pure => some []
  | .load, .load | .load, .call | .call, .load | .call, .call | .load, .iso | .iso, .load | .call, .iso | .iso, .call | .iso, .iso => some []
  | .load, .write | .write, .load | .write, .write => if sameFt x.o.op.ft y.o.op.ft then none else if stableFt rows x.i x.o.op.ft && stableFt rows y.i y.o.op.ft then some [.apart x.o.op.ft y.o.op.ft] else none
  | .iso, .write => if stableFt rows y.i y.o.op.ft then some [.new y.o.op.ft] else none
  | .write, .iso => if stableFt rows x.i x.o.op.ft then some [.new x.o.op.ft] else none
  | .load, .eff => if y.o.op.isCall && stableFt rows x.i x.o.op.ft then some [.still x.o.op.ft y.i] else none
  | .eff, .load => if x.o.op.isCall && stableFt rows y.i y.o.op.ft then some [.still y.o.op.ft x.i] else none
  | _, _ => none

/-- two operations, the first one ahead in the text: none: not allowed; else what is to be looked at -/
def pairOf (rows : List Row) (x y : Row) : Option (List Chk) :=
  if sameDst x y then none else
  if y.mask.testBit x.i then some [] else
  if writes x y || writes y x then none else clsPair rows x y

def pairsWith (rows : List Row) (x : Row) : List Row → Option (List Chk)
  | [] => some []
  | y :: r => match pairOf rows x y, pairsWith rows x r with | some a, some b => some (a ++ b) | _, _ => none

def allPairs (rows : List Row) : List Row → Option (List Chk)
  | [] => some []
  | x :: r => match pairsWith rows x r, allPairs rows r with | some a, some b => some (a ++ b) | _, _ => none

def drawnPairs (cfg : Cfg) (ops : List Oper) (l : List AOper) : Option (List Chk) :=
  if topoOk .any ops && (topoOk .text ops && topoOk .gc ops) then allPairs (mkRows cfg l (masks ops []) 0) (mkRows cfg l (masks ops []) 0) else none

/-- of a map that is written out: an entry's key -/
def isPutC (t0 : Nat) : AOp → Option AV
  | .e (.mapPut _ (.tmp t) (.const c) _) => if Nat.beq t t0 then some c else none
  | _ => none

def keysApart : List AV → Bool
  | [] => true
  | c :: r => r.all (fun d => match keyEq c d with | some false => true | _ => false) && keysApart r

def litRow (e0 t0 : Nat) (rows : List Row) (x : Row) : Bool :=
  match x.cls with
  | .pure | .iso => true
  | .load => stableFt rows x.i x.o.op.ft
  | .write => x.o.guard.isNone && (if Nat.beq x.i e0 then (match x.o.op, x.o.dst with | .fill 0 .makeMap, some t => Nat.beq t t0 | _, _ => false) else Nat.blt e0 x.i && (isPutC t0 x.o.op).isSome)
  | _ => false

def litPair (x y : Row) : Bool := !sameDst x y && (y.mask.testBit x.i || !(writes x y || writes y x))

def allLit : List Row → Bool
  | [] => true
  | x :: r => r.all (litPair x) && allLit r

def litFirst : List Row → Option (Nat × Nat)
  | [] => none
  | x :: r => match x.cls, x.o.dst with
    | .write, some t => some (x.i, t)
    | .write, none => none
    | _, _ => litFirst r

/-- a region that writes one map out: its entries may come in any order -/
def litPairs (cfg : Cfg) (ops : List Oper) (q : List AOper × Nat) : Option (List Chk) :=
  let rows := mkRows cfg q.1 (masks ops []) 0
  if topoOk .any ops && (topoOk .text ops && topoOk .gc ops) && Nat.beq q.2 1 then
    match litFirst rows with
    | some (e0, t0) => if rows.all (litRow e0 t0 rows) && (keysApart (rows.filterMap fun x => isPutC t0 x.o.op) && allLit rows) then
        some (rows.filterMap fun x => match x.cls with | .load => some (.apart x.o.op.ft ⟨none, some 0⟩) | _ => none) else none
    | none => none
  else none

def EOp.makes : EOp → Bool
  | .alloc _ | .box _ | .buildMs .. | .makeMap | .append true .. | .makeSl true .. => true
  | _ => false

/-- objects get places ahead -/
def slotted : List AOper → Nat → List AOper × Nat
  | [], k => ([], k)
  | o :: r, k => match o.op with
    | .e p => if p.makes then (({ o with op := .fill k p } :: (slotted r (k + 1)).1), (slotted r (k + 1)).2) else (o :: (slotted r k).1, (slotted r k).2)
    | _ => (o :: (slotted r k).1, (slotted r k).2)

/-- is a call without an order to something that writes? -/
def callFree (rows : List Row) (x : Row) : Bool :=
  rows.any fun y => (match y.cls with | .write => true | _ => false) && !(y.mask.testBit x.i) && !(x.mask.testBit y.i)

def isoOp (cfg : Cfg) (rows : List Row) (x : Row) : AOp :=
  match x.o.op with
  | .call f l => (match cfg.mode f with | .pure => if callFree rows x then .calli f none l else .call f l | _ => .call f l)
  | .callk f y l => (match cfg.mode f with | .pure => if callFree rows x then .calli f (some y) l else .callk f y l | _ => .callk f y l)
  | o => o

def AOp.isIso : AOp → Bool
  | .calli .. => true
  | _ => false

/-- a value that is called, told which function it is -/
def knownFn (fv : Nat → Option FuncId) (o : AOper) : AOper :=
  match o.op with
  | .callv x l => (match fv (o.dst.getD 0) with | some f => { o with op := .callk f x l } | none => o)
  | _ => o

def tOps (P : Program) (mu : Nat → Bool) (fv : Nat → Option FuncId) (ops : List Oper) : List AOper := ops.map fun o => knownFn fv (tOper P mu ops o)

/-- the operations of a region whose order is drawn, and how many places they want -/
def drawnOps (cfg : Cfg) (ops : List Oper) (l : List AOper) : List AOper × Nat :=
  let q := slotted l 0
  let rows := mkRows cfg q.1 (masks ops []) 0
  (rows.map fun x => { x.o with op := isoOp cfg rows x }, q.2)

/-- the first object that is made whatever a guard says, and its temporary -/
def lazyAt : List AOper → Nat → Option (Nat × Nat)
  | [], _ => none
  | o :: r, i => match o.op, o.dst, o.guard with
    | .e (.alloc _), some t, none => some (i, t)
    | _, _, _ => lazyAt r (i + 1)

def Cls.isEff : Cls → Bool
  | .eff => true
  | _ => false

/-- the first call that may change something -/
def lazyCall : List Row → Option Nat
  | [] => none
  | x :: r => if x.o.op.isCall && x.cls.isEff then some x.i else lazyCall r

/-- an operation waits for one more -/
def addEdge : Nat → Edge → List Oper → List Oper
  | _, _, [] => []
  | 0, d, o :: r => { o with after := o.after.push d } :: r
  | k + 1, d, o :: r => o :: addEdge k d r

/-- what waits for an operation, waits for another one, too -/
def lazyFree (k e : Nat) : List Oper → List Nat → Bool
  | o :: r, m :: ms => (!(o.after.toList.any fun d => Region.binds .any d && Nat.beq d.on k) || m.testBit e) && lazyFree k e r ms
  | _, _ => true

def isAlloc (l : List Oper) (k : Nat) : Bool :=
  match l[k]? with
  | some o => (match o.op with | .alloc _ => true | _ => false)
  | none => false

/-- a region in which an object is made beside a call: as if it were made behind it -/
def lazyPairs (cfg : Cfg) (ops : List Oper) (l : List AOper) : Option (Nat × Nat × Nat × List Chk) :=
  match lazyAt l 0, lazyCall (mkRows cfg l (masks ops []) 0) with
  | some (k, t), some e =>
    let rows := mkRows cfg l (masks (addEdge k ⟨e, .data⟩ ops) []) 0
    if topoOk .any ops && (topoOk .text ops && topoOk .gc ops) && (!Nat.beq k e && (isAlloc ops k && lazyFree k e ops (masks ops []))) then (allPairs rows rows).map fun ps => (k, e, t, .unset t :: ps) else none
  | _, _ => none

/-- the name of a range's body -/
def yieldF : FuncId := 1000000001

/-- a call of a range's body -/
def toYield (o : AOper) : AOper :=
  match o.op with
  | .callk f x l => if Nat.beq f yieldF then { o with op := .yieldc x l } else o
  | _ => o

/-- code of operations alone -/
def plainOps (P : Program) (mu : Nat → Bool) : Code → Option (List AOper)
  | .skip => some []
  | .region _ ops false => some (tOps P mu (fun _ => none) ops.toList)
  | .seq a b => (plainOps P mu a).bind fun x => (plainOps P mu b).map fun y => x ++ y
  | .block _ c => plainOps P mu c
  | _ => none

/-- temporaries that are written -/
def codeDsts : Code → List Nat
  | .rangeFunc _ ps a c => ps.toList ++ (codeDsts a ++ codeDsts c)
  | .region _ ops _ => ops.toList.filterMap (·.dst)
  | .seq a b => codeDsts a ++ codeDsts b
  | .cond _ a b => codeDsts a ++ codeDsts b
  | .block _ c => codeDsts c
  | .loop c => codeDsts c
  | .scope c => codeDsts c
  | _ => []

/-- is it a function with a body? -/
def goFunc (P : Program) (f : FuncId) : Bool :=
  match P.funcs[f]? with
  | some fn => fn.body.isSome && !(fn.name == "runtime.NumGoroutine")
  | none => false

def tRange (P : Program) (mu : Nat → Bool) (fv : Nat → Option FuncId) (x : Operand) (ps : List Nat) (a c : Code) : ACode :=
  match tOpd x, fv 1000000, plainOps P mu a, plainOps P mu c with
  | some y, some g, some la, some lc => if goFunc P g then .rangeF y g (once ((codeUses a ++ (codeUses c).filter fun t => !(codeDsts a).contains t).filter fun t => !ps.contains t) []) ps la lc else .bad
  | _, _, _, _ => .bad

def tRegion (P : Program) (cfg : Cfg) (mu : Nat → Bool) (fv : Nat → Option FuncId) (slots : List Nat) (ops : List Oper) (draw : Bool) : ACode :=
  let l := tOps P mu fv ops
  let outs := once ((ops.filterMap (·.dst)).filter slots.contains) []
  if draw then
    let q := drawnOps cfg ops l
    match drawnPairs cfg ops q.1 with
    | some ps => if mu 1000000 then .drawnW q.1 outs ps q.2 else .drawn q.1 outs ps (q.1.any fun o => o.op.isIso) q.2
    | none => match litPairs cfg ops q with
      | some ps => .drawn q.1 outs ps (q.1.any fun o => o.op.isIso) q.2
      | none => match lazyPairs cfg ops l with
        | some x => .drawn l outs x.2.2.2 false 0
        | none => .bad
  else .region (l.map toYield) outs

def tCode (P : Program) (cfg : Cfg) (mu : Nat → Bool) (fv : Nat → Option FuncId) (slots : List Nat) : Code → ACode
  | .skip => .skip
  | .region _ ops draw => tRegion P cfg mu fv slots ops.toList draw
  | .seq a b => .seq (tCode P cfg mu fv slots a) (tCode P cfg mu fv slots b)
  | .cond c a b => match tOpd c with | some x => .cond x (tCode P cfg mu fv slots a) (tCode P cfg mu fv slots b) | none => .bad
  | .block id c => .block id (tCode P cfg mu fv slots c)
  | .loop c => .loop (tCode P cfg mu fv slots c)
  | .scope c => tCode P cfg mu fv slots c
  | .label _ => .skip
  | .rangeFunc x ps a c => tRange P mu fv x ps.toList a c
  | .exit id => .exit id
  | .ret => .ret
  | _ => .bad

/-- of a slice type the kind of its elements -/
def elKind (P : Program) (t : TypeId) : Option (Option Nat) :=
  match P.underlying t with
  | some (.slice e) => kindOf P e
  | _ => none

def tResults (P : Program) (nk : Bool) : List ResultVar → List TypeId → Option (List ARes)
  | [], _ => some []
  | .tmp t :: r, ty :: ts => (tResults P nk r ts).map ({ t := t, cell := none, el := elKind P ty, nk := nk } :: ·)
  | .cell a t :: r, ty :: ts => match kindOf P t, tResults P nk r ts with | some k, some l => some ({ t := a, cell := some k, el := elKind P ty, nk := nk } :: l) | _, _ => none
  | _, _ => none

def allLt (n : Nat) : List Nat → Bool
  | [] => true
  | t :: r => Nat.blt t n && allLt n r

def opNoRec (o : Oper) : Bool :=
  match o.op with
  | .call c => (match c.callee with | .builtin .recover => false | _ => true)
  | _ => true

def codeNoRec : Code → Bool
  | .region _ ops _ => ops.toList.all opNoRec
  | .seq a b => codeNoRec a && codeNoRec b
  | .cond _ a b => codeNoRec a && codeNoRec b
  | .block _ c => codeNoRec c
  | .loop c => codeNoRec c
  | .scope c => codeNoRec c
  | _ => true

/-- may code be a deferred call's? -/
def okS : Code → Bool
  | .seq a b => okS a && okS b
  | .cond _ a b => okS a && okS b
  | .region id ops draw => !draw || codeNoRec (.region id ops draw)
  | c => codeNoRec c

def slotsOf (fn : Func) (rs : List ARes) (c : Code) : List Nat := once (List.range (fn.params.size + fn.nfree) ++ rs.map (·.t) ++ codeUses c) []

def tFunc (P : Program) (cfg : Cfg) (f : FuncId) : Option AFunc :=
  match P.funcs[f]? with
  | some fn => match fn.body, tResults P (cfg.keep f) fn.results.toList fn.resultTypes.toList with
    | some c, some rs =>
      if allLt fn.ntmps (codeDsts c) && !(fn.name == "runtime.NumGoroutine") then
        some { mode := cfg.mode f, keep := cfg.keep f, slots := slotsOf fn rs c, results := rs, dfr := okS c, code := tCode P cfg (cfg.mu f) (cfg.fv f) (slotsOf fn rs c) c }
      else none
    | _, _ => none
  | none => none

end Go.Am

/-
  The abstract machine, third part: how its values and its heap stand to the model's.
-/
namespace Go.Am
open Go.RowKit (Below)

/-- keys that are unlike -/
def KeysD (es : List (AV × AV)) : Prop := es.Pairwise fun a b => keyEq a.1 b.1 = some false

/-- where the objects and the tokens lie, and which cells are never written any more -/
structure Gh where
  n : Nat
  ob : Nat → Nat
  ge : Nat → Nat
  tn : Nat
  tb : Nat → Nat
  te : Nat → Nat
  ts : Nat → Nat
  tv : Nat → Nat
  F : Nat → Nat → Prop
  base : Nat
  lv : Nat → Prop

/-- is an object there? -/
def Gh.live (γ : Gh) (i : Nat) : Prop := i < γ.n ∧ γ.lv i

/-- cells, as they lie from an address on, never to be written -/
def Lie (γ : Gh) (w : World) (b o n : Nat) (cs : Nat → Value) : Prop :=
  ∀ j, j < n → γ.F b (o + j) ∧ w.cell? ⟨b, o + j, none⟩ = some (cs j)

def TailOk (γ : Gh) (base : Option Addr) (len cap sz : Nat) : Tail → Prop
  | .exact own => cap = len ∧ (own = true → ∃ a, base = some a ∧ γ.base ≤ a.block)
  | .tok t n => t < γ.tn ∧ n ≤ γ.tv t ∧ (γ.tv t = n → ∃ a, base = some a ∧ a.block = γ.tb t ∧ a.off + len * sz = γ.te t ∧ a.off + cap * sz ≤ γ.ts t ∧ 0 < sz ∧ 0 < len)
  | .shut => True

inductive VR (γ : Gh) (w : World) : AV → Value → Prop
  | bool (b) : VR γ w (.bool b) (.bool b)
  | int (k n) : VR γ w (.int k n) (.int k n)
  | flt (k b) : VR γ w (.flt k b) (.float k b)
  | cplx (k a b) : VR γ w (.cplx k a b) (.complex k a b)
  | str (s : ByteArray) : VR γ w (.str s.data.toList) (.string s)
  | nilptr : VR γ w .nilptr (.pointer none)
  | ptr (i g off a) : γ.live i → γ.ge i ≥ g → (γ.ge i = g → a = ⟨γ.ob i, off, none⟩) → VR γ w (.ptr i g off) (.pointer (some a))
  | pin (v b o) (cs : Nat → Value) : Lie γ w b o v.flat.length cs → allOne v.flat = true → (∀ j u, v.flat[j]? = some u → VR γ w u (cs j)) → VR γ w (.pin v) (.pointer (some ⟨b, o, none⟩))
  | nilsl : VR γ w .nilsl (.slice none 0 0)
  | vecNil (tl) : TailOk γ none 0 0 0 tl → VR γ w (.vec [] tl) (.slice none 0 0)
  | vecE (a : Addr) : VR γ w (.vec [] .shut) (.slice (some a) 0 0)
  | vec (es tl b o cap sz) (cs : Nat → Value) : es.length ≤ cap → allSize sz es = true → allOneAll es = true → Lie γ w b o (flatAll es).length cs →
      (∀ j u, (flatAll es)[j]? = some u → VR γ w u (cs j)) → TailOk γ (some ⟨b, o, none⟩) es.length cap sz tl → VR γ w (.vec es tl) (.slice (some ⟨b, o, none⟩) es.length cap)
  | ms (i g off len cp sz a cap) : γ.live i → γ.ge i ≥ g → (len ≤ cp ∧ cp ≤ cap ∧ ∃ b o, a = ⟨b, o, none⟩) → (γ.ge i = g → a = ⟨γ.ob i, off, none⟩ ∧ ∃ (c : Array Value) (e : TypeId) (fr : Nat × Nat), w.heap[γ.ob i]? = some (.cells c e fr) ∧ off + cap * sz ≤ c.size) → VR γ w (.ms i g off len cp sz) (.slice (some a) len cap)
  | nilmap : VR γ w .nilmap (.map none)
  | map (i r) : γ.live i → (γ.ge i = 0 → r = γ.ob i) → VR γ w (.map i) (.map (some r))
  | yield (i l) : γ.live i → (γ.ge i = 0 → l = γ.ob i) → VR γ w (.yield i) (.func (.yield l) #[] #[])
  | func (f a c) (a' c' : Array Value) : a.length = a'.size → c.length = c'.size → allOne a = true → allOne c = true →
      (∀ (j : Nat) u x, a[j]? = some u → a'[j]? = some x → VR γ w u x) → (∀ (j : Nat) u x, c[j]? = some u → c'[j]? = some x → VR γ w u x) → VR γ w (.func f a c) (.func (.func f) a' c')
  | nilfunc : VR γ w .nilfunc .nilFunc
  | iface (t v) (v' : Value) : allOne v.flat = true → VR γ w v v' → VR γ w (.iface t v) (.iface t v')
  | nilif : VR γ w .nilif .nilIface
  | agg (cs) (cs' : Array Value) : cs.length = cs'.size → allOne cs = true → (∀ (j : Nat) u x, cs[j]? = some u → cs'[j]? = some x → VR γ w u x) → VR γ w (.agg cs) (.agg cs')
  | tup (cs) (cs' : Array Value) : cs.length = cs'.size → (∀ (j : Nat) u x, cs[j]? = some u → cs'[j]? = some x → VR γ w u x) → VR γ w (.tup cs) (.tuple cs')

/-- values, one by one -/
def VRs (γ : Gh) (w : World) (l : List AV) (a : Array Value) : Prop := l.length = a.size ∧ ∀ (j : Nat) u x, l[j]? = some u → a[j]? = some x → VR γ w u x

/-- what may have come of what is known of a world, as far as values ask -/
structure LeV (γ : Gh) (w : World) (γ' : Gh) (w' : World) : Prop where
  base : γ'.base = γ.base
  n : γ.n ≤ γ'.n
  lv : ∀ i, γ.live i → γ'.lv i
  ge : ∀ i, γ.live i → γ.ge i ≤ γ'.ge i
  ob : ∀ i, γ.live i → γ'.ge i = γ.ge i → γ'.ob i = γ.ob i
  tn : γ.tn ≤ γ'.tn
  tv : ∀ t, t < γ.tn → γ.tv t ≤ γ'.tv t
  tb : ∀ t, t < γ.tn → γ'.tv t = γ.tv t → γ'.tb t = γ.tb t ∧ γ'.te t = γ.te t ∧ γ'.ts t = γ.ts t
  F : ∀ b o, γ.F b o → γ'.F b o ∧ w'.cell? ⟨b, o, none⟩ = w.cell? ⟨b, o, none⟩
  sz : ∀ (b : Nat) (c : Array Value) e fr, w.heap[b]? = some (.cells c e fr) → ∃ (c' : Array Value) (fr' : Nat × Nat), w'.heap[b]? = some (.cells c' e fr') ∧ c'.size = c.size

theorem LeV.live {γ γ' : Gh} {w w' : World} (h : LeV γ w γ' w') {i : Nat} (hi : γ.live i) : γ'.live i := ⟨Nat.lt_of_lt_of_le hi.1 h.n, h.lv i hi⟩

/-- a block of which nothing is known -/
def Foreign (γ : Gh) (w : World) (b : Nat) : Prop := b < w.heap.size ∧ (∀ i, γ.live i → γ.ob i ≠ b) ∧ ∀ t, t < γ.tn → γ.tb t ≠ b

def FrOk (fr : Nat × Nat) (size : Nat) : Prop := fr.1 = fr.2 ∨ size ≤ fr.1

theorem FrOk.none (n : Nat) : FrOk (0, 0) n := .inl rfl

/-- a block, but for what is said of its room -/
def SameRow (x y : Option Obj) : Prop := x = y ∨ ∃ (c : Array Value) (e : TypeId) (fr fr' : Nat × Nat), x = some (.cells c e fr) ∧ y = some (.cells c e fr') ∧ (FrOk fr c.size → FrOk fr' c.size)

theorem SameRow.trans {x y z : Option Obj} (h : SameRow x y) (k : SameRow y z) : SameRow x z := by
  rcases h with rfl | ⟨c, e, fr, fr', rfl, rfl, hf⟩
  · exact k
  · rcases k with rfl | ⟨c', e', fr1, fr2, h, rfl, hf2⟩
    · exact .inr ⟨c, e, fr, fr', rfl, rfl, hf⟩
    · cases h
      exact .inr ⟨c, e, fr, fr2, rfl, rfl, fun x => hf2 (hf x)⟩

/-- what may have come of a world and of what is known of it -/
structure Le (γ : Gh) (w : World) (γ' : Gh) (w' : World) : Prop extends LeV γ w γ' w' where
  below : Below γ.base w w'
  fr : ∀ b, Foreign γ w b → Foreign γ' w' b ∧ SameRow w.heap[b]? w'.heap[b]? ∧ ∀ o, γ'.F b o → γ.F b o

theorem Le.live {γ γ' : Gh} {w w' : World} (h : Le γ w γ' w') {i : Nat} (hi : γ.live i) : γ'.live i := h.toLeV.live hi

theorem LeV.refl (γ : Gh) (w : World) : LeV γ w γ w :=
  ⟨rfl, Nat.le_refl _, fun _ h => h.2, fun _ _ => Nat.le_refl _, fun _ _ _ => rfl, Nat.le_refl _, fun _ _ => Nat.le_refl _, fun _ _ _ => ⟨rfl, rfl, rfl⟩, fun _ _ h => ⟨h, rfl⟩,
    fun _ c _ fr h => ⟨c, fr, h, rfl⟩⟩

theorem Le.refl (γ : Gh) (w : World) : Le γ w γ w := ⟨LeV.refl γ w, Below.refl _ _, fun _ h => ⟨h, .inl rfl, fun _ h => h⟩⟩

theorem LeV.trans {γ γ' γ'' : Gh} {w w' w'' : World} (h : LeV γ w γ' w') (k : LeV γ' w' γ'' w'') : LeV γ w γ'' w'' where
  base := k.base.trans h.base
  n := Nat.le_trans h.n k.n
  lv i hi := k.lv i (h.live hi)
  ge i hi := Nat.le_trans (h.ge i hi) (k.ge i (h.live hi))
  ob i hi e := by
    have h1 := h.ge i hi
    have h2 := k.ge i (h.live hi)
    have e1 : γ'.ge i = γ.ge i := by omega
    rw [k.ob i (h.live hi) (by omega), h.ob i hi e1]
  tn := Nat.le_trans h.tn k.tn
  tv t ht := Nat.le_trans (h.tv t ht) (k.tv t (Nat.lt_of_lt_of_le ht h.tn))
  tb t ht e := by
    have h1 := h.tv t ht
    have h2 := k.tv t (Nat.lt_of_lt_of_le ht h.tn)
    obtain ⟨a, b, c⟩ := k.tb t (Nat.lt_of_lt_of_le ht h.tn) (by omega)
    obtain ⟨a', b', c'⟩ := h.tb t ht (by omega)
    exact ⟨a.trans a', b.trans b', c.trans c'⟩
  F b o hF := by
    obtain ⟨f, e⟩ := h.F b o hF
    obtain ⟨f', e'⟩ := k.F b o f
    exact ⟨f', e'.trans e⟩
  sz b c e fr hb := by
    obtain ⟨c1, fr1, h1, e1⟩ := h.sz b c e fr hb
    obtain ⟨c2, fr2, h2, e2⟩ := k.sz b c1 e fr1 h1
    exact ⟨c2, fr2, h2, e2.trans e1⟩

theorem Le.trans {γ γ' γ'' : Gh} {w w' w'' : World} (h : Le γ w γ' w') (k : Le γ' w' γ'' w'') : Le γ w γ'' w'' :=
  ⟨h.toLeV.trans k.toLeV, h.below.trans (h.base ▸ k.below), fun b hb => by
    obtain ⟨a1, a2, a3⟩ := h.fr b hb
    obtain ⟨b1, b2, b3⟩ := k.fr b a1
    exact ⟨b1, a2.trans b2, fun o ho => a3 o (b3 o ho)⟩⟩

theorem LieV.mono {γ γ' : Gh} {w w' : World} (h : LeV γ w γ' w') {b o n : Nat} {cs : Nat → Value} (hl : Lie γ w b o n cs) : Lie γ' w' b o n cs := by
  intro j hj
  obtain ⟨f, e⟩ := hl j hj
  obtain ⟨f', e'⟩ := h.F _ _ f
  exact ⟨f', e'.trans e⟩

theorem TailOkV.mono {γ γ' : Gh} {w w' : World} (h : LeV γ w γ' w') {base : Option Addr} {len cap sz : Nat} {tl : Tail} (ht : TailOk γ base len cap sz tl) : TailOk γ' base len cap sz tl := by
  cases tl with
  | exact own =>
    obtain ⟨e, k⟩ := ht
    exact ⟨e, fun o => let ⟨a, ha, hb⟩ := k o; ⟨a, ha, h.base ▸ hb⟩⟩
  | shut => trivial
  | tok t n =>
    obtain ⟨l, ln, k⟩ := ht
    have hv := h.tv t l
    refine ⟨Nat.lt_of_lt_of_le l h.tn, Nat.le_trans ln hv, fun e => ?_⟩
    have e' : γ'.tv t = γ.tv t := by omega
    obtain ⟨hb, he, hs⟩ := h.tb t l e'
    rw [hb, he, hs]
    exact k (by omega)

theorem VR.monoV {γ γ' : Gh} {w w' : World} (h : LeV γ w γ' w') {v : AV} {c : Value} (hv : VR γ w v c) : VR γ' w' v c := by
  induction hv with
  | bool b => exact .bool b
  | int k n => exact .int k n
  | flt k b => exact .flt k b
  | cplx k a b => exact .cplx k a b
  | str s => exact .str s
  | nilptr => exact .nilptr
  | ptr i g off a hi hg ha =>
    have h1 := h.ge i hi
    refine .ptr i g off a (h.live hi) (by omega) fun e => ?_
    rw [h.ob i hi (by omega)]
    exact ha (by omega)
  | pin v b o cs hl h1 _ ih => exact .pin v b o cs (LieV.mono h hl) h1 ih
  | nilsl => exact .nilsl
  | vecNil tl ht => exact .vecNil tl (TailOkV.mono h ht)
  | vecE a => exact .vecE a
  | vec es tl b o cap sz cs h1 h2 h3 hl _ ht ih => exact .vec es tl b o cap sz cs h1 h2 h3 (LieV.mono h hl) ih (TailOkV.mono h ht)
  | ms i g off len cp sz a cap hi hg hc ha =>
    have h1 := h.ge i hi
    refine .ms i g off len cp sz a cap (h.live hi) (by omega) hc fun e => ?_
    obtain ⟨e1, c, e2, fr, hb, hs⟩ := ha (by omega)
    obtain ⟨c', fr', hb', hs'⟩ := h.sz _ _ _ _ hb
    rw [h.ob i hi (by omega)]
    exact ⟨e1, c', e2, fr', hb', by omega⟩
  | nilmap => exact .nilmap
  | map i r hi hr =>
    have h1 := h.ge i hi
    refine .map i r (h.live hi) fun e => ?_
    rw [h.ob i hi (by omega)]
    exact hr (by omega)
  | yield i l hi hr =>
    have h1 := h.ge i hi
    refine .yield i l (h.live hi) fun e => ?_
    rw [h.ob i hi (by omega)]
    exact hr (by omega)
  | func f a c a' c' h1 h2 h3 h4 _ _ ih1 ih2 => exact .func f a c a' c' h1 h2 h3 h4 ih1 ih2
  | nilfunc => exact .nilfunc
  | iface t v v' h1 _ ih => exact .iface t v v' h1 ih
  | nilif => exact .nilif
  | agg cs cs' h1 h2 _ ih => exact .agg cs cs' h1 h2 ih
  | tup cs cs' h1 _ ih => exact .tup cs cs' h1 ih

/-- what is known of an object's type -/
def TyOk (γ : Gh) (w : World) (p : Nat × Nat × Nat) : Prop := γ.live p.1 ∧ γ.ge p.1 ≥ p.2.1 ∧ (γ.ge p.1 = p.2.1 → ∃ (c : Array Value) (fr : Nat × Nat), w.heap[γ.ob p.1]? = some (.cells c p.2.2 fr))

theorem TyOk.monoV {γ γ' : Gh} {w w' : World} (h : LeV γ w γ' w') {p : Nat × Nat × Nat} (hp : TyOk γ w p) : TyOk γ' w' p := by
  obtain ⟨h1, h2, h3⟩ := hp
  have h4 := h.ge p.1 h1
  refine ⟨h.live h1, by omega, fun e => ?_⟩
  obtain ⟨c, fr, h5⟩ := h3 (by omega)
  obtain ⟨c', fr', h7, _⟩ := h.sz _ _ _ _ h5
  rw [h.ob p.1 h1 (by omega)]
  exact ⟨c', fr', h7⟩

/-- a table, as it lies -/
def GlOk (γ : Gh) (w : World) (p : Nat × AV) : Prop := VR γ w (.pin p.2) (.pointer (some ⟨p.1, 0, none⟩)) ∧ ∀ n, p.2.old n = true

theorem GlOk.monoV {γ γ' : Gh} {w w' : World} (h : LeV γ w γ' w') {p : Nat × AV} (hp : GlOk γ w p) : GlOk γ' w' p := ⟨hp.1.monoV h, hp.2⟩

theorem Lie.mono {γ γ' : Gh} {w w' : World} (h : Le γ w γ' w') {b o n : Nat} {cs : Nat → Value} (hl : Lie γ w b o n cs) : Lie γ' w' b o n cs := LieV.mono h.toLeV hl
theorem TailOk.mono {γ γ' : Gh} {w w' : World} (h : Le γ w γ' w') {base : Option Addr} {len cap sz : Nat} {tl : Tail} (ht : TailOk γ base len cap sz tl) : TailOk γ' base len cap sz tl := TailOkV.mono h.toLeV ht
theorem VR.mono {γ γ' : Gh} {w w' : World} (h : Le γ w γ' w') {v : AV} {c : Value} (hv : VR γ w v c) : VR γ' w' v c := hv.monoV h.toLeV

theorem VRs.mono {γ γ' : Gh} {w w' : World} (h : Le γ w γ' w') {l : List AV} {a : Array Value} (hv : VRs γ w l a) : VRs γ' w' l a :=
  ⟨hv.1, fun j u x hu hx => (hv.2 j u x hu hx).mono h⟩

end Go.Am

/-
  The abstract machine, fourth part: the invariant between the abstract heap and the model's world, and what keeps it.
-/
namespace Go.Am
open Go.RowKit (Below)

variable {P : Program}

/-- what a range's record holds -/
structure LoopR (P : Program) (γ : Gh) (w : World) (ts : List Nat) (cs : List AV) (ps : List Nat) (aops bops : List AOper) (bz : Bool) (r : Loop) : Prop where
  state : r.state = if bz then .busy else .ready
  pending : r.pending = none
  params : r.params.toList = ps
  assign : ∃ mu, plainOps P mu r.assign = some aops
  body : ∃ mu, plainOps P mu r.body = some bops
  len : ts.length = cs.length
  lt : ∀ t, t ∈ ps ++ (codeDsts r.assign ++ codeDsts r.body) → t < r.tmps.size
  tmps : ∀ (j : Nat) t u, ts[j]? = some t → cs[j]? = some u → ∃ c, r.tmps[t]? = some c ∧ VR γ w u c

def ObjOk (P : Program) (γ : Gh) (w : World) (i : Nat) : AObj → Prop
  | .pend => ¬ γ.lv i
  | .dead => γ.lv i
  | .loopo ts cs ps aops bops bz => γ.lv i ∧ γ.ge i = 0 ∧ allOne cs = true ∧ ∃ r : Loop, w.heap[γ.ob i]? = some (.loop r) ∧ LoopR P γ w ts cs ps aops bops bz r
  | .defo => γ.lv i ∧ γ.ge i = 0 ∧ w.heap[γ.ob i]? = some (.deferred (some []))
  | .siter l p => γ.lv i ∧ γ.ge i = 0 ∧ ∃ bs : ByteArray, w.heap[γ.ob i]? = some (.stringIter bs p) ∧ bs.data.toList = l
  | .cells cs g => γ.lv i ∧ γ.ge i = g ∧ allOne cs = true ∧ ∃ (c : Array Value) (e : TypeId) (fr : Nat × Nat), w.heap[γ.ob i]? = some (.cells c e fr) ∧ cs.length ≤ c.size ∧ FrOk fr c.size ∧
      ∀ (j : Nat) u x, cs[j]? = some u → c[j]? = some x → VR γ w u x
  | .mapo es => γ.lv i ∧ γ.ge i = 0 ∧ ∃ (ents : Array MapEntry) (clk : Nat), w.heap[γ.ob i]? = some (.map ents clk) ∧ ∃ es0 : List (AV × AV), es.Perm es0 ∧ KeysD es ∧ es0.length = ents.size ∧
      ∀ (j : Nat) u x, es0[j]? = some u → ents[j]? = some x → VR γ w u.1 x.key ∧ VR γ w u.2 x.val ∧ allOne u.2.flat = true ∧ u.1.one = true

structure Inv (P : Program) (γ : Gh) (s : Sg) (w : World) : Prop where
  n : s.heap.length = γ.n
  tn : s.toks.length = γ.tn
  obj : ∀ (i : Nat) o, s.heap[i]? = some o → ObjOk P γ w i o
  inj : ∀ i j, γ.live i → γ.live j → γ.ob i = γ.ob j → i = j
  lt : ∀ i, γ.live i → γ.base ≤ γ.ob i ∧ γ.ob i < w.heap.size ∧ ∀ o, ¬ γ.F (γ.ob i) o
  tok : ∀ t, t < γ.tn → s.toks[t]? = some (γ.tv t) ∧ γ.base ≤ γ.tb t ∧ (∀ o, γ.te t ≤ o → ¬ γ.F (γ.tb t) o) ∧
      ∃ (c : Array Value) (e : TypeId) (fr : Nat × Nat), w.heap[γ.tb t]? = some (.cells c e fr) ∧ c.size = γ.ts t ∧ FrOk fr c.size
  tinj : ∀ t u, t < γ.tn → u < γ.tn → γ.tb t = γ.tb u → t = u
  tob : ∀ t i, t < γ.tn → γ.live i → γ.tb t ≠ γ.ob i
  Flt : ∀ b o, γ.F b o → b < w.heap.size
  base : γ.base ≤ w.heap.size
  ty : ∀ p ∈ s.ty, TyOk γ w p
  gl : ∀ p ∈ s.gl, GlOk γ w p

-- ---------------------------------------------------------------- lists

theorem getElem?_setAt {α : Type} : ∀ (l : List α) (i : Nat) (x : α) (j : Nat), (setAt l i x)[j]? = if j = i then (if i < l.length then some x else none) else l[j]?
  | [], i, x, j => by simp [setAt]
  | c :: r, 0, x, j => by
    cases j with
    | zero => simp [setAt]
    | succ j => simp [setAt]
  | c :: r, i + 1, x, j => by
    cases j with
    | zero => simp [setAt]
    | succ j => simp [setAt, getElem?_setAt r i x j]

theorem length_setAt {α : Type} : ∀ (l : List α) (i : Nat) (x : α), (setAt l i x).length = l.length
  | [], _, _ => rfl
  | _ :: _, 0, _ => rfl
  | _ :: r, i + 1, x => by simp [setAt, length_setAt r i x]

theorem lt_of_getElem? {α : Type} {l : List α} {i : Nat} {x : α} (h : l[i]? = some x) : i < l.length := (List.getElem?_eq_some_iff.1 h).1

theorem Inv.ilt {γ : Gh} {s : Sg} {w : World} (h : Inv P γ s w) {i : Nat} {o : AObj} (ho : s.heap[i]? = some o) : i < γ.n := h.n ▸ lt_of_getElem? ho

theorem ObjOk.live {γ : Gh} {w : World} {i : Nat} {o : AObj} (h : ObjOk P γ w i o) (hp : o ≠ .pend) : γ.lv i := by
  cases o with
  | cells cs g => exact h.1
  | mapo es => exact h.1
  | siter l p => exact h.1
  | pend => exact absurd rfl hp
  | dead => exact h
  | loopo => exact h.1
  | defo => exact h.1

theorem Inv.live {γ : Gh} {s : Sg} {w : World} (h : Inv P γ s w) {i : Nat} {o : AObj} (ho : s.heap[i]? = some o) (hp : o ≠ .pend) : γ.live i := ⟨h.ilt ho, (h.obj i o ho).live hp⟩

theorem ObjOk.monoV {γ γ' : Gh} {w w' : World} (h : LeV γ w γ' w') {i : Nat} {o : AObj} (hlv : γ'.lv i ↔ γ.lv i) (hg : γ'.ge i = γ.ge i) (hob : γ'.ob i = γ.ob i) (hb : w'.heap[γ.ob i]? = w.heap[γ.ob i]?) (ho : ObjOk P γ w i o) : ObjOk P γ' w' i o := by
  cases o with
  | cells cs g =>
    obtain ⟨h0, h1, h2, c, e, fr, h3, h4, h5, h6⟩ := ho
    exact ⟨hlv.2 h0, hg.trans h1, h2, c, e, fr, by rw [hob, hb]; exact h3, h4, h5, fun j u x hu hx => (h6 j u x hu hx).monoV h⟩
  | mapo es =>
    obtain ⟨h0, h1, en, clk, h3, es0, hp, hk, h4, h6⟩ := ho
    exact ⟨hlv.2 h0, hg.trans h1, en, clk, by rw [hob, hb]; exact h3, es0, hp, hk, h4, fun j u x hu hx => let ⟨a, b, c, d⟩ := h6 j u x hu hx; ⟨a.monoV h, b.monoV h, c, d⟩⟩
  | siter l p =>
    obtain ⟨h0, h1, bs, h3, h4⟩ := ho
    exact ⟨hlv.2 h0, hg.trans h1, bs, by rw [hob, hb]; exact h3, h4⟩
  | pend => exact fun e => ho (hlv.1 e)
  | dead => exact hlv.2 ho
  | loopo ts cs ps aops bops bz =>
    obtain ⟨h0, h1, h2, r, h3, h4⟩ := ho
    exact ⟨hlv.2 h0, hg.trans h1, h2, r, by rw [hob, hb]; exact h3, { h4 with tmps := fun j t u ht hu => let ⟨c, a, b⟩ := h4.tmps j t u ht hu; ⟨c, a, b.monoV h⟩ }⟩
  | defo =>
    obtain ⟨h0, h1, h3⟩ := ho
    exact ⟨hlv.2 h0, hg.trans h1, by rw [hob, hb]; exact h3⟩

/-- of an object that is there its block may be another one -/
theorem ObjOk.monoV' {γ γ' : Gh} {w w' : World} (h : LeV γ w γ' w') {i : Nat} {o : AObj} (hlv : γ'.lv i ↔ γ.lv i) (hg : γ.lv i → γ'.ge i = γ.ge i) (hob : γ.lv i → γ'.ob i = γ.ob i) (hb : γ.lv i → w'.heap[γ.ob i]? = w.heap[γ.ob i]?) (ho : ObjOk P γ w i o) : ObjOk P γ' w' i o := by
  by_cases hl : γ.lv i
  · exact ho.monoV h hlv (hg hl) (hob hl) (hb hl)
  · cases o with
    | pend => exact fun e => hl (hlv.1 e)
    | cells cs g => exact absurd ho.1 hl
    | mapo es => exact absurd ho.1 hl
    | siter l p => exact absurd ho.1 hl
    | dead => exact absurd ho hl
    | loopo => exact absurd ho.1 hl
    | defo => exact absurd ho.1 hl

theorem ObjOk.mono {γ γ' : Gh} {w w' : World} (h : Le γ w γ' w') {i : Nat} {o : AObj} (hlv : γ'.lv i ↔ γ.lv i) (hg : γ'.ge i = γ.ge i) (hob : γ'.ob i = γ.ob i) (hb : w'.heap[γ.ob i]? = w.heap[γ.ob i]?) (ho : ObjOk P γ w i o) : ObjOk P γ' w' i o := ho.monoV h.toLeV hlv hg hob hb

theorem ObjOk.mono' {γ γ' : Gh} {w w' : World} (h : Le γ w γ' w') {i : Nat} {o : AObj} (hlv : γ'.lv i ↔ γ.lv i) (hg : γ.lv i → γ'.ge i = γ.ge i) (hob : γ.lv i → γ'.ob i = γ.ob i) (hb : γ.lv i → w'.heap[γ.ob i]? = w.heap[γ.ob i]?) (ho : ObjOk P γ w i o) : ObjOk P γ' w' i o := ho.monoV' h.toLeV hlv hg hob hb

-- ---------------------------------------------------------------- a draw

theorem Le.drew (γ : Gh) (w : World) : Le γ w γ w.drew :=
  { Le.refl γ w with below := (Below.refl _ _).drew, F := fun _ _ h => ⟨h, rfl⟩, sz := fun _ c _ fr h => ⟨c, fr, h, rfl⟩, fr := fun _ h => ⟨h, .inl rfl, fun _ h => h⟩ }

theorem Inv.drew {γ : Gh} {s : Sg} {w : World} (h : Inv P γ s w) : Inv P γ s w.drew :=
  { h with
    obj := fun i o ho => (h.obj i o ho).mono (Le.drew γ w) Iff.rfl rfl rfl rfl
    lt := h.lt, tok := h.tok, Flt := h.Flt, base := h.base, ty := fun p hp => (h.ty p hp).monoV (Le.drew γ w).toLeV, gl := fun p hp => (h.gl p hp).monoV (Le.drew γ w).toLeV }

-- ---------------------------------------------------------------- a new block

theorem Le.alloc {γ γ' : Gh} {w : World} (o : Obj) (hbase : γ.base ≤ w.heap.size) (hF : ∀ b o, γ.F b o → b < w.heap.size)
    (h1 : γ'.base = γ.base) (h2 : γ.n ≤ γ'.n) (h3 : ∀ i, γ.live i → γ'.lv i ∧ γ'.ge i = γ.ge i ∧ γ'.ob i = γ.ob i) (h4 : γ.tn ≤ γ'.tn) (h5 : ∀ t, t < γ.tn → γ.tv t ≤ γ'.tv t ∧ (γ'.tv t = γ.tv t → γ'.tb t = γ.tb t ∧ γ'.te t = γ.te t ∧ γ'.ts t = γ.ts t))
    (h6 : ∀ b o, γ.F b o → γ'.F b o) (h7 : ∀ b, Foreign γ w b → (∀ i, γ'.live i → γ'.ob i ≠ b) ∧ (∀ t, t < γ'.tn → γ'.tb t ≠ b) ∧ ∀ o, γ'.F b o → γ.F b o) : Le γ w γ' (w.alloc o) where
  base := h1
  n := h2
  lv i hi := (h3 i hi).1
  ge i hi := Nat.le_of_eq (h3 i hi).2.1.symm
  ob i hi _ := (h3 i hi).2.2
  tn := h4
  tv t ht := (h5 t ht).1
  tb t ht e := (h5 t ht).2 e
  F b o hf := ⟨h6 b o hf, World.cell?_alloc_lt w _ _ (hF b o hf)⟩
  sz b c e fr hb := ⟨c, fr, by rw [Below.heap_alloc _ _ _ (Array.getElem?_eq_some_iff.1 hb).1]; exact hb, rfl⟩
  below := (Below.refl _ _).alloc hbase o
  fr b hb := by
    obtain ⟨a, c, d⟩ := h7 b hb
    exact ⟨⟨by have := hb.1; simp; omega, a, c⟩, .inl (Below.heap_alloc _ _ _ hb.1).symm, d⟩

def upd {α : Type} (f : Nat → α) (i : Nat) (x : α) : Nat → α := fun j => if j = i then x else f j

@[simp] theorem upd_same {α : Type} (f : Nat → α) (i : Nat) (x : α) : upd f i x i = x := by simp [upd]
theorem upd_ne {α : Type} (f : Nat → α) {i j : Nat} (x : α) (h : j ≠ i) : upd f i x j = f j := by simp [upd, h]
theorem upd_lt {α : Type} (f : Nat → α) {i j : Nat} (x : α) (h : j < i) : upd f i x j = f j := upd_ne f x (Nat.ne_of_lt h)

/-- with one more object, at a new block -/
def Gh.push (γ : Gh) (b : Nat) : Gh := { γ with n := γ.n + 1, ob := upd γ.ob γ.n b, ge := upd γ.ge γ.n 0, lv := upd γ.lv γ.n True }

theorem Gh.push_live {γ : Gh} {b i : Nat} (h : (γ.push b).live i) : γ.live i ∨ i = γ.n := by
  obtain ⟨h1, h2⟩ := h
  simp only [Gh.push] at h1 h2
  by_cases e : i = γ.n
  · exact .inr e
  · rw [upd_ne _ _ e] at h2
    exact .inl ⟨by omega, h2⟩

theorem Gh.live_push {γ : Gh} {b i : Nat} (h : γ.live i) : (γ.push b).live i := ⟨by have := h.1; simp only [Gh.push]; omega, by simp only [Gh.push]; rw [upd_lt _ _ h.1]; exact h.2⟩

theorem Gh.push_live_n (γ : Gh) (b : Nat) : (γ.push b).live γ.n := ⟨by simp only [Gh.push]; omega, by simp only [Gh.push]; rw [upd_same]; trivial⟩

theorem Le.push {γ : Gh} {s : Sg} {w : World} (h : Inv P γ s w) (o : Obj) : Le γ w (γ.push w.heap.size) (w.alloc o) :=
  Le.alloc o h.base h.Flt rfl (Nat.le_succ _) (fun i hi => ⟨(Gh.live_push hi).2, upd_lt _ _ hi.1, upd_lt _ _ hi.1⟩) (Nat.le_refl _) (fun t _ => ⟨Nat.le_refl _, fun _ => ⟨rfl, rfl, rfl⟩⟩) (fun _ _ h => h) fun b hb =>
    ⟨fun i hi e => by
      rcases Gh.push_live hi with h | rfl
      · simp only [Gh.push] at e
        rw [upd_lt _ _ h.1] at e
        exact hb.2.1 i h e
      · simp only [Gh.push, upd_same] at e
        have := hb.1
        omega, hb.2.2, fun _ h => h⟩

theorem Inv.push_gen {γ : Gh} {s : Sg} {w : World} (h : Inv P γ s w) (ob : Obj) (hob : ∀ (c : Array Value) e fr, ob = .cells c e fr → FrOk fr c.size) (o : AObj) (ho : ObjOk P (γ.push w.heap.size) (w.alloc ob) γ.n o) : Inv P (γ.push w.heap.size) (s.push o) (w.alloc ob) where
  ty := fun p hp => (h.ty p hp).monoV (Le.push h ob).toLeV
  gl := fun p hp => (h.gl p hp).monoV (Le.push h ob).toLeV
  n := by simp [Sg.push, Gh.push, h.n]
  tn := h.tn
  obj i o' hi := by
    simp only [Sg.push, List.getElem?_append] at hi
    split at hi
    · rename_i hlt
      have hlt' : i < γ.n := h.n ▸ hlt
      refine (h.obj i o' hi).mono' (Le.push h ob) ?_ (fun _ => upd_lt _ _ hlt') (fun _ => upd_lt _ _ hlt') fun hl => ?_
      · show (upd γ.lv γ.n True) i ↔ _
        rw [upd_lt _ _ hlt']
      · rw [Below.heap_alloc _ _ _ (h.lt i ⟨hlt', hl⟩).2.1]
    · rename_i hge
      have e : i - s.heap.length = 0 := by
        have := lt_of_getElem? hi
        simp at this
        omega
      rw [e] at hi
      simp at hi
      subst hi
      have : i = γ.n := by have := h.n; omega
      rw [this]
      exact ho
  inj i j hi hj e := by
    rcases Gh.push_live hi with a | a <;> rcases Gh.push_live hj with b | b
    · simp only [Gh.push] at e
      rw [upd_lt _ _ a.1, upd_lt _ _ b.1] at e; exact h.inj i j a b e
    · subst b
      simp only [Gh.push] at e
      rw [upd_lt _ _ a.1, upd_same] at e
      have := (h.lt i a).2.1
      omega
    · subst a
      simp only [Gh.push] at e
      rw [upd_lt _ _ b.1, upd_same] at e
      have := (h.lt j b).2.1
      omega
    · omega
  lt i hi := by
    rcases Gh.push_live hi with a | a
    · simp only [Gh.push]
      rw [upd_lt _ _ a.1]
      obtain ⟨x, y, z⟩ := h.lt i a
      exact ⟨x, by simp; omega, z⟩
    · subst a
      simp only [Gh.push]
      rw [upd_same]
      exact ⟨h.base, by simp, fun o hf => by have := h.Flt _ _ hf; omega⟩
  tok t ht := by
    obtain ⟨a, b, c, d, e, fr, f, g⟩ := h.tok t ht
    exact ⟨a, b, c, d, e, fr, by show (w.alloc ob).heap[γ.tb t]? = _; rw [Below.heap_alloc _ _ _ (Array.getElem?_eq_some_iff.1 f).1]; exact f, g⟩
  tinj := h.tinj
  tob t i ht hi := by
    rcases Gh.push_live hi with a | a
    · simp only [Gh.push]; rw [upd_lt _ _ a.1]; exact h.tob t i ht a
    · subst a
      simp only [Gh.push]
      rw [upd_same]
      obtain ⟨_, _, _, d, e, fr, f, g⟩ := h.tok t ht
      have := (Array.getElem?_eq_some_iff.1 f).1
      omega
  Flt b o hf := by have := h.Flt b o hf; simp; omega
  base := by have := h.base; show γ.base ≤ _; simp; omega

/-- a new block of cells, as an object -/
theorem Inv.push {γ : Gh} {s : Sg} {w : World} (h : Inv P γ s w) {l : List AV} {c : Array Value} (e : TypeId) (hl : VRs γ w l c) (h1 : allOne l = true) :
    Inv P (γ.push w.heap.size) (s.push (.cells l 0)) (w.alloc (.cells c e)) :=
  h.push_gen _ (fun _ _ _ e' => by cases e'; exact .none _) _ ⟨(Gh.push_live_n _ _).2, upd_same _ _ _, h1, c, e, (0, 0), by
    show (w.alloc (.cells c e)).heap[upd γ.ob γ.n w.heap.size γ.n]? = _
    rw [upd_same]
    show (w.heap.push _)[w.heap.size]? = _
    simp, Nat.le_of_eq hl.1, .none _, fun j u x hu hx => (hl.2 j u x hu hx).mono (Le.push h _)⟩

/-- cells that are frozen besides -/
def Gh.freeze (γ : Gh) (b o n : Nat) : Gh := { γ with F := fun b' o' => γ.F b' o' ∨ (b' = b ∧ o ≤ o' ∧ o' < o + n) }

theorem Le.fresh {γ : Gh} {s : Sg} {w : World} (h : Inv P γ s w) (o : Obj) (n : Nat) : Le γ w (γ.freeze w.heap.size 0 n) (w.alloc o) :=
  Le.alloc o h.base h.Flt rfl (Nat.le_refl _) (fun _ h => ⟨h.2, rfl, rfl⟩) (Nat.le_refl _) (fun _ _ => ⟨Nat.le_refl _, fun _ => ⟨rfl, rfl, rfl⟩⟩) (fun _ _ h => .inl h) fun b hb =>
    ⟨hb.2.1, hb.2.2, fun o' hf => hf.elim (fun h => h) fun h => by have := hb.1; omega⟩

/-- a new block of cells, never to be written -/
theorem Inv.fresh {γ : Gh} {s : Sg} {w : World} (h : Inv P γ s w) (o : Obj) (ho : ∀ (c : Array Value) e fr, o = .cells c e fr → FrOk fr c.size) (n : Nat) : Inv P (γ.freeze w.heap.size 0 n) s (w.alloc o) where
  ty := fun p hp => (h.ty p hp).monoV (Le.fresh h o n).toLeV
  gl := fun p hp => (h.gl p hp).monoV (Le.fresh h o n).toLeV
  n := h.n
  tn := h.tn
  obj i o' hi := by
    have hlt := h.ilt hi
    refine (h.obj i o' hi).mono' (Le.fresh h o n) Iff.rfl (fun _ => rfl) (fun _ => rfl) fun hl => ?_
    rw [Below.heap_alloc _ _ _ (h.lt i ⟨hlt, hl⟩).2.1]
  inj := h.inj
  lt i hi := by
    obtain ⟨x, y, z⟩ := h.lt i hi
    refine ⟨x, by show γ.ob i < _; simp; omega, fun o hf => ?_⟩
    rcases hf with hf | ⟨e, _⟩
    · exact z o hf
    · have : γ.ob i = w.heap.size := e
      omega
  tok t ht := by
    obtain ⟨a, b, c, d, e, fr, f, g⟩ := h.tok t ht
    have hlt := (Array.getElem?_eq_some_iff.1 f).1
    refine ⟨a, b, fun o' ho' hf => ?_, d, e, fr, by show (w.alloc o).heap[γ.tb t]? = _; rw [Below.heap_alloc _ _ _ hlt]; exact f, g⟩
    rcases hf with hf | ⟨e', _⟩
    · exact c o' ho' hf
    · have : γ.tb t = w.heap.size := e'
      omega
  tinj := h.tinj
  tob := h.tob
  Flt b o' hf := by
    rcases hf with hf | ⟨e, _⟩
    · have := h.Flt b o' hf; simp; omega
    · subst e; simp
  base := by have := h.base; show γ.base ≤ _; simp; omega

-- ---------------------------------------------------------------- a row written

theorem heap_setRow_other (w : World) (b : Nat) (cs : Array Value) {k : Nat} (h : k ≠ b) : (w.setRow b cs).heap[k]? = w.heap[k]? := by
  simp only [World.setRow, Array.getElem?_modify]
  rw [if_neg (fun e => h e.symm)]

theorem size_setRow (w : World) (b : Nat) (cs : Array Value) : (w.setRow b cs).heap.size = w.heap.size := by simp [World.setRow]

theorem cell?_row {w : World} {b : Nat} {c : Array Value} {e : TypeId} {fr : Nat × Nat} (h : w.heap[b]? = some (.cells c e fr)) (o : Nat) : w.cell? ⟨b, o, none⟩ = c[o]? := by
  simp [World.cell?, h]

theorem Below.setRow {B : Nat} (w : World) {b : Nat} (cs : Array Value) (hb : B ≤ b) : Below B w (w.setRow b cs) :=
  ⟨rfl, rfl, rfl, by simp [size_setRow], fun k hk => heap_setRow_other w b cs (by omega)⟩

theorem Le.setRow {γ : Gh} {w : World} {b : Nat} {cs cs' : Array Value} {e : TypeId} {fr : Nat × Nat} (hb : w.heap[b]? = some (.cells cs e fr)) (hsz : cs'.size = cs.size)
    (hF : ∀ o, γ.F b o → cs'[o]? = cs[o]?) (hbase : γ.base ≤ b) (hnf : ¬ Foreign γ w b) : Le γ w γ (w.setRow b cs') :=
  { Le.refl γ w with
    F := fun b' o hf => ⟨hf, by
      by_cases e' : b' = b
      · subst e'
        rw [cell?_row (setRow_heap w b' cs cs' e fr hb), cell?_row hb]
        exact hF o hf
      · exact World.cell?_of_block (heap_setRow_other w b cs' e')⟩
    sz := fun b' c e' fr' hb' => by
      by_cases e1 : b' = b
      · subst e1
        rw [hb] at hb'
        cases hb'
        exact ⟨cs', fr, setRow_heap w b' cs cs' e fr hb, hsz⟩
      · exact ⟨c, fr', by rw [heap_setRow_other w b cs' e1]; exact hb', rfl⟩
    below := Below.setRow w cs' hbase
    fr := fun b' h => by
      have hne : b' ≠ b := fun e => hnf (e ▸ h)
      exact ⟨⟨by rw [size_setRow]; exact h.1, h.2.1, h.2.2⟩, .inl (heap_setRow_other w b cs' hne).symm, fun _ h => h⟩ }

/-- an object's cells are written -/
theorem Inv.setObj {γ : Gh} {s : Sg} {w : World} (h : Inv P γ s w) {i g : Nat} {old l : List AV} {c' : Array Value} (ho : s.heap[i]? = some (.cells old g))
    (h1 : allOne l = true) (hl : l.length ≤ c'.size) (hsz : ∀ (c : Array Value) e fr, w.heap[γ.ob i]? = some (.cells c e fr) → c'.size = c.size) (hv : ∀ (j : Nat) u x, l[j]? = some u → c'[j]? = some x → VR γ w u x) :
    Inv P γ { s with heap := setAt s.heap i (.cells l g) } (w.setRow (γ.ob i) c') ∧ Le γ w γ (w.setRow (γ.ob i) c') := by
  have hi := h.live ho (by intro e; cases e)
  obtain ⟨k0, k1, k2, c, e, fr, k3, k4, k5, k6⟩ := h.obj i _ ho
  obtain ⟨l1, l2, l3⟩ := h.lt i hi
  have hle : Le γ w γ (w.setRow (γ.ob i) c') := Le.setRow k3 (hsz c e fr k3) (fun o hf => absurd hf (l3 o)) l1 (fun hf => hf.2.1 i hi rfl)
  refine ⟨⟨by simp [length_setAt, h.n], h.tn, ?_, h.inj, ?_, ?_, h.tinj, h.tob, ?_, by rw [size_setRow]; exact h.base, fun p hp => (h.ty p hp).monoV hle.toLeV, fun p hp => (h.gl p hp).monoV hle.toLeV⟩, hle⟩
  · intro j o hj
    simp only [getElem?_setAt] at hj
    split at hj
    · rename_i e'
      subst e'
      rw [if_pos (lt_of_getElem? ho)] at hj
      cases hj
      exact ⟨k0, k1, h1, c', e, fr, setRow_heap w _ c c' e fr k3, hl, by rw [hsz c e fr k3]; exact k5, fun j u x hu hx => (hv j u x hu hx).mono hle⟩
    · rename_i hne
      have hj' := h.ilt hj
      refine (h.obj j o hj).mono' hle Iff.rfl (fun _ => rfl) (fun _ => rfl) fun hl => ?_
      exact heap_setRow_other w _ c' fun e' => hne (h.inj j i ⟨hj', hl⟩ hi e')
  · intro j hj
    obtain ⟨a, b, c⟩ := h.lt j hj
    exact ⟨a, by rw [size_setRow]; exact b, c⟩
  · intro t ht
    obtain ⟨a, b, c0, d, e', fr', f, g'⟩ := h.tok t ht
    exact ⟨a, b, c0, d, e', fr', by rw [heap_setRow_other w _ c' (h.tob t i ht hi)]; exact f, g'⟩
  · intro b o hf
    rw [size_setRow]
    exact h.Flt b o hf

end Go.Am

/-
  The abstract machine, fifth part: appends, as the invariant sees them.
-/
namespace Go.Am
open Go.RowKit (Below)

variable {P : Program}

/-- a row's cells with others written from a place on -/
def splice (c : Array Value) (o : Nat) (xs : List Value) : Array Value := (c.toList.take o ++ xs ++ c.toList.drop (o + xs.length)).toArray

theorem size_splice (c : Array Value) (o : Nat) (xs : List Value) (h : o + xs.length ≤ c.size) : (splice c o xs).size = c.size := by
  simp only [splice, List.size_toArray, List.length_append, List.length_take, List.length_drop, Array.length_toList]
  omega

theorem splice_out (c : Array Value) (o : Nat) (xs : List Value) (h : o + xs.length ≤ c.size) {j : Nat} (hj : j < o ∨ o + xs.length ≤ j) : (splice c o xs)[j]? = c[j]? := by
  simp only [splice, List.getElem?_toArray, List.getElem?_append, List.length_append, List.length_take, Array.length_toList, List.getElem?_take, List.getElem?_drop]
  have hm : min o c.size = o := by omega
  rw [hm]
  rcases hj with hj | hj
  · rw [if_pos (by omega), if_pos (by omega), if_pos hj]; simp
  · rw [if_neg (by omega)]
    have : o + xs.length + (j - (o + xs.length)) = j := by omega
    rw [this]; simp

theorem splice_in (c : Array Value) (o : Nat) (xs : List Value) (h : o + xs.length ≤ c.size) {j : Nat} (hj : j < xs.length) : (splice c o xs)[o + j]? = xs[j]? := by
  simp only [splice, List.getElem?_toArray, List.getElem?_append, List.length_append, List.length_take, Array.length_toList]
  have hm : min o c.size = o := by omega
  rw [hm, if_pos (by omega), if_neg (by omega)]
  have : o + j - o = j := by omega
  rw [this]

/-- a token's slice has grown in place -/
def Gh.grow (γ : Gh) (t k : Nat) : Gh := { γ.freeze (γ.tb t) (γ.te t) k with te := upd γ.te t (γ.te t + k), tv := upd γ.tv t (γ.tv t + 1) }

theorem tok_in_place {γ : Gh} {s : Sg} {w : World} (h : Inv P γ s w) {t : Nat} (ht : t < γ.tn) (xs : List Value) (c : Array Value) (e : TypeId) (fr : Nat × Nat)
    (hc : w.heap[γ.tb t]? = some (.cells c e fr)) (hx : γ.te t + xs.length ≤ c.size) :
    Inv P (γ.grow t xs.length) { s with toks := setAt s.toks t (γ.tv t + 1) } (w.setRow (γ.tb t) (splice c (γ.te t) xs)) ∧
    Le γ w (γ.grow t xs.length) (w.setRow (γ.tb t) (splice c (γ.te t) xs)) ∧
    Lie (γ.grow t xs.length) (w.setRow (γ.tb t) (splice c (γ.te t) xs)) (γ.tb t) (γ.te t) xs.length (fun j => xs.getD j undef) := by
  obtain ⟨t1, t2, t3, c0, e0, fr0, t4, t5, t6⟩ := h.tok t ht
  rw [hc] at t4
  cases t4
  have hsz := size_splice c (γ.te t) xs hx
  have hle0 : Le γ w γ (w.setRow (γ.tb t) (splice c (γ.te t) xs)) := Le.setRow hc hsz (fun o hf => by
    refine splice_out c _ xs hx (.inl ?_)
    rcases Nat.lt_or_ge o (γ.te t) with a | a
    · exact a
    · exact absurd hf (t3 o a)) t2 (fun hf => hf.2.2 t ht rfl)
  have hle : Le γ w (γ.grow t xs.length) (w.setRow (γ.tb t) (splice c (γ.te t) xs)) :=
    { base := rfl, n := Nat.le_refl _, lv := fun _ h => h.2, ge := fun _ _ => Nat.le_refl _, ob := fun _ _ _ => rfl, tn := Nat.le_refl _
      tv := fun u hu => by
        show γ.tv u ≤ upd γ.tv t _ u
        by_cases e' : u = t
        · subst e'; simp
        · rw [upd_ne _ _ e']; exact Nat.le_refl _
      tb := fun u hu e' => by
        have hne : u ≠ t := fun e1 => by
          subst e1
          have : upd γ.tv u (γ.tv u + 1) u = γ.tv u := e'
          rw [upd_same] at this
          omega
        exact ⟨rfl, upd_ne _ _ hne, rfl⟩
      F := fun b o hf => ⟨.inl hf, (hle0.F b o hf).2⟩
      sz := hle0.sz, below := hle0.below
      fr := fun b hb => by
        obtain ⟨a1, a2, a3⟩ := hle0.fr b hb
        exact ⟨a1, a2, fun o hf => hf.elim (fun h => h) fun h => absurd h.1.symm (hb.2.2 t ht)⟩ }
  refine ⟨⟨h.n, by simp [length_setAt]; exact h.tn, ?_, h.inj, ?_, ?_, h.tinj, h.tob, ?_, by rw [size_setRow]; exact h.base, fun p hp => (h.ty p hp).monoV hle.toLeV, fun p hp => (h.gl p hp).monoV hle.toLeV⟩, hle, ?_⟩
  · intro i o hi
    exact (h.obj i o hi).mono' hle Iff.rfl (fun _ => rfl) (fun _ => rfl) fun hl => heap_setRow_other w _ _ fun e' => h.tob t i ht ⟨h.ilt hi, hl⟩ e'.symm
  · intro i hi
    obtain ⟨a, b, c1⟩ := h.lt i hi
    refine ⟨a, by rw [size_setRow]; exact b, fun o hf => ?_⟩
    rcases hf with hf | ⟨e', _⟩
    · exact c1 o hf
    · exact h.tob t i ht hi e'.symm
  · intro u hu
    obtain ⟨a, b, c1, d, e', fr', f, g, g2⟩ := h.tok u hu
    by_cases e1 : u = t
    · subst e1
      rw [hc] at f
      cases f
      refine ⟨?_, b, fun o ho hf => ?_, splice c (γ.te u) xs, e, fr, setRow_heap w _ c _ e fr hc, by rw [hsz]; exact g, by rw [hsz]; exact g2⟩
      · simp only [getElem?_setAt, if_true]
        rw [if_pos (by have := h.tn; show u < s.toks.length; omega)]
        show _ = some (upd γ.tv u _ u)
        rw [upd_same]
      · have ho' : γ.te u + xs.length ≤ o := by
          have : upd γ.te u (γ.te u + xs.length) u ≤ o := ho
          rwa [upd_same] at this
        rcases hf with hf | ⟨_, _, hlt⟩
        · exact c1 o (by omega) hf
        · omega
    · refine ⟨?_, b, fun o ho hf => ?_, d, e', fr', by show (w.setRow (γ.tb t) _).heap[γ.tb u]? = _; rw [heap_setRow_other w _ _ fun e2 => e1 (h.tinj u t hu ht e2)]; exact f, g, g2⟩
      · simp only [getElem?_setAt, if_neg e1]
        show _ = some (upd γ.tv t _ u)
        rw [upd_ne _ _ e1]
        exact a
      · have ho' : γ.te u ≤ o := by
          have : upd γ.te t (γ.te t + xs.length) u ≤ o := ho
          rwa [upd_ne _ _ e1] at this
        rcases hf with hf | ⟨e2, _⟩
        · exact c1 o ho' hf
        · exact e1 (h.tinj u t hu ht e2)
  · intro b o hf
    rw [size_setRow]
    rcases hf with hf | ⟨e', _⟩
    · exact h.Flt b o hf
    · subst e'; exact (Array.getElem?_eq_some_iff.1 hc).1
  · intro j hj
    refine ⟨.inr ⟨rfl, by omega, by omega⟩, ?_⟩
    rw [cell?_row (setRow_heap w _ c _ e fr hc), splice_in c _ xs hx hj]
    simp [hj]

/-- a token's slice lies at a new block: of a new token -/
def Gh.newTok (γ : Gh) (b k sz : Nat) : Gh :=
  { γ.freeze b 0 k with tn := γ.tn + 1, tb := upd γ.tb γ.tn b, te := upd γ.te γ.tn k, ts := upd γ.ts γ.tn sz, tv := upd γ.tv γ.tn 0 }

theorem Le.newTok {γ : Gh} {s : Sg} {w : World} (h : Inv P γ s w) (c : Array Value) (e : TypeId) (k : Nat) : Le γ w (γ.newTok w.heap.size k c.size) (w.alloc (.cells c e)) :=
  Le.alloc _ h.base h.Flt rfl (Nat.le_refl _) (fun _ h => ⟨h.2, rfl, rfl⟩) (Nat.le_succ _) (fun t ht => by
    show γ.tv t ≤ upd γ.tv γ.tn 0 t ∧ (_ → upd γ.tb γ.tn _ t = _ ∧ upd γ.te γ.tn _ t = _ ∧ upd γ.ts γ.tn _ t = _)
    rw [upd_lt _ _ ht, upd_lt _ _ ht, upd_lt _ _ ht, upd_lt _ _ ht]
    exact ⟨Nat.le_refl _, fun _ => ⟨rfl, rfl, rfl⟩⟩) (fun _ _ h => .inl h) fun b hb => ⟨hb.2.1, fun t ht e' => by
      have ht' : t < γ.tn + 1 := ht
      have e1 : upd γ.tb γ.tn w.heap.size t = b := e'
      rcases Nat.lt_or_ge t γ.tn with a | a
      · rw [upd_lt _ _ a] at e1; exact hb.2.2 t a e1
      · have : t = γ.tn := by omega
        subst this
        rw [upd_same] at e1
        have := hb.1
        omega, fun o hf => hf.elim (fun h => h) fun h => by have := hb.1; omega⟩

theorem Inv.newTok {γ : Gh} {s : Sg} {w : World} (h : Inv P γ s w) (c : Array Value) (e : TypeId) (k : Nat) :
    Inv P (γ.newTok w.heap.size k c.size) { s with toks := s.toks ++ [0] } (w.alloc (.cells c e)) where
  ty := fun p hp => (h.ty p hp).monoV (Le.newTok h c e k).toLeV
  gl := fun p hp => (h.gl p hp).monoV (Le.newTok h c e k).toLeV
  n := h.n
  tn := by simp [Gh.newTok, h.tn]
  obj i o hi := by
    refine (h.obj i o hi).mono' (Le.newTok h c e k) Iff.rfl (fun _ => rfl) (fun _ => rfl) fun hl => ?_
    rw [Below.heap_alloc _ _ _ (h.lt i ⟨h.ilt hi, hl⟩).2.1]
  inj := h.inj
  lt i hi := by
    obtain ⟨x, y, z⟩ := h.lt i hi
    refine ⟨x, by show γ.ob i < _; simp; omega, fun o hf => ?_⟩
    rcases hf with hf | ⟨e', _⟩
    · exact z o hf
    · have : γ.ob i = w.heap.size := e'
      omega
  tok t ht := by
    show (s.toks ++ [0])[t]? = some (upd γ.tv γ.tn 0 t) ∧ γ.base ≤ upd γ.tb γ.tn w.heap.size t ∧ (∀ o, upd γ.te γ.tn k t ≤ o → ¬ (γ.F (upd γ.tb γ.tn w.heap.size t) o ∨ (upd γ.tb γ.tn w.heap.size t = w.heap.size ∧ 0 ≤ o ∧ o < 0 + k))) ∧
      ∃ (c' : Array Value) (e' : TypeId) (fr : Nat × Nat), (w.alloc (.cells c e)).heap[upd γ.tb γ.tn w.heap.size t]? = some (.cells c' e' fr) ∧ c'.size = upd γ.ts γ.tn c.size t ∧ FrOk fr c'.size
    have ht' : t < γ.tn + 1 := ht
    rcases Nat.lt_or_ge t γ.tn with a | a
    · rw [upd_lt _ _ a, upd_lt _ _ a, upd_lt _ _ a, upd_lt _ _ a]
      obtain ⟨t1, t2, t3, d, e', fr', f, g⟩ := h.tok t a
      have hlt := (Array.getElem?_eq_some_iff.1 f).1
      refine ⟨?_, t2, fun o ho hf => ?_, d, e', fr', by rw [Below.heap_alloc _ _ _ hlt]; exact f, g⟩
      · rw [List.getElem?_append_left (by have := h.tn; omega)]; exact t1
      · rcases hf with hf | ⟨e1, _⟩
        · exact t3 o ho hf
        · omega
    · have : t = γ.tn := by omega
      subst this
      rw [upd_same, upd_same, upd_same, upd_same]
      refine ⟨?_, h.base, fun o ho hf => ?_, c, e, (0, 0), ?_, rfl, .none _⟩
      · rw [List.getElem?_append_right (by have := h.tn; omega)]
        have : γ.tn - s.toks.length = 0 := by have := h.tn; omega
        rw [this]; rfl
      · rcases hf with hf | ⟨_, _, h2⟩
        · have := h.Flt _ _ hf; omega
        · omega
      · show (w.heap.push _)[w.heap.size]? = _
        simp
  tinj t u ht hu e' := by
    have ht' : t < γ.tn + 1 := ht
    have hu' : u < γ.tn + 1 := hu
    have e1 : upd γ.tb γ.tn w.heap.size t = upd γ.tb γ.tn w.heap.size u := e'
    rcases Nat.lt_or_ge t γ.tn with a | a <;> rcases Nat.lt_or_ge u γ.tn with b | b
    · rw [upd_lt _ _ a, upd_lt _ _ b] at e1; exact h.tinj t u a b e1
    · have : u = γ.tn := by omega
      subst this
      rw [upd_lt _ _ a, upd_same] at e1
      obtain ⟨_, _, _, d, e', fr', f, g⟩ := h.tok t a
      have hlt := (Array.getElem?_eq_some_iff.1 f).1
      omega
    · have : t = γ.tn := by omega
      subst this
      rw [upd_lt _ _ b, upd_same] at e1
      obtain ⟨_, _, _, d, e', fr', f, g⟩ := h.tok u b
      have hlt := (Array.getElem?_eq_some_iff.1 f).1
      omega
    · omega
  tob t i ht hi := by
    show upd γ.tb γ.tn w.heap.size t ≠ γ.ob i
    have ht' : t < γ.tn + 1 := ht
    rcases Nat.lt_or_ge t γ.tn with a | a
    · rw [upd_lt _ _ a]; exact h.tob t i a hi
    · have : t = γ.tn := by omega
      subst this
      rw [upd_same]
      have := (h.lt i hi).2.1
      omega
  Flt b o hf := by
    rcases hf with hf | ⟨e', _⟩
    · have := h.Flt b o hf; simp; omega
    · subst e'; simp
  base := by have := h.base; show γ.base ≤ _; simp; omega

/-- a token's slice lies at a new block: of a token that there is -/
def Gh.moveTok (γ : Gh) (t b k sz : Nat) : Gh :=
  { γ.freeze b 0 k with tb := upd γ.tb t b, te := upd γ.te t k, ts := upd γ.ts t sz, tv := upd γ.tv t (γ.tv t + 1) }

theorem Le.moveTok {γ : Gh} {s : Sg} {w : World} (h : Inv P γ s w) (t : Nat) (c : Array Value) (e : TypeId) (k : Nat) : Le γ w (γ.moveTok t w.heap.size k c.size) (w.alloc (.cells c e)) :=
  Le.alloc _ h.base h.Flt rfl (Nat.le_refl _) (fun _ h => ⟨h.2, rfl, rfl⟩) (Nat.le_refl _) (fun u hu => by
    show γ.tv u ≤ upd γ.tv t _ u ∧ (upd γ.tv t _ u = γ.tv u → upd γ.tb t _ u = _ ∧ upd γ.te t _ u = _ ∧ upd γ.ts t _ u = _)
    by_cases e' : u = t
    · subst e'
      rw [upd_same]
      exact ⟨Nat.le_succ _, fun h => by omega⟩
    · rw [upd_ne _ _ e', upd_ne _ _ e', upd_ne _ _ e', upd_ne _ _ e']
      exact ⟨Nat.le_refl _, fun _ => ⟨rfl, rfl, rfl⟩⟩) (fun _ _ h => .inl h) fun b hb => ⟨hb.2.1, fun u hu e' => by
      have e1 : upd γ.tb t w.heap.size u = b := e'
      by_cases a : u = t
      · subst a
        rw [upd_same] at e1
        have := hb.1
        omega
      · rw [upd_ne _ _ a] at e1; exact hb.2.2 u hu e1, fun o hf => hf.elim (fun h => h) fun h => by have := hb.1; omega⟩

theorem Inv.moveTok {γ : Gh} {s : Sg} {w : World} (h : Inv P γ s w) {t : Nat} (ht : t < γ.tn) (c : Array Value) (e : TypeId) (k : Nat) :
    Inv P (γ.moveTok t w.heap.size k c.size) { s with toks := setAt s.toks t (γ.tv t + 1) } (w.alloc (.cells c e)) where
  ty := fun p hp => (h.ty p hp).monoV (Le.moveTok h t c e k).toLeV
  gl := fun p hp => (h.gl p hp).monoV (Le.moveTok h t c e k).toLeV
  n := h.n
  tn := by simp [Gh.moveTok, length_setAt, Gh.freeze, h.tn]
  obj i o hi := by
    refine (h.obj i o hi).mono' (Le.moveTok h t c e k) Iff.rfl (fun _ => rfl) (fun _ => rfl) fun hl => ?_
    rw [Below.heap_alloc _ _ _ (h.lt i ⟨h.ilt hi, hl⟩).2.1]
  inj := h.inj
  lt i hi := by
    obtain ⟨x, y, z⟩ := h.lt i hi
    refine ⟨x, by show γ.ob i < _; simp; omega, fun o hf => ?_⟩
    rcases hf with hf | ⟨e', _⟩
    · exact z o hf
    · have : γ.ob i = w.heap.size := e'
      omega
  tok u hu := by
    show (setAt s.toks t (γ.tv t + 1))[u]? = some (upd γ.tv t (γ.tv t + 1) u) ∧ γ.base ≤ upd γ.tb t w.heap.size u ∧ (∀ o, upd γ.te t k u ≤ o → ¬ (γ.F (upd γ.tb t w.heap.size u) o ∨ (upd γ.tb t w.heap.size u = w.heap.size ∧ 0 ≤ o ∧ o < 0 + k))) ∧
      ∃ (c' : Array Value) (e' : TypeId) (fr : Nat × Nat), (w.alloc (.cells c e)).heap[upd γ.tb t w.heap.size u]? = some (.cells c' e' fr) ∧ c'.size = upd γ.ts t c.size u ∧ FrOk fr c'.size
    by_cases e1 : u = t
    · subst e1
      rw [upd_same, upd_same, upd_same, upd_same]
      refine ⟨?_, h.base, fun o ho hf => ?_, c, e, (0, 0), ?_, rfl, .none _⟩
      · simp only [getElem?_setAt, if_true]
        rw [if_pos (by have := h.tn; show u < s.toks.length; omega)]
      · rcases hf with hf | ⟨_, _, h2⟩
        · have := h.Flt _ _ hf; omega
        · omega
      · show (w.heap.push _)[w.heap.size]? = _
        simp
    · rw [upd_ne _ _ e1, upd_ne _ _ e1, upd_ne _ _ e1, upd_ne _ _ e1]
      obtain ⟨t1, t2, t3, d, e', fr', f, g⟩ := h.tok u hu
      have hlt := (Array.getElem?_eq_some_iff.1 f).1
      refine ⟨?_, t2, fun o ho hf => ?_, d, e', fr', by rw [Below.heap_alloc _ _ _ hlt]; exact f, g⟩
      · simp only [getElem?_setAt, if_neg e1]; exact t1
      · rcases hf with hf | ⟨e2, _⟩
        · exact t3 o ho hf
        · omega
  tinj u v hu hv e' := by
    have e1 : upd γ.tb t w.heap.size u = upd γ.tb t w.heap.size v := e'
    have hl : ∀ x, x < γ.tn → γ.tb x < w.heap.size := fun x hx => by
      obtain ⟨_, _, _, d, e', fr', f, g⟩ := h.tok x hx
      exact (Array.getElem?_eq_some_iff.1 f).1
    by_cases a : u = t <;> by_cases b : v = t
    · omega
    · subst a
      rw [upd_same, upd_ne _ _ b] at e1
      have := hl v hv
      omega
    · subst b
      rw [upd_same, upd_ne _ _ a] at e1
      have := hl u hu
      omega
    · rw [upd_ne _ _ a, upd_ne _ _ b] at e1
      exact h.tinj u v hu hv e1
  tob u i hu hi := by
    show upd γ.tb t w.heap.size u ≠ γ.ob i
    by_cases a : u = t
    · subst a
      rw [upd_same]
      have := (h.lt i hi).2.1
      omega
    · rw [upd_ne _ _ a]; exact h.tob u i hu hi
  Flt b o hf := by
    rcases hf with hf | ⟨e', _⟩
    · have := h.Flt b o hf; simp; omega
    · subst e'; simp
  base := by have := h.base; show γ.base ≤ _; simp; omega

/-- an object's slice has grown: in place, or to a new block -/
def Gh.growObj (γ : Gh) (i b : Nat) : Gh := { γ with ob := upd γ.ob i b, ge := upd γ.ge i (γ.ge i + 1) }

theorem Le.growObj {γ : Gh} {w w' : World} (i b : Nat) (hle : Le γ w γ w') (hbf : ∀ b', Foreign γ w b' → b ≠ b') : Le γ w (γ.growObj i b) w' :=
  { base := rfl, n := Nat.le_refl _, lv := fun _ h => h.2
    ge := fun j _ => by
      show γ.ge j ≤ upd γ.ge i _ j
      by_cases e : j = i
      · subst e; simp
      · rw [upd_ne _ _ e]; exact Nat.le_refl _
    ob := fun j _ e => by
      have hne : j ≠ i := fun e1 => by
        subst e1
        have : upd γ.ge j (γ.ge j + 1) j = γ.ge j := e
        rw [upd_same] at this
        omega
      exact upd_ne _ _ hne
    tn := Nat.le_refl _, tv := fun _ _ => Nat.le_refl _, tb := fun _ _ _ => ⟨rfl, rfl, rfl⟩
    F := hle.F, sz := hle.sz, below := hle.below
    fr := fun b' hb => by
      obtain ⟨a1, a2, a3⟩ := hle.fr b' hb
      refine ⟨⟨a1.1, fun j hj e => ?_, a1.2.2⟩, a2, a3⟩
      have e1 : upd γ.ob i b j = b' := e
      by_cases e2 : j = i
      · subst e2
        rw [upd_same] at e1
        exact hbf b' hb e1
      · rw [upd_ne _ _ e2] at e1
        exact hb.2.1 j hj e1 }

theorem Inv.growObj {γ : Gh} {s : Sg} {w w' : World} (h : Inv P γ s w) {i g b : Nat} {old l : List AV} (ho : s.heap[i]? = some (.cells old g)) (hle : Le γ w γ w')
    (hoth : ∀ k, k < w.heap.size → k ≠ b → w'.heap[k]? = w.heap[k]?) (hb : b = γ.ob i ∨ w.heap.size ≤ b) (hbl : γ.base ≤ b ∧ b < w'.heap.size) (hF : ∀ o, ¬ γ.F b o) (hsz : w.heap.size ≤ w'.heap.size)
    (h1 : allOne l = true) {c : Array Value} {e : TypeId} {fr : Nat × Nat} (hc : w'.heap[b]? = some (.cells c e fr)) (hl : l.length ≤ c.size) (hfr : FrOk fr c.size) (hv : ∀ (j : Nat) u x, l[j]? = some u → c[j]? = some x → VR γ w u x) :
    Inv P (γ.growObj i b) { s with heap := setAt s.heap i (.cells l (g + 1)) } w' := by
  have hi := h.live ho (by intro e; cases e)
  obtain ⟨k0, k1, k2, _⟩ := h.obj i _ ho
  have hle' := hle.growObj i b fun b' hb' e => by
    rcases hb with hb | hb
    · exact hb'.2.1 i hi (hb.symm.trans e)
    · have := hb'.1; omega
  have hne : ∀ j, γ.live j → j ≠ i → γ.ob j ≠ b := fun j hj hji e' => by
    rcases hb with hb | hb
    · exact hji (h.inj j i hj hi (e'.trans hb))
    · have := (h.lt j hj).2.1; omega
  have htb : ∀ t, t < γ.tn → γ.tb t ≠ b := fun t ht e' => by
    rcases hb with hb | hb
    · exact h.tob t i ht hi (e'.trans hb)
    · obtain ⟨_, _, _, d, e1, fr', f, g⟩ := h.tok t ht
      have := (Array.getElem?_eq_some_iff.1 f).1
      omega
  refine ⟨by simp [length_setAt, h.n, Gh.growObj], h.tn, ?_, ?_, ?_, ?_, h.tinj, ?_, ?_, Nat.le_trans h.base hsz, fun p hp => (h.ty p hp).monoV hle'.toLeV, fun p hp => (h.gl p hp).monoV hle'.toLeV⟩
  · intro j o hj
    simp only [getElem?_setAt] at hj
    split at hj
    · rename_i e'
      subst e'
      rw [if_pos (lt_of_getElem? ho)] at hj
      cases hj
      refine ⟨k0, ?_, h1, c, e, fr, ?_, hl, hfr, fun j u x hu hx => (hv j u x hu hx).mono hle'⟩
      · show upd γ.ge j _ j = _
        rw [upd_same, k1]
      · show w'.heap[upd γ.ob j b j]? = _
        rw [upd_same]; exact hc
    · rename_i hji
      have hj' := h.ilt hj
      refine (h.obj j o hj).mono' hle' Iff.rfl (fun _ => upd_ne _ _ hji) (fun _ => upd_ne _ _ hji) fun hl => ?_
      exact hoth _ (h.lt j ⟨hj', hl⟩).2.1 (hne j ⟨hj', hl⟩ hji)
  · intro j k hj hk e'
    have e1 : upd γ.ob i b j = upd γ.ob i b k := e'
    by_cases a : j = i <;> by_cases b' : k = i
    · omega
    · subst a
      rw [upd_same, upd_ne _ _ b'] at e1
      exact absurd e1.symm (hne k hk b')
    · subst b'
      rw [upd_same, upd_ne _ _ a] at e1
      exact absurd e1 (hne j hj a)
    · rw [upd_ne _ _ a, upd_ne _ _ b'] at e1
      exact h.inj j k hj hk e1
  · intro j hj
    show γ.base ≤ upd γ.ob i b j ∧ upd γ.ob i b j < _ ∧ ∀ o, ¬ γ.F (upd γ.ob i b j) o
    by_cases a : j = i
    · subst a
      rw [upd_same]
      exact ⟨hbl.1, hbl.2, hF⟩
    · rw [upd_ne _ _ a]
      obtain ⟨x, y, z⟩ := h.lt j hj
      exact ⟨x, by omega, z⟩
  · intro t ht
    obtain ⟨a, b', c0, d, e', fr', f, g'⟩ := h.tok t ht
    exact ⟨a, b', c0, d, e', fr', by show w'.heap[γ.tb t]? = _; rw [hoth _ (Array.getElem?_eq_some_iff.1 f).1 (htb t ht)]; exact f, g'⟩
  · intro t j ht hj
    show γ.tb t ≠ upd γ.ob i b j
    by_cases a : j = i
    · subst a
      rw [upd_same]; exact htb t ht
    · rw [upd_ne _ _ a]; exact h.tob t j ht hj
  · intro b' o hf
    exact Nat.lt_of_lt_of_le (h.Flt b' o hf) hsz

end Go.Am

/-
  The abstract machine, sixth part: operands; operations that only reckon.
-/
namespace Go.Am
open Go.RowKit (Below)

variable {P : Program} {γ : Gh} {w : World} {s : Sg}

/-- a frame holds what the environments say -/
def EvR (γ : Gh) (w : World) (loc pers : Env) (a : Act) : Prop := ∀ t, Env.look loc pers t ≠ .undef → ∃ c, a.tmps[t]? = some c ∧ VR γ w (Env.look loc pers t) c

theorem EvR.mono {γ' : Gh} {w' : World} {loc pers : Env} {a : Act} (h : Le γ w γ' w') (hE : EvR γ w loc pers a) : EvR γ' w' loc pers a :=
  fun t ht => let ⟨c, hc, hv⟩ := hE t ht; ⟨c, hc, hv.mono h⟩

theorem def?_some {v u : AV} (h : v.def? = some u) : v = u ∧ v ≠ .undef := by
  cases v <;> simp [AV.def?] at h <;> subst h <;> simp

theorem VR.ofScalar {v : Value} {x : AV} (h : ofScalar v = some x) : VR γ w x v := by
  unfold Go.Am.ofScalar at h
  split at h <;> cases h
  · exact .bool _
  · exact .int _ _
  · exact .flt _ _
  · exact .cplx _ _ _
  · exact .str _
  · exact .nilptr
  · exact .nilsl
  · exact .nilmap
  · exact .nilfunc
  · exact .nilif

theorem ofScalar_one {v : Value} {x : AV} (h : ofScalar v = some x) : x.one = true := by
  unfold Go.Am.ofScalar at h
  split at h <;> cases h <;> rfl

theorem VRs.ofScalars : ∀ {l : List Value} {xs : List AV}, ofScalars l = some xs → VRs γ w xs l.toArray ∧ allOne xs = true
  | [], xs, h => by
    simp [Go.Am.ofScalars] at h
    subst h
    exact ⟨⟨rfl, fun j u x hu => by simp at hu⟩, rfl⟩
  | v :: r, xs, h => by
    simp only [Go.Am.ofScalars] at h
    split at h
    · rename_i x hx
      split at h
      · rename_i l hl
        cases h
        obtain ⟨⟨h1, h2⟩, h3⟩ := VRs.ofScalars hl
        refine ⟨⟨by simp at h1 ⊢; exact h1, fun j u y hu hy => ?_⟩, by simp [allOne, ofScalar_one hx, h3]⟩
        cases j with
        | zero => simp at hu hy; subst hu; subst hy; exact .ofScalar hx
        | succ j => exact h2 j u y (by simpa using hu) (by simpa using hy)
      · cases h
    · cases h

theorem VR.ofConst {v : Value} {x : AV} (h : ofConst v = some x) : VR γ w x v := by
  unfold Go.Am.ofConst at h
  split at h
  · rename_i cs
    simp only [Option.map_eq_some_iff] at h
    obtain ⟨l, hl, rfl⟩ := h
    obtain ⟨⟨h1, h2⟩, h3⟩ := VRs.ofScalars (γ := γ) (w := w) hl
    exact .agg l cs (by simpa using h1) h3 (fun j u y hu hy => h2 j u y hu (by simpa using hy))
  · exact .ofScalar h

theorem opd_ok {loc pers : Env} {a : Act} (hE : EvR γ w loc pers a) {o : Operand} {x : AOpd} {v : AV} (ho : tOpd o = some x) (hx : x.ev loc pers = some v) : VR γ w v (a.eval o) := by
  cases o with
  | tmp t =>
    simp [tOpd] at ho
    subst ho
    obtain ⟨e, hne⟩ := def?_some hx
    obtain ⟨c, hc, hv⟩ := hE t hne
    rw [e] at hv
    have : a.eval (.tmp t) = c := by simp [Act.eval, Array.getD_eq_getD_getElem?, hc]
    rw [this]; exact hv
  | const u =>
    simp [tOpd] at ho
    obtain ⟨y, hy, rfl⟩ := ho
    simp [AOpd.ev] at hx
    subst hx
    exact .ofConst hy
  | global g => simp [tOpd] at ho
  | func f =>
    simp [tOpd] at ho
    subst ho
    simp [AOpd.ev] at hx
    subst hx
    exact .func f [] [] #[] #[] rfl rfl rfl rfl (fun j u x hu => by simp at hu) (fun j u x hu => by simp at hu)

/-- values of operands, one by one -/
theorem opds_ok {loc pers : Env} {a : Act} (hE : EvR γ w loc pers a) : ∀ {l : List Operand} {xs : List AOpd} {vs : List AV}, tOpds l = some xs → evAll loc pers xs = some vs → VRs γ w vs (l.map a.eval).toArray
  | [], xs, vs, h, hv => by
    simp [tOpds] at h; subst h
    simp [evAll] at hv; subst hv
    exact ⟨rfl, fun j u x hu => by simp at hu⟩
  | o :: r, xs, vs, h, hv => by
    simp only [tOpds] at h
    split at h
    · rename_i y hy
      split at h
      · rename_i l hl
        cases h
        simp only [evAll, Option.bind_eq_some_iff] at hv
        obtain ⟨v, h1, l', h2, h3⟩ := hv
        cases h3
        obtain ⟨i1, i2⟩ := opds_ok hE hl h2
        refine ⟨by simp at i1 ⊢; exact i1, fun j u x hu hx => ?_⟩
        cases j with
        | zero => simp at hu hx; subst hu; subst hx; exact opd_ok hE hy h1
        | succ j => exact i2 j u x (by simpa using hu) (by simpa using hx)
      · cases h
    · cases h

-- ---------------------------------------------------------------- what a related value is

theorem VR.int_inv {k : IntKind} {n : Int} {c : Value} (h : VR γ w (.int k n) c) : c = .int k n := by cases h; rfl
theorem VR.bool_inv {b : Bool} {c : Value} (h : VR γ w (.bool b) c) : c = .bool b := by cases h; rfl
theorem VR.str_inv {l : List UInt8} {c : Value} (h : VR γ w (.str l) c) : ∃ s : ByteArray, c = .string s ∧ s.data.toList = l := by cases h; exact ⟨_, rfl, rfl⟩
theorem VR.flt_inv {k : FloatKind} {b : Nat} {c : Value} (h : VR γ w (.flt k b) c) : c = .float k b := by cases h; rfl
theorem VR.cplx_inv {k : FloatKind} {x y : Nat} {c : Value} (h : VR γ w (.cplx k x y) c) : c = .complex k x y := by cases h; rfl
theorem VR.agg_inv {cs : List AV} {c : Value} (h : VR γ w (.agg cs) c) : ∃ cs', c = .agg cs' ∧ VRs γ w cs cs' ∧ allOne cs = true := by
  cases h with | agg _ cs' h1 h2 h3 => exact ⟨cs', rfl, ⟨h1, h3⟩, h2⟩
theorem VR.tup_inv {cs : List AV} {c : Value} (h : VR γ w (.tup cs) c) : ∃ cs', c = .tuple cs' ∧ VRs γ w cs cs' := by
  cases h with | tup _ cs' h1 h3 => exact ⟨cs', rfl, ⟨h1, h3⟩⟩

theorem str?_some {v : AV} {l : List UInt8} (h : v.str? = some l) : v = .str l := by cases v <;> simp_all [AV.str?]
theorem bool?_some {v : AV} {b : Bool} (h : v.bool? = some b) : v = .bool b := by cases v <;> simp_all [AV.bool?]
theorem agg?_some {v : AV} {l : List AV} (h : v.agg? = some l) : v = .agg l := by cases v <;> simp_all [AV.agg?]
theorem tup?_some {v : AV} {l : List AV} (h : v.tup? = some l) : v = .tup l := by cases v <;> simp_all [AV.tup?]

/-- a value's cells are its value's cells -/
theorem VR.flat {v : AV} {c : Value} (h : VR γ w v c) : VRs γ w v.flat c.cells := by
  cases h with
  | agg cs cs' h1 h2 h3 => exact ⟨h1, h3⟩
  | bool b => exact ⟨rfl, fun j u x hu hx => by cases j <;> simp [AV.flat, Value.cells] at hu hx; subst hu; subst hx; exact .bool b⟩
  | int k n => exact ⟨rfl, fun j u x hu hx => by cases j <;> simp [AV.flat, Value.cells] at hu hx; subst hu; subst hx; exact .int k n⟩
  | flt k n => exact ⟨rfl, fun j u x hu hx => by cases j <;> simp [AV.flat, Value.cells] at hu hx; subst hu; subst hx; exact .flt k n⟩
  | cplx k n m => exact ⟨rfl, fun j u x hu hx => by cases j <;> simp [AV.flat, Value.cells] at hu hx; subst hu; subst hx; exact .cplx k n m⟩
  | str n => exact ⟨rfl, fun j u x hu hx => by cases j <;> simp [AV.flat, Value.cells] at hu hx; subst hu; subst hx; exact .str n⟩
  | nilptr => exact ⟨rfl, fun j u x hu hx => by cases j <;> simp [AV.flat, Value.cells] at hu hx; subst hu; subst hx; exact .nilptr⟩
  | ptr i g off a h1 h2 h3 => exact ⟨rfl, fun j u x hu hx => by cases j <;> simp [AV.flat, Value.cells] at hu hx; subst hu; subst hx; exact .ptr i g off a h1 h2 h3⟩
  | pin v b o cs h1 h2 h3 => exact ⟨rfl, fun j u x hu hx => by cases j <;> simp [AV.flat, Value.cells] at hu hx; subst hu; subst hx; exact .pin v b o cs h1 h2 h3⟩
  | nilsl => exact ⟨rfl, fun j u x hu hx => by cases j <;> simp [AV.flat, Value.cells] at hu hx; subst hu; subst hx; exact .nilsl⟩
  | vecE a => exact ⟨rfl, fun j u x hu hx => by cases j <;> simp [AV.flat, Value.cells] at hu hx; subst hu; subst hx; exact .vecE a⟩
  | vecNil tl h1 => exact ⟨rfl, fun j u x hu hx => by cases j <;> simp [AV.flat, Value.cells] at hu hx; subst hu; subst hx; exact .vecNil tl h1⟩
  | vec es tl b o cap sz cs h1 h2 h3 h4 h5 h6 => exact ⟨rfl, fun j u x hu hx => by cases j <;> simp [AV.flat, Value.cells] at hu hx; subst hu; subst hx; exact .vec es tl b o cap sz cs h1 h2 h3 h4 h5 h6⟩
  | ms i g off len cp sz a cap h1 h2 h3 h4 => exact ⟨rfl, fun j u x hu hx => by cases j <;> simp [AV.flat, Value.cells] at hu hx; subst hu; subst hx; exact .ms i g off len cp sz a cap h1 h2 h3 h4⟩
  | nilmap => exact ⟨rfl, fun j u x hu hx => by cases j <;> simp [AV.flat, Value.cells] at hu hx; subst hu; subst hx; exact .nilmap⟩
  | map i r h1 h2 => exact ⟨rfl, fun j u x hu hx => by cases j <;> simp [AV.flat, Value.cells] at hu hx; subst hu; subst hx; exact .map i r h1 h2⟩
  | yield i r h1 h2 => exact ⟨rfl, fun j u x hu hx => by cases j <;> simp [AV.flat, Value.cells] at hu hx; subst hu; subst hx; exact .yield i r h1 h2⟩
  | func f a c a' c' h1 h2 h3 h4 h5 h6 => exact ⟨rfl, fun j u x hu hx => by cases j <;> simp [AV.flat, Value.cells] at hu hx; subst hu; subst hx; exact .func f a c a' c' h1 h2 h3 h4 h5 h6⟩
  | nilfunc => exact ⟨rfl, fun j u x hu hx => by cases j <;> simp [AV.flat, Value.cells] at hu hx; subst hu; subst hx; exact .nilfunc⟩
  | iface t v v' h1 h2 => exact ⟨rfl, fun j u x hu hx => by cases j <;> simp [AV.flat, Value.cells] at hu hx; subst hu; subst hx; exact .iface t v v' h1 h2⟩
  | nilif => exact ⟨rfl, fun j u x hu hx => by cases j <;> simp [AV.flat, Value.cells] at hu hx; subst hu; subst hx; exact .nilif⟩
  | tup cs cs' h1 h2 => exact ⟨rfl, fun j u x hu hx => by cases j <;> simp [AV.flat, Value.cells] at hu hx; subst hu; subst hx; exact .tup cs cs' h1 h2⟩

theorem VR.kept {v : AV} {c : Value} (h : VR γ w v c) : VR γ w v.kept c := by
  unfold AV.kept
  split
  · cases h with
    | vecNil tl h1 => exact .vecNil _ trivial
    | vec es tl b o cap sz cs h1 h2 h3 h4 h5 h6 => exact .vec _ _ b o cap sz cs h1 h2 h3 h4 h5 trivial
  · exact h

theorem VR.weak {v : AV} {c : Value} (h : VR γ w v c) : VR γ w v.weak c := by
  unfold AV.weak
  split
  · cases h with
    | vecE a => exact .vecE a
    | vecNil tl h1 => exact .vecNil _ trivial
    | vec es tl b o cap sz cs h1 h2 h3 h4 h5 h6 => exact .vec _ _ b o cap sz cs h1 h2 h3 h4 h5 trivial
  · cases h; exact .vecNil _ trivial
  · exact h

theorem keptAll_length : ∀ l : List AV, (keptAll l).length = l.length
  | [] => rfl
  | v :: r => by simp [keptAll, keptAll_length r]

theorem keptAll_get : ∀ (l : List AV) (j : Nat), (keptAll l)[j]? = (l[j]?).map AV.kept
  | [], j => by simp [keptAll]
  | v :: r, 0 => by simp [keptAll]
  | v :: r, j + 1 => by simp [keptAll, keptAll_get r j]

theorem VRs.kept {l : List AV} {a : Array Value} (h : VRs γ w l a) : VRs γ w (keptAll l) a :=
  ⟨by rw [keptAll_length]; exact h.1, fun j u x hu hx => by
    rw [keptAll_get] at hu
    cases hl : l[j]? with
    | none => simp [hl] at hu
    | some v => simp [hl] at hu; subst hu; exact (h.2 j v x hl hx).kept⟩

theorem stored_ok {v : AV} {c : Value} {l : List AV} (h : VR γ w v c) (hl : v.stored = some l) : VRs γ w l c.cells ∧ allOne l = true := by
  unfold AV.stored at hl
  split at hl
  · rename_i h1
    cases hl
    exact ⟨h.flat.kept, h1⟩
  · cases hl

theorem VR.oneCell {v : AV} {c : Value} (h : VR γ w v c) (h1 : v.one = true) : c.oneCell' = true := by
  cases h <;> first | rfl | simp [AV.one] at h1

theorem allOne_get : ∀ {l : List AV}, allOne l = true → ∀ {j : Nat} {u : AV}, l[j]? = some u → u.one = true
  | [], _, j, u, hu => by simp at hu
  | v :: r, h, 0, u, hu => by simp [allOne] at h hu; subst hu; exact h.1
  | v :: r, h, j + 1, u, hu => by simp [allOne] at h hu; exact allOne_get h.2 hu

theorem VRs.oneCells {l : List AV} {a : Array Value} (h : VRs γ w l a) (h1 : allOne l = true) : ∀ x ∈ a.toList, x.oneCell' = true := by
  intro x hx
  obtain ⟨j, hj, rfl⟩ := List.getElem_of_mem hx
  have hjl : j < l.length := by rw [h.1]; simpa using hj
  have hj' : j < a.size := by simpa using hj
  have := h.2 j l[j] a[j] (List.getElem?_eq_getElem hjl) (Array.getElem?_eq_getElem hj')
  have h2 := this.oneCell (allOne_get h1 (List.getElem?_eq_getElem hjl))
  rw [Array.getElem_toList]
  exact h2

theorem VRs.get {l : List AV} {a : Array Value} (h : VRs γ w l a) {j : Nat} {u : AV} (hu : l[j]? = some u) : ∃ x, a[j]? = some x ∧ VR γ w u x := by
  have hj : j < a.size := h.1 ▸ lt_of_getElem? hu
  exact ⟨a[j], by simp [hj], h.2 j u _ hu (by simp [hj])⟩

/-- a part of cells -/
theorem partOf_ok {cs : List AV} {cs' : Array Value} (h : VRs γ w cs cs') (h1 : allOne cs = true) {off : Nat} {ag : Option Nat} {v : AV} (hv : partOf cs off ag = some v) :
    (ag = none ∧ ∃ x, cs'[off]? = some x ∧ VR γ w v x ∧ v.one = true) ∨ ∃ n, ag = some n ∧ off + n ≤ cs'.size ∧ VR γ w v (.agg (cs'.extract off (off + n))) ∧ v = .agg ((cs.drop off).take n) := by
  cases ag with
  | none =>
    simp only [partOf] at hv
    obtain ⟨x, hx, hr⟩ := h.get hv
    exact .inl ⟨rfl, x, hx, hr, allOne_get h1 hv⟩
  | some n =>
    simp only [partOf] at hv
    split at hv
    · rename_i hle
      cases hv
      have hle' : off + n ≤ cs.length := by simpa using hle
      refine .inr ⟨n, rfl, h.1 ▸ hle', ?_, rfl⟩
      refine .agg _ _ ?_ ?_ ?_
      · have := h.1
        simp only [List.length_take, List.length_drop, Array.size_extract]
        omega
      · have : ∀ (l : List AV), (∀ (j : Nat) u, l[j]? = some u → u.one = true) → allOne l = true := by
          intro l
          induction l with
          | nil => intro _; rfl
          | cons v r ih => intro hh; simp only [allOne, Bool.and_eq_true]; exact ⟨hh 0 v rfl, ih fun j u hu => hh (j + 1) u (by simpa using hu)⟩
        refine this _ fun j u hu => ?_
        simp only [List.getElem?_take, List.getElem?_drop] at hu
        split at hu
        · exact allOne_get h1 hu
        · cases hu
      · intro j u x hu hx
        simp only [List.getElem?_take, List.getElem?_drop] at hu
        split at hu
        · rename_i hj
          rw [Array.getElem?_extract] at hx
          split at hx
          · exact h.2 _ u x hu hx
          · cases hx
        · cases hu
    · cases hv

theorem allOne_of {l : List AV} (h : ∀ (j : Nat) u, l[j]? = some u → u.one = true) : allOne l = true := by
  induction l with
  | nil => rfl
  | cons v r ih => simp only [allOne, Bool.and_eq_true]; exact ⟨h 0 v rfl, ih fun j u hu => h (j + 1) u (by simpa using hu)⟩

end Go.Am

/-
  The abstract machine, seventh part: operations that come to a value.
-/
namespace Go.Am
open Go.RowKit (Below)

variable {P : Program} {γ : Gh} {w : World} {s : Sg}

/-- what an operation of the model's comes to, beside the machine's -/
def SimR (P : Program) (γ : Gh) (w : World) (r : Result Next) (v : AV) (s' : Sg) : Prop :=
  ∃ γ' w' nx c, r = .ok nx w' ∧ (nx = .value c ∨ (nx = .skip ∧ c = undef)) ∧ Le γ w γ' w' ∧ Inv P γ' s' w' ∧ VR γ' w' v c

theorem SimR.val (hI : Inv P γ s w) {r : Result Next} {v : AV} {c : Value} (hr : r = .ok (.value c) w) (hv : VR γ w v c) : SimR P γ w r v s :=
  ⟨γ, w, _, c, hr, .inl rfl, Le.refl _ _, hI, hv⟩

theorem SimR.val' {γ' : Gh} {w' : World} {s' : Sg} {r : Result Next} {v : AV} {c : Value} (hr : r = .ok (.value c) w') (hle : Le γ w γ' w') (hI : Inv P γ' s' w') (hv : VR γ' w' v c) : SimR P γ w r v s' :=
  ⟨γ', w', _, c, hr, .inl rfl, hle, hI, hv⟩

theorem SimR.skip {γ' : Gh} {w' : World} {s' : Sg} {r : Result Next} (hr : r = .ok .skip w') (hle : Le γ w γ' w') (hI : Inv P γ' s' w') : SimR P γ w r (.tup []) s' :=
  ⟨γ', w', _, undef, hr, .inr ⟨rfl, rfl⟩, hle, hI, .tup [] #[] rfl (fun j u x hu => by simp at hu)⟩

/-- a value of an instruction's, as an operation comes to it -/
theorem run_value {α : Sem Value} {c : Value} {w' : World} (h : α.run P w = .ok c w') : (do pure (Next.value (← α)) : Sem Next).run P w = .ok (.value c) w' := by
  simp [h]

-- ---------------------------------------------------------------- operators on two values

theorem eqGuard_scalar (op : BinOp) (t : TypeId) (x y : Operand) (c d : Value) (hc : c ≠ .nilIface) (ha : ∀ l, c ≠ .agg l) : (eqGuard op t x y c d).run P w = .ok () w := by
  cases c <;> first
    | exact absurd rfl hc
    | exact absurd rfl (ha _)
    | (cases op <;> simp [eqGuard])

theorem eqGuard_other (op : BinOp) (t : TypeId) (x y : Operand) (c d : Value) (h1 : op ≠ .eql) (h2 : op ≠ .neq) : (eqGuard op t x y c d).run P w = .ok () w := by
  cases op <;> first
    | exact absurd rfl h1
    | exact absurd rfl h2
    | simp [eqGuard]

theorem bytes_beq (a b : ByteArray) : (a.toList == b.toList) = (a.data.toList == b.data.toList) := by rw [ByteArray.toList_eq, ByteArray.toList_eq]

theorem intBin_ok {op : BinOp} {k : IntKind} {a b : Int} {r : AV} (h : intBin op k a b = some r) (hs : op ≠ .shl ∧ op ≠ .shr) (t : TypeId) : ∃ c, (binOp op t (.int k a) (.int k b)).run P w = .ok c w ∧ VR γ w r c := by
  have nb : ∀ {k1 : IntKind} {m : Int}, VR γ w (.int k1 m) (.int k1 m) := .int _ _
  cases op <;> simp only [intBin, Option.some.injEq, ne_eq, not_true_eq_false, false_and, and_false, reduceCtorEq] at h hs
  case quo =>
    split at h
    · cases h
    · rename_i hb
      cases h
      exact ⟨_, by simp [binOp, Op.intDiv, hb], nb⟩
  case rem =>
    split at h
    · cases h
    · rename_i hb
      cases h
      exact ⟨_, by simp [binOp, Op.intDiv, hb], nb⟩
  all_goals
    subst h
    first
      | exact ⟨_, by simp [binOp, Op.intArith, Op.intBits, Op.intCmp], .int _ _⟩
      | exact ⟨_, by simp [binOp, Op.intArith, Op.intBits, Op.intCmp], .bool _⟩

theorem shiftBin_ok {op : BinOp} {k k' : IntKind} {a b : Int} {r : AV} (h : shiftBin op k a b = some r) (hs : op = .shl ∨ op = .shr) (t : TypeId) : ∃ c, (binOp op t (.int k a) (.int k' b)).run P w = .ok c w ∧ VR γ w r c := by
  unfold shiftBin at h
  split at h
  · cases h
  · rename_i hb
    rcases hs with rfl | rfl
    · cases h
      exact ⟨_, by simp [binOp, Op.shift, hb], .int _ _⟩
    · cases h
      exact ⟨_, by simp [binOp, Op.shift, hb], .int _ _⟩

theorem strBin_ok {op : BinOp} {a b : ByteArray} {r : AV} (h : strBin op a.data.toList b.data.toList = some r) (t : TypeId) : ∃ c, (binOp op t (.string a) (.string b)).run P w = .ok c w ∧ VR γ w r c := by
  cases op <;> simp only [strBin, Option.some.injEq, reduceCtorEq] at h
  case add =>
    split at h
    · rename_i hle
      cases h
      have hn : ¬ (((a.size + b.size : Nat) : Int) > IntKind.i64.max) := by
        have e : IntKind.i64.max = 2 ^ 63 - 1 := rfl
        have e1 : a.data.toList.length = a.size := by rw [Array.length_toList]; rfl
        have e2 : b.data.toList.length = b.size := by rw [Array.length_toList]; rfl
        rw [e]
        omega
      refine ⟨.string (a ++ b), by simp only [binOp, Op.stringOp, if_neg hn]; rfl, ?_⟩
      have : a.data.toList ++ b.data.toList = (a ++ b).data.toList := by simp [ByteArray.data_append]
      rw [this]
      exact .str _
    · cases h
  all_goals
    subst h
    refine ⟨_, by simp only [binOp, Op.stringOp, bytes_beq, ByteArray.toList_eq]; rfl, .bool _⟩

theorem fltBin_ok {op : BinOp} {k : FloatKind} {a b : Nat} {r : AV} (h : fltBin op k a b = some r) (t : TypeId) : ∃ c, (binOp op t (.float k a) (.float k b)).run P w = .ok c w ∧ VR γ w r c := by
  cases op <;> simp only [fltBin, Option.some.injEq, reduceCtorEq, Option.map_eq_some_iff] at h
  case add => obtain ⟨x, hx, rfl⟩ := h; exact ⟨_, by simp [binOp, Op.floatArith, hx], .flt _ _⟩
  case sub => obtain ⟨x, hx, rfl⟩ := h; exact ⟨_, by simp [binOp, Op.floatArith, hx], .flt _ _⟩
  case mul => obtain ⟨x, hx, rfl⟩ := h; exact ⟨_, by simp [binOp, Op.floatArith, hx], .flt _ _⟩
  case quo => obtain ⟨x, hx, rfl⟩ := h; exact ⟨_, by simp [binOp, Op.floatArith, hx], .flt _ _⟩
  all_goals
    subst h
    refine ⟨_, by simp only [binOp, Op.floatCmp, ne_eq, not_true_eq_false, if_false]; rfl, .bool _⟩

theorem cplxBin_ok {op : BinOp} {k : FloatKind} {a b c d : Nat} {r : AV} (h : cplxBin op k a b c d = some r) (t : TypeId) : ∃ x, (binOp op t (.complex k a b) (.complex k c d)).run P w = .ok x w ∧ VR γ w r x := by
  cases op <;> simp only [cplxBin, Option.some.injEq, reduceCtorEq, Option.bind_eq_some_iff, Option.map_eq_some_iff] at h
  case add =>
    obtain ⟨x, hx, y, hy, rfl⟩ := h
    exact ⟨_, by simp [binOp, Op.complexOp, Op.Complex.arith, Op.floatArith, hx, hy], .cplx _ _ _⟩
  case sub =>
    obtain ⟨x, hx, y, hy, rfl⟩ := h
    exact ⟨_, by simp [binOp, Op.complexOp, Op.Complex.arith, Op.floatArith, hx, hy], .cplx _ _ _⟩
  case eql =>
    subst h
    refine ⟨_, ?_, .bool _⟩
    simp only [binOp, Op.complexOp, Op.Complex.cmp, Op.floatCmp, asBool, ne_eq, not_true_eq_false, if_false, Sem.run_bind, Sem.run_pure, Result.andThen_ok]
  case neq =>
    subst h
    refine ⟨_, ?_, .bool _⟩
    simp only [binOp, Op.complexOp, Op.Complex.cmp, Op.floatCmp, asBool, ne_eq, not_true_eq_false, if_false, Sem.run_bind, Sem.run_pure, Result.andThen_ok]

theorem evBin_ok {op : BinOp} {u v r : AV} {c d : Value} (h : evBin op u v = some r) (hu : VR γ w u c) (hv : VR γ w v d) (t : TypeId) (x y : Operand) :
    ∃ e, (do eqGuard op t x y c d; binOp op t c d : Sem Value).run P w = .ok e w ∧ VR γ w r e := by
  have key : (c ≠ .nilIface ∧ ∀ l, c ≠ .agg l) ∧ ∃ e, (binOp op t c d).run P w = .ok e w ∧ VR γ w r e := by
    unfold evBin at h
    split at h
    · obtain rfl := hu.int_inv
      obtain rfl := hv.int_inv
      refine ⟨⟨by simp, by simp⟩, ?_⟩
      split at h
      · exact shiftBin_ok h (.inl rfl) t
      · exact shiftBin_ok h (.inr rfl) t
      · rename_i h1 h2
        split at h
        · rename_i e
          subst e
          exact intBin_ok h ⟨fun e => h1 e, fun e => h2 e⟩ t
        · cases h
    · obtain ⟨a, rfl, e1⟩ := hu.str_inv
      obtain ⟨b, rfl, e2⟩ := hv.str_inv
      rw [← e1, ← e2] at h
      exact ⟨⟨by simp, by simp⟩, strBin_ok h t⟩
    · obtain rfl := hu.flt_inv
      obtain rfl := hv.flt_inv
      split at h
      · rename_i e
        subst e
        exact ⟨⟨by simp, by simp⟩, fltBin_ok h t⟩
      · cases h
    · obtain rfl := hu.cplx_inv
      obtain rfl := hv.cplx_inv
      split at h
      · rename_i e
        subst e
        exact ⟨⟨by simp, by simp⟩, cplxBin_ok h t⟩
      · cases h
    · cases h
  obtain ⟨⟨k1, k2⟩, e, k3, k4⟩ := key
  exact ⟨e, by simp [eqGuard_scalar op t x y c d k1 k2, k3], k4⟩

theorem eqBool_ok {op : BinOp} (a b : Bool) (hop : op = .eql ∨ op = .neq) (t : TypeId) (ht : P.underlying t = some .bool) (x y : Operand) :
    (do eqGuard op t x y (.bool a) (.bool b); binOp op t (.bool a) (.bool b) : Sem Value).run P w = .ok (.bool (negIf (match op with | .neq => true | _ => false) (a == b))) w := by
  rcases hop with rfl | rfl
  · simp [eqGuard_scalar _ t x y (.bool a) (.bool b) (by simp) (by simp), binOp, Op.equal, Op.maxDepth, run_equalIn_bool w 9999 t a b ht, negIf]
  · simp [eqGuard_scalar _ t x y (.bool a) (.bool b) (by simp) (by simp), binOp, Op.equal, Op.maxDepth, run_equalIn_bool w 9999 t a b ht, negIf]

/-- the nil of a kind -/
def nilOf : Nat → Value
  | 0 => .pointer none
  | 1 => .slice none 0 0
  | 2 => .map none
  | 3 => .nilFunc
  | _ => .nilIface

theorem isNilConst_eq {k : Nat} {x : Operand} (h : isNilConst k x = true) : x = .const (nilOf k) := by
  unfold isNilConst at h
  split at h <;> first | rfl | cases h

theorem equal_succ (t : TypeId) : ∃ n, ∀ x y, Op.equal t x y = Op.equalIn (n + 1) t x y := ⟨9999, fun _ _ => rfl⟩

set_option maxHeartbeats 1000000 in
theorem isNil_ok {k : Nat} {u : AV} {c : Value} {e : Bool} {d : TypeDesc} (hd : nilKind d = some k) (h : isNil k u = some e) (hu : VR γ w u c) (t : TypeId) (ht : P.underlying t = some d) :
    (Op.equal t c (nilOf k)).run P w = .ok e w ∧ (Op.equal t (nilOf k) c).run P w = .ok e w ∧ ((c ≠ .nilIface ∧ ∀ l, c ≠ .agg l) ∨ c = .nilIface) := by
  obtain ⟨n, hn⟩ := equal_succ t
  rw [hn, hn]
  have hu' := run_underlying ht w
  clear hn ht
  unfold nilKind at hd
  split at hd <;> cases hd
  · cases hu <;> simp only [isNil, Option.some.injEq, reduceCtorEq] at h <;> subst h <;> exact ⟨by simp only [Op.equalIn, Sem.run_bind, hu', Result.andThen_ok, nilOf]; rfl, by simp only [Op.equalIn, Sem.run_bind, hu', Result.andThen_ok, nilOf]; rfl, by simp⟩
  · cases hu <;> simp only [isNil, Option.some.injEq, reduceCtorEq] at h
    case nilsl => subst h; exact ⟨by simp only [Op.equalIn, Sem.run_bind, hu', Result.andThen_ok, nilOf]; rfl, by simp only [Op.equalIn, Sem.run_bind, hu', Result.andThen_ok, nilOf]; rfl, by simp⟩
    case ms => subst h; exact ⟨by simp only [Op.equalIn, Sem.run_bind, hu', Result.andThen_ok, nilOf]; rfl, by simp only [Op.equalIn, Sem.run_bind, hu', Result.andThen_ok, nilOf]; rfl, by simp⟩
    case vec es tl b o cap sz cs h1 h2 h3 h4 h5 h6 =>
      cases es with
      | nil => simp [isNil] at h
      | cons x r => simp [isNil] at h; subst h; exact ⟨by simp only [Op.equalIn, Sem.run_bind, hu', Result.andThen_ok, nilOf]; rfl, by simp only [Op.equalIn, Sem.run_bind, hu', Result.andThen_ok, nilOf]; rfl, by simp⟩
  · cases hu <;> simp only [isNil, Option.some.injEq, reduceCtorEq] at h <;> subst h <;> exact ⟨by simp only [Op.equalIn, Sem.run_bind, hu', Result.andThen_ok, nilOf]; rfl, by simp only [Op.equalIn, Sem.run_bind, hu', Result.andThen_ok, nilOf]; rfl, by simp⟩
  · cases hu <;> simp only [isNil, Option.some.injEq, reduceCtorEq] at h <;> subst h <;> exact ⟨by simp only [Op.equalIn, Sem.run_bind, hu', Result.andThen_ok, nilOf]; rfl, by simp only [Op.equalIn, Sem.run_bind, hu', Result.andThen_ok, nilOf]; rfl, by simp⟩
  · cases hu <;> simp only [isNil, Option.some.injEq, reduceCtorEq] at h <;> subst h <;> exact ⟨by simp only [Op.equalIn, Sem.run_bind, hu', Result.andThen_ok, nilOf]; rfl, by simp only [Op.equalIn, Sem.run_bind, hu', Result.andThen_ok, nilOf]; rfl, by simp⟩

theorem binOp_eq (op : BinOp) (t : TypeId) (c d : Value) (e : Bool) (hop : op = .eql ∨ op = .neq) (h : (Op.equal t c d).run P w = .ok e w) (hs : c = nilOf 0 ∨ c = nilOf 1 ∨ c = nilOf 2 ∨ c = nilOf 3 ∨ c = nilOf 4 ∨ d = nilOf 0 ∨ d = nilOf 1 ∨ d = nilOf 2 ∨ d = nilOf 3 ∨ d = nilOf 4) :
    (binOp op t c d).run P w = .ok (.bool (negIf (match op with | .neq => true | _ => false) e)) w := by
  have key : binOp op t c d = (do pure (.bool (negIf (match op with | .neq => true | _ => false) (← Op.equal t c d)))) := by
    rcases hop with rfl | rfl <;> rcases hs with rfl | rfl | rfl | rfl | rfl | rfl | rfl | rfl | rfl | rfl <;> first | (cases c <;> rfl) | (cases d <;> rfl)
  rw [key]
  simp [h]

/-- 'x == nil', 'nil == x' and their negations -/
theorem eqNil_ok {op : BinOp} {k : Nat} {u : AV} {c : Value} {e : Bool} {d : TypeDesc} (hop : op = .eql ∨ op = .neq) (hd : nilKind d = some k) (h : isNil k u = some e) (hu : VR γ w u c) (t : TypeId) (ht : P.underlying t = some d) (x : Operand) :
    (do eqGuard op t x (.const (nilOf k)) c (nilOf k); binOp op t c (nilOf k) : Sem Value).run P w = .ok (.bool (negIf (match op with | .neq => true | _ => false) e)) w ∧
    (do eqGuard op t (.const (nilOf k)) x (nilOf k) c; binOp op t (nilOf k) c : Sem Value).run P w = .ok (.bool (negIf (match op with | .neq => true | _ => false) e)) w := by
  obtain ⟨h1, h2, h3⟩ := isNil_ok hd h hu t ht
  have hk : k = 0 ∨ k = 1 ∨ k = 2 ∨ k = 3 ∨ k = 4 := by
    unfold nilKind at hd
    split at hd <;> cases hd <;> simp
  have g1 : (eqGuard op t x (.const (nilOf k)) c (nilOf k)).run P w = .ok () w ∧ (eqGuard op t (.const (nilOf k)) x (nilOf k) c).run P w = .ok () w := by
    rcases h3 with ⟨a, b⟩ | rfl
    · refine ⟨eqGuard_scalar _ _ _ _ _ _ a b, ?_⟩
      rcases hk with rfl | rfl | rfl | rfl | rfl <;> rcases hop with rfl | rfl <;> (cases c <;> first | exact absurd rfl a | exact absurd rfl (b _) | simp [eqGuard, nilOf])
    · rcases hk with rfl | rfl | rfl | rfl | rfl <;> rcases hop with rfl | rfl <;> simp [eqGuard, nilOf]
  refine ⟨?_, ?_⟩
  · simp only [Sem.run_bind, g1.1, Result.andThen_ok]
    exact binOp_eq op t c _ e hop h1 (by rcases hk with rfl | rfl | rfl | rfl | rfl <;> simp)
  · simp only [Sem.run_bind, g1.2, Result.andThen_ok]
    exact binOp_eq op t _ c e hop h2 (by rcases hk with rfl | rfl | rfl | rfl | rfl <;> simp)

end Go.Am

/-
  The abstract machine, eighth part: operations on structs, pointers, texts and slices that come to a value.
-/
namespace Go.Am
open Go.RowKit (Below)

variable {P : Program} {γ : Gh} {w : World} {s : Sg}

theorem run_typeInfo {t : TypeId} {i : TypeInfo} (h : P.info? t = some i) : (typeInfo t).run P w = .ok i w := by simp [typeInfo, h]
theorem run_sizeOf' {t : TypeId} {n : Nat} (h : sizeOfT P t = some n) : (sizeOf t).run P w = .ok n w := by
  simp only [sizeOfT, Option.map_eq_some_iff] at h
  obtain ⟨i, hi, rfl⟩ := h
  simp [sizeOf, run_typeInfo hi]

/-- a type's kind, as the model asks for it -/
theorem kindOf_ok {t : TypeId} {k : Option Nat} (h : kindOf P t = some k) : (k = none ∧ (isAgg t).run P w = .ok false w) ∨ ∃ n, k = some n ∧ (isAgg t).run P w = .ok true w ∧ sizeOfT P t = some n := by
  unfold kindOf at h
  split at h
  · rename_i fs hu
    simp only [Option.map_eq_some_iff] at h
    obtain ⟨i, hi, rfl⟩ := h
    exact .inr ⟨_, rfl, by simp [isAgg, run_underlying hu], by simp [sizeOfT, hi]⟩
  · rename_i n e hu
    simp only [Option.map_eq_some_iff] at h
    obtain ⟨i, hi, rfl⟩ := h
    exact .inr ⟨_, rfl, by simp [isAgg, run_underlying hu], by simp [sizeOfT, hi]⟩
  · rename_i d h1 h2 hu
    cases h
    refine .inl ⟨rfl, ?_⟩
    simp only [isAgg, Sem.run_bind, run_underlying hu, Result.andThen_ok]
    first
      | rfl
      | (split
         · rename_i fs; exact absurd rfl (h1 fs)
         · rename_i a b; exact absurd rfl (h2 a b)
         · rfl)
  · cases h

/-- a part of a struct's or an array's cells -/
theorem part_ok {t : TypeId} {k : Option Nat} (hk : kindOf P t = some k) {cs : List AV} {cs' : Array Value} (h : VRs γ w cs cs') (h1 : allOne cs = true) {off : Nat} {v : AV} (hv : partOf cs off k = some v) :
    ∃ c, (part t cs' off).run P w = .ok c w ∧ VR γ w v c := by
  rcases partOf_ok h h1 hv with ⟨rfl, x, hx, hr, _⟩ | ⟨n, rfl, hle, hr, _⟩
  · rcases kindOf_ok (w := w) hk with ⟨_, hg⟩ | ⟨m, e, _⟩
    · exact ⟨x, by simp [part, hg, hx], hr⟩
    · cases e
  · rcases kindOf_ok (w := w) hk with ⟨e, _⟩ | ⟨m, e, hg, hs⟩
    · cases e
    · cases e
      exact ⟨_, by simp [part, hg, run_sizeOf' hs], hr⟩

theorem field_ok {t : TypeId} {fs : Array Field} (ht : P.underlying t = some (.struct fs)) {f : Nat} {fd : Field} (hf : fs[f]? = some fd) {k : Option Nat} (hk : kindOf P fd.type = some k)
    {u v : AV} {c : Value} {cs : List AV} (hu : VR γ w u c) (ha : u.agg? = some cs) (hv : partOf cs fd.offset k = some v) : ∃ d, (Instr.field t c f).run P w = .ok d w ∧ VR γ w v d := by
  obtain rfl := agg?_some ha
  obtain ⟨cs', rfl, h, h1⟩ := hu.agg_inv
  obtain ⟨d, hd, hr⟩ := part_ok hk h h1 hv
  exact ⟨d, by simp [Instr.field, run_underlying ht, hf, asAgg, hd], hr⟩

theorem add_mk (b o n : Nat) : (⟨b, o, none⟩ : Addr).add n = ⟨b, o + n, none⟩ := by unfold Addr.add; split <;> simp_all

/-- cells that lie from an address on, a part of them -/
theorem pin_part {cs : List AV} {b o : Nat} {f : Nat → Value} (hl : Lie γ w b o cs.length f) (h1 : allOne cs = true) (hr : ∀ (j : Nat) u, cs[j]? = some u → VR γ w u (f j))
    {off : Nat} {k : Option Nat} {v : AV} (hv : partOf cs off k = some v) : VR γ w (.pin v) (.pointer (some ⟨b, o + off, none⟩)) := by
  cases k with
  | none =>
    simp only [partOf] at hv
    have hlt := lt_of_getElem? hv
    have ho : v.one = true := allOne_get h1 hv
    have hf : v.flat = [v] := by cases v <;> first | rfl | simp [AV.one] at ho
    refine .pin v b (o + off) (fun j => f (off + j)) ?_ ?_ ?_
    · intro j hj
      rw [hf] at hj
      have : j = 0 := by simpa using hj
      subst this
      simpa using hl off hlt
    · rw [hf]; simp [allOne, ho]
    · intro j u hu
      rw [hf] at hu
      cases j with
      | zero => simp at hu; subst hu; simpa using hr off v hv
      | succ j => simp at hu
  | some n =>
    simp only [partOf] at hv
    split at hv
    · rename_i hle
      cases hv
      have hle' : off + n ≤ cs.length := by simpa using hle
      refine .pin _ b (o + off) (fun j => f (off + j)) ?_ ?_ ?_
      · intro j hj
        simp only [AV.flat, List.length_take, List.length_drop] at hj
        have := hl (off + j) (by omega)
        rw [Nat.add_assoc]
        exact this
      · refine allOne_of fun j u hu => ?_
        simp only [AV.flat, List.getElem?_take, List.getElem?_drop] at hu
        split at hu
        · exact allOne_get h1 hu
        · cases hu
      · intro j u hu
        simp only [AV.flat, List.getElem?_take, List.getElem?_drop] at hu
        split at hu
        · exact hr _ u hu
        · cases hu
    · cases hv

theorem fieldAddr_ok {t : TypeId} {fs : Array Field} (ht : P.underlying t = some (.struct fs)) {f : Nat} {fd : Field} (hf : fs[f]? = some fd) {k : Option Nat} {n : Nat} (hk : kindOf P fd.type = some k) (hs : sizeOfT P fd.type = some n) (hn : n ≠ 0)
    {u v : AV} {c : Value} (hu : VR γ w u c)
    (hv : (match (generalizing := false) u with | .ptr i g o => some (.ptr i g (o + fd.offset)) | .pin v => v.agg?.bind fun cs => (partOf cs fd.offset k).map .pin | _ => none : Option AV) = some v) :
    ∃ d, (Instr.fieldAt t c f).run P w = .ok d w ∧ VR γ w v d := by
  cases hu <;> try (simp at hv; done)
  case ptr i g o a h1 h2 h3 =>
    cases hv
    refine ⟨.pointer (some (a.add fd.offset)), by simp [Instr.fieldAt, run_underlying ht, hf, Instr.sureAddr, fieldPlace, run_sizeOf' hs, hn], .ptr _ _ _ _ h1 h2 fun e => ?_⟩
    rw [h3 e, add_mk]
  case pin x b o cs' hl h1 hr =>
    simp only [Option.bind_eq_some_iff, Option.map_eq_some_iff] at hv
    obtain ⟨cs, hx, y, hy, rfl⟩ := hv
    obtain rfl := agg?_some hx
    refine ⟨.pointer (some ⟨b, o + fd.offset, none⟩), by simp [Instr.fieldAt, run_underlying ht, hf, Instr.sureAddr, fieldPlace, run_sizeOf' hs, hn, add_mk], ?_⟩
    exact pin_part hl h1 hr hy

-- ---------------------------------------------------------------- elements

theorem flatAll_length {sz : Nat} : ∀ {es : List AV}, allSize sz es = true → (flatAll es).length = es.length * sz
  | [], _ => by simp [flatAll]
  | v :: r, h => by
    simp only [allSize, Bool.and_eq_true, Nat.beq_eq] at h
    simp [flatAll, flatAll_length h.2, h.1, Nat.add_mul, Nat.add_comm]

theorem flatAll_get {sz : Nat} : ∀ {es : List AV}, allSize sz es = true → ∀ {j : Nat} {v : AV}, es[j]? = some v → ∀ {k : Nat}, k < sz → (flatAll es)[j * sz + k]? = v.flat[k]?
  | [], _, j, v, hv, _, _ => by simp at hv
  | u :: r, h, j, v, hv, k, hk => by
    simp only [allSize, Bool.and_eq_true, Nat.beq_eq] at h
    cases j with
    | zero =>
      simp at hv
      subst hv
      simp only [flatAll, Nat.zero_mul, Nat.zero_add]
      rw [List.getElem?_append_left (by omega)]
    | succ j =>
      simp at hv
      simp only [flatAll]
      rw [List.getElem?_append_right (by rw [h.1, Nat.add_mul]; omega), h.1]
      have : (j + 1) * sz + k - sz = j * sz + k := by rw [Nat.add_mul]; omega
      rw [this]
      exact flatAll_get h.2 hv hk

theorem allSize_get {sz : Nat} : ∀ {es : List AV}, allSize sz es = true → ∀ {j : Nat} {v : AV}, es[j]? = some v → v.flat.length = sz
  | [], _, j, v, hv => by simp at hv
  | u :: r, h, 0, v, hv => by simp [allSize] at h hv; subst hv; exact h.1
  | u :: r, h, j + 1, v, hv => by simp [allSize] at h hv; exact allSize_get (by simpa using h.2) hv

theorem allOneAll_get : ∀ {es : List AV}, allOneAll es = true → ∀ {j : Nat} {v : AV}, es[j]? = some v → allOne v.flat = true
  | [], _, j, v, hv => by simp at hv
  | u :: r, h, 0, v, hv => by simp [allOneAll] at h hv; subst hv; exact h.1
  | u :: r, h, j + 1, v, hv => by simp [allOneAll] at h hv; exact allOneAll_get h.2 hv

theorem allOne_append : ∀ {a b : List AV}, allOne (a ++ b) = (allOne a && allOne b)
  | [], b => by simp [allOne]
  | v :: r, b => by simp [allOne, allOne_append, Bool.and_assoc]

theorem allOne_flatAll : ∀ {es : List AV}, allOneAll es = true → allOne (flatAll es) = true
  | [], _ => rfl
  | v :: r, h => by simp [allOneAll] at h; simp [flatAll, allOne_append, h.1, allOne_flatAll h.2]

theorem getD_kind {P : Program} {e : TypeId} {k : Option Nat} {n : Nat} (hk : kindOf P e = some k) (hs : sizeOfT P e = some n) (hn : n = k.getD 1) : sizeOfT P e = some (k.getD 1) := by rw [hs, hn]

theorem idx_some {i : AV} {n j : Nat} (h : idx i n = some j) : ∃ k m, i = .int k m ∧ 0 ≤ m ∧ m < n ∧ j = m.toNat := by
  unfold idx at h
  split at h
  · rename_i k m
    split at h
    · rename_i hc
      cases h
      exact ⟨k, m, rfl, hc.1, hc.2, rfl⟩
    · cases h
  · cases h

theorem indexAddrS_ok {t e : TypeId} (ht : P.underlying t = some (.slice e)) {k : Option Nat} (hs : sizeOfT P e = some (k.getD 1)) {u i v : AV} {c ci : Value} (hI : Inv P γ s w) (hu : VR γ w u c) (hi : VR γ w i ci)
    (hv : (match (generalizing := false) u with
      | .vec es _ => (idx i es.length).bind fun j => (es[j]?).bind fun v => if Nat.beq v.flat.length (k.getD 1) then some (.pin v) else none
      | .ms h g off len _ sz => if Nat.beq sz (k.getD 1) then (idx i len).bind fun j => (getCells s.heap h g).bind fun _ => some (.ptr h g (off + j * sz)) else none
      | _ => none : Option AV) = some v) : ∃ d, (Instr.indexAt t c ci).run P w = .ok d w ∧ VR γ w v d := by
  cases hu <;> try (simp at hv; done)
  case vec es tl b o cap sz cs h1 h2 h3 hl hr h6 =>
    simp only [Option.bind_eq_some_iff] at hv
    obtain ⟨j, hj, x, hx, hv⟩ := hv
    split at hv
    · rename_i hlen
      cases hv
      obtain ⟨q, m, rfl, h0, hm, rfl⟩ := idx_some hj
      obtain rfl := hi.int_inv
      have hsz : sz = k.getD 1 := by
        have := allSize_get h2 hx
        simp at hlen
        omega
      subst hsz
      refine ⟨.pointer (some ⟨b, o + m.toNat * k.getD 1, none⟩), ?_, ?_⟩
      · simp [Instr.indexAt, asIntOf, run_underlying ht, h0, hm, run_sizeOf' hs, add_mk]
      · have hlt : m.toNat < es.length := lt_of_getElem? hx
        have hb : m.toNat * k.getD 1 + k.getD 1 ≤ es.length * k.getD 1 := by
          have : (m.toNat + 1) * k.getD 1 ≤ es.length * k.getD 1 := Nat.mul_le_mul_right _ hlt
          rw [Nat.add_mul] at this
          omega
        refine .pin x b _ (fun j => cs (m.toNat * k.getD 1 + j)) ?_ (allOneAll_get h3 hx) ?_
        · intro j hj'
          have hx' := allSize_get h2 hx
          have := hl (m.toNat * k.getD 1 + j) (by rw [flatAll_length h2]; omega)
          rw [Nat.add_assoc]
          exact this
        · intro j y hy
          have hj' := lt_of_getElem? hy
          have hx' := allSize_get h2 hx
          exact hr _ y (by rw [flatAll_get h2 hx (by omega)]; exact hy)
    · cases hv
  case ms h g off len cp sz a cap h1 h2 h3 h4 =>
    simp only [] at hv
    split at hv
    · rename_i hlen
      have hlen' : sz = k.getD 1 := by simpa using hlen
      simp only [Option.bind_eq_some_iff] at hv
      obtain ⟨j, hj, cs, _, hv⟩ := hv
      cases hv
      obtain ⟨q, m, rfl, h0, hm, rfl⟩ := idx_some hj
      obtain rfl := hi.int_inv
      refine ⟨.pointer (some (a.add (m.toNat * k.getD 1))), ?_, ?_⟩
      · simp [Instr.indexAt, asIntOf, run_underlying ht, h0, hm, run_sizeOf' hs]
      · refine .ptr _ _ _ _ h1 h2 fun e => ?_
        obtain ⟨e1, _⟩ := h4 e
        rw [e1, add_mk, hlen']
    · cases hv

theorem glFind_mem {g : Nat} {v : AV} : ∀ {l : List (Nat × AV)}, glFind g l = some v → (g, v) ∈ l
  | [], h => by cases h
  | (k, u) :: r, h => by
    simp only [glFind] at h
    split at h
    · rename_i e
      have e := Nat.eq_of_beq_eq_true e
      subst e
      cases h
      exact List.mem_cons_self
    · exact List.mem_cons_of_mem _ (glFind_mem h)

theorem indexAddrA_ok {t e : TypeId} {len : Nat} (ht : P.underlying t = some (.array len e)) {k : Option Nat} (hs : sizeOfT P e = some (k.getD 1)) {u i v : AV} {c ci : Value} {j : Nat} (hu : VR γ w u c) (hi : VR γ w i ci) (hj : idx i len = some j)
    (hv : (match (generalizing := false) u with | .ptr h g off => some (.ptr h g (off + j * k.getD 1)) | .pin v => v.agg?.bind fun cs => (partOf cs (j * k.getD 1) k).map .pin | _ => none : Option AV) = some v) :
    ∃ d, (Instr.indexAt t c ci).run P w = .ok d w ∧ VR γ w v d := by
  obtain ⟨q, m, rfl, h0, hm, rfl⟩ := idx_some hj
  obtain rfl := hi.int_inv
  cases hu <;> try (simp at hv; done)
  case ptr h g off a h1 h2 h3 =>
    cases hv
    refine ⟨.pointer (some (a.add (m.toNat * k.getD 1))), by simp [Instr.indexAt, asIntOf, run_underlying ht, Instr.sureAddr, h0, hm, run_sizeOf' hs], .ptr _ _ _ _ h1 h2 fun e => ?_⟩
    rw [h3 e, add_mk]
  case pin x b o cs' hl h1 hr =>
    simp only [Option.bind_eq_some_iff, Option.map_eq_some_iff] at hv
    obtain ⟨cs, hx, y, hy, rfl⟩ := hv
    obtain rfl := agg?_some hx
    exact ⟨.pointer (some ⟨b, o + m.toNat * k.getD 1, none⟩), by simp [Instr.indexAt, asIntOf, run_underlying ht, Instr.sureAddr, h0, hm, run_sizeOf' hs, add_mk], pin_part hl h1 hr hy⟩

theorem indexA_ok {t e : TypeId} {len : Nat} (ht : P.underlying t = some (.array len e)) {k : Option Nat} (hk : kindOf P e = some k) (hs : sizeOfT P e = some (k.getD 1)) {u i v : AV} {c ci : Value} {cs : List AV} {j : Nat} (hu : VR γ w u c) (hi : VR γ w i ci)
    (ha : u.agg? = some cs) (hj : idx i len = some j) (hv : partOf cs (j * k.getD 1) k = some v) : ∃ d, (Instr.index t c ci).run P w = .ok d w ∧ VR γ w v d := by
  obtain ⟨q, m, rfl, h0, hm, rfl⟩ := idx_some hj
  obtain rfl := hi.int_inv
  obtain rfl := agg?_some ha
  obtain ⟨cs', rfl, h, h1⟩ := hu.agg_inv
  obtain ⟨d, hd, hr⟩ := part_ok hk h h1 hv
  exact ⟨d, by simp [Instr.index, asIntOf, run_underlying ht, h0, hm, run_sizeOf' hs, hd], hr⟩

theorem bytes_get (a : ByteArray) (j : Nat) : a[j]? = a.data.toList[j]? := by
  by_cases h : j < a.size
  · have h' : j < a.data.size := h
    have : a.data.toList[j]? = some a.data[j] := by rw [Array.getElem?_toList, Array.getElem?_eq_getElem h']
    rw [this, getElem?_pos a j h]
    rfl
  · have h' : ¬ j < a.data.size := h
    rw [getElem?_neg a j h, Array.getElem?_toList, Array.getElem?_eq_none (by omega)]

theorem indexS_ok {t : TypeId} (ht : P.underlying t = some .string) {u i : AV} {c ci : Value} {l : List UInt8} {j : Nat} {b : UInt8} (hu : VR γ w u c) (hi : VR γ w i ci) (hl : u.str? = some l) (hj : idx i l.length = some j) (hb : l[j]? = some b) :
    (Instr.index t c ci).run P w = .ok (.int .u8 b.toNat) w := by
  obtain ⟨q, m, rfl, h0, hm, rfl⟩ := idx_some hj
  obtain rfl := hi.int_inv
  obtain rfl := str?_some hl
  obtain ⟨a, rfl, rfl⟩ := hu.str_inv
  have hg : a[m.toNat]? = some b := by rw [bytes_get]; exact hb
  simp [Instr.index, asIntOf, run_underlying ht, h0, hg]

-- ---------------------------------------------------------------- loads

theorem load_pin_ok {t : TypeId} {k : Option Nat} (hk : kindOf P t = some k) {x : AV} {c : Value} (hu : VR γ w (.pin x) c)
    (hx : (match (generalizing := false) k with | none => if x.one then some x else none | some n => x.agg?.bind fun cs => if Nat.beq cs.length n then some x else none : Option AV) = some x) :
    ∃ d, (Instr.loadAt t c).run P w = .ok d w ∧ VR γ w x d := by
  cases hu with
  | pin _ b o cs hl h1 hr =>
    rcases kindOf_ok (w := w) hk with ⟨rfl, hg⟩ | ⟨n, rfl, hg, hs⟩
    · simp only [] at hx
      split at hx
      · rename_i ho
        have hf : x.flat = [x] := by cases x <;> first | rfl | simp [AV.one] at ho
        rw [hf] at hl hr
        obtain ⟨_, hc⟩ := hl 0 (by simp)
        refine ⟨cs 0, ?_, hr 0 x (by simp)⟩
        simp only [Nat.add_zero] at hc
        simp [Instr.loadAt, Instr.sureAddr, loadVar, hg, hc]
      · cases hx
    · simp only [Option.bind_eq_some_iff] at hx
      obtain ⟨l, hl', hx⟩ := hx
      obtain rfl := agg?_some hl'
      split at hx
      · rename_i hn
        have hn' : l.length = n := by simpa using hn
        subst hn'
        refine ⟨.agg ((List.range l.length).map cs).toArray, ?_, ?_⟩
        · have := run_loadCells_list (P := P) w ⟨b, o, none⟩ ((List.range l.length).map cs) (fun j v hj => by
            have hjl : j < l.length := by have := lt_of_getElem? hj; simpa using this
            simp only [List.getElem?_map, List.getElem?_range hjl, Option.map_some, Option.some.injEq] at hj
            subst hj
            rw [add_mk]
            exact (hl j hjl).2)
          simp only [List.length_map, List.length_range] at this
          simp [Instr.loadAt, Instr.sureAddr, loadVar, hg, run_sizeOf' hs, this]
        · refine .agg _ _ (by simp) h1 fun j u x hu hx => ?_
          have hjl : j < l.length := lt_of_getElem? hu
          simp only [List.getElem?_toArray, List.getElem?_map, List.getElem?_range hjl, Option.map_some, Option.some.injEq] at hx
          subst hx
          exact hr j u hu
      · cases hx

theorem getCells_some {h : List AObj} {i g : Nat} {cs : List AV} (e : getCells h i g = some cs) : h[i]? = some (.cells cs g) := by
  unfold getCells at e
  split at e
  · rename_i cs' g' hi
    split at e
    · rename_i hg
      cases e
      have : g = g' := by simpa using hg
      subst this
      exact hi
    · cases e
  · cases e

/-- a pointer into an object, as it stands -/
theorem ptr_cur (hI : Inv P γ s w) {i g off : Nat} {c : Value} {cs : List AV} (hu : VR γ w (.ptr i g off) c) (hg : getCells s.heap i g = some cs) :
    c = .pointer (some ⟨γ.ob i, off, none⟩) ∧ allOne cs = true ∧ ∃ (r : Array Value) (e : TypeId) (fr : Nat × Nat), w.heap[γ.ob i]? = some (.cells r e fr) ∧ cs.length ≤ r.size ∧ FrOk fr r.size ∧ VRs γ w cs (r.extract 0 cs.length) := by
  obtain ⟨_, k1, k2, r, e, fr, k3, k4, k5, k6⟩ := hI.obj i _ (getCells_some hg)
  cases hu with
  | ptr _ _ _ a h1 h2 h3 =>
    rw [h3 k1]
    refine ⟨rfl, k2, r, e, fr, k3, k4, k5, by simp; omega, fun j u x hu hx => ?_⟩
    rw [Array.getElem?_extract] at hx
    split at hx
    · exact k6 j u x hu (by simpa using hx)
    · cases hx

theorem load_ptr_ok {t : TypeId} {k : Option Nat} (hk : kindOf P t = some k) (hI : Inv P γ s w) {i g off : Nat} {c : Value} {cs : List AV} {v : AV} (hu : VR γ w (.ptr i g off) c) (hg : getCells s.heap i g = some cs) (hv : partOf cs off k = some v) :
    ∃ d, (Instr.loadAt t c).run P w = .ok d w ∧ VR γ w v d := by
  obtain ⟨rfl, h1, r, e, fr, k3, k4, k5, k6⟩ := ptr_cur hI hu hg
  rcases partOf_ok k6 h1 hv with ⟨rfl, x, hx, hr, _⟩ | ⟨n, rfl, hle, hr, rfl⟩
  · rcases kindOf_ok (w := w) hk with ⟨_, hgg⟩ | ⟨m, e', _⟩
    · have hc : w.cell? ⟨γ.ob i, off, none⟩ = some x := by
        rw [cell?_row k3]
        rw [Array.getElem?_extract] at hx
        split at hx
        · simpa using hx
        · cases hx
      exact ⟨x, by simp [Instr.loadAt, Instr.sureAddr, loadVar, hgg, hc], hr⟩
    · cases e'
  · rcases kindOf_ok (w := w) hk with ⟨e', _⟩ | ⟨m, e', hgg, hs⟩
    · cases e'
    · cases e'
      simp only [Array.size_extract] at hle
      refine ⟨_, ?_, hr⟩
      have hlen : (r.extract off (off + n)).toList.length = n := by simp; omega
      have := run_loadCells_list (P := P) w ⟨γ.ob i, off, none⟩ (r.extract off (off + n)).toList (fun j v hj => by
        have hjn := lt_of_getElem? hj
        rw [hlen] at hjn
        rw [add_mk, cell?_row k3]
        rw [Array.getElem?_toList, Array.getElem?_extract] at hj
        split at hj
        · exact hj
        · cases hj)
      rw [hlen] at this
      have e2 : (r.extract 0 cs.length).extract off (off + n) = r.extract off (off + n) := by
        rw [Array.extract_extract]
        congr 1 <;> omega
      rw [e2]
      rw [Array.toArray_toList] at this
      simp only [Instr.loadAt, Instr.sureAddr, loadVar, Sem.run_bind, Sem.run_pure, Result.andThen_ok, hgg, if_true, run_sizeOf' hs, this]

end Go.Am

/-
  The abstract machine, ninth part: equality of structs, conversions, slices' bounds, and what is left of the operations that come to a value.
-/
namespace Go.Am
open Go.RowKit (Below)

variable {P : Program} {γ : Gh} {w : World} {s : Sg}

-- ---------------------------------------------------------------- structs compared

theorem drop_cons {α : Type} {l : List α} {n : Nat} {x : α} {r : List α} (h : l.drop n = x :: r) : l[n]? = some x ∧ l.drop (n + 1) = r := by
  constructor
  · have := congrArg (fun l => l[0]?) h
    simpa using this
  · have := congrArg List.tail h
    simpa using this

theorem eqFields_ok {cs ds : List AV} {cs' ds' : Array Value} (hc : VRs γ w cs cs') (hd : VRs γ w ds ds') (d : Nat) :
    ∀ (fs : List Field) (n : Nat) (ks : List Nat) (e : Bool), plainKinds P n fs = some ks → eqCells ks (cs.drop n) (ds.drop n) = some e → (Op.eqFields (d + 1) cs' ds' fs).run P w = .ok e w
  | [], n, ks, e, hk, he => by
    simp [plainKinds] at hk
    subst hk
    unfold eqCells at he
    split at he <;> simp_all [Op.eqFields]
  | f :: r, n, ks, e, hk, he => by
    simp only [plainKinds] at hk
    split at hk
    · cases hk
    · rename_i hn
      simp only [Bool.or_eq_true, decide_eq_true_eq, Bool.not_eq_true', not_or, Bool.not_eq_false, Nat.beq_eq] at hn
      obtain ⟨hn1, hn2⟩ := hn
      simp only [Option.bind_eq_some_iff, Option.map_eq_some_iff] at hk
      obtain ⟨k, hk1, ks', hk2, rfl⟩ := hk
      have step : ∀ {x y : AV} {xs ys : List AV} {b e' : Bool}, cs.drop n = x :: xs → ds.drop n = y :: ys →
          eqCells ks' xs ys = some e' → (∀ c1 c2, VR γ w x c1 → VR γ w y c2 → c1 ≠ .agg #[] ∧ (isAgg f.type).run P w = .ok false w ∧ (Op.equalIn (d + 1) f.type c1 c2).run P w = .ok b w) → (Op.eqFields (d + 1) cs' ds' (f :: r)).run P w = .ok (b && e') w := by
        intro x y xs ys b e' h1 h2 h3 h4
        obtain ⟨g1, t1⟩ := drop_cons h1
        obtain ⟨g2, t2⟩ := drop_cons h2
        obtain ⟨c1, hc1, v1⟩ := hc.get g1
        obtain ⟨c2, hc2, v2⟩ := hd.get g2
        obtain ⟨_, ha, hq⟩ := h4 c1 c2 v1 v2
        have ih := eqFields_ok hc hd d r (n + 1) ks' e' hk2 (by rw [t1, t2]; exact h3)
        have p1 : (part f.type cs' f.offset).run P w = .ok c1 w := by simp [part, ha, hn2, hc1]
        have p2 : (part f.type ds' f.offset).run P w = .ok c2 w := by simp [part, ha, hn2, hc2]
        simp only [Op.eqFields, ne_eq, hn1, not_false_eq_true, if_true, Sem.run_bind, p1, p2, hq, Result.andThen_ok, Sem.run_ite, Sem.run_pure, ih]
        cases b <;> simp
      generalize hxs : cs.drop n = X at he
      generalize hys : ds.drop n = Y at he
      unfold eqCells at he
      split at he
      · rename_i h1; cases h1
      · rename_i q k1 a r1 k2 b s1 hq
        cases hq
        split at he
        · rename_i ek
          subst ek
          simp only [Option.map_eq_some_iff] at he
          obtain ⟨e', he', rfl⟩ := he
          refine step hxs hys he' fun c1 c2 v1 v2 => ?_
          obtain rfl := v1.int_inv
          obtain rfl := v2.int_inv
          split at hk1 <;> simp at hk1
          rename_i kk hu
          exact ⟨by simp, by simp [isAgg, run_underlying hu], run_equalIn_int w d f.type _ _ a b hu⟩
        · cases he
      · rename_i q a r1 b s1 hq
        cases hq
        simp only [Option.map_eq_some_iff] at he
        obtain ⟨e', he', rfl⟩ := he
        refine step hxs hys he' fun c1 c2 v1 v2 => ?_
        obtain ⟨x, rfl, rfl⟩ := v1.str_inv
        obtain ⟨y, rfl, rfl⟩ := v2.str_inv
        split at hk1 <;> simp at hk1
        rename_i hu
        refine ⟨by simp, by simp [isAgg, run_underlying hu], ?_⟩
        rw [run_equalIn_string w d f.type _ _ hu, bytes_beq]
      · rename_i q a r1 b s1 hq
        cases hq
        simp only [Option.map_eq_some_iff] at he
        obtain ⟨e', he', rfl⟩ := he
        refine step hxs hys he' fun c1 c2 v1 v2 => ?_
        obtain rfl := v1.bool_inv
        obtain rfl := v2.bool_inv
        split at hk1 <;> simp at hk1
        rename_i hu
        exact ⟨by simp, by simp [isAgg, run_underlying hu], run_equalIn_bool' w d f.type _ _ hu⟩
      · cases he

theorem eqGuard_plain {t : TypeId} {fs : Array Field} (ht : P.underlying t = some (.struct fs)) {ks : List Nat} {n : Nat} (hk : plainKinds P n fs.toList = some ks) (op : BinOp) (x y : Operand) (c d : Array Value) :
    (eqGuard op t x y (.agg c) (.agg d)).run P w = .ok () w := by
  have key : P.eqGuardType P.depth t = false := by
    have e : P.depth = (2 * (P.types.size + Made.depth) + 1) + 1 := by unfold Program.depth; omega
    rw [e]
    unfold Program.eqGuardType
    rw [ht]
    simp only []
    rw [← Array.any_toList]
    generalize fs.toList = l at hk
    clear ht e
    induction l generalizing n ks with
    | nil => rfl
    | cons f r ih =>
      simp only [plainKinds] at hk
      split at hk
      · cases hk
      · simp only [Option.bind_eq_some_iff, Option.map_eq_some_iff] at hk
        obtain ⟨k, hk1, ks', hk2, rfl⟩ := hk
        simp only [List.any_cons, ih hk2, Bool.or_false, Bool.and_eq_false_iff]
        right
        unfold Program.eqGuardType
        split at hk1 <;> simp at hk1 <;> simp [*]
  cases op <;> simp [eqGuard, key]

theorem eqAgg_ok {op : BinOp} (hop : op = .eql ∨ op = .neq) {t : TypeId} {fs : Array Field} (ht : P.underlying t = some (.struct fs)) (hp : P.stoodInHeld t = false) {ks : List Nat} (hk : plainKinds P 0 fs.toList = some ks)
    {u v : AV} {c d : Value} {cs ds : List AV} {e : Bool} (hu : VR γ w u c) (hv : VR γ w v d) (hcs : u.agg? = some cs) (hds : v.agg? = some ds) (he : eqCells ks cs ds = some e) (x y : Operand) :
    (do eqGuard op t x y c d; binOp op t c d : Sem Value).run P w = .ok (.bool (negIf (match op with | .neq => true | _ => false) e)) w := by
  obtain rfl := agg?_some hcs
  obtain rfl := agg?_some hds
  obtain ⟨cs', rfl, h1, _⟩ := hu.agg_inv
  obtain ⟨ds', rfl, h2, _⟩ := hv.agg_inv
  have hf : P.fieldsOf t = fs := by simp [Program.fieldsOf, ht]
  have he' := eqFields_ok (P := P) h1 h2 9998 fs.toList 0 ks e hk (by simpa using he)
  have hq : (Op.equal t (.agg cs') (.agg ds')).run P w = .ok e w := by
    have : Op.equal t (.agg cs') (.agg ds') = Op.equalIn (9999 + 1) t (.agg cs') (.agg ds') := rfl
    rw [this, run_equalIn_struct w 9999 t cs' ds' (by rw [hf]; exact ht) hp, hf]
    exact he'
  simp only [Sem.run_bind, eqGuard_plain ht hk, Result.andThen_ok]
  rcases hop with rfl | rfl <;> simp [binOp, hq, negIf]

-- ---------------------------------------------------------------- one value

theorem evUn_ok {op : UnOp} {u r : AV} {c : Value} (h : evUn op u = some r) (hu : VR γ w u c) : ∃ d, (Op.unary op c).run P w = .ok d w ∧ VR γ w r d := by
  unfold evUn at h
  split at h
  · obtain rfl := hu.int_inv
    split at h
    · simp [intBin] at h
      subst h
      exact ⟨_, by simp [Op.unary, Op.intArith], .int _ _⟩
    · simp [intBin] at h
      subst h
      exact ⟨_, by simp [Op.unary, Op.intBits], .int _ _⟩
    · cases h
  · obtain rfl := hu.bool_inv
    split at h
    · cases h
      exact ⟨_, by simp [Op.unary], .bool _⟩
    · cases h
  · cases h

theorem minmaxGo_ok (mx : Bool) (k : IntKind) : ∀ (l : List AV) (x : Int) (r : AV) (cs : List Value), minmaxGo mx k x l = some r → VRs γ w l cs.toArray →
    ∃ d, (cs.foldlM (if mx then Builtin.max2 else Builtin.min2) (.int k x)).run P w = .ok d w ∧ VR γ w r d
  | [], x, r, cs, h, hl => by
    simp [minmaxGo] at h
    subst h
    have : cs = [] := by have := hl.1; simp at this; exact List.length_eq_zero_iff.1 this.symm
    subst this
    exact ⟨.int k x, rfl, .int _ _⟩
  | v :: l, x, r, cs, h, hl => by
    cases cs with
    | nil => have := hl.1; simp at this
    | cons c cs =>
      have h0 : VR γ w v c := hl.2 0 v c rfl rfl
      have ht : VRs γ w l cs.toArray := ⟨by have := hl.1; simpa using this, fun j u x hu hx => hl.2 (j + 1) u x (by simpa using hu) (by simpa using hx)⟩
      unfold minmaxGo at h
      split at h
      · rename_i hh; cases hh
      · rename_i k' y r' hh
        cases hh
        obtain rfl := h0.int_inv
        split at h
        · rename_i e
          subst e
          obtain ⟨d, hd, hr⟩ := minmaxGo_ok mx k l _ r cs h ht
          refine ⟨d, ?_, hr⟩
          rw [List.foldlM_cons]
          cases mx
          · simp only [Bool.false_eq_true, if_false] at hd ⊢
            simp only [Builtin.min2, pure_bind]
            exact hd
          · simp only [if_true] at hd ⊢
            simp only [Builtin.max2, pure_bind]
            exact hd
        · cases h
      · cases h

theorem fltMM_ok {mx : Bool} {k : FloatKind} {a b z : Nat} (h : fltMM mx k a b = some z) : (if mx then Builtin.max2 else Builtin.min2) (.float k a) (.float k b) = (pure (.float k z) : Sem Value) := by
  unfold fltMM at h
  cases ho : k.format.order a b with
  | none => rw [ho] at h; cases h
  | some o => rw [ho] at h; cases mx <;> cases o <;> (cases h; simp [Builtin.max2, Builtin.min2, ho])

theorem minmaxFlt_ok (mx : Bool) (k : FloatKind) : ∀ (l : List AV) (x : Nat) (r : AV) (cs : List Value), minmaxFlt mx k x l = some r → VRs γ w l cs.toArray →
    ∃ d, (cs.foldlM (if mx then Builtin.max2 else Builtin.min2) (.float k x)).run P w = .ok d w ∧ VR γ w r d
  | [], x, r, cs, h, hl => by
    simp [minmaxFlt] at h
    subst h
    have : cs = [] := by have := hl.1; simp at this; exact List.length_eq_zero_iff.1 this.symm
    subst this
    exact ⟨.float k x, rfl, .flt _ _⟩
  | v :: l, x, r, cs, h, hl => by
    cases cs with
    | nil => have := hl.1; simp at this
    | cons c cs =>
      have h0 : VR γ w v c := hl.2 0 v c rfl rfl
      have ht : VRs γ w l cs.toArray := ⟨by have := hl.1; simpa using this, fun j u x hu hx => hl.2 (j + 1) u x (by simpa using hu) (by simpa using hx)⟩
      unfold minmaxFlt at h
      split at h
      · rename_i hh; cases hh
      · rename_i k' y r' hh
        cases hh
        obtain rfl := h0.flt_inv
        split at h
        · rename_i e
          subst e
          simp only [Option.bind_eq_some_iff] at h
          obtain ⟨z, hz, h⟩ := h
          obtain ⟨d, hd, hr⟩ := minmaxFlt_ok mx k l _ r cs h ht
          refine ⟨d, ?_, hr⟩
          rw [List.foldlM_cons]
          rw [fltMM_ok hz, pure_bind]
          exact hd
        · cases h
      · cases h

theorem minmax_ok {mx : Bool} {l : List AV} {r : AV} {cs : Array Value} (h : minmax mx l = some r) (hl : VRs γ w l cs) :
    ∃ d, (if mx then Builtin.max_ #[] 0 cs else Builtin.min_ #[] 0 cs).run P w = .ok d w ∧ VR γ w r d := by
  unfold minmax at h
  split at h
  · rename_i k x l
    obtain ⟨cs⟩ := cs
    cases cs with
    | nil => have := hl.1; simp at this
    | cons c cs =>
      obtain rfl : c = .int k x := (hl.2 0 _ c rfl rfl).int_inv
      obtain ⟨d, hd, hr⟩ := minmaxGo_ok (P := P) mx k l x r cs h ⟨by have := hl.1; simpa using this, fun j u x hu hx => hl.2 (j + 1) u x (by simpa using hu) (by simpa using hx)⟩
      refine ⟨d, ?_, hr⟩
      cases mx
      · simpa [Builtin.min_] using hd
      · simpa [Builtin.max_] using hd
  · rename_i k x l
    obtain ⟨cs⟩ := cs
    cases cs with
    | nil => have := hl.1; simp at this
    | cons c cs =>
      obtain rfl : c = .float k x := (hl.2 0 _ c rfl rfl).flt_inv
      obtain ⟨d, hd, hr⟩ := minmaxFlt_ok (P := P) mx k l x r cs h ⟨by have := hl.1; simpa using this, fun j u x hu hx => hl.2 (j + 1) u x (by simpa using hu) (by simpa using hx)⟩
      refine ⟨d, ?_, hr⟩
      cases mx
      · simpa [Builtin.min_] using hd
      · simpa [Builtin.max_] using hd
  · cases h

-- ---------------------------------------------------------------- bounds

theorem bnd_some {i : Option AV} {d n k : Nat} (h : bnd i d n = some k) : (i = none ∧ k = d) ∨ ∃ q m, i = some (.int q m) ∧ 0 ≤ m ∧ m ≤ n ∧ k = m.toNat := by
  unfold bnd at h
  split at h
  · cases h; exact .inl ⟨rfl, rfl⟩
  · rename_i q m
    split at h
    · rename_i hc
      cases h
      exact .inr ⟨q, m, rfl, hc.1, hc.2, rfl⟩
    · cases h
  · cases h

/-- an operand that may be left away -/
theorem optOpd_ok {loc pers : Env} {a : Act} (hE : EvR γ w loc pers a) {o : Option Operand} {x : Option AOpd} {v : Option AV} (ho : tOptOpd o = some x) (hx : evOpt loc pers x = some v) :
    (v = none ∧ o.map a.eval = none) ∨ ∃ u c, v = some u ∧ o.map a.eval = some c ∧ VR γ w u c := by
  cases o with
  | none =>
    simp [tOptOpd] at ho
    subst ho
    simp [evOpt] at hx
    subst hx
    exact .inl ⟨rfl, rfl⟩
  | some o =>
    simp only [tOptOpd, Option.map_eq_some_iff] at ho
    obtain ⟨y, hy, rfl⟩ := ho
    simp only [evOpt, Option.map_eq_some_iff] at hx
    obtain ⟨u, hu, rfl⟩ := hx
    exact .inr ⟨u, _, rfl, rfl, opd_ok hE hy hu⟩

theorem sliceBound_ok {v : AV} {c : Value} {q : IntKind} {m : Int} (hv : VR γ w v c) (e : v = .int q m) {y : Nat} (h0 : 0 ≤ m) (h1 : m ≤ y) (code : BoundsCode) : (Instr.sliceBound c y code).run P w = .ok m.toNat w := by
  subst e
  obtain rfl := hv.int_inv
  simp [Instr.sliceBound, asIntOf, h0, h1]

/-- a bound that is given, or left away -/
def OptR (γ : Gh) (w : World) (v : Option AV) (c : Option Value) : Prop := (v = none ∧ c = none) ∨ ∃ u d, v = some u ∧ c = some d ∧ VR γ w u d

/-- both bounds, no third one -/
theorem sliceBounds_ok {a b : Option AV} {ca cb : Option Value} (ha : OptR γ w a ca) (hb : OptR γ w b cb) {isSlice : Bool} {len cap h k : Nat} (hlc : len ≤ cap) (hh : bnd b len len = some h) (hk : bnd a 0 h = some k) :
    (Instr.sliceBounds isSlice len cap ca cb none).run P w = .ok (k, h, cap) w ∧ k ≤ h ∧ h ≤ len := by
  have hhl : h ≤ len := by
    rcases bnd_some hh with ⟨_, rfl⟩ | ⟨q, m, _, _, _, rfl⟩ <;> omega
  have hkh : k ≤ h := by
    rcases bnd_some hk with ⟨_, rfl⟩ | ⟨q, m, _, _, _, rfl⟩ <;> omega
  refine ⟨?_, hkh, hhl⟩
  have e1 : (match cb with
      | some v => Instr.sliceBound v cap (if isSlice then .sliceAcap else .sliceAlen)
      | none => pure len : Sem Nat).run P w = .ok h w := by
    rcases hb with ⟨rfl, rfl⟩ | ⟨u, d, rfl, rfl, hv⟩
    · simp [bnd] at hh; subst hh; rfl
    · rcases bnd_some hh with ⟨e, _⟩ | ⟨q, m, e, h0, h1, rfl⟩
      · cases e
      · cases e
        exact sliceBound_ok hv rfl h0 (by omega) _
  have e2 : (match ca with
      | some v => Instr.sliceBound v h .sliceB
      | none => pure 0 : Sem Nat).run P w = .ok k w := by
    rcases ha with ⟨rfl, rfl⟩ | ⟨u, d, rfl, rfl, hv⟩
    · simp [bnd] at hk; subst hk; rfl
    · rcases bnd_some hk with ⟨e, _⟩ | ⟨q, m, e, h0, h1, rfl⟩
      · cases e
      · cases e
        exact sliceBound_ok hv rfl h0 h1 _
  unfold Instr.sliceBounds
  cases ca <;> cases cb <;> simp_all

end Go.Am

/-
  The abstract machine, tenth part: conversions; what an append takes and where it puts it.
-/
namespace Go.Am
open Go.RowKit (Below)

variable {P : Program} {γ : Gh} {w : World} {s : Sg}

-- ---------------------------------------------------------------- the mark of a conversion

theorem heap_freeze (w : World) {b : Nat} {c : Array Value} {e : TypeId} {fr : Nat × Nat} (h : w.heap[b]? = some (.cells c e fr)) (k : Nat) :
    (w.freeze ⟨b, c.size, none⟩ 1).heap[k]? = if k = b then some (.cells c e (if fr.1 == fr.2 then (c.size, c.size + 1) else (min fr.1 c.size, max fr.2 (c.size + 1)))) else w.heap[k]? := by
  simp only [World.freeze, Nat.one_ne_zero, if_false, Array.getElem?_modify]
  by_cases hk : k = b
  · subst hk
    rw [if_pos rfl, if_pos rfl, h]
    obtain ⟨lo, hi⟩ := fr
    rfl
  · rw [if_neg (fun e => hk e.symm), if_neg hk]

theorem FrOk.mark {fr : Nat × Nat} {n : Nat} (h : FrOk fr n) : FrOk (if fr.1 == fr.2 then (n, n + 1) else (min fr.1 n, max fr.2 (n + 1))) n := by
  split
  · exact .inr (Nat.le_refl _)
  · rename_i hne
    rcases h with h | h
    · simp [h] at hne
    · exact .inr (by simp only []; omega)

theorem cell?_freeze (w : World) {b : Nat} {c : Array Value} {e : TypeId} {fr : Nat × Nat} (h : w.heap[b]? = some (.cells c e fr)) (b' o : Nat) : (w.freeze ⟨b, c.size, none⟩ 1).cell? ⟨b', o, none⟩ = w.cell? ⟨b', o, none⟩ := by
  simp only [World.cell?, heap_freeze w h]
  by_cases e' : b' = b
  · subst e'
    rw [if_pos rfl, h]
  · rw [if_neg e']

theorem size_freeze (w : World) (a : Addr) (n : Nat) : (w.freeze a n).heap.size = w.heap.size := by
  unfold World.freeze
  split <;> simp

theorem Le.mark {b : Nat} {c : Array Value} {e : TypeId} {fr : Nat × Nat} (h : w.heap[b]? = some (.cells c e fr)) (hb : γ.base ≤ b) : Le γ w γ (w.freeze ⟨b, c.size, none⟩ 1) :=
  { Le.refl γ w with
    F := fun b' o hf => ⟨hf, cell?_freeze w h b' o⟩
    sz := fun b' c' e' fr' hb' => by
      rw [heap_freeze w h]
      split
      · rename_i e1
        subst e1
        rw [h] at hb'
        cases hb'
        exact ⟨_, _, rfl, rfl⟩
      · exact ⟨c', fr', hb', rfl⟩
    below := ⟨by unfold World.freeze; simp, by unfold World.freeze; simp, by unfold World.freeze; simp, by rw [size_freeze]; exact Nat.le_refl _, fun k hk => by
      rw [heap_freeze w h, if_neg (by omega)]⟩
    fr := fun b' hb' => by
      refine ⟨⟨by rw [size_freeze]; exact hb'.1, hb'.2.1, hb'.2.2⟩, ?_, fun _ h => h⟩
      rw [heap_freeze w h]
      split
      · rename_i e1
        subst e1
        exact .inr ⟨c, e, fr, _, h, rfl, FrOk.mark⟩
      · exact .inl rfl }

theorem Inv.mark (hI : Inv P γ s w) {b : Nat} {c : Array Value} {e : TypeId} {fr : Nat × Nat} (h : w.heap[b]? = some (.cells c e fr)) (hb : γ.base ≤ b) : Inv P γ s (w.freeze ⟨b, c.size, none⟩ 1) := by
  have hle : Le γ w γ (w.freeze ⟨b, c.size, none⟩ 1) := Le.mark h hb
  refine ⟨hI.n, hI.tn, ?_, hI.inj, ?_, ?_, hI.tinj, hI.tob, ?_, by rw [size_freeze]; exact hI.base, ?_, fun p hp => (hI.gl p hp).monoV hle.toLeV⟩
  · intro i o ho
    by_cases e1 : γ.ob i = b
    · cases o with
      | cells cs g =>
        obtain ⟨k0, k1, k2, c', e', fr', k3, k4, k5, k6⟩ := hI.obj i _ ho
        rw [e1, h] at k3
        cases k3
        exact ⟨k0, k1, k2, c, e, _, by rw [e1, heap_freeze w h, if_pos rfl], k4, k5.mark, fun j u x hu hx => (k6 j u x hu hx).mono hle⟩
      | mapo es =>
        obtain ⟨k0, k1, en, clk, k3, _⟩ := hI.obj i _ ho
        rw [e1, h] at k3
        cases k3
      | siter l p =>
        obtain ⟨k0, k1, bs, k3, _⟩ := hI.obj i _ ho
        rw [e1, h] at k3
        cases k3
      | pend => exact hI.obj i _ ho
      | dead => exact hI.obj i _ ho
      | loopo ts cs ps aops bops bz =>
        obtain ⟨k0, k1, k2, r, k3, _⟩ := hI.obj i _ ho
        rw [e1, h] at k3
        cases k3
      | defo =>
        obtain ⟨k0, k1, k3⟩ := hI.obj i _ ho
        rw [e1, h] at k3
        cases k3
    · exact (hI.obj i o ho).mono hle Iff.rfl rfl rfl (by rw [heap_freeze w h, if_neg e1])
  · intro i hi
    obtain ⟨x, y, z⟩ := hI.lt i hi
    exact ⟨x, by rw [size_freeze]; exact y, z⟩
  · intro t ht
    obtain ⟨a, b', c0, d, e', fr', f, g, g2⟩ := hI.tok t ht
    by_cases e1 : γ.tb t = b
    · rw [e1, h] at f
      cases f
      exact ⟨a, b', c0, c, e, _, by rw [e1, heap_freeze w h, if_pos rfl], g, g2.mark⟩
    · exact ⟨a, b', c0, d, e', fr', by rw [heap_freeze w h, if_neg e1]; exact f, g, g2⟩
  · intro b' o hf
    rw [size_freeze]
    exact hI.Flt b' o hf
  · exact fun p hp => (hI.ty p hp).monoV hle.toLeV

-- ---------------------------------------------------------------- bytes

theorem byteCells_length (l : List UInt8) : (byteCells l).length = l.length := by simp [byteCells]
theorem byteCells_get (l : List UInt8) (j : Nat) : (byteCells l)[j]? = (l[j]?).map fun b => .int .u8 b.toNat := by simp [byteCells]
theorem byteCells_size : ∀ l : List UInt8, allSize 1 (byteCells l) = true
  | [] => rfl
  | b :: r => by
    have := byteCells_size r
    simp only [byteCells] at this
    simp [byteCells, allSize, AV.flat, this]
theorem byteCells_one : ∀ l : List UInt8, allOneAll (byteCells l) = true
  | [] => rfl
  | b :: r => by
    have := byteCells_one r
    simp only [byteCells] at this
    simp [byteCells, allOneAll, AV.flat, allOne, AV.one, this]
theorem byteCells_flat : ∀ l : List UInt8, flatAll (byteCells l) = byteCells l
  | [] => rfl
  | b :: r => by simp only [byteCells, List.map_cons, flatAll, AV.flat, List.singleton_append, List.cons.injEq, true_and]; exact byteCells_flat r

theorem strBytes_ok (hI : Inv P γ s w) {src dst e : TypeId} (hs : P.underlying src = some .string) (hd : P.underlying dst = some (.slice e)) (he : P.underlying e = some (.int .u8)) (a : ByteArray) :
    ∃ γ' w' c, (convert src dst (.string a)).run P w = .ok c w' ∧ Le γ w γ' w' ∧ Inv P γ' s w' ∧ VR γ' w' (.vec (byteCells a.data.toList) .shut) c := by
  have hrun := Lib.run_convert_string_bytes (P := P) w src dst e a hs hd he
  have h1 := (hI.drew).fresh (.cells (Lib.bytesCells w e a) e) (fun _ _ _ e' => by cases e'; exact .none _) a.size
  have hle1 := Le.fresh hI.drew (.cells (Lib.bytesCells w e a) e) a.size
  have hblk : (w.drew.alloc (.cells (Lib.bytesCells w e a) e)).heap[w.heap.size]? = some (.cells (Lib.bytesCells w e a) e (0, 0)) := by
    show (w.heap.push _)[w.heap.size]? = _
    simp
  have h2 := h1.mark hblk hI.base
  have hle2 := Le.mark (γ := γ.freeze w.heap.size 0 a.size) hblk hI.base
  refine ⟨_, _, _, hrun, ((Le.drew γ w).trans hle1).trans hle2, h2, ?_⟩
  have hlen : (byteCells a.data.toList).length = a.size := by rw [byteCells_length, Array.length_toList]; rfl
  have hcap : a.size ≤ grownCap w a.size 0 e := grownCap_ge w a.size 0 e
  have hcap' : (byteCells a.data.toList).length ≤ grownCap w a.size 0 e := by rw [hlen]; exact hcap
  have := VR.vec (γ := γ.freeze w.heap.size 0 a.size) (w := Lib.bytesWorld w e a) (byteCells a.data.toList) .shut w.heap.size 0 (grownCap w a.size 0 e) 1 (fun j => .int .u8 (a.data.toList.getD j 0).toNat)
    hcap' (byteCells_size _) (byteCells_one _) (fun j hj => by
      rw [byteCells_flat, hlen] at hj
      refine ⟨.inr ⟨rfl, Nat.zero_le _, by omega⟩, ?_⟩
      rw [Nat.zero_add]
      exact Lib.bytesWorld_cell w e a j hj) (fun j u hu => by
      rw [byteCells_flat, byteCells_get] at hu
      cases hx : a.data.toList[j]? with
      | none => simp [hx] at hu
      | some b =>
        simp only [hx, Option.map_some, Option.some.injEq] at hu
        subst hu
        have : a.data.toList.getD j 0 = b := by rw [List.getD_eq_getElem?_getD, hx]; rfl
        rw [this]
        exact .int _ _) trivial
  rw [hlen] at this
  exact this

theorem bytesOf_ok : ∀ {es : List AV} {l : List UInt8}, bytesOf es = some l → ∃ ns : List Int, es = ns.map (AV.int .u8) ∧ l = ns.map fun n => UInt8.ofNat n.toNat
  | [], l, h => by simp [bytesOf] at h; subst h; exact ⟨[], rfl, rfl⟩
  | v :: r, l, h => by
    unfold bytesOf at h
    split at h
    · rename_i hh; cases hh
    · rename_i n r' hh
      cases hh
      simp only [Option.bind_eq_some_iff, Option.some.injEq] at h
      obtain ⟨l', h1, rfl⟩ := h
      obtain ⟨ns, rfl, rfl⟩ := bytesOf_ok h1
      exact ⟨n :: ns, rfl, rfl⟩
    · cases h

theorem foldl_push : ∀ (ns : List Int) (a : ByteArray), (ns.foldl (fun r n => r.push (UInt8.ofNat n.toNat)) a).data.toList = a.data.toList ++ ns.map fun n => UInt8.ofNat n.toNat
  | [], a => by simp
  | n :: r, a => by
    rw [List.foldl_cons, foldl_push r, List.map_cons]
    have : (a.push (UInt8.ofNat n.toNat)).data.toList = a.data.toList ++ [UInt8.ofNat n.toNat] := by
      show (a.data.push _).toList = _
      simp
    rw [this]
    simp

theorem bytesStr_ok {src dst e : TypeId} (hs : P.underlying src = some (.slice e)) (he : P.underlying e = some (.int .u8)) (hd : P.underlying dst = some .string) {u r : AV} {c : Value} (hu : VR γ w u c) (h : evConv .bytesStr u = some r) :
    ∃ d, (convert src dst c).run P w = .ok d w ∧ VR γ w r d := by
  cases hu <;> try (simp [evConv] at h; done)
  case nilsl =>
    simp [evConv] at h
    subst h
    exact ⟨.string .empty, by rw [run_convert_bytes_string w src dst e _ _ _ hs he hd]; rfl, .str ByteArray.empty⟩
  case vecNil tl ht =>
    simp [evConv, bytesOf] at h
    subst h
    exact ⟨.string .empty, by rw [run_convert_bytes_string w src dst e _ _ _ hs he hd]; rfl, .str ByteArray.empty⟩
  case vecE a =>
    simp [evConv, bytesOf] at h
    subst h
    exact ⟨.string .empty, by rw [run_convert_bytes_string w src dst e _ _ _ hs he hd]; rfl, .str ByteArray.empty⟩
  case vec es tl b o cap sz cs h1 h2 h3 hl hr h6 =>
    simp only [evConv, Option.map_eq_some_iff] at h
    obtain ⟨l, hb, rfl⟩ := h
    obtain ⟨ns, rfl, rfl⟩ := bytesOf_ok hb
    have hfl : ∀ ns : List Int, flatAll (ns.map (AV.int .u8)) = ns.map (AV.int .u8) := fun ns => by
      induction ns with
      | nil => rfl
      | cons n r ih => simp only [List.map_cons, flatAll, AV.flat, List.singleton_append, ih]
    rw [hfl] at hl hr
    have hcells : (loadCells ⟨b, o, none⟩ (ns.map (AV.int .u8)).length).run P w = .ok (ns.map (Value.int .u8)).toArray w := by
      have := run_loadCells_list (P := P) w ⟨b, o, none⟩ (ns.map (Value.int .u8)) (fun j v hj => by
        have hjl : j < (ns.map (AV.int .u8)).length := by have := lt_of_getElem? hj; simpa using this
        obtain ⟨_, hc⟩ := hl j hjl
        rw [add_mk, hc]
        simp only [List.getElem?_map, Option.map_eq_some_iff] at hj
        obtain ⟨n, hn, rfl⟩ := hj
        have := (hr j (.int .u8 n) (by simp [hn])).int_inv
        rw [this])
      simpa using this
    refine ⟨_, by rw [run_convert_bytes_string w src dst e _ _ _ hs he hd]; exact run_bytesToString w ⟨b, o, none⟩ _ cap ns hcells, ?_⟩
    have := foldl_push ns ByteArray.empty
    have e0 : ByteArray.empty.data.toList = [] := rfl
    rw [e0, List.nil_append] at this
    rw [← this]
    exact .str _

theorem ownBytes_ok (hI : Inv P γ s w) {t e : TypeId} (ht : P.underlying t = some (.slice e)) (he : P.underlying e = some (.int .u8)) {u r : AV} {c : Value} (hu : VR γ w u c) (h : evConv .ownBytes u = some r) :
    ∃ w' d, (convert t t c).run P w = .ok d w' ∧ Le γ w γ w' ∧ Inv P γ s w' ∧ VR γ w' r d := by
  cases hu <;> try (simp [evConv] at h; done)
  case vecNil tl htl =>
    cases tl <;> simp [evConv] at h
    rename_i own
    cases own <;> simp [evConv] at h
    obtain ⟨_, k⟩ := htl
    obtain ⟨a, ha, _⟩ := k rfl
    cases ha
  case vec es tl b o cap sz cs h1 h2 h3 hl hr h6 =>
    cases tl <;> simp [evConv] at h
    rename_i own
    cases own <;> simp [evConv] at h
    subst h
    obtain ⟨hcap, k⟩ := h6
    obtain ⟨a, ha, hb⟩ := k rfl
    cases ha
    have hne : Value.slice (some ⟨b, o, none⟩) es.length cap = .slice (some ⟨b, o, none⟩) es.length cap := rfl
    have hr' : VR γ w (.vec es (.exact false)) (.slice (some ⟨b, o, none⟩) es.length cap) := .vec es _ b o cap sz cs h1 h2 h3 hl hr ⟨hcap, fun e => by cases e⟩
    cases hh : w.heap[b]? with
    | some ob =>
      cases ob with
      | cells c' e' fr =>
        refine ⟨w.freeze ⟨b, c'.size, none⟩ 1, .slice (some ⟨b, o, none⟩) es.length cap, ?_, Le.mark hh hb, hI.mark hh hb, hr'.mono (Le.mark hh hb)⟩
        have hs : w.shape? b = some (e', c'.size) := by simp [World.shape?, hh]
        simp [convert, run_underlying ht, run_underlying he, markStringish, hs]
      | _ =>
        refine ⟨w, .slice (some ⟨b, o, none⟩) es.length cap, ?_, Le.refl _ _, hI, hr'⟩
        have hs : w.shape? b = none := by simp [World.shape?, hh]
        simp [convert, run_underlying ht, run_underlying he, markStringish, hs]
    | none =>
      refine ⟨w, .slice (some ⟨b, o, none⟩) es.length cap, ?_, Le.refl _ _, hI, hr'⟩
      have hs : w.shape? b = none := by simp [World.shape?, hh]
      simp [convert, run_underlying ht, run_underlying he, markStringish, hs]

end Go.Am

/-
  The abstract machine, eleventh part: what is built of parts; what is stored, and what grows.
-/
namespace Go.Am
open Go.RowKit (Below)

variable {P : Program} {γ : Gh} {w : World} {s : Sg}

-- ---------------------------------------------------------------- cells written into others

theorem writeAt_spec : ∀ {l : List AV} {off : Nat} {xs l' : List AV}, writeAt l off xs = some l' → l'.length = l.length ∧ off + xs.length ≤ l.length ∧ ∀ j, l'[j]? = if off ≤ j ∧ j < off + xs.length then xs[j - off]? else l[j]?
  | l, 0, [], l', h => by
    have : l' = l := by cases l <;> simp [writeAt] at h <;> first | exact h | exact h.symm
    subst this
    refine ⟨rfl, by simp, fun j => ?_⟩
    rw [if_neg (by simp)]
  | [], 0, x :: xs, l', h => by simp [writeAt] at h
  | c :: r, 0, x :: xs, l', h => by
    simp only [writeAt, Option.bind_eq_some_iff, Option.some.injEq] at h
    obtain ⟨l1, h1, rfl⟩ := h
    obtain ⟨a, b, d⟩ := writeAt_spec h1
    refine ⟨by simp [a], by simp; omega, fun j => ?_⟩
    cases j with
    | zero => simp
    | succ j =>
      have := d j
      simp only [List.getElem?_cons_succ, this]
      by_cases hj : j < xs.length
      · rw [if_pos (by omega), if_pos (by simp; omega)]; simp
      · rw [if_neg (by omega), if_neg (by simp; omega)]
  | [], n + 1, xs, l', h => by cases xs <;> simp [writeAt] at h
  | c :: r, n + 1, xs, l', h => by
    have h : (writeAt r n xs).bind (fun l => some (c :: l)) = some l' := by cases xs <;> simpa [writeAt] using h
    simp only [Option.bind_eq_some_iff, Option.some.injEq] at h
    obtain ⟨l1, h1, rfl⟩ := h
    obtain ⟨a, b, d⟩ := writeAt_spec h1
    refine ⟨by simp [a], by simp; omega, fun j => ?_⟩
    cases j with
    | zero => simp
    | succ j =>
      have := d j
      simp only [List.getElem?_cons_succ, this]
      by_cases hj : n ≤ j ∧ j < n + xs.length
      · rw [if_pos hj, if_pos (by omega)]
        have : j + 1 - (n + 1) = j - n := by omega
        rw [this]
      · rw [if_neg hj, if_neg (by omega)]

theorem allOne_writeAt {l xs l' : List AV} {off : Nat} (h : writeAt l off xs = some l') (h1 : allOne l = true) (h2 : allOne xs = true) : allOne l' = true := by
  obtain ⟨_, _, d⟩ := writeAt_spec h
  refine allOne_of fun j u hu => ?_
  rw [d j] at hu
  split at hu
  · exact allOne_get h2 hu
  · exact allOne_get h1 hu

/-- a row of values with others written from a place on -/
def putAt (c : Array Value) (off : Nat) (xs : List Value) : Array Value := (xs.zipIdx.foldl (fun cs (p : Value × Nat) => cs.setIfInBounds (off + p.2) p.1) c)

theorem putAt_go : ∀ (xs : List Value) (k off : Nat) (c : Array Value), ((xs.zipIdx k).foldl (fun cs (p : Value × Nat) => cs.setIfInBounds (off + p.2) p.1) c).size = c.size ∧
    ∀ j, ((xs.zipIdx k).foldl (fun cs (p : Value × Nat) => cs.setIfInBounds (off + p.2) p.1) c)[j]? = if off + k ≤ j ∧ j < off + k + xs.length ∧ j < c.size then xs[j - (off + k)]? else c[j]?
  | [], k, off, c => ⟨rfl, fun j => by rw [if_neg (by simp; omega)]; rfl⟩
  | x :: xs, k, off, c => by
    simp only [List.zipIdx_cons, List.foldl_cons]
    obtain ⟨a, b⟩ := putAt_go xs (k + 1) off (c.setIfInBounds (off + k) x)
    refine ⟨by rw [a]; simp, fun j => ?_⟩
    rw [b j]
    simp only [Array.size_setIfInBounds, List.length_cons]
    by_cases h1 : off + (k + 1) ≤ j ∧ j < off + (k + 1) + xs.length ∧ j < c.size
    · rw [if_pos h1, if_pos (by omega)]
      have : j - (off + k) = (j - (off + (k + 1))) + 1 := by omega
      rw [this, List.getElem?_cons_succ]
    · rw [if_neg h1, Array.getElem?_setIfInBounds]
      by_cases h2 : off + k = j
      · rw [if_pos h2]
        subst h2
        by_cases h3 : off + k < c.size
        · rw [if_pos h3, if_pos (by omega)]; simp
        · rw [if_neg h3, if_neg (by omega)]; simp; omega
      · rw [if_neg h2, if_neg (by omega)]

theorem putAt_VRs {l xs l' : List AV} {off : Nat} {c xc : Array Value} (h : writeAt l off xs = some l') (hl : VRs γ w l c) (hx : VRs γ w xs xc) : VRs γ w l' (putAt c off xc.toList) ∧ off + xc.size ≤ c.size := by
  obtain ⟨a, b, d⟩ := writeAt_spec h
  obtain ⟨e, f⟩ := putAt_go xc.toList 0 off c
  have hxl := hx.1
  have hll := hl.1
  refine ⟨⟨by rw [a]; exact hll.trans e.symm, fun j u x hu hx' => ?_⟩, by omega⟩
  rw [d j] at hu
  have hf : (putAt c off xc.toList)[j]? = some x := hx'
  unfold putAt at hf
  rw [f j] at hf
  simp only [Array.length_toList, Nat.add_zero] at hf
  by_cases h1 : off ≤ j ∧ j < off + xs.length
  · rw [if_pos h1] at hu
    have h2 : off ≤ j ∧ j < off + xc.size ∧ j < c.size := by omega
    rw [if_pos h2] at hf
    exact hx.2 _ u x hu (by simpa using hf)
  · rw [if_neg h1] at hu
    rw [if_neg (by omega)] at hf
    exact hl.2 _ u x hu hf

-- ---------------------------------------------------------------- structs and arrays of parts

theorem foldl_zipIdx (a : Array Value) (off : Nat) (c : Array Value) : a.zipIdx.foldl (fun cs (c, j) => cs.setIfInBounds (off + j) c) c = putAt c off a.toList := by
  rw [← Array.foldl_toList]
  unfold putAt
  rw [Array.toList_zipIdx]

theorem fill_ok {loc pers : Env} {a : Act} (hE : EvR γ w loc pers a) (place : Nat → Option (Nat × Nat)) : ∀ {ps : List (Nat × Operand)} {parts : List (Nat × Nat × AOpd)} {l l' : List AV} {c : Array Value},
    (∀ (j : Nat) i x, ps[j]? = some (i, x) → ∃ off n y, parts[j]? = some (off, n, y) ∧ place i = some (off, n) ∧ tOpd x = some y) → parts.length = ps.length → VRs γ w l c → allOne l = true → fillParts loc pers parts l = some l' →
    ∃ c', Instr.fill place c (ps.map fun (i, x) => (i, a.eval x)) = some c' ∧ VRs γ w l' c' ∧ allOne l' = true
  | [], parts, l, l', c, _, hlen, hl, h1, hf => by
    have : parts = [] := List.length_eq_zero_iff.1 (by simpa using hlen)
    subst this
    simp [fillParts] at hf
    subst hf
    exact ⟨c, rfl, hl, h1⟩
  | (i, x) :: ps, parts, l, l', c, hp, hlen, hl, h1, hf => by
    cases parts with
    | nil => simp at hlen
    | cons p parts =>
      obtain ⟨off, n, y, e1, e2, e3⟩ := hp 0 i x rfl
      simp at e1
      subst e1
      simp only [fillParts, Option.bind_eq_some_iff] at hf
      obtain ⟨v, hv, xs, hxs, hf⟩ := hf
      split at hf
      · rename_i hn
        have hn' : xs.length = n := by simpa using hn
        simp only [Option.bind_eq_some_iff] at hf
        obtain ⟨l1, hw1, hf⟩ := hf
        have hvr := opd_ok hE e3 hv
        obtain ⟨hxr, hx1⟩ := stored_ok hvr hxs
        obtain ⟨k1, k2⟩ := putAt_VRs hw1 hl hxr
        have ih := fill_ok hE place (ps := ps) (parts := parts) (fun j i x hj => hp (j + 1) i x (by simpa using hj)) (by simpa using hlen) k1 (allOne_writeAt hw1 h1 hx1) hf
        obtain ⟨c', g1, g2, g3⟩ := ih
        refine ⟨c', ?_, g2, g3⟩
        have hsz : (a.eval x).cells.size = n := by rw [← hxr.1]; exact hn'
        have hle : (((a.eval x).cells.size != n) || decide (off + (a.eval x).cells.size > c.size)) = false := by
          simp [hsz]; omega
        simp only [List.map_cons, Instr.fill, e2]
        rw [if_neg (by simpa using hle), foldl_zipIdx]
        exact g1
      · cases hf

-- ---------------------------------------------------------------- a struct, an array

theorem zeroOf_ok {t : TypeId} {z : List AV} (h : zeroOf P t = some z) : ∃ v, (zeroValue t).run P w = .ok v w ∧ VRs γ w z v.cells ∧ allOne z = true ∧ (∃ i, P.info? t = some i ∧ i.zero = some v) := by
  unfold zeroOf at h
  split at h
  · rename_i v hv
    simp only [Option.bind_eq_some_iff] at hv
    obtain ⟨i, hi, hz⟩ := hv
    obtain ⟨⟨h1, h2⟩, h3⟩ := VRs.ofScalars (γ := γ) (w := w) h
    exact ⟨v, by simp [zeroValue, run_typeInfo hi, hz], ⟨by simpa using h1, fun j u x hu hx => h2 j u x hu (by simpa using hx)⟩, h3, i, hi, hz⟩
  · cases h

theorem zeroVal_ok {t : TypeId} {z : AV} (h : zeroVal P t = some z) : ∃ v, (zeroValue t).run P w = .ok v w ∧ VR γ w z v ∧ (∃ i, P.info? t = some i ∧ i.zero = some v) := by
  unfold zeroVal at h
  split at h
  · rename_i v hv
    simp only [Option.bind_eq_some_iff] at hv
    obtain ⟨i, hi, hz⟩ := hv
    exact ⟨v, by simp [zeroValue, run_typeInfo hi, hz], .ofConst h, i, hi, hz⟩
  · cases h

theorem run_places (fs : List Field) (h : fs.all (fun f => (sizeOfT P f.type).isSome) = true) :
    (fs.mapM (fun f => do pure (f.offset, ← sizeOf f.type) : Field → Sem (Nat × Nat))).run P w = .ok (fs.map fun f => (f.offset, (sizeOfT P f.type).getD 0)) w := by
  induction fs with
  | nil => rfl
  | cons f r ih =>
    simp only [List.all_cons, Bool.and_eq_true] at h
    obtain ⟨n, hn⟩ := Option.isSome_iff_exists.1 h.1
    simp only [List.mapM_cons, Sem.run_bind, run_sizeOf' hn, Sem.run_pure, Result.andThen_ok, ih h.2]
    simp [hn]

theorem tParts_ok {fs : Array Field} : ∀ {ps : List (Nat × Operand)} {parts : List (Nat × Nat × AOpd)}, tParts P fs ps = some parts → parts.length = ps.length ∧
    ∀ (j : Nat) i x, ps[j]? = some (i, x) → ∃ f n y, fs[i]? = some f ∧ sizeOfT P f.type = some n ∧ parts[j]? = some (f.offset, n, y) ∧ tOpd x = some y
  | [], parts, h => by simp [tParts] at h; subst h; exact ⟨rfl, fun j i x hj => by simp at hj⟩
  | (i, x) :: r, parts, h => by
    simp only [tParts] at h
    split at h
    · rename_i f y hf hy
      split at h
      · rename_i n l hn hl
        cases h
        obtain ⟨a, b⟩ := tParts_ok hl
        refine ⟨by simp [a], fun j i' x' hj => ?_⟩
        cases j with
        | zero => simp at hj; obtain ⟨rfl, rfl⟩ := hj; exact ⟨f, n, y, hf, hn, rfl, hy⟩
        | succ j => exact b j i' x' (by simpa using hj)
      · cases h
    · cases h

theorem tElsA_ok {sz : Nat} : ∀ {ps : List (Nat × Operand)} {parts : List (Nat × Nat × AOpd)}, tElsA sz ps = some parts → parts.length = ps.length ∧
    ∀ (j : Nat) i x, ps[j]? = some (i, x) → ∃ y, parts[j]? = some (i * sz, sz, y) ∧ tOpd x = some y
  | [], parts, h => by simp [tElsA] at h; subst h; exact ⟨rfl, fun j i x hj => by simp at hj⟩
  | (i, x) :: r, parts, h => by
    simp only [tElsA] at h
    split at h
    · rename_i y hy
      split at h
      · rename_i l hl
        cases h
        obtain ⟨a, b⟩ := tElsA_ok hl
        refine ⟨by simp [a], fun j i' x' hj => ?_⟩
        cases j with
        | zero => simp at hj; obtain ⟨rfl, rfl⟩ := hj; exact ⟨y, rfl, hy⟩
        | succ j => exact b j i' x' (by simpa using hj)
      · cases h
    · cases h

theorem build_struct_ok {loc pers : Env} {a : Act} (hE : EvR γ w loc pers a) {t : TypeId} {fs : Array Field} (ht : P.underlying t = some (.struct fs)) {z : List AV} (hz : zeroOf P t = some z)
    (hall : fs.toList.all (fun f => (sizeOfT P f.type).isSome) = true) {ps : Array (Nat × Operand)} {parts : List (Nat × Nat × AOpd)} (hp : tParts P fs ps.toList = some parts) {cs : List AV} (hf : fillParts loc pers parts z = some cs) :
    ∃ d, (Instr.build t (ps.map fun (i, x) => (i, a.eval x))).run P w = .ok d w ∧ VR γ w (.agg cs) d := by
  obtain ⟨v, hv, hvr, hv1, _⟩ := zeroOf_ok (γ := γ) (w := w) hz
  obtain ⟨hlen, hps⟩ := tParts_ok hp
  obtain ⟨c', g1, g2, g3⟩ := fill_ok hE (fun i => (fs.toList.map fun f => (f.offset, (sizeOfT P f.type).getD 0))[i]?) (ps := ps.toList) (parts := parts) (fun j i x hj => by
    obtain ⟨f, n, y, e1, e2, e3, e4⟩ := hps j i x hj
    refine ⟨f.offset, n, y, e3, ?_, e4⟩
    have : fs.toList[i]? = some f := by rw [Array.getElem?_toList]; exact e1
    simp [this, e2]) hlen hvr hv1 hf
  refine ⟨.agg c', ?_, .agg cs c' g2.1 g3 g2.2⟩
  have hm : (fs.mapM (fun f => do pure (f.offset, ← sizeOf f.type) : Field → Sem (Nat × Nat))).run P w = .ok (fs.toList.map fun f => (f.offset, (sizeOfT P f.type).getD 0)).toArray w := by
    rw [Array.mapM_eq_mapM_toList, Sem.run_map, run_places _ hall]
    rfl
  have hl : (ps.map fun (i, x) => (i, a.eval x)).toList = ps.toList.map fun (i, x) => (i, a.eval x) := by simp
  simp only [Instr.build, Sem.run_bind, hv, Result.andThen_ok, run_underlying ht, hm, List.getElem?_toArray, hl, g1, Sem.run_pure]

theorem build_array_ok {loc pers : Env} {a : Act} (hE : EvR γ w loc pers a) {t e : TypeId} {n sz : Nat} (ht : P.underlying t = some (.array n e)) {z : List AV} (hz : zeroOf P t = some z) (hs : sizeOfT P e = some sz)
    {ps : Array (Nat × Operand)} {parts : List (Nat × Nat × AOpd)} (hp : tElsA sz ps.toList = some parts) {cs : List AV} (hf : fillParts loc pers parts z = some cs) :
    ∃ d, (Instr.build t (ps.map fun (i, x) => (i, a.eval x))).run P w = .ok d w ∧ VR γ w (.agg cs) d := by
  obtain ⟨v, hv, hvr, hv1, _⟩ := zeroOf_ok (γ := γ) (w := w) hz
  obtain ⟨hlen, hps⟩ := tElsA_ok hp
  obtain ⟨c', g1, g2, g3⟩ := fill_ok hE (fun i => some (i * sz, sz)) (ps := ps.toList) (parts := parts) (fun j i x hj => by
    obtain ⟨y, e3, e4⟩ := hps j i x hj
    exact ⟨i * sz, sz, y, e3, rfl, e4⟩) hlen hvr hv1 hf
  refine ⟨.agg c', ?_, .agg cs c' g2.1 g3 g2.2⟩
  have hl : (ps.map fun (i, x) => (i, a.eval x)).toList = ps.toList.map fun (i, x) => (i, a.eval x) := by simp
  simp only [Instr.build, Sem.run_bind, hv, Result.andThen_ok, run_underlying ht, run_sizeOf' hs, hl, g1, Sem.run_pure]

-- ---------------------------------------------------------------- a slice of elements

theorem storedEl_ok {v u : AV} {c : Value} (h : v.storedEl = some u) (hv : VR γ w v c) : VR γ w u c ∧ allOne u.flat = true ∧ v.stored = some u.flat := by
  unfold AV.storedEl at h
  split at h
  · rename_i cs
    simp only [Option.map_eq_some_iff] at h
    obtain ⟨l, hl, rfl⟩ := h
    obtain ⟨h1, h2⟩ := stored_ok hv hl
    obtain ⟨cs', rfl, _, _⟩ := hv.agg_inv
    exact ⟨.agg l cs' h1.1 h2 h1.2, h2, hl⟩
  · rename_i hna
    simp only [Option.bind_eq_some_iff, Option.some.injEq] at h
    obtain ⟨l, hl, rfl⟩ := h
    have hf : v.flat = [v] := by cases v <;> first | rfl | exact absurd rfl (hna _)
    have hl' := hl
    unfold AV.stored at hl
    rw [hf] at hl
    simp only [keptAll, allOne, Bool.and_true] at hl
    split at hl
    · rename_i h1
      cases hl
      have hkf : v.kept.flat = [v.kept] := by cases hk : v.kept <;> first | rfl | (rw [hk] at h1; simp [AV.one] at h1)
      refine ⟨hv.kept, by rw [hkf]; simp [allOne, h1], ?_⟩
      rw [hkf]
      exact hl'
    · cases hl

theorem tEls_ok : ∀ {ps : List (Nat × Operand)} {parts : List (Nat × AOpd)}, tEls ps = some parts → parts.length = ps.length ∧ ∀ (j : Nat) i x, ps[j]? = some (i, x) → ∃ y, parts[j]? = some (i, y) ∧ tOpd x = some y
  | [], parts, h => by simp [tEls] at h; subst h; exact ⟨rfl, fun j i x hj => by simp at hj⟩
  | (i, x) :: r, parts, h => by
    simp only [tEls] at h
    split at h
    · rename_i y hy
      split at h
      · rename_i l hl
        cases h
        obtain ⟨a, b⟩ := tEls_ok hl
        refine ⟨by simp [a], fun j i' x' hj => ?_⟩
        cases j with
        | zero => simp at hj; obtain ⟨rfl, rfl⟩ := hj; exact ⟨y, rfl, hy⟩
        | succ j => exact b j i' x' (by simpa using hj)
      · cases h
    · cases h

theorem writeAt_append_left (a b xs : List AV) : writeAt (a ++ b) a.length xs = (writeAt b 0 xs).map (a ++ ·) := by
  induction a with
  | nil => simp
  | cons c r ih =>
    have : writeAt ((c :: r) ++ b) (c :: r).length xs = (writeAt (r ++ b) r.length xs).bind fun l => some (c :: l) := by cases xs <;> simp [writeAt]
    rw [this, ih]
    cases writeAt b 0 xs <;> simp

theorem writeAt_over : ∀ (a b xs : List AV), a.length = xs.length → writeAt (a ++ b) 0 xs = some (xs ++ b)
  | [], b, [], _ => by cases b <;> simp [writeAt]
  | [], b, x :: xs, h => by simp at h
  | c :: r, b, [], h => by simp at h
  | c :: r, b, x :: xs, h => by simp [writeAt, writeAt_over r b xs (by simpa using h)]

theorem setEl_ok {sz : Nat} : ∀ {es es' : List AV} {i : Nat} {u : AV}, setEl es i u = some es' → allSize sz es = true → u.flat.length = sz → writeAt (flatAll es) (i * sz) u.flat = some (flatAll es') ∧ allSize sz es' = true ∧ es'.length = es.length
  | [], es', i, u, h, _, _ => by simp [setEl] at h
  | v :: r, es', 0, u, h, hs, hu => by
    simp [setEl] at h
    subst h
    simp only [allSize, Bool.and_eq_true, Nat.beq_eq] at hs
    refine ⟨?_, by simp [allSize, hu, hs.2], rfl⟩
    rw [Nat.zero_mul]
    exact writeAt_over v.flat (flatAll r) u.flat (by rw [hs.1, hu])
  | v :: r, es', i + 1, u, h, hs, hu => by
    simp only [setEl, Option.bind_eq_some_iff, Option.some.injEq] at h
    obtain ⟨l, hl, rfl⟩ := h
    simp only [allSize, Bool.and_eq_true, Nat.beq_eq] at hs
    obtain ⟨a, b, c⟩ := setEl_ok hl hs.2 hu
    refine ⟨?_, by simp [allSize, hs.1, b], by simp [c]⟩
    have e : (i + 1) * sz = v.flat.length + i * sz := by rw [Nat.add_mul, hs.1]; omega
    rw [e]
    have : ∀ (a b : List AV) (k : Nat) (xs : List AV), writeAt (a ++ b) (a.length + k) xs = (writeAt b k xs).map (a ++ ·) := by
      intro a b k xs
      induction a with
      | nil => simp
      | cons c r ih =>
        have : writeAt ((c :: r) ++ b) ((c :: r).length + k) xs = (writeAt (r ++ b) (r.length + k) xs).bind fun l => some (c :: l) := by
          have e : (c :: r).length + k = (r.length + k) + 1 := by simp; omega
          rw [e]
          cases xs <;> simp [writeAt]
        rw [this, ih]
        cases writeAt b k xs <;> simp
    show writeAt (v.flat ++ flatAll r) _ _ = some (v.flat ++ flatAll l)
    rw [this, a]
    rfl

theorem fillEls_ok {loc pers : Env} {a : Act} (hE : EvR γ w loc pers a) {sz : Nat} : ∀ {ps : List (Nat × Operand)} {parts : List (Nat × AOpd)} {es es' : List AV} {c : Array Value},
    (∀ (j : Nat) i x, ps[j]? = some (i, x) → ∃ y, parts[j]? = some (i, y) ∧ tOpd x = some y) → parts.length = ps.length → VRs γ w (flatAll es) c → allSize sz es = true → allOne (flatAll es) = true → fillEls loc pers sz parts es = some es' →
    ∃ c', Instr.fill (fun i => some (i * sz, sz)) c (ps.map fun (i, x) => (i, a.eval x)) = some c' ∧ VRs γ w (flatAll es') c' ∧ allSize sz es' = true ∧ allOne (flatAll es') = true ∧ es'.length = es.length
  | [], parts, es, es', c, _, hlen, hl, h1, h2, hf => by
    have : parts = [] := List.length_eq_zero_iff.1 (by simpa using hlen)
    subst this
    simp [fillEls] at hf
    subst hf
    exact ⟨c, rfl, hl, h1, h2, rfl⟩
  | (i, x) :: ps, parts, es, es', c, hp, hlen, hl, h1, h2, hf => by
    cases parts with
    | nil => simp at hlen
    | cons p parts =>
      obtain ⟨y, e1, e3⟩ := hp 0 i x rfl
      simp at e1
      subst e1
      simp only [fillEls, Option.bind_eq_some_iff] at hf
      obtain ⟨v, hv, u, hu, hf⟩ := hf
      split at hf
      · rename_i hn
        have hn' : u.flat.length = sz := by simpa using hn
        simp only [Option.bind_eq_some_iff] at hf
        obtain ⟨l1, hw1, hf⟩ := hf
        have hvr := opd_ok hE e3 hv
        obtain ⟨q1, q2, q3⟩ := storedEl_ok hu hvr
        obtain ⟨hxr, hx1⟩ := stored_ok hvr q3
        obtain ⟨r1, r2, r3⟩ := setEl_ok hw1 h1 hn'
        obtain ⟨k1, k2⟩ := putAt_VRs r1 hl hxr
        obtain ⟨c', g1, g2, g3, g4, g5⟩ := fillEls_ok hE (ps := ps) (parts := parts) (fun j i x hj => hp (j + 1) i x (by simpa using hj)) (by simpa using hlen) k1 r2 (allOne_writeAt r1 h2 q2) hf
        refine ⟨c', ?_, g2, g3, g4, by rw [g5, r3]⟩
        have hsz : (a.eval x).cells.size = sz := by rw [← hxr.1]; exact hn'
        have hle : (((a.eval x).cells.size != sz) || decide (i * sz + (a.eval x).cells.size > c.size)) = false := by
          simp [hsz]; omega
        simp only [List.map_cons, Instr.fill]
        rw [if_neg (by simpa using hle), foldl_zipIdx]
        exact g1
      · cases hf

theorem flatAll_replicate {z : AV} {zc : Array Value} (hz : VRs γ w z.flat zc) (hpos : 0 < zc.size) (n : Nat) : VRs γ w (flatAll (List.replicate n z)) ((Array.range (n * zc.size)).map fun j => zc[j % zc.size]!) := by
  have hl : ∀ n, (flatAll (List.replicate n z)).length = n * zc.size := fun n => by
    induction n with
    | zero => simp [flatAll]
    | succ n ih => simp only [List.replicate_succ, flatAll, List.length_append, ih, hz.1, Nat.add_mul]; omega
  have hg : ∀ n j, j < n * zc.size → (flatAll (List.replicate n z))[j]? = z.flat[j % zc.size]? := fun n => by
    induction n with
    | zero => intro j hj; omega
    | succ n ih =>
      intro j hj
      simp only [List.replicate_succ, flatAll, List.getElem?_append, hz.1]
      split
      · rename_i h; rw [Nat.mod_eq_of_lt h]
      · rename_i h
        rw [ih (j - zc.size) (by rw [Nat.add_mul, Nat.one_mul] at hj; omega)]
        congr 1
        exact (Nat.mod_eq_sub_mod (by omega)).symm
  refine ⟨by rw [hl]; simp, fun j u x hu hx => ?_⟩
  have hj : j < n * zc.size := by rw [← hl n]; exact lt_of_getElem? hu
  rw [hg n j hj] at hu
  simp only [Array.getElem?_map, Array.getElem?_range, if_pos hj, Option.map_some, Option.some.injEq] at hx
  subst hx
  have hm : j % zc.size < zc.size := Nat.mod_lt _ hpos
  have : zc[j % zc.size]? = some zc[j % zc.size]! := by rw [Array.getElem?_eq_getElem hm, getElem!_pos zc _ hm]
  exact hz.2 _ u _ hu this

theorem allSize_replicate {z : AV} {sz : Nat} (h : z.flat.length = sz) : ∀ n, allSize sz (List.replicate n z) = true
  | 0 => rfl
  | n + 1 => by simp [List.replicate_succ, allSize, h, allSize_replicate h n]

theorem allOne_replicate {z : AV} (h : allOne z.flat = true) : ∀ n, allOne (flatAll (List.replicate n z)) = true
  | 0 => rfl
  | n + 1 => by simp [List.replicate_succ, flatAll, allOne_append, h, allOne_replicate h n]

theorem VR.ofConst_one {v : Value} {x : AV} (h : Go.Am.ofConst v = some x) : allOne x.flat = true := by
  unfold Go.Am.ofConst at h
  split at h
  · simp only [Option.map_eq_some_iff] at h
    obtain ⟨l, hl, rfl⟩ := h
    exact (VRs.ofScalars (γ := ⟨0, fun _ => 0, fun _ => 0, 0, fun _ => 0, fun _ => 0, fun _ => 0, fun _ => 0, fun _ _ => False, 0, fun _ => False⟩) (w := default) hl).2
  · have h1 := ofScalar_one h
    have : x.flat = [x] := by cases x <;> first | rfl | simp [AV.one] at h1
    rw [this]
    simp [allOne, h1]

/-- the cells of a slice that is written out, element by element -/
theorem elSize_ok {e : TypeId} {k : Option Nat} {bytes : Nat} (hk : elSize P e = some (k, bytes)) : ∃ i, P.info? e = some i ∧ i.size = k.getD 1 ∧ 0 < k.getD 1 ∧ i.bytes = bytes ∧ 0 < bytes ∧ kindOf P e = some k ∧ ∃ v, i.zero = some v ∧ v.cells.size = k.getD 1 := by
  unfold elSize at hk
  cases hi : P.info? e with
  | none => simp [hi] at hk
  | some i =>
    cases hk2 : kindOf P e with
    | none => simp [hi, hk2] at hk
    | some k' =>
      simp only [hi, hk2, Option.ite_none_right_eq_some, Option.some.injEq, Prod.mk.injEq, Bool.and_eq_true, Bool.not_eq_true'] at hk
      obtain ⟨⟨⟨⟨h1, h2⟩, h3⟩, h4⟩, rfl, rfl⟩ := hk
      have h2 := Nat.eq_of_beq_eq_true h2
      refine ⟨i, rfl, h2, ?_, rfl, ?_, rfl, ?_⟩
      · rw [h2] at h3
        rcases Nat.eq_zero_or_pos (k'.getD 1) with h0 | h0
        · rw [h0] at h3; simp at h3
        · exact h0
      · rcases Nat.eq_zero_or_pos i.bytes with h0 | h0
        · rw [h0] at h4; simp at h4
        · exact h0
      · cases hz : i.zero with
        | none => rw [hz] at h1; cases h1
        | some v =>
          rw [hz] at h1
          exact ⟨v, rfl, by rw [← h2]; exact Nat.eq_of_beq_eq_true h1⟩

theorem slice_cells_ok {loc pers : Env} {a : Act} (hE : EvR γ w loc pers a) {t e : TypeId} (ht : P.underlying t = some (.slice e)) {k : Option Nat} {bytes : Nat} (hk : elSize P e = some (k, bytes)) {z : AV} (hz : zeroVal P e = some z) {len : Nat}
    (hle : len * k.getD 1 ≤ 2 ^ 24) (hzl : z.flat.length = k.getD 1) {ps : Array (Nat × Operand)} {parts : List (Nat × AOpd)} (hp : tEls ps.toList = some parts) {es : List AV} (hf : fillEls loc pers (k.getD 1) parts (List.replicate len z) = some es) :
    ∃ c, (Instr.buildSlice t len (ps.map fun (i, x) => (i, a.eval x))).run P w = .ok (.slice (some ⟨w.heap.size, 0, none⟩) len len) (w.alloc (.cells c e)) ∧ VRs γ w (flatAll es) c ∧ allSize (k.getD 1) es = true ∧ allOne (flatAll es) = true ∧ es.length = len ∧ 0 < k.getD 1 := by
  obtain ⟨v, hv, hvr, i, hi, hiz⟩ := zeroVal_ok (γ := γ) (w := w) hz
  have hk' : i.size = k.getD 1 ∧ 0 < k.getD 1 := by
    obtain ⟨i', h1, h2, h3, _⟩ := elSize_ok hk
    rw [hi] at h1
    cases h1
    exact ⟨h2, h3⟩
  have hs : sizeOfT P e = some (k.getD 1) := by simp [sizeOfT, hi, hk'.1]
  have hvc : v.cells.size = k.getD 1 := by rw [← hvr.flat.1]; exact hzl
  have hz1 : allOne z.flat = true := by
    unfold zeroVal at hz
    split at hz
    · exact VR.ofConst_one hz
    · cases hz
  have hbase := flatAll_replicate hvr.flat (by omega) len
  obtain ⟨hlen, hps⟩ := tEls_ok hp
  obtain ⟨c', g1, g2, g3, g4, g5⟩ := fillEls_ok hE (sz := k.getD 1) (ps := ps.toList) (parts := parts) hps hlen hbase (allSize_replicate hzl len) (allOne_replicate hz1 len) hf
  refine ⟨c', ?_, g2, g3, g4, by simpa using g5, hk'.2⟩
  have hl : (ps.map fun (i, x) => (i, a.eval x)).toList = ps.toList.map fun (i, x) => (i, a.eval x) := by simp
  have hn : ¬ (len * k.getD 1 > 2 ^ 24) := by omega
  by_cases h0 : len * k.getD 1 = 0
  · rw [hvc, h0] at g1
    have e0 : (Array.range 0).map (fun j => v.cells[j % k.getD 1]!) = #[] := by simp
    rw [e0] at g1
    simp only [Instr.buildSlice, Sem.run_bind, run_underlying ht, Result.andThen_ok, run_sizeOf' hs, if_neg hn, if_pos h0, Sem.run_pure]
    have e1 : ∀ f : Nat → Value, (Array.range (len * k.getD 1)).map f = #[] := fun _ => by rw [h0]; simp
    rw [e1, hl, g1]
    simp [newRow]
  · rw [hvc] at g1
    simp only [Instr.buildSlice, Sem.run_bind, run_underlying ht, Result.andThen_ok, run_sizeOf' hs, if_neg hn, if_neg h0, hv, Sem.run_pure, hvc]
    rw [hl, g1]
    simp [newRow]

end Go.Am
