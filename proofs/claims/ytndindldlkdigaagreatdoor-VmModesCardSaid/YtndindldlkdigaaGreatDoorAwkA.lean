/-
  The seat of laws is awake: its first attempt.
-/
import Derived.Test.YtndindldlkdigaaGreatDoorVmpA

namespace Go.Vmm
open Go Go.Am Go.Proofs

def bs (l : List Nat) : List AV := l.map fun (c : Nat) => AV.int .u8 (c : Int)
def xa (l : List Nat) (o : Int) : List AV := [.vec (bs l) (.exact false), .int .i64 o, .int .i64 0, .int .i64 0, .nilsl, .int .i64 0, .int .i64 0, .int .i64 0, .int .i64 0, .int .i64 0]
def ra : List AV := [(.int .i64 1), (.vec [(.agg [(.int .i64 0), (.int .i64 2)]), (.agg [(.int .i64 0), (.int .i64 2)]), (.agg [(.int .i64 (-1)), (.int .i64 (-1))])] .shut), (.str []), (.int .i64 0), (.int .i64 0), (.int .i64 0), (.int .i64 2), (.bool false)]
def rb : List AV := [(.int .i64 5), .nilsl, (.str []), (.int .i64 0), (.int .i64 0), (.int .i64 0), (.int .i64 2), (.bool false)]
def rc : List AV := [(.int .i64 6), (.vec [(.agg [(.int .i64 0), (.int .i64 1)])] (.exact true)), (.str []), (.int .i64 0), (.int .i64 0), (.int .i64 0), (.int .i64 0), (.bool false)]
def rd : List AV := [(.int .i64 1), (.vec [(.agg [(.int .i64 0), (.int .i64 2)])] (.exact true)), (.str []), (.int .i64 0), (.int .i64 0), (.int .i64 0), (.int .i64 0), (.bool false)]

end Go.Vmm

namespace Go.Vmm
open Go Go.Am Go.Proofs

theorem awA (b : Bar) : callF T 598 b 5 [.str [40, 97, 43, 41, 40, 98, 41, 63], .agg (xa [97, 97, 99] 0)] ⟨[], [], []⟩ = some (.ret (.agg ra), ⟨[], [], []⟩) := by kernel_rfl

end Go.Vmm
