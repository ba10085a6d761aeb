/-
  All its matches.
-/
import Derived.Test.YtpaebiddgpjlnaaGreatDoorAbhA

namespace Go.Vmm
open Go Go.Am Go.Proofs

def hq : List AObj := hqa0 ++ [.cells qacore 0]
def zlim : AV := .agg [.int .i64 0, .int .i64 0, .int .i64 0]
def alv : AV := (.vec [(.agg [(.int .i64 1), (.vec [(.agg [(.int .i64 0), (.int .i64 2)])] (.exact true)), (.str [])]), (.agg [(.int .i64 1), (.vec [(.agg [(.int .i64 2), (.int .i64 2)])] (.exact true)), (.str [])]), (.agg [(.int .i64 1), (.vec [(.agg [(.int .i64 3), (.int .i64 3)])] (.exact true)), (.str [])])] .shut)
theorem runAl (b : Bar) : callF T 597 b 9 [qam, .vec (bs [97, 97, 98]) (.exact false), .int .i64 0, .int .i64 0, .nilsl, zlim] ⟨hq, [], [], glT⟩ = some (.ret (.tup [alv, .int .i64 0]), ⟨hq, [], [], glT⟩) := by kernel_rfl

end Go.Vmm
