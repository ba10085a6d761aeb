/-
  A split, a quote.
-/
import Derived.Test.YtpaebiddgpjlnabGreatDoorSqhB

namespace Go.Vmm
open Go Go.Am Go.Proofs

theorem runSp (b : Bar) : callF T 597 b 9 [qbm, .vec (bs [97, 44, 98, 44, 44, 99]) (.exact false), .int .i64 0, .int .i64 0] ⟨hq, [1, 1], [], glT⟩ = some (.ret (.tup [(.vec [(.str [97]), (.str [98]), (.str []), (.str [99])] .shut), (.int .i64 0)]), ⟨hq, [1, 1], [], glT⟩) := by kernel_rfl

end Go.Vmm

namespace Go.Vmm
open Go Go.Am Go.Proofs

theorem runQu (b : Bar) : callF T 597 b 5 [.vec (bs [97, 46, 98]) (.exact false), .bool false] ⟨hq, [1, 1], [], glT⟩ = some (.ret (.str [97, 92, 120, 123, 50, 101, 125, 98]), ⟨hq, [1, 1], [], glT⟩) := by kernel_rfl

end Go.Vmm
