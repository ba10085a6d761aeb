/-
  How many there are.
-/
import Derived.Test.YtpaebiddgpjlnaaGreatDoorAbhB

namespace Go.Vmm
open Go Go.Am Go.Proofs

theorem runCn (b : Bar) : callF T 597 b 10 [qam, .vec (bs [97, 97, 98]) (.exact false), .int .i64 0] ⟨hq, [], [], glT⟩ = some (.ret (.tup [.int .i64 3, .int .i64 0]), ⟨hq, [], [], glT⟩) := by kernel_rfl

end Go.Vmm
