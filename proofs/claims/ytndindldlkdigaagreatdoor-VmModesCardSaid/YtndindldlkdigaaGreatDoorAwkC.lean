/-
  Its third attempt.
-/
import Derived.Test.YtndindldlkdigaaGreatDoorAwkA

namespace Go.Vmm
open Go Go.Am Go.Proofs

theorem awC (b : Bar) : callF T 598 b 5 [.str [97, 40, 63, 61, 98, 41], .agg (xa [97] 8192)] ⟨[.cells ra 0, .cells rb 0], [], []⟩ = some (.ret (.agg rc), ⟨[.cells ra 0, .cells rb 0], [], []⟩) := by kernel_rfl


end Go.Vmm
