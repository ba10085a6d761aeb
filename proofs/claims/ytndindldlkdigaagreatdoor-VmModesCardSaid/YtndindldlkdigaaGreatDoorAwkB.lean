/-
  Its second attempt.
-/
import Derived.Test.YtndindldlkdigaaGreatDoorAwkA

namespace Go.Vmm
open Go Go.Am Go.Proofs

theorem awB (b : Bar) : callF T 598 b 5 [.str [97, 43, 40, 42, 67, 79, 77, 77, 73, 84, 41, 98], .agg (xa [97, 97, 99] 0)] ⟨[.cells ra 0], [], []⟩ = some (.ret (.agg rb), ⟨[.cells ra 0], [], []⟩) := by kernel_rfl

end Go.Vmm
