/-
  Its fourth attempt.
-/
import Derived.Test.YtndindldlkdigaaGreatDoorAwkA

namespace Go.Vmm
open Go Go.Am Go.Proofs

theorem awD (b : Bar) : callF T 598 b 5 [.str [40, 63, 40, 82, 41, 98, 124, 97, 40, 63, 82, 41, 63, 41], .agg (xa [97, 98] 0)] ⟨[.cells ra 0, .cells rb 0, .cells rc 0], [], []⟩ = some (.ret (.agg rd), ⟨[.cells ra 0, .cells rb 0, .cells rc 0], [], []⟩) := by kernel_rfl

end Go.Vmm
