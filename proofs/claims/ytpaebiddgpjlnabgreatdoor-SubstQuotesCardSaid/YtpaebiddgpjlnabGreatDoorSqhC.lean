/-
  A substitution.
-/
import Derived.Test.YtpaebiddgpjlnabGreatDoorSqhB

namespace Go.Vmm
open Go Go.Am Go.Proofs

theorem runSu (b : Bar) : callF T 597 b 8 [qam, .vec (bs [120, 97, 98, 121]) (.exact false), .vec (bs [60, 36, 123, 49, 58, 45, 36, 48, 125, 62]) (.exact false), .int .i64 0, .bool true] ⟨hq, [1, 1], [], glT⟩ = some (.ret (.tup [(.vec [(.int .u8 120), (.int .u8 60), (.int .u8 97), (.int .u8 62), (.int .u8 60), (.int .u8 98), (.int .u8 62), (.int .u8 121)] .shut), (.int .i64 2), (.int .i64 0)]), ⟨hq, [1, 1], [], glT⟩) := by kernel_rfl

end Go.Vmm
