/- Written by a program of ours (wip/gen.py): layer 11 -/
import Derived.Test.YtphnnjiaiemkcaaGreatQahRetires
set_option linter.unusedVariables false
set_option maxRecDepth 20000
set_option maxHeartbeats 2000000
namespace Go.Proofs.YtphnnjiaiemkcaaGreat
open Go.RowKit
theorem cl16 : callable Tryz.prog 16 = true := by kernel_rfl

theorem cl17 : callable Tryz.prog 17 = true := by kernel_rfl

theorem cl33 : callable Tryz.prog 33 = true := by kernel_rfl

theorem ts23 : sized Tryz.prog 23 6 = true := by kernel_rfl

theorem tz23 : zeroOf Tryz.prog 23 = some (.agg (planC (⟨0, 0, 0, 0, 0, 0⟩ : Plan)).toArray) := by kernel_rfl

end Go.Proofs.YtphnnjiaiemkcaaGreat
