/- Written by a program of ours (wip/gen.py): lists of nodes -/
import Derived.Test.YtphnnjiaiemkcaaGreatQrmLaids
set_option linter.unusedVariables false
namespace Go.Proofs.YtphnnjiaiemkcaaGreat
open Go.RowKit
theorem cl27 : callable Tryz.prog 27 = true := by kernel_rfl

theorem rt24 : rowTy Tryz.prog 24 3 1 = true := by kernel_rfl

end Go.Proofs.YtphnnjiaiemkcaaGreat
