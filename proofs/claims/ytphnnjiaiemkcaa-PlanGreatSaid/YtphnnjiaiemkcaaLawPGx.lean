/- The greatest plan: by evaluation. -/
import Derived.Test.YtphnnjiaiemkcaaLawPG
namespace Go.Proofs.Ytphnnjiaiemkcaa
open Go.RowKit
theorem pure_PlanGreat (a0 : Int) (hb : 0 ≤ a0 ∧ a0 ≤ 255) : Wk.D.cubiclelaw06_PlanGreat a0 = true := by
  have hm : a0.tmod 6 = 0 ∨ a0.tmod 6 = 1 ∨ a0.tmod 6 = 2 ∨ a0.tmod 6 = 3 ∨ a0.tmod 6 = 4 ∨ a0.tmod 6 = 5 := by
    rw [Int.tmod_eq_emod_of_nonneg hb.1]
    omega
  unfold Wk.D.cubiclelaw06_PlanGreat
  generalize a0.tmod 6 = m at hm ⊢
  rcases hm with rfl | rfl | rfl | rfl | rfl | rfl <;> decide +kernel
end Go.Proofs.Ytphnnjiaiemkcaa
