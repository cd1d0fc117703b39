/- Hazards' programs: what they come to, without the code. -/
import Derived.Test.YtphnnjiaiemkcaaGreatQahRunx
namespace Go.Proofs.YtphnnjiaiemkcaaGreat
open Go.RowKit

theorem hz_in {p : Plan} (hp : PF p) : 1 ≤ D.plan_Plan_hazards p ∧ D.plan_Plan_hazards p + p.threads * 3 ≤ D.plan_Plan_counts p ∧ D.plan_Plan_counts p < D.plan_Plan_nodes p ∧ D.plan_Plan_nodes p + p.nodes * 5 = D.plan_Plan_Size p := by
  have h1 := hazards_eq hp
  have h2 := counts_eq hp
  have h3 := nodes_eq hp
  have h4 := Size_eq hp
  have h5 := hz_le hp
  have h6 := rt_le hp
  have h7 := hp.t1
  have h8 := hp.r1
  have h9 : 1 * (1 + p.retire) ≤ p.threads * (1 + p.retire) := Int.mul_le_mul_of_nonneg_right h7 (by omega)
  exact ⟨by omega, by omega, by omega, by omega⟩

/-- The words' shape: as many as the plan has. -/
abbrev Len (p : Plan) (ws : List Int) : Prop := (ws.length : Int) = D.plan_Plan_Size p

end Go.Proofs.YtphnnjiaiemkcaaGreat
