/- Hazards' programs: what they come to, without the code. -/
import Derived.Test.YtphnnjiaiemkcaaGreatQakRunx
namespace Go.Proofs.YtphnnjiaiemkcaaGreat
open Go.RowKit

theorem hz_in {p : Plan} (hp : PF p) : 1 ≤ D.plan_Plan_hazards p ∧ D.plan_Plan_hazards p + p.threads * 3 ≤ D.plan_Plan_counts p ∧ D.plan_Plan_counts p < D.plan_Plan_nodes p ∧ D.plan_Plan_nodes p + p.nodes * 5 = D.plan_Plan_Size p := by
  have h1 := hazards_eq hp
  have h2 := counts_eq hp
  have h3 := nodes_eq hp
  have h4 := Size_eq hp
  have h5 := hz_le hp
  have h6 := rt_le hp
  have h7 := hp.t1
  have h8 := hp.r1
  have h9 : 1 * (1 + p.retire) ≤ p.threads * (1 + p.retire) := Int.mul_le_mul_of_nonneg_right h7 (by omega)
  exact ⟨by omega, by omega, by omega, by omega⟩

/-- The words' shape: as many as the plan has. -/
abbrev Len (p : Plan) (ws : List Int) : Prop := (ws.length : Int) = D.plan_Plan_Size p

theorem Peek_eq {fu : Nat} {M : Mem} {i : Int} (h0 : 0 ≤ i) (h1 : i < M.ws.length) : D.mem_Memory_Peek fu M 0 i = some (rd M.ws i) := by
  unfold D.mem_Memory_Peek
  have hS : D.mem_Memory_Size fu M 0 = some (M.ws.length : Int) := rfl
  rw [show decide (i < 0) = false from by simp; omega]
  simp only [cond_false, hS, Option.bind_some]
  rw [show decide (i ≥ (M.ws.length : Int)) = false from by simp; omega, show zeroI 0 = some () from rfl, getI_rd h0 h1]
  rfl

end Go.Proofs.YtphnnjiaiemkcaaGreat
