/- Hazards' programs: what they come to, without the code. -/
import Derived.Test.YtphnnjiaiemkcaaHgRunx
namespace Go.Proofs.Ytphnnjiaiemkcaa
open Go.RowKit

theorem word_eq {n : Int} (h0 : -1 ≤ n) (h1 : n ≤ 1000000000000000000) : D.hazard_word n = n + 1 := by
  unfold D.hazard_word
  have h2 : IntKind.i64.wrap (n + 1) = n + 1 := wrap_id (by omega) (by omega)
  rw [h2]
  exact wrapu_id (by omega) (by omega)

theorem hz_in {p : Plan} (hp : PF p) : 1 ≤ D.plan_Plan_hazards p ∧ D.plan_Plan_hazards p + p.threads * 3 ≤ D.plan_Plan_counts p ∧ D.plan_Plan_counts p < D.plan_Plan_nodes p ∧ D.plan_Plan_nodes p + p.nodes * 5 = D.plan_Plan_Size p := by
  have h1 := hazards_eq hp
  have h2 := counts_eq hp
  have h3 := nodes_eq hp
  have h4 := Size_eq hp
  have h5 := hz_le hp
  have h6 := rt_le hp
  have h7 := hp.t1
  have h8 := hp.r1
  have h9 : 1 * (1 + p.retire) ≤ p.threads * (1 + p.retire) := Int.mul_le_mul_of_nonneg_right h7 (by omega)
  exact ⟨by omega, by omega, by omega, by omega⟩

/-- The words' shape: as many as the plan has. -/
abbrev Len (p : Plan) (ws : List Int) : Prop := (ws.length : Int) = D.plan_Plan_Size p

theorem Peek_eq {fu : Nat} {M : Mem} {i : Int} (h0 : 0 ≤ i) (h1 : i < M.ws.length) : D.mem_Memory_Peek fu M 0 i = some (rd M.ws i) := by
  unfold D.mem_Memory_Peek
  have hS : D.mem_Memory_Size fu M 0 = some (M.ws.length : Int) := rfl
  rw [show decide (i < 0) = false from by simp; omega]
  simp only [cond_false, hS, Option.bind_some]
  rw [show decide (i ≥ (M.ws.length : Int)) = false from by simp; omega, show zeroI 0 = some () from rfl, getI_rd h0 h1]
  rfl

theorem shr_eq {w sh : Int} (h0 : 0 ≤ w) (h : 0 ≤ sh ∧ sh < 3) : shrI .u64 w sh = w / 2 ^ sh.toNat ∧ 0 ≤ w / 2 ^ sh.toNat ∧ w / 2 ^ sh.toNat ≤ w := by
  have hp : (0 : Int) < 2 ^ sh.toNat := Int.pow_pos (by omega)
  refine ⟨?_, Int.ediv_nonneg h0 (by omega), Int.ediv_le_self _ h0⟩
  unfold shrI
  rw [show min sh.toNat IntKind.u64.bits = sh.toNat from by simp [IntKind.bits]; omega]
  exact Int.fdiv_eq_ediv_of_nonneg _ (by omega)

end Go.Proofs.Ytphnnjiaiemkcaa
