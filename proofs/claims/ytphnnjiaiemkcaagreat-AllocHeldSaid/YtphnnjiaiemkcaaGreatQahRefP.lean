/- The numbers of formed plans. -/
import Derived.Test.YtphnnjiaiemkcaaGreatQahPlans
namespace Go.Proofs.YtphnnjiaiemkcaaGreat
open Go.RowKit
theorem wrap_id {x : Int} (h0 : -9223372036854775808 ≤ x) (h1 : x ≤ 9223372036854775807) : IntKind.i64.wrap x = x := by
  simp only [IntKind.wrap]
  simp [IntKind.signed, IntKind.bits]
  omega

structure PF (p : Plan) : Prop where
  n1 : 1 ≤ p.nodes
  n2 : p.nodes ≤ 1048576
  t1 : 1 ≤ p.threads
  t2 : p.threads ≤ 16
  d1 : 0 ≤ p.domains
  d2 : p.domains ≤ 64
  b1 : 1 ≤ p.buckets
  b2 : p.buckets ≤ 256
  g1 : 1 ≤ p.gen
  g2 : p.gen ≤ 1073741823
  r1 : 3 * p.threads + 1 ≤ p.retire
  r2 : p.retire ≤ 1024

theorem all_nil {α : Type} {P : α → Prop} : (∀ b, b ∈ ([] : List α) → P b) ↔ True := ⟨fun _ => trivial, fun _ _ hb => nomatch hb⟩

theorem all_cons {α : Type} {P : α → Prop} {x : α} {l : List α} : (∀ b, b ∈ x :: l → P b) ↔ P x ∧ ∀ b, b ∈ l → P b := List.forall_mem_cons

theorem within_iff {l : List Bound} : D.plan_within l = true ↔ ∀ b, b ∈ l → b.least ≤ b.n ∧ b.n ≤ b.most := by
  unfold D.plan_within
  rw [List.all_eq_true]
  constructor
  · intro h b hb
    have := h b hb
    simp only [Bool.and_eq_true, Bool.not_eq_true', decide_eq_false_iff_not] at this
    omega
  · intro h b hb
    have := h b hb
    simp only [Bool.and_eq_true, Bool.not_eq_true', decide_eq_false_iff_not]
    omega

theorem plan_formed {p : Plan} : D.plan_Plan_Formed p = true ↔ PF p := by
  unfold D.plan_Plan_Formed
  constructor
  · intro h
    cases h1 : D.plan_within [(⟨p.nodes, 1, 1048576⟩ : Bound), ⟨p.threads, 1, 16⟩, ⟨p.domains, 0, 64⟩, ⟨p.buckets, 1, 256⟩, ⟨p.gen, 1, 1073741823⟩]
    · rw [h1] at h; cases h
    · rw [h1] at h
      simp only [cond_true] at h
      have h1 := within_iff.1 h1
      have h := within_iff.1 h
      simp only [all_cons, all_nil, and_true] at h1 h
      have hw : IntKind.i64.wrap (IntKind.i64.wrap (3 * p.threads) + 1) = 3 * p.threads + 1 := by
        rw [wrap_id (x := 3 * p.threads) (by omega) (by omega), wrap_id (by omega) (by omega)]
      rw [hw] at h
      constructor <;> omega
  · intro h
    obtain ⟨n1, n2, t1, t2, d1, d2, b1, b2, g1, g2, r1, r2⟩ := h
    have h1 : D.plan_within [(⟨p.nodes, 1, 1048576⟩ : Bound), ⟨p.threads, 1, 16⟩, ⟨p.domains, 0, 64⟩, ⟨p.buckets, 1, 256⟩, ⟨p.gen, 1, 1073741823⟩] = true := by
      rw [within_iff]
      simp only [all_cons, all_nil, and_true]
      omega
    rw [h1]
    simp only [cond_true]
    have hw : IntKind.i64.wrap (IntKind.i64.wrap (3 * p.threads) + 1) = 3 * p.threads + 1 := by
      rw [wrap_id (x := 3 * p.threads) (by omega) (by omega), wrap_id (by omega) (by omega)]
    rw [hw, within_iff]
    simp only [all_cons, all_nil, and_true]
    omega

section
variable {p : Plan} (hp : PF p)
include hp
theorem cells_le : 2 ≤ D.plan_Plan_cells p ∧ D.plan_Plan_cells p ≤ 256 := by
  obtain ⟨n1, n2, t1, t2, d1, d2, b1, b2, g1, g2, r1, r2⟩ := hp
  unfold D.plan_Plan_cells maxI
  split <;> omega

theorem hz_le : 0 ≤ p.domains * (1 + D.plan_Plan_cells p) ∧ p.domains * (1 + D.plan_Plan_cells p) ≤ 64 * 257 := by
  have h := cells_le hp
  obtain ⟨n1, n2, t1, t2, d1, d2, b1, b2, g1, g2, r1, r2⟩ := hp
  exact ⟨Int.mul_nonneg d1 (by omega), Int.mul_le_mul d2 (by omega) (by omega) (by omega)⟩

theorem rt_le : 0 ≤ p.threads * (1 + p.retire) ∧ p.threads * (1 + p.retire) ≤ 16 * 1025 := by
  obtain ⟨n1, n2, t1, t2, d1, d2, b1, b2, g1, g2, r1, r2⟩ := hp
  exact ⟨Int.mul_nonneg (by omega) (by omega), Int.mul_le_mul t2 (by omega) (by omega) (by omega)⟩

theorem hazards_eq : D.plan_Plan_hazards p = 1 + p.domains * (1 + D.plan_Plan_cells p) := by
  have h := hz_le hp
  have hc := cells_le hp
  unfold D.plan_Plan_hazards
  rw [wrap_id (x := 1 + D.plan_Plan_cells p) (by omega) (by omega), wrap_id (x := p.domains * _) (by omega) (by omega), wrap_id (by omega) (by omega)]

theorem counts_eq : D.plan_Plan_counts p = 1 + p.domains * (1 + D.plan_Plan_cells p) + p.threads * 3 := by
  have h := hz_le hp
  have t1 := hp.t1
  have t2 := hp.t2
  unfold D.plan_Plan_counts
  rw [hazards_eq hp, wrap_id (x := p.threads * 3) (by omega) (by omega), wrap_id (by omega) (by omega)]

theorem nodes_eq : D.plan_Plan_nodes p = 1 + p.domains * (1 + D.plan_Plan_cells p) + p.threads * 3 + p.threads * (1 + p.retire) := by
  have h := hz_le hp
  have h2 := rt_le hp
  have t1 := hp.t1
  have t2 := hp.t2
  have r1 := hp.r1
  have r2 := hp.r2
  unfold D.plan_Plan_nodes
  rw [counts_eq hp, wrap_id (x := 1 + p.retire) (by omega) (by omega), wrap_id (x := p.threads * (1 + p.retire)) (by omega) (by omega), wrap_id (by omega) (by omega)]

theorem nodes_le : 1 ≤ D.plan_Plan_nodes p ∧ D.plan_Plan_nodes p ≤ 40000 := by
  have h := hz_le hp
  have h2 := rt_le hp
  have t1 := hp.t1
  have t2 := hp.t2
  rw [nodes_eq hp]
  omega

theorem Size_eq : D.plan_Plan_Size p = D.plan_Plan_nodes p + p.nodes * 5 := by
  have h := nodes_le hp
  have n1 := hp.n1
  have n2 := hp.n2
  unfold D.plan_Plan_Size
  rw [plan_formed.2 hp]
  simp only [Bool.not_true, cond_false]
  rw [wrap_id (x := p.nodes * 5) (by omega) (by omega), wrap_id (by omega) (by omega)]

end
end Go.Proofs.YtphnnjiaiemkcaaGreat
