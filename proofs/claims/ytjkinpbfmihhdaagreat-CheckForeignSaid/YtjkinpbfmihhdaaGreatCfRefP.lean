/- The numbers of formed plans. -/
import Derived.Test.YtjkinpbfmihhdaaGreatCfPlans
namespace Go.Proofs.YtjkinpbfmihhdaaGreat
open Go.RowKit
theorem wrap_id {x : Int} (h0 : -9223372036854775808 ≤ x) (h1 : x ≤ 9223372036854775807) : IntKind.i64.wrap x = x := by
  simp only [IntKind.wrap]
  simp [IntKind.signed, IntKind.bits]
  omega

structure PF (p : Plan) : Prop where
  n1 : 1 ≤ p.nodes
  n2 : p.nodes ≤ 1048576
  t1 : 1 ≤ p.threads
  t2 : p.threads ≤ 16
  d1 : 0 ≤ p.domains
  d2 : p.domains ≤ 64
  b1 : 1 ≤ p.buckets
  b2 : p.buckets ≤ 256
  g1 : 1 ≤ p.gen
  g2 : p.gen ≤ 1073741823
  r1 : 3 * p.threads + 1 ≤ p.retire
  r2 : p.retire ≤ 1024

theorem all_nil {α : Type} {P : α → Prop} : (∀ b, b ∈ ([] : List α) → P b) ↔ True := ⟨fun _ => trivial, fun _ _ hb => nomatch hb⟩

theorem all_cons {α : Type} {P : α → Prop} {x : α} {l : List α} : (∀ b, b ∈ x :: l → P b) ↔ P x ∧ ∀ b, b ∈ l → P b := List.forall_mem_cons

theorem within_iff {l : List Bound} : D.plan_within l = true ↔ ∀ b, b ∈ l → b.least ≤ b.n ∧ b.n ≤ b.most := by
  unfold D.plan_within
  rw [List.all_eq_true]
  constructor
  · intro h b hb
    have := h b hb
    simp only [Bool.and_eq_true, Bool.not_eq_true', decide_eq_false_iff_not] at this
    omega
  · intro h b hb
    have := h b hb
    simp only [Bool.and_eq_true, Bool.not_eq_true', decide_eq_false_iff_not]
    omega

theorem plan_formed {p : Plan} : D.plan_Plan_Formed p = true ↔ PF p := by
  unfold D.plan_Plan_Formed
  constructor
  · intro h
    cases h1 : D.plan_within [(⟨p.nodes, 1, 1048576⟩ : Bound), ⟨p.threads, 1, 16⟩, ⟨p.domains, 0, 64⟩, ⟨p.buckets, 1, 256⟩, ⟨p.gen, 1, 1073741823⟩]
    · rw [h1] at h; cases h
    · rw [h1] at h
      simp only [cond_true] at h
      have h1 := within_iff.1 h1
      have h := within_iff.1 h
      simp only [all_cons, all_nil, and_true] at h1 h
      have hw : IntKind.i64.wrap (IntKind.i64.wrap (3 * p.threads) + 1) = 3 * p.threads + 1 := by
        rw [wrap_id (x := 3 * p.threads) (by omega) (by omega), wrap_id (by omega) (by omega)]
      rw [hw] at h
      constructor <;> omega
  · intro h
    obtain ⟨n1, n2, t1, t2, d1, d2, b1, b2, g1, g2, r1, r2⟩ := h
    have h1 : D.plan_within [(⟨p.nodes, 1, 1048576⟩ : Bound), ⟨p.threads, 1, 16⟩, ⟨p.domains, 0, 64⟩, ⟨p.buckets, 1, 256⟩, ⟨p.gen, 1, 1073741823⟩] = true := by
      rw [within_iff]
      simp only [all_cons, all_nil, and_true]
      omega
    rw [h1]
    simp only [cond_true]
    have hw : IntKind.i64.wrap (IntKind.i64.wrap (3 * p.threads) + 1) = 3 * p.threads + 1 := by
      rw [wrap_id (x := 3 * p.threads) (by omega) (by omega), wrap_id (by omega) (by omega)]
    rw [hw, within_iff]
    simp only [all_cons, all_nil, and_true]
    omega

theorem ref_formed {p : Plan} (h : D.cubicleref06_Formed p = true) : PF p := by
  unfold D.cubicleref06_Formed at h
  simp only [cond_eq_ite, decide_eq_true_eq, Bool.if_false_left, Bool.if_false_right, Bool.and_eq_true, Bool.not_eq_true', decide_eq_false_iff_not] at h
  obtain ⟨h1, h2, h3, h4, h5, h6, h7, h8, h9, h10, h11, h12⟩ := h
  rw [wrap_id (by omega) (by omega)] at h11
  constructor <;> omega

theorem ref_formed_iff {p : Plan} : D.cubicleref06_Formed p = true ↔ PF p := by
  refine ⟨ref_formed, fun h => ?_⟩
  obtain ⟨n1, n2, t1, t2, d1, d2, b1, b2, g1, g2, r1, r2⟩ := h
  unfold D.cubicleref06_Formed
  simp only [cond_eq_ite, decide_eq_true_eq, Bool.if_false_left, Bool.if_false_right, Bool.and_eq_true, Bool.not_eq_true', decide_eq_false_iff_not]
  rw [wrap_id (by omega) (by omega)]
  omega

theorem formed_eq (p : Plan) : D.cubicleref06_Formed p = D.plan_Plan_Formed p := by
  cases h : D.plan_Plan_Formed p
  · cases h2 : D.cubicleref06_Formed p
    · rfl
    · rw [ref_formed_iff, ← plan_formed, h] at h2; cases h2
  · exact ref_formed_iff.2 (plan_formed.1 h)

section
variable {p : Plan} (hp : PF p)
include hp
end
end Go.Proofs.YtjkinpbfmihhdaaGreat
