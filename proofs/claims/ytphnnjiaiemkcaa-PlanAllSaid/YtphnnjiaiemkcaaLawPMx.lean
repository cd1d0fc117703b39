/- A node, or a domain, more. -/
import Derived.Test.YtphnnjiaiemkcaaLawPM
namespace Go.Proofs.Ytphnnjiaiemkcaa
open Go.RowKit
theorem awake06 : D.cubiclelaw06_awake = true := by decide +kernel
theorem tmod_lt {n m : Int} (h : 1 ≤ m) : n.tmod m < m := by
  rcases Int.le_total 0 n with h0 | h0
  · rw [Int.tmod_eq_emod_of_nonneg h0]
    exact Int.emod_lt_of_pos _ (by omega)
  · have h := Int.tmod_eq_emod_of_nonneg (a := -n) (b := m) (by omega)
    have h2 := Int.emod_nonneg (-n) (b := m) (by omega)
    rw [Int.neg_tmod] at h
    omega
theorem ne_step {a b : Int} {x : Bool} (h : a = b) (hx : x = true) : (bif a != b then false else x) = true := by
  subst h; simp [hx]
theorem eq_step {a b : Int} {x : Bool} (h : a = b) (hx : x = true) : (bif a == b then x else false) = true := by
  subst h; simp [hx]
theorem eq_last {a b : Int} (h : a = b) : (a == b) = true := by
  subst h; simp
theorem pure_PlanMore (p : Plan) (n : Int) (_ : -9223372036854775808 ≤ p.nodes ∧ p.nodes ≤ 9223372036854775807) (_ : -9223372036854775808 ≤ p.threads ∧ p.threads ≤ 9223372036854775807)
    (_ : -9223372036854775808 ≤ p.retire ∧ p.retire ≤ 9223372036854775807) (_ : -9223372036854775808 ≤ p.domains ∧ p.domains ≤ 9223372036854775807) (_ : -9223372036854775808 ≤ p.buckets ∧ p.buckets ≤ 9223372036854775807)
    (_ : -9223372036854775808 ≤ p.gen ∧ p.gen ≤ 9223372036854775807) (_ : -9223372036854775808 ≤ n ∧ n ≤ 9223372036854775807) : Wk.D.cubiclelaw06_PlanMore p n = true := by
  unfold Wk.D.cubiclelaw06_PlanMore
  rw [awake06]
  simp only [Bool.not_true, cond_false]
  cases hf : D.cubicleref06_Few p
  · rfl
  cases hg : D.cubicleref06_Formed p
  · rfl
  simp only [Bool.not_true, cond_false]
  have hp := ref_formed hg
  obtain ⟨f1, f2, f3, f4⟩ := ref_few hp hf
  obtain ⟨n1, n2, t1, t2, d1, d2, b1, b2, g1, g2, r1, r2⟩ := id hp
  have hx : ∃ x, x = (bif decide (n.tmod p.nodes < 0) then 0 else n.tmod p.nodes) ∧ 0 ≤ x ∧ x < p.nodes := by
    refine ⟨_, rfl, ?_⟩
    have := tmod_lt (n := n) n1
    by_cases h : n.tmod p.nodes < 0
    · simp only [h, decide_true, cond_true]; omega
    · simp only [h, decide_false, cond_false]; omega
  obtain ⟨x, hx, x0, x1⟩ := hx
  rw [← hx]
  clear hx
  have hq : PF { p with nodes := p.nodes + 1 } := ⟨by show 1 ≤ p.nodes + 1; omega, by show p.nodes + 1 ≤ _; omega, t1, t2, d1, d2, b1, b2, g1, g2, r1, r2⟩
  have ho : PF { p with domains := p.domains + 1 } := ⟨n1, n2, t1, t2, by show 0 ≤ p.domains + 1; omega, by show p.domains + 1 ≤ _; omega, b1, b2, g1, g2, r1, r2⟩
  rw [wrap_id (x := p.nodes + 1) (by omega) (by omega), wrap_id (x := p.domains + 1) (by omega) (by omega)]
  have cq : D.plan_Plan_cells { p with nodes := p.nodes + 1 } = D.plan_Plan_cells p := rfl
  have co : D.plan_Plan_cells { p with domains := p.domains + 1 } = D.plan_Plan_cells p := rfl
  have hc := cells_le hp
  have hz := hz_le hp
  have hz2 := hz_le ho
  have hr := rt_le hp
  have hsum : (p.domains + 1) * (1 + D.plan_Plan_cells p) = p.domains * (1 + D.plan_Plan_cells p) + (1 + D.plan_Plan_cells p) := by rw [Int.add_mul, Int.one_mul]
  simp only [co] at hz2
  rw [hsum] at hz2
  simp only [Size_eq hq, Size_eq hp, Size_eq ho, State_eq hq, State_eq ho, State_eq hp, Field_eq hq, Field_eq hp, Hazard_eq hq, Hazard_eq hp, Head_eq hq, Count_eq ho, Count_eq hp, Kind_eq ho, Cells_eq hp,
    nodes_eq hq, nodes_eq hp, nodes_eq ho, hazards_eq hq, hazards_eq hp, counts_eq ho, counts_eq hp, cq, co, hsum]
  generalize hA : p.domains * (1 + D.plan_Plan_cells p) = A at *
  generalize hT : p.threads * (1 + p.retire) = T at *
  generalize D.plan_Plan_cells p = c at *
  have w1 : IntKind.i64.wrap (1 + c) = 1 + c := wrap_id (by omega) (by omega)
  refine ne_step ?_ (ne_step ?_ (ne_step ?_ (ne_step ?_ (ne_step rfl (eq_step ?_ (eq_step ?_ (eq_step ?_ (eq_last ?_))))))))
  · rw [wrap_id] <;> omega
  · rw [if_pos] <;> omega
  · rw [if_pos, if_pos] <;> omega
  · rw [if_pos] <;> omega
  · rw [w1, wrap_id] <;> omega
  · rw [w1, if_pos, if_pos, wrap_id] <;> omega
  · rw [w1, if_pos, if_pos, wrap_id] <;> omega
  · rw [w1, hA, if_pos, wrap_id (x := A), wrap_id] <;> omega
end Go.Proofs.Ytphnnjiaiemkcaa
