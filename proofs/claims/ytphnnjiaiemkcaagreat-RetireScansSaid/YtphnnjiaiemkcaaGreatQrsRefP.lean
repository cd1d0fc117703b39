/- The numbers of formed plans. -/
import Derived.Test.YtphnnjiaiemkcaaGreatQrsPlans
namespace Go.Proofs.YtphnnjiaiemkcaaGreat
open Go.RowKit
theorem wrap_id {x : Int} (h0 : -9223372036854775808 ≤ x) (h1 : x ≤ 9223372036854775807) : IntKind.i64.wrap x = x := by
  simp only [IntKind.wrap]
  simp [IntKind.signed, IntKind.bits]
  omega

structure PF (p : Plan) : Prop where
  n1 : 1 ≤ p.nodes
  n2 : p.nodes ≤ 1048576
  t1 : 1 ≤ p.threads
  t2 : p.threads ≤ 16
  d1 : 0 ≤ p.domains
  d2 : p.domains ≤ 64
  b1 : 1 ≤ p.buckets
  b2 : p.buckets ≤ 256
  g1 : 1 ≤ p.gen
  g2 : p.gen ≤ 1073741823
  r1 : 3 * p.threads + 1 ≤ p.retire
  r2 : p.retire ≤ 1024

theorem all_nil {α : Type} {P : α → Prop} : (∀ b, b ∈ ([] : List α) → P b) ↔ True := ⟨fun _ => trivial, fun _ _ hb => nomatch hb⟩

theorem all_cons {α : Type} {P : α → Prop} {x : α} {l : List α} : (∀ b, b ∈ x :: l → P b) ↔ P x ∧ ∀ b, b ∈ l → P b := List.forall_mem_cons

theorem within_iff {l : List Bound} : D.plan_within l = true ↔ ∀ b, b ∈ l → b.least ≤ b.n ∧ b.n ≤ b.most := by
  unfold D.plan_within
  rw [List.all_eq_true]
  constructor
  · intro h b hb
    have := h b hb
    simp only [Bool.and_eq_true, Bool.not_eq_true', decide_eq_false_iff_not] at this
    omega
  · intro h b hb
    have := h b hb
    simp only [Bool.and_eq_true, Bool.not_eq_true', decide_eq_false_iff_not]
    omega

theorem plan_formed {p : Plan} : D.plan_Plan_Formed p = true ↔ PF p := by
  unfold D.plan_Plan_Formed
  constructor
  · intro h
    cases h1 : D.plan_within [(⟨p.nodes, 1, 1048576⟩ : Bound), ⟨p.threads, 1, 16⟩, ⟨p.domains, 0, 64⟩, ⟨p.buckets, 1, 256⟩, ⟨p.gen, 1, 1073741823⟩]
    · rw [h1] at h; cases h
    · rw [h1] at h
      simp only [cond_true] at h
      have h1 := within_iff.1 h1
      have h := within_iff.1 h
      simp only [all_cons, all_nil, and_true] at h1 h
      have hw : IntKind.i64.wrap (IntKind.i64.wrap (3 * p.threads) + 1) = 3 * p.threads + 1 := by
        rw [wrap_id (x := 3 * p.threads) (by omega) (by omega), wrap_id (by omega) (by omega)]
      rw [hw] at h
      constructor <;> omega
  · intro h
    obtain ⟨n1, n2, t1, t2, d1, d2, b1, b2, g1, g2, r1, r2⟩ := h
    have h1 : D.plan_within [(⟨p.nodes, 1, 1048576⟩ : Bound), ⟨p.threads, 1, 16⟩, ⟨p.domains, 0, 64⟩, ⟨p.buckets, 1, 256⟩, ⟨p.gen, 1, 1073741823⟩] = true := by
      rw [within_iff]
      simp only [all_cons, all_nil, and_true]
      omega
    rw [h1]
    simp only [cond_true]
    have hw : IntKind.i64.wrap (IntKind.i64.wrap (3 * p.threads) + 1) = 3 * p.threads + 1 := by
      rw [wrap_id (x := 3 * p.threads) (by omega) (by omega), wrap_id (by omega) (by omega)]
    rw [hw, within_iff]
    simp only [all_cons, all_nil, and_true]
    omega

theorem ref_formed {p : Plan} (h : D.cubicleref06_Formed p = true) : PF p := by
  unfold D.cubicleref06_Formed at h
  simp only [cond_eq_ite, decide_eq_true_eq, Bool.if_false_left, Bool.if_false_right, Bool.and_eq_true, Bool.not_eq_true', decide_eq_false_iff_not] at h
  obtain ⟨h1, h2, h3, h4, h5, h6, h7, h8, h9, h10, h11, h12⟩ := h
  rw [wrap_id (by omega) (by omega)] at h11
  constructor <;> omega

theorem ref_formed_iff {p : Plan} : D.cubicleref06_Formed p = true ↔ PF p := by
  refine ⟨ref_formed, fun h => ?_⟩
  obtain ⟨n1, n2, t1, t2, d1, d2, b1, b2, g1, g2, r1, r2⟩ := h
  unfold D.cubicleref06_Formed
  simp only [cond_eq_ite, decide_eq_true_eq, Bool.if_false_left, Bool.if_false_right, Bool.and_eq_true, Bool.not_eq_true', decide_eq_false_iff_not]
  rw [wrap_id (by omega) (by omega)]
  omega

theorem ref_few {p : Plan} (hp : PF p) (h : D.cubicleref06_Few p = true) : p.nodes ≤ 40 ∧ p.retire ≤ 40 ∧ p.domains ≤ 6 ∧ p.buckets ≤ 10 := by
  unfold D.cubicleref06_Few at h
  rw [ref_formed_iff.2 hp, Bool.not_true, cond_false] at h
  simpa only [cond_eq_ite, decide_eq_true_eq, Bool.if_false_left, Bool.if_false_right, Bool.and_eq_true] using h

section
variable {p : Plan} (hp : PF p)
include hp
theorem cells_le : 2 ≤ D.plan_Plan_cells p ∧ D.plan_Plan_cells p ≤ 256 := by
  obtain ⟨n1, n2, t1, t2, d1, d2, b1, b2, g1, g2, r1, r2⟩ := hp
  unfold D.plan_Plan_cells maxI
  split <;> omega

theorem hz_le : 0 ≤ p.domains * (1 + D.plan_Plan_cells p) ∧ p.domains * (1 + D.plan_Plan_cells p) ≤ 64 * 257 := by
  have h := cells_le hp
  obtain ⟨n1, n2, t1, t2, d1, d2, b1, b2, g1, g2, r1, r2⟩ := hp
  exact ⟨Int.mul_nonneg d1 (by omega), Int.mul_le_mul d2 (by omega) (by omega) (by omega)⟩

theorem rt_le : 0 ≤ p.threads * (1 + p.retire) ∧ p.threads * (1 + p.retire) ≤ 16 * 1025 := by
  obtain ⟨n1, n2, t1, t2, d1, d2, b1, b2, g1, g2, r1, r2⟩ := hp
  exact ⟨Int.mul_nonneg (by omega) (by omega), Int.mul_le_mul t2 (by omega) (by omega) (by omega)⟩

theorem hazards_eq : D.plan_Plan_hazards p = 1 + p.domains * (1 + D.plan_Plan_cells p) := by
  have h := hz_le hp
  have hc := cells_le hp
  unfold D.plan_Plan_hazards
  rw [wrap_id (x := 1 + D.plan_Plan_cells p) (by omega) (by omega), wrap_id (x := p.domains * _) (by omega) (by omega), wrap_id (by omega) (by omega)]

theorem counts_eq : D.plan_Plan_counts p = 1 + p.domains * (1 + D.plan_Plan_cells p) + p.threads * 3 := by
  have h := hz_le hp
  have t1 := hp.t1
  have t2 := hp.t2
  unfold D.plan_Plan_counts
  rw [hazards_eq hp, wrap_id (x := p.threads * 3) (by omega) (by omega), wrap_id (by omega) (by omega)]

theorem nodes_eq : D.plan_Plan_nodes p = 1 + p.domains * (1 + D.plan_Plan_cells p) + p.threads * 3 + p.threads * (1 + p.retire) := by
  have h := hz_le hp
  have h2 := rt_le hp
  have t1 := hp.t1
  have t2 := hp.t2
  have r1 := hp.r1
  have r2 := hp.r2
  unfold D.plan_Plan_nodes
  rw [counts_eq hp, wrap_id (x := 1 + p.retire) (by omega) (by omega), wrap_id (x := p.threads * (1 + p.retire)) (by omega) (by omega), wrap_id (by omega) (by omega)]

theorem nodes_le : 1 ≤ D.plan_Plan_nodes p ∧ D.plan_Plan_nodes p ≤ 40000 := by
  have h := hz_le hp
  have h2 := rt_le hp
  have t1 := hp.t1
  have t2 := hp.t2
  rw [nodes_eq hp]
  omega

theorem place_in {x : Int} {l : List Bound} (h : ∀ b, b ∈ l → b.least ≤ b.n ∧ b.n ≤ b.most) : D.plan_Plan_place p x l = x := by
  unfold D.plan_Plan_place
  rw [plan_formed.2 hp, within_iff.2 h]
  rfl

theorem place_out {x : Int} {l : List Bound} (h : ¬ ∀ b, b ∈ l → b.least ≤ b.n ∧ b.n ≤ b.most) : D.plan_Plan_place p x l = -1 := by
  unfold D.plan_Plan_place
  have hw : D.plan_within l = false := by
    cases hw : D.plan_within l
    · rfl
    · exact absurd (within_iff.1 hw) h
  rw [plan_formed.2 hp, hw]
  rfl

theorem Size_eq : D.plan_Plan_Size p = D.plan_Plan_nodes p + p.nodes * 5 := by
  have h := nodes_le hp
  have n1 := hp.n1
  have n2 := hp.n2
  unfold D.plan_Plan_Size
  rw [plan_formed.2 hp]
  simp only [Bool.not_true, cond_false]
  rw [wrap_id (x := p.nodes * 5) (by omega) (by omega), wrap_id (by omega) (by omega)]

theorem Head_eq : D.plan_Plan_Head p = 0 := by
  unfold D.plan_Plan_Head
  exact place_in hp (by simp)

theorem place_if {x y : Int} {l : List Bound} {c : Prop} [Decidable c] (h : (∀ b, b ∈ l → b.least ≤ b.n ∧ b.n ≤ b.most) ↔ c) (hx : c → x = y) : D.plan_Plan_place p x l = if c then y else -1 := by
  by_cases hc : c
  · rw [if_pos hc, place_in hp (h.2 hc), hx hc]
  · rw [if_neg hc, place_out hp (fun q => hc (h.1 q))]

theorem State_eq (n : Int) : D.plan_Plan_State p n = if 0 ≤ n ∧ n < p.nodes then D.plan_Plan_nodes p + n * 5 else -1 := by
  have h := nodes_le hp
  have n1 := hp.n1
  have n2 := hp.n2
  unfold D.plan_Plan_State D.plan_Plan_node
  refine place_if hp ?_ ?_
  · simp only [all_cons, all_nil, and_true]
    rw [wrap_id (by omega) (by omega)]
    omega
  · intro hc
    rw [wrap_id (x := n * 5) (by omega) (by omega), wrap_id (by omega) (by omega)]

theorem Next_eq (n : Int) : D.plan_Plan_Next p n = if 0 ≤ n ∧ n < p.nodes then D.plan_Plan_nodes p + n * 5 + 1 else -1 := by
  have h := nodes_le hp
  have n1 := hp.n1
  have n2 := hp.n2
  unfold D.plan_Plan_Next D.plan_Plan_node
  refine place_if hp ?_ ?_
  · simp only [all_cons, all_nil, and_true]
    rw [wrap_id (by omega) (by omega)]
    omega
  · intro hc
    rw [wrap_id (x := n * 5) (by omega) (by omega), wrap_id (x := D.plan_Plan_nodes p + n * 5) (by omega) (by omega), wrap_id (by omega) (by omega)]

theorem Field_eq (n f : Int) : D.plan_Plan_Field p n f = if (0 ≤ n ∧ n < p.nodes) ∧ 0 ≤ f ∧ f < 3 then D.plan_Plan_nodes p + n * 5 + 2 + f else -1 := by
  have h := nodes_le hp
  have n1 := hp.n1
  have n2 := hp.n2
  unfold D.plan_Plan_Field D.plan_Plan_node
  refine place_if hp ?_ ?_
  · simp only [all_cons, all_nil, and_true]
    rw [wrap_id (by omega) (by omega)]
    omega
  · intro hc
    rw [wrap_id (x := n * 5) (by omega) (by omega), wrap_id (x := D.plan_Plan_nodes p + n * 5) (by omega) (by omega), wrap_id (x := D.plan_Plan_nodes p + n * 5 + 2) (by omega) (by omega), wrap_id (by omega) (by omega)]

theorem Hazard_eq (t i : Int) : D.plan_Plan_Hazard p t i = if (0 ≤ t ∧ t < p.threads) ∧ 0 ≤ i ∧ i < 3 then D.plan_Plan_hazards p + t * 3 + i else -1 := by
  have h := hz_le hp
  have h1 := hazards_eq hp
  have t1 := hp.t1
  have t2 := hp.t2
  unfold D.plan_Plan_Hazard D.plan_Plan_thread
  refine place_if hp ?_ ?_
  · simp only [all_cons, all_nil, and_true]
    rw [wrap_id (by omega) (by omega)]
    omega
  · intro hc
    rw [wrap_id (x := t * 3) (by omega) (by omega), wrap_id (x := D.plan_Plan_hazards p + t * 3) (by omega) (by omega), wrap_id (by omega) (by omega)]

theorem tr_le {t : Int} (h0 : 0 ≤ t) (h1 : t < p.threads) : 0 ≤ t * (1 + p.retire) ∧ t * (1 + p.retire) ≤ 16 * 1025 := by
  obtain ⟨n1, n2, t1, t2, d1, d2, b1, b2, g1, g2, r1, r2⟩ := hp
  exact ⟨Int.mul_nonneg (by omega) (by omega), Int.mul_le_mul (by omega) (by omega) (by omega) (by omega)⟩

theorem Count_eq (t : Int) : D.plan_Plan_Count p t = if 0 ≤ t ∧ t < p.threads then D.plan_Plan_counts p + t * (1 + p.retire) else -1 := by
  have h := hz_le hp
  have h1 := counts_eq hp
  have t1 := hp.t1
  have t2 := hp.t2
  have r1 := hp.r1
  have r2 := hp.r2
  unfold D.plan_Plan_Count D.plan_Plan_thread
  refine place_if hp ?_ ?_
  · simp only [all_cons, all_nil, and_true]
    rw [wrap_id (by omega) (by omega)]
    omega
  · intro hc
    have h2 := tr_le hp hc.1 hc.2
    rw [wrap_id (x := 1 + p.retire) (by omega) (by omega), wrap_id (x := t * (1 + p.retire)) (by omega) (by omega), wrap_id (by omega) (by omega)]

theorem Retired_eq (t i : Int) : D.plan_Plan_Retired p t i = if (0 ≤ t ∧ t < p.threads) ∧ 0 ≤ i ∧ i < p.retire then D.plan_Plan_counts p + t * (1 + p.retire) + 1 + i else -1 := by
  have h := hz_le hp
  have h1 := counts_eq hp
  have t1 := hp.t1
  have t2 := hp.t2
  have r1 := hp.r1
  have r2 := hp.r2
  unfold D.plan_Plan_Retired D.plan_Plan_thread
  refine place_if hp ?_ ?_
  · simp only [all_cons, all_nil, and_true]
    rw [wrap_id (x := p.threads - 1) (by omega) (by omega), wrap_id (x := p.retire - 1) (by omega) (by omega)]
    omega
  · intro hc
    have h2 := tr_le hp hc.1.1 hc.1.2
    rw [wrap_id (x := 1 + p.retire) (by omega) (by omega), wrap_id (x := t * (1 + p.retire)) (by omega) (by omega), wrap_id (x := D.plan_Plan_counts p + t * (1 + p.retire)) (by omega) (by omega),
      wrap_id (x := D.plan_Plan_counts p + t * (1 + p.retire) + 1) (by omega) (by omega), wrap_id (by omega) (by omega)]

end
end Go.Proofs.YtphnnjiaiemkcaaGreat
