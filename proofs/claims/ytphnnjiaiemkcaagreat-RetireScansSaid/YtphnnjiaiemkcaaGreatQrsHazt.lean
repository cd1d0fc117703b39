/- Hazards' programs: what they come to, without the code. -/
import Derived.Test.YtphnnjiaiemkcaaGreatQrsRunx
namespace Go.Proofs.YtphnnjiaiemkcaaGreat
open Go.RowKit

theorem word_eq {n : Int} (h0 : -1 ≤ n) (h1 : n ≤ 1000000000000000000) : D.hazard_word n = n + 1 := by
  unfold D.hazard_word
  have h2 : IntKind.i64.wrap (n + 1) = n + 1 := wrap_id (by omega) (by omega)
  rw [h2]
  exact wrapu_id (by omega) (by omega)

theorem hz_in {p : Plan} (hp : PF p) : 1 ≤ D.plan_Plan_hazards p ∧ D.plan_Plan_hazards p + p.threads * 3 ≤ D.plan_Plan_counts p ∧ D.plan_Plan_counts p < D.plan_Plan_nodes p ∧ D.plan_Plan_nodes p + p.nodes * 5 = D.plan_Plan_Size p := by
  have h1 := hazards_eq hp
  have h2 := counts_eq hp
  have h3 := nodes_eq hp
  have h4 := Size_eq hp
  have h5 := hz_le hp
  have h6 := rt_le hp
  have h7 := hp.t1
  have h8 := hp.r1
  have h9 : 1 * (1 + p.retire) ≤ p.threads * (1 + p.retire) := Int.mul_le_mul_of_nonneg_right h7 (by omega)
  exact ⟨by omega, by omega, by omega, by omega⟩

/-- The words' shape: as many as the plan has. -/
abbrev Len (p : Plan) (ws : List Int) : Prop := (ws.length : Int) = D.plan_Plan_Size p

theorem hset_runs {p : Plan} (hp : PF p) {ws : List Int} (hl : Len p ws) {t s n : Int} (ht : 0 ≤ t ∧ t < p.threads) (hs : 0 ≤ s ∧ s < 3) (hn : -1 ≤ n ∧ n ≤ 1000000000000000000) :
    Runs (D.hazard_Set p t s n) ws 1 () (ws.set (D.plan_Plan_hazards p + t * 3 + s).toNat (n + 1)) := by
  obtain ⟨h1, h2, h3, h4⟩ := hz_in hp
  have hn1 := hp.n1
  unfold D.hazard_Set
  rw [word_eq hn.1 hn.2, Hazard_eq hp, if_pos ⟨ht, hs⟩]
  unfold Len at hl
  exact set_runs (by omega) (by omega)

theorem tdiv3 {i : Int} (h : 0 ≤ i) : i.tdiv 3 = i / 3 ∧ i.tmod 3 = i % 3 := ⟨Int.tdiv_eq_ediv_of_nonneg h, Int.tmod_eq_emod_of_nonneg h⟩

theorem hz_at {p : Plan} (hp : PF p) {i : Int} (h0 : 0 ≤ i) (h1 : i < p.threads * 3) : D.plan_Plan_Hazard p (IntKind.i64.wrap (i.tdiv 3)) (i.tmod 3) = D.plan_Plan_hazards p + i := by
  have ht2 := hp.t2
  rw [(tdiv3 h0).1, (tdiv3 h0).2, wrap_small (by omega) (by omega), Hazard_eq hp, if_pos (by omega)]
  omega

/-- Whether a hazard from i on names the node: it is found, or all were looked at. -/
theorem held_yes {p : Plan} (hp : PF p) {ws : List Int} (hl : Len p ws) {n : Int} (hn : -1 ≤ n ∧ n ≤ 1000000000000000000) : ∀ (d : Nat) (i : Int) (k : Nat), i + d = p.threads * 3 → 0 ≤ i → d < k →
    (∃ j, i ≤ j ∧ j < p.threads * 3 ∧ rd ws (D.plan_Plan_hazards p + j) = n + 1) → ∃ m : Nat, m ≤ d ∧ Runs (D.hazard_held k p n i) ws m true ws := by
  obtain ⟨g1, g2, g3, g4⟩ := hz_in hp
  have hn1 := hp.n1
  have ht2 := hp.t2
  intro d
  induction d with
  | zero =>
    rintro i k hi _ _ ⟨j, h1, h2, _⟩
    omega
  | succ d ih =>
    rintro i k hi h0 hk ⟨j, h1, h2, h3⟩
    obtain ⟨k, rfl⟩ : ∃ q, k = q + 1 := ⟨k - 1, by omega⟩
    have hb : D.hazard_held (k + 1) p n i = .act 0 (D.plan_Plan_hazards p + i) 0 0 (fun x => D.hazard_held_1 (D.hazard_held k) n p i x) := by
      show D.hazard_held_body (D.hazard_held k) p n i = _
      unfold D.hazard_held_body
      rw [wrap_small (show -1000000 ≤ p.threads * 3 by omega) (by omega), show (i == p.threads * 3) = false from by simp; omega, hz_at hp h0 (by omega)]
      rfl
    unfold Len at hl
    by_cases e : rd ws (D.plan_Plan_hazards p + i) = n + 1
    · refine ⟨1, by omega, ?_⟩
      rw [hb]
      refine .load (by omega) (by omega) ?_
      unfold D.hazard_held_1
      rw [word_eq hn.1 hn.2, e, show (n + 1 == n + 1) = true from by simp]
      exact .done _ _
    · have hne : j ≠ i := fun h => e (h ▸ h3)
      obtain ⟨m, hm, hr⟩ := ih (i + 1) k (by omega) (by omega) (by omega) ⟨j, by omega, h2, h3⟩
      refine ⟨m + 1, by omega, ?_⟩
      rw [hb]
      refine .load (by omega) (by omega) ?_
      unfold D.hazard_held_1
      rw [word_eq hn.1 hn.2, show (rd ws (D.plan_Plan_hazards p + i) == n + 1) = false from by simpa using e, wrap_small (by omega) (by omega)]
      exact hr

theorem held_no {p : Plan} (hp : PF p) {ws : List Int} (hl : Len p ws) {n : Int} (hn : -1 ≤ n ∧ n ≤ 1000000000000000000) : ∀ (d : Nat) (i : Int) (k : Nat), i + d = p.threads * 3 → 0 ≤ i → d < k →
    (∀ j, i ≤ j → j < p.threads * 3 → rd ws (D.plan_Plan_hazards p + j) ≠ n + 1) → Runs (D.hazard_held k p n i) ws d false ws := by
  obtain ⟨g1, g2, g3, g4⟩ := hz_in hp
  have hn1 := hp.n1
  have ht2 := hp.t2
  intro d
  induction d with
  | zero =>
    intro i k hi _ hk _
    obtain ⟨k, rfl⟩ : ∃ q, k = q + 1 := ⟨k - 1, by omega⟩
    show Runs (D.hazard_held_body (D.hazard_held k) p n i) _ _ _ _
    unfold D.hazard_held_body
    rw [wrap_small (show -1000000 ≤ p.threads * 3 by omega) (by omega), show (i == p.threads * 3) = true from by simp; omega]
    exact .done _ _
  | succ d ih =>
    intro i k hi h0 hk hno
    obtain ⟨k, rfl⟩ : ∃ q, k = q + 1 := ⟨k - 1, by omega⟩
    have hb : D.hazard_held (k + 1) p n i = .act 0 (D.plan_Plan_hazards p + i) 0 0 (fun x => D.hazard_held_1 (D.hazard_held k) n p i x) := by
      show D.hazard_held_body (D.hazard_held k) p n i = _
      unfold D.hazard_held_body
      rw [wrap_small (show -1000000 ≤ p.threads * 3 by omega) (by omega), show (i == p.threads * 3) = false from by simp; omega, hz_at hp h0 (by omega)]
      rfl
    unfold Len at hl
    rw [hb]
    refine .load (by omega) (by omega) ?_
    unfold D.hazard_held_1
    rw [word_eq hn.1 hn.2, show (rd ws (D.plan_Plan_hazards p + i) == n + 1) = false from by simpa using hno i (by omega) (by omega), wrap_small (by omega) (by omega)]
    exact ih (i + 1) k (by omega) (by omega) (by omega) fun j h1 h2 => hno j (by omega) h2

theorem Peek_eq {fu : Nat} {M : Mem} {i : Int} (h0 : 0 ≤ i) (h1 : i < M.ws.length) : D.mem_Memory_Peek fu M 0 i = some (rd M.ws i) := by
  unfold D.mem_Memory_Peek
  have hS : D.mem_Memory_Size fu M 0 = some (M.ws.length : Int) := rfl
  rw [show decide (i < 0) = false from by simp; omega]
  simp only [cond_false, hS, Option.bind_some]
  rw [show decide (i ≥ (M.ws.length : Int)) = false from by simp; omega, show zeroI 0 = some () from rfl, getI_rd h0 h1]
  rfl

end Go.Proofs.YtphnnjiaiemkcaaGreat
