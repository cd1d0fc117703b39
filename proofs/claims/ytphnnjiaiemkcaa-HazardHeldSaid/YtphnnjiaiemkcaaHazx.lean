/- Hazards: what their programs come to, without the code. -/
import Derived.Test.YtphnnjiaiemkcaaRunx
namespace Go.Proofs.Ytphnnjiaiemkcaa
open Go.RowKit

theorem word_eq {n : Int} (h0 : -1 ≤ n) (h1 : n ≤ 1000000000000000000) : D.hazard_word n = n + 1 := by
  unfold D.hazard_word
  have h2 : IntKind.i64.wrap (n + 1) = n + 1 := wrap_id (by omega) (by omega)
  rw [h2]
  exact wrapu_id (by omega) (by omega)
theorem hz_in {p : Plan} (hp : PF p) : 1 ≤ D.plan_Plan_hazards p ∧ D.plan_Plan_hazards p + p.threads * 3 ≤ D.plan_Plan_counts p ∧ D.plan_Plan_counts p < D.plan_Plan_nodes p ∧ D.plan_Plan_nodes p + p.nodes * 5 = D.plan_Plan_Size p := by
  have h1 := hazards_eq hp
  have h2 := counts_eq hp
  have h3 := nodes_eq hp
  have h4 := Size_eq hp
  have h5 := hz_le hp
  have h6 := rt_le hp
  have h7 := hp.t1
  have h8 := hp.r1
  have h9 : 1 * (1 + p.retire) ≤ p.threads * (1 + p.retire) := Int.mul_le_mul_of_nonneg_right h7 (by omega)
  exact ⟨by omega, by omega, by omega, by omega⟩
/-- The words' shape: as many as the plan has. -/
abbrev Len (p : Plan) (ws : List Int) : Prop := (ws.length : Int) = D.plan_Plan_Size p
theorem hset_runs {p : Plan} (hp : PF p) {ws : List Int} (hl : Len p ws) {t s n : Int} (ht : 0 ≤ t ∧ t < p.threads) (hs : 0 ≤ s ∧ s < 3) (hn : -1 ≤ n ∧ n ≤ 1000000000000000000) :
    Runs (D.hazard_Set p t s n) ws 1 () (ws.set (D.plan_Plan_hazards p + t * 3 + s).toNat (n + 1)) := by
  obtain ⟨h1, h2, h3, h4⟩ := hz_in hp
  have hn1 := hp.n1
  unfold D.hazard_Set
  rw [word_eq hn.1 hn.2, Hazard_eq hp, if_pos ⟨ht, hs⟩]
  unfold Len at hl
  exact set_runs (by omega) (by omega)
theorem tdiv3 {i : Int} (h : 0 ≤ i) : i.tdiv 3 = i / 3 ∧ i.tmod 3 = i % 3 := ⟨Int.tdiv_eq_ediv_of_nonneg h, Int.tmod_eq_emod_of_nonneg h⟩
theorem hz_at {p : Plan} (hp : PF p) {i : Int} (h0 : 0 ≤ i) (h1 : i < p.threads * 3) : D.plan_Plan_Hazard p (IntKind.i64.wrap (i.tdiv 3)) (i.tmod 3) = D.plan_Plan_hazards p + i := by
  have ht2 := hp.t2
  rw [(tdiv3 h0).1, (tdiv3 h0).2, wrap_small (by omega) (by omega), Hazard_eq hp, if_pos (by omega)]
  omega
/-- Whether a hazard from i on names the node: it is found, or all were looked at. -/
theorem held_yes {p : Plan} (hp : PF p) {ws : List Int} (hl : Len p ws) {n : Int} (hn : -1 ≤ n ∧ n ≤ 1000000000000000000) : ∀ (d : Nat) (i : Int) (k : Nat), i + d = p.threads * 3 → 0 ≤ i → d < k →
    (∃ j, i ≤ j ∧ j < p.threads * 3 ∧ rd ws (D.plan_Plan_hazards p + j) = n + 1) → ∃ m : Nat, m ≤ d ∧ Runs (D.hazard_held k p n i) ws m true ws := by
  obtain ⟨g1, g2, g3, g4⟩ := hz_in hp
  have hn1 := hp.n1
  have ht2 := hp.t2
  intro d
  induction d with
  | zero =>
    rintro i k hi _ _ ⟨j, h1, h2, _⟩
    omega
  | succ d ih =>
    rintro i k hi h0 hk ⟨j, h1, h2, h3⟩
    obtain ⟨k, rfl⟩ : ∃ q, k = q + 1 := ⟨k - 1, by omega⟩
    have hb : D.hazard_held (k + 1) p n i = .act 0 (D.plan_Plan_hazards p + i) 0 0 (fun x => D.hazard_held_1 (D.hazard_held k) n p i x) := by
      show D.hazard_held_body (D.hazard_held k) p n i = _
      unfold D.hazard_held_body
      rw [wrap_small (show -1000000 ≤ p.threads * 3 by omega) (by omega), show (i == p.threads * 3) = false from by simp; omega, hz_at hp h0 (by omega)]
      rfl
    unfold Len at hl
    by_cases e : rd ws (D.plan_Plan_hazards p + i) = n + 1
    · refine ⟨1, by omega, ?_⟩
      rw [hb]
      refine .load (by omega) (by omega) ?_
      unfold D.hazard_held_1
      rw [word_eq hn.1 hn.2, e, show (n + 1 == n + 1) = true from by simp]
      exact .done _ _
    · have hne : j ≠ i := fun h => e (h ▸ h3)
      obtain ⟨m, hm, hr⟩ := ih (i + 1) k (by omega) (by omega) (by omega) ⟨j, by omega, h2, h3⟩
      refine ⟨m + 1, by omega, ?_⟩
      rw [hb]
      refine .load (by omega) (by omega) ?_
      unfold D.hazard_held_1
      rw [word_eq hn.1 hn.2, show (rd ws (D.plan_Plan_hazards p + i) == n + 1) = false from by simpa using e, wrap_small (by omega) (by omega)]
      exact hr
theorem held_no {p : Plan} (hp : PF p) {ws : List Int} (hl : Len p ws) {n : Int} (hn : -1 ≤ n ∧ n ≤ 1000000000000000000) : ∀ (d : Nat) (i : Int) (k : Nat), i + d = p.threads * 3 → 0 ≤ i → d < k →
    (∀ j, i ≤ j → j < p.threads * 3 → rd ws (D.plan_Plan_hazards p + j) ≠ n + 1) → Runs (D.hazard_held k p n i) ws d false ws := by
  obtain ⟨g1, g2, g3, g4⟩ := hz_in hp
  have hn1 := hp.n1
  have ht2 := hp.t2
  intro d
  induction d with
  | zero =>
    intro i k hi _ hk _
    obtain ⟨k, rfl⟩ : ∃ q, k = q + 1 := ⟨k - 1, by omega⟩
    show Runs (D.hazard_held_body (D.hazard_held k) p n i) _ _ _ _
    unfold D.hazard_held_body
    rw [wrap_small (show -1000000 ≤ p.threads * 3 by omega) (by omega), show (i == p.threads * 3) = true from by simp; omega]
    exact .done _ _
  | succ d ih =>
    intro i k hi h0 hk hno
    obtain ⟨k, rfl⟩ : ∃ q, k = q + 1 := ⟨k - 1, by omega⟩
    have hb : D.hazard_held (k + 1) p n i = .act 0 (D.plan_Plan_hazards p + i) 0 0 (fun x => D.hazard_held_1 (D.hazard_held k) n p i x) := by
      show D.hazard_held_body (D.hazard_held k) p n i = _
      unfold D.hazard_held_body
      rw [wrap_small (show -1000000 ≤ p.threads * 3 by omega) (by omega), show (i == p.threads * 3) = false from by simp; omega, hz_at hp h0 (by omega)]
      rfl
    unfold Len at hl
    rw [hb]
    refine .load (by omega) (by omega) ?_
    unfold D.hazard_held_1
    rw [word_eq hn.1 hn.2, show (rd ws (D.plan_Plan_hazards p + i) == n + 1) = false from by simpa using hno i (by omega) (by omega), wrap_small (by omega) (by omega)]
    exact ih (i + 1) k (by omega) (by omega) (by omega) fun j h1 h2 => hno j (by omega) h2
theorem clear_runs {p : Plan} (hp : PF p) {t : Int} (ht : 0 ≤ t ∧ t < p.threads) : ∀ (d : Nat) (s : Int) (k : Nat) (ws : List Int), s + d = 3 → 0 ≤ s → d < k → Len p ws →
    ∃ ws', Runs (D.hazard_clear k p t s) ws d () ws' ∧ Len p ws' ∧ ∀ j, 0 ≤ j → rd ws' j = if D.plan_Plan_hazards p + t * 3 + s ≤ j ∧ j < D.plan_Plan_hazards p + t * 3 + 3 then 0 else rd ws j := by
  obtain ⟨g1, g2, g3, g4⟩ := hz_in hp
  have hn1 := hp.n1
  intro d
  induction d with
  | zero =>
    intro s k ws hs h0 hk hl
    obtain ⟨k, rfl⟩ : ∃ q, k = q + 1 := ⟨k - 1, by omega⟩
    refine ⟨ws, ?_, hl, fun j hj => by rw [if_neg (by omega)]⟩
    show Runs (D.hazard_clear_body (D.hazard_clear k) p t s) _ _ _ _
    unfold D.hazard_clear_body
    rw [show (s == 3) = true from by simp; omega]
    exact .done _ _
  | succ d ih =>
    intro s k ws hs h0 hk hl
    obtain ⟨k, rfl⟩ : ∃ q, k = q + 1 := ⟨k - 1, by omega⟩
    have h1 := hset_runs hp hl ht (s := s) (n := -1) ⟨h0, by omega⟩ (by omega)
    have hl' : Len p (ws.set (D.plan_Plan_hazards p + t * 3 + s).toNat (-1 + 1)) := by unfold Len at hl ⊢; simpa using hl
    obtain ⟨ws', h2, h3, h4⟩ := ih (s + 1) k _ (by omega) (by omega) (by omega) hl'
    refine ⟨ws', ?_, h3, fun j hj => ?_⟩
    · show Runs (D.hazard_clear_body (D.hazard_clear k) p t s) _ _ _ _
      unfold D.hazard_clear_body
      rw [show (s == 3) = false from by simp; omega]
      refine (Runs.bind h1 (g := fun _ => D.hazard_clear_1 (D.hazard_clear k) p t s) ?_).cast (show 1 + d = d + 1 by omega)
      unfold D.hazard_clear_1
      rw [wrap_small (by omega) (by omega)]
      exact h2
    · unfold Len at hl
      rw [h4 j hj, rd_set (by omega) (by omega) hj]
      by_cases e : j = D.plan_Plan_hazards p + t * 3 + s
      · rw [if_pos e]
        by_cases e2 : D.plan_Plan_hazards p + t * 3 + (s + 1) ≤ j ∧ j < D.plan_Plan_hazards p + t * 3 + 3
        · rw [if_pos e2, if_pos (by omega)]
        · rw [if_neg e2, if_pos (by omega)]; rfl
      · rw [if_neg e]
        by_cases e2 : D.plan_Plan_hazards p + t * 3 + (s + 1) ≤ j ∧ j < D.plan_Plan_hazards p + t * 3 + 3
        · rw [if_pos e2, if_pos (by omega)]
        · rw [if_neg e2, if_neg (by omega)]
theorem Peek_eq {fu : Nat} {M : Mem} {i : Int} (h0 : 0 ≤ i) (h1 : i < M.ws.length) : D.mem_Memory_Peek fu M 0 i = some (rd M.ws i) := by
  unfold D.mem_Memory_Peek
  have hS : D.mem_Memory_Size fu M 0 = some (M.ws.length : Int) := rfl
  rw [show decide (i < 0) = false from by simp; omega]
  simp only [cond_false, hS, Option.bind_some]
  rw [show decide (i ≥ (M.ws.length : Int)) = false from by simp; omega, show zeroI 0 = some () from rfl, getI_rd h0 h1]
  rfl
theorem fits_eq {p : Plan} {t s n : Int} (h : D.cubiclelaw10_fits p t s n = true) : PF p ∧ (p.nodes ≤ 40 ∧ p.retire ≤ 40 ∧ p.domains ≤ 6 ∧ p.buckets ≤ 10) ∧ (0 ≤ t ∧ t < p.threads) ∧ (0 ≤ s ∧ s < 3) ∧ -1 ≤ n ∧ n < p.nodes := by
  unfold D.cubiclelaw10_fits at h
  cases h1 : D.cubicleref06_Few p <;> rw [h1] at h
  · cases h
  cases h2 : D.cubicleref06_Formed p <;> rw [h2] at h
  · cases h
  cases h3 : decide (t ≥ 0) <;> rw [h3] at h
  · cases h
  cases h4 : decide (t < p.threads) <;> rw [h4] at h
  · cases h
  cases h5 : decide (s ≥ 0) <;> rw [h5] at h
  · cases h
  cases h6 : decide (s < 3) <;> rw [h6] at h
  · cases h
  cases h7 : decide (n ≥ -1) <;> rw [h7] at h
  · cases h
  have h8 : decide (n < p.nodes) = true := h
  simp only [decide_eq_true_eq] at h3 h4 h5 h6 h7 h8
  exact ⟨ref_formed h2, ref_few (ref_formed h2) h1, ⟨h3, h4⟩, ⟨h5, h6⟩, h7, h8⟩
theorem laid_hz {p : Plan} (hp : PF p) {ws : List Int} (h : LaidAt p ws) {j : Int} (h0 : 0 ≤ j) (h1 : j < p.threads * 3) : rd ws (D.plan_Plan_hazards p + j) = 0 := by
  obtain ⟨g1, g2, g3, g4⟩ := hz_in hp
  exact h.zero _ (by omega) fun m _ _ => by omega
theorem awake10 : D.cubiclelaw10_awake 2000 = some true := by decide +kernel

/-- A run of a program within a law. -/
theorem runU {t : T Unit} {M : Mem} {ws' : List Int} {n : Nat} {most : Int} (h : Runs t M.ws n () ws') (hm : (n : Int) ≤ most) (hm2 : most ≤ 1000000) (hn : n < 2000) : ∃ c, D.prog_Run_None 2000 (2000, t) M cap0 most = some ((), (n : Int), true, ⟨ws', c⟩) := by
  rw [run_None]; exact runG_eq h hm hm2 (by omega) hn
theorem runB {t : T Bool} {M : Mem} {ws' : List Int} {n : Nat} {most : Int} {r : Bool} (h : Runs t M.ws n r ws') (hm : (n : Int) ≤ most) (hm2 : most ≤ 1000000) (hn : n < 2000) : ∃ c, D.prog_Run_bool 2000 (2000, t) M cap0 most = some (r, (n : Int), true, ⟨ws', c⟩) := by
  rw [run_bool]; exact runG_eq h hm hm2 (by omega) hn
theorem runW {t : T Int} {M : Mem} {ws' : List Int} {n : Nat} {most : Int} {r : Int} (h : Runs t M.ws n r ws') (hm : (n : Int) ≤ most) (hm2 : most ≤ 1000000) (hn : n < 2000) : ∃ c, D.prog_Run_uint64 2000 (2000, t) M cap0 most = some (r, (n : Int), true, ⟨ws', c⟩) := by
  rw [run_word]; exact runG_eq h hm hm2 (by omega) hn

/-! ### Guards -/
theorem shr_eq {w sh : Int} (h0 : 0 ≤ w) (h : 0 ≤ sh ∧ sh < 3) : shrI .u64 w sh = w / 2 ^ sh.toNat ∧ 0 ≤ w / 2 ^ sh.toNat ∧ w / 2 ^ sh.toNat ≤ w := by
  have hp : (0 : Int) < 2 ^ sh.toNat := Int.pow_pos (by omega)
  refine ⟨?_, Int.ediv_nonneg h0 (by omega), Int.ediv_le_self _ h0⟩
  unfold shrI
  rw [show min sh.toNat IntKind.u64.bits = sh.toNat from by simp [IntKind.bits]; omega]
  exact Int.fdiv_eq_ediv_of_nonneg _ (by omega)
theorem named_eq {w sh : Int} (h0 : 0 ≤ w) (h1 : w < 1099511627776) (h : 0 ≤ sh ∧ sh < 3) : D.cubicleref10_Named w sh = w / 2 ^ sh.toNat - 1 := by
  obtain ⟨h2, h3, h4⟩ := shr_eq h0 h
  unfold D.cubicleref10_Named
  rw [h2, wrap_id (x := w / 2 ^ sh.toNat) (by omega) (by omega), wrap_id (by omega) (by omega)]
/-- A guard of a word that the place has: it names no node, or the hazard is set. -/
theorem guard_runs {p : Plan} (hp : PF p) {ws : List Int} (hl : Len p ws) {t s at_ sh w : Int} (ht : 0 ≤ t ∧ t < p.threads) (hs : 0 ≤ s ∧ s < 3) (h0 : 0 ≤ at_) (h1 : at_ < D.plan_Plan_Size p) (hne : at_ ≠ D.plan_Plan_hazards p + t * 3 + s)
    (hw0 : 0 ≤ w) (hw1 : w < 1099511627776) (hsh : 0 ≤ sh ∧ sh < 3) (hw : rd ws at_ = w) (k : Nat) :
    (w / 2 ^ sh.toNat - 1 < 0 → Runs (D.hazard_guard (k + 1) p t s at_ sh w) ws 0 w ws) ∧
    (¬ w / 2 ^ sh.toNat - 1 < 0 → Runs (D.hazard_guard (k + 1) p t s at_ sh w) ws 2 w (ws.set (D.plan_Plan_hazards p + t * 3 + s).toNat (w / 2 ^ sh.toNat))) := by
  obtain ⟨h2, h3, h4⟩ := shr_eq hw0 hsh
  obtain ⟨g1, g2, g3, g4⟩ := hz_in hp
  have hn1 := hp.n1
  have hb : D.hazard_guard (k + 1) p t s at_ sh w = D.hazard_guard_body (D.hazard_guard k) p t s at_ sh w := rfl
  have hq : IntKind.i64.wrap (IntKind.i64.wrap (shrI .u64 w sh) - 1) = w / 2 ^ sh.toNat - 1 := by
    rw [h2, wrap_id (x := w / 2 ^ sh.toNat) (by omega) (by omega), wrap_id (by omega) (by omega)]
  constructor
  · intro hlt
    rw [hb]
    unfold D.hazard_guard_body
    rw [hq, show decide (w / 2 ^ sh.toNat - 1 < 0) = true from by simpa using hlt]
    exact .done _ _
  · intro hge
    rw [hb]
    unfold D.hazard_guard_body
    rw [hq, show decide (w / 2 ^ sh.toNat - 1 < 0) = false from by simpa using hge]
    have hr := hset_runs hp hl ht hs (n := w / 2 ^ sh.toNat - 1) (by omega)
    rw [show w / 2 ^ sh.toNat - 1 + 1 = w / 2 ^ sh.toNat from by omega] at hr
    show Runs ((D.hazard_Set p t s (w / 2 ^ sh.toNat - 1)).bind fun _ => D.hazard_guard_1 (D.hazard_guard k) at_ w p t s sh) ws (1 + 1) w _
    refine Runs.bind hr ?_
    unfold Len at hl
    show Runs (.act 0 at_ 0 0 _) _ 1 _ _
    refine .load h0 (by simpa [hl] using h1) ?_
    have hx : rd (ws.set (D.plan_Plan_hazards p + t * 3 + s).toNat (w / 2 ^ sh.toNat)) at_ = w := by
      rw [rd_set (by omega) (by omega) h0, if_neg hne, hw]
    rw [hx]
    unfold D.hazard_guard_1_1
    rw [show (w == w) = true from by simp]
    exact .done _ _
end Go.Proofs.Ytphnnjiaiemkcaa
