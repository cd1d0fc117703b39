/- Retired nodes: what putting and scanning comes to, without the code. -/
import Derived.Test.YtphnnjiaiemkcaaGreatQakRecx
import Derived.Test.YtphnnjiaiemkcaaGreatQakHazt
namespace Go.Proofs.YtphnnjiaiemkcaaGreat
open Go.RowKit

/-- The place of a thread's count of retired nodes; its retired nodes stand behind it. -/
def rb (p : Plan) (t : Int) : Int := D.plan_Plan_counts p + t * (1 + p.retire)

/-- What a thread retired. -/
structure RetAt (p : Plan) (ws : List Int) (t : Int) (r : List Int) : Prop where
  count : rd ws (rb p t) = r.length
  room : (r.length : Int) ≤ p.retire
  slot : ∀ (i : Nat) (h : i < r.length), rd ws (rb p t + 1 + i) = r[i] + 1
  range : ∀ n, n ∈ r → 0 ≤ n ∧ n < p.nodes

section
variable {p : Plan} (hp : PF p) {t : Int} (ht : 0 ≤ t ∧ t < p.threads)
include hp ht
theorem rb_in : D.plan_Plan_hazards p + p.threads * 3 ≤ rb p t ∧ rb p t + 1 + p.retire ≤ D.plan_Plan_nodes p ∧ 0 < rb p t := by
  have h1 := hazards_eq hp
  have h2 := counts_eq hp
  have h3 := nodes_eq hp
  have h5 := hz_le hp
  have ht1 := hp.t1
  have hr1 := hp.r1
  unfold rb
  have h6 : t * (1 + p.retire) + (1 + p.retire) ≤ p.threads * (1 + p.retire) := by
    have : (t + 1) * (1 + p.retire) ≤ p.threads * (1 + p.retire) := Int.mul_le_mul_of_nonneg_right (by omega) (by omega)
    rw [Int.add_mul] at this
    omega
  have h7 : 0 ≤ t * (1 + p.retire) := Int.mul_nonneg (by omega) (by omega)
  exact ⟨by omega, by omega, by omega⟩

theorem count_at : D.plan_Plan_Count p t = rb p t := by rw [Count_eq hp, if_pos ht]; rfl

theorem retired_at {i : Int} (hi : 0 ≤ i ∧ i < p.retire) : D.plan_Plan_Retired p t i = rb p t + 1 + i := by rw [Retired_eq hp, if_pos ⟨ht, hi⟩]; rfl

end
theorem RetAt.keep {p : Plan} {ws ws' : List Int} {t : Int} {r : List Int} (h : RetAt p ws t r) (hk : ∀ j, rb p t ≤ j → j < rb p t + 1 + p.retire → rd ws' j = rd ws j) : RetAt p ws' t r := by
  have h0 := h.room
  exact ⟨by rw [hk _ (by omega) (by omega)]; exact h.count, h.room, fun i hi => by rw [hk _ (by omega) (by omega)]; exact h.slot i hi, h.range⟩

theorem put_runs {p : Plan} (hp : PF p) {ws : List Int} {t n : Int} {r : List Int} (ht : 0 ≤ t ∧ t < p.threads) (hn : 0 ≤ n ∧ n < p.nodes) (hnn : p.nodes ≤ 1000000) (hl : (ws.length : Int) = D.plan_Plan_Size p) (h : RetAt p ws t r) (hf : (r.length : Int) < p.retire) :
    ∃ ws', Runs (D.retire_Put p t n) ws 3 ((r.length : Int) + 1) ws' ∧ ws'.length = ws.length ∧ RetAt p ws' t (r ++ [n]) ∧ ∀ j, 0 ≤ j → j ≠ rb p t → j ≠ rb p t + 1 + r.length → rd ws' j = rd ws j := by
  obtain ⟨q1, q2, q3⟩ := rb_in hp ht
  have hS := Size_eq hp
  have hN := nodes_le hp
  have hn1 := hp.n1
  have hr2 := hp.r2
  obtain ⟨u, hu⟩ : ∃ u, u = ws.set (rb p t + 1 + r.length).toNat (n + 1) := ⟨_, rfl⟩
  have hul : u.length = ws.length := by rw [hu, List.length_set]
  have hur : ∀ j, 0 ≤ j → rd u j = if j = rb p t + 1 + r.length then n + 1 else rd ws j := fun j hj => by rw [hu]; exact rd_set (by omega) (by omega) hj
  obtain ⟨v, hv⟩ : ∃ v, v = u.set (rb p t).toNat ((r.length : Int) + 1) := ⟨_, rfl⟩
  have hvl : v.length = ws.length := by rw [hv, List.length_set, hul]
  have hvr : ∀ j, 0 ≤ j → rd v j = if j = rb p t then (r.length : Int) + 1 else rd u j := fun j hj => by rw [hv]; exact rd_set (by omega) (by omega) hj
  refine ⟨v, ?_, hvl, ⟨?_, by simp; omega, fun i hi => ?_, fun m hm => ?_⟩, fun j hj h1 h2 => ?_⟩
  · unfold D.retire_Put
    rw [count_at hp ht]
    refine load_runs (by omega) (by omega) ?_
    unfold D.retire_Put_1
    rw [h.count, wrapu_id (x := p.retire) (by omega) (by omega), show decide ((r.length : Int) ≥ p.retire) = false from by simp; omega, wrap_small (show -1000000 ≤ (r.length : Int) by omega) (by omega), retired_at hp ht (by omega), wrap_small (show -1000000 ≤ n + 1 by omega) (by omega), wrapu_id (x := n + 1) (by omega) (by omega)]
    refine store_runs (by omega) (by omega) ?_
    rw [← hu]
    unfold D.retire_Put_1_1
    rw [count_at hp ht, wrapu_id (by omega) (by omega)]
    refine store_runs (by omega) (by omega) ?_
    rw [← hv]
    unfold D.retire_Put_1_1_1
    rw [wrap_small (show -1000000 ≤ (r.length : Int) by omega) (by omega), wrap_small (by omega) (by omega)]
    exact .done _ _
  · rw [hvr _ (by omega), if_pos rfl]; simp
  · rw [hvr _ (by omega), if_neg (by omega), hur _ (by omega)]
    by_cases e : i = r.length
    · subst e
      rw [if_pos rfl]
      simp
    · have hi' : i < r.length := by simp at hi; omega
      rw [if_neg (by omega), h.slot i hi', List.getElem_append_left hi']
  · rcases List.mem_append.1 hm with hm | hm
    · exact h.range m hm
    · rcases List.mem_singleton.1 hm with rfl; exact hn
  · rw [hvr j hj, if_neg h1, hur j hj, if_neg h2]

/-- What a thread retired is told. -/
theorem rlist_eq {p : Plan} (hp : PF p) {M : Mem} {t : Int} {r : List Int} (ht : 0 ≤ t ∧ t < p.threads) (hl : (M.ws.length : Int) = D.plan_Plan_Size p) (h : RetAt p M.ws t r) (hnn : p.nodes ≤ 1000) {fu : Nat} (hfu : 2000 < fu) : D.retire_List fu p M 0 t = some r := by
  obtain ⟨q1, q2, q3⟩ := rb_in hp ht
  have hS := Size_eq hp
  have hN := nodes_le hp
  have hn1 := hp.n1
  have hr2 := hp.r2
  have hr1 := hp.r1
  have ht1 := hp.t1
  have hroom := h.room
  unfold D.retire_List
  rw [count_at hp ht, Peek_eq (by omega) (by omega), h.count]
  simp only [Option.bind_some]
  have hmin : IntKind.i64.wrap (minI (r.length : Int) (IntKind.u64.wrap (maxI p.retire 0))) = (r.length : Int) := by
    have : maxI p.retire 0 = p.retire := by unfold maxI; rw [if_neg (by omega)]
    rw [this, wrapu_id (by omega) (by omega)]
    have : minI (r.length : Int) p.retire = (r.length : Int) := by unfold minI; split <;> omega
    rw [this, wrap_small (by omega) (by omega)]
  rw [hmin]
  refine loop_inv (fun o => o = some r) (fun (i : Nat) (x : List Int × Int) => x.2 = (i : Int) ∧ x.1 = r.take i) r.length fu ⟨rfl, by simp⟩ (by omega) ?_ ?_
  · rintro i ⟨l, x⟩ hi ⟨rfl, rfl⟩
    simp only
    have hm : r[i] ∈ r := List.getElem_mem hi
    have hr := h.range _ hm
    have ha : appD (r.take i) [r[i]] = some (r.take i ++ [r[i]]) := by unfold appD; rw [if_pos (by simp only [Modest2, List.length_singleton, List.length_take]; omega)]
    rw [show decide ((i : Int) < (r.length : Int)) = true from by simp; omega, retired_at hp ht (by omega), Peek_eq (by omega) (by omega), h.slot i hi]
    simp only [cond_true, Option.bind_some]
    rw [show decide (r[i] + 1 ≥ 1) = true from by simp; omega, wrapu_id (x := p.nodes) (by omega) (by omega), show decide (r[i] + 1 ≤ p.nodes) = true from by simp; omega, wrap_small (show -1000000 ≤ r[i] + 1 by omega) (by omega), show r[i] + 1 - 1 = r[i] from by omega, wrap_small (show -1000000 ≤ r[i] by omega) (by omega), ha]
    simp only [cond_true, Option.bind_some]
    rw [wrap_small (show -1000000 ≤ (i : Int) + 1 by omega) (by omega)]
    exact ⟨_, rfl, by simp, by simp⟩
  · rintro ⟨l, x⟩ ⟨rfl, rfl⟩
    simp only
    rw [show decide ((r.length : Int) < (r.length : Int)) = false from by simp]
    exact ⟨_, rfl, by simp⟩

/-! ### A scan -/
/-- The state that a node has when it is reclaimed. -/
def tof (p : Plan) (ws : List Int) (n : Int) : State := D.state_State_Freed (D.state_Of (rd ws (D.plan_Plan_nodes p + n * 5))).1 p.gen

def pushAll (p : Plan) (ws : List Int) (out l : List Int) : List Int := out.foldl (fun l n => if (tof p ws n).mode = 3 then l else n :: l) l

/-- What a scan comes to. -/
structure Scanned (p : Plan) (t : Int) (ws ws' : List Int) (r' out l : List Int) (g : Int) : Prop where
  len : ws'.length = ws.length
  ret : RetAt p ws' t r'
  free : ∃ g', g' ≤ g + out.length ∧ FreeAt p ws' (pushAll p ws out l) g'
  states : ∀ n, n ∈ out → rd ws' (D.plan_Plan_nodes p + n * 5) = D.state_State_Word (tof p ws n)
  fields : ∀ n f, n ∈ out → 0 ≤ f → f < 3 → rd ws' (D.plan_Plan_nodes p + n * 5 + 2 + f) = 0
  others : ∀ j, 0 < j → (∀ n, n ∈ out → ¬ ofNode p n j) → ¬ (rb p t ≤ j ∧ j < rb p t + 1 + p.retire) → rd ws' j = rd ws j

end Go.Proofs.YtphnnjiaiemkcaaGreat
