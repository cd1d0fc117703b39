/- Retired nodes: what putting and scanning comes to, without the code. -/
import Derived.Test.YtphnnjiaiemkcaaGreatQrsRecx
import Derived.Test.YtphnnjiaiemkcaaGreatQrsHazt
namespace Go.Proofs.YtphnnjiaiemkcaaGreat
open Go.RowKit

/-- The place of a thread's count of retired nodes; its retired nodes stand behind it. -/
def rb (p : Plan) (t : Int) : Int := D.plan_Plan_counts p + t * (1 + p.retire)

/-- What a thread retired. -/
structure RetAt (p : Plan) (ws : List Int) (t : Int) (r : List Int) : Prop where
  count : rd ws (rb p t) = r.length
  room : (r.length : Int) ≤ p.retire
  slot : ∀ (i : Nat) (h : i < r.length), rd ws (rb p t + 1 + i) = r[i] + 1
  range : ∀ n, n ∈ r → 0 ≤ n ∧ n < p.nodes

section
variable {p : Plan} (hp : PF p) {t : Int} (ht : 0 ≤ t ∧ t < p.threads)
include hp ht
theorem rb_in : D.plan_Plan_hazards p + p.threads * 3 ≤ rb p t ∧ rb p t + 1 + p.retire ≤ D.plan_Plan_nodes p ∧ 0 < rb p t := by
  have h1 := hazards_eq hp
  have h2 := counts_eq hp
  have h3 := nodes_eq hp
  have h5 := hz_le hp
  have ht1 := hp.t1
  have hr1 := hp.r1
  unfold rb
  have h6 : t * (1 + p.retire) + (1 + p.retire) ≤ p.threads * (1 + p.retire) := by
    have : (t + 1) * (1 + p.retire) ≤ p.threads * (1 + p.retire) := Int.mul_le_mul_of_nonneg_right (by omega) (by omega)
    rw [Int.add_mul] at this
    omega
  have h7 : 0 ≤ t * (1 + p.retire) := Int.mul_nonneg (by omega) (by omega)
  exact ⟨by omega, by omega, by omega⟩

theorem count_at : D.plan_Plan_Count p t = rb p t := by rw [Count_eq hp, if_pos ht]; rfl

theorem retired_at {i : Int} (hi : 0 ≤ i ∧ i < p.retire) : D.plan_Plan_Retired p t i = rb p t + 1 + i := by rw [Retired_eq hp, if_pos ⟨ht, hi⟩]; rfl

end
theorem RetAt.keep {p : Plan} {ws ws' : List Int} {t : Int} {r : List Int} (h : RetAt p ws t r) (hk : ∀ j, rb p t ≤ j → j < rb p t + 1 + p.retire → rd ws' j = rd ws j) : RetAt p ws' t r := by
  have h0 := h.room
  exact ⟨by rw [hk _ (by omega) (by omega)]; exact h.count, h.room, fun i hi => by rw [hk _ (by omega) (by omega)]; exact h.slot i hi, h.range⟩

/-- A node is put behind what a thread retired, if there is room. -/
theorem put_full {p : Plan} (hp : PF p) {ws : List Int} {t n : Int} {r : List Int} (ht : 0 ≤ t ∧ t < p.threads) (hl : (ws.length : Int) = D.plan_Plan_Size p) (h : RetAt p ws t r) (hf : (r.length : Int) = p.retire) :
    Runs (D.retire_Put p t n) ws 1 (-1) ws := by
  obtain ⟨q1, q2, q3⟩ := rb_in hp ht
  have hS := Size_eq hp
  have hn1 := hp.n1
  have hr2 := hp.r2
  have hr1 := hp.r1
  have ht1 := hp.t1
  unfold D.retire_Put
  rw [count_at hp ht]
  refine load_runs (by omega) (by omega) ?_
  unfold D.retire_Put_1
  rw [h.count, wrapu_id (x := p.retire) (by omega) (by omega), show decide ((r.length : Int) ≥ p.retire) = true from by simp; omega]
  exact .done _ _

theorem put_runs {p : Plan} (hp : PF p) {ws : List Int} {t n : Int} {r : List Int} (ht : 0 ≤ t ∧ t < p.threads) (hn : 0 ≤ n ∧ n < p.nodes) (hnn : p.nodes ≤ 1000000) (hl : (ws.length : Int) = D.plan_Plan_Size p) (h : RetAt p ws t r) (hf : (r.length : Int) < p.retire) :
    ∃ ws', Runs (D.retire_Put p t n) ws 3 ((r.length : Int) + 1) ws' ∧ ws'.length = ws.length ∧ RetAt p ws' t (r ++ [n]) ∧ ∀ j, 0 ≤ j → j ≠ rb p t → j ≠ rb p t + 1 + r.length → rd ws' j = rd ws j := by
  obtain ⟨q1, q2, q3⟩ := rb_in hp ht
  have hS := Size_eq hp
  have hN := nodes_le hp
  have hn1 := hp.n1
  have hr2 := hp.r2
  obtain ⟨u, hu⟩ : ∃ u, u = ws.set (rb p t + 1 + r.length).toNat (n + 1) := ⟨_, rfl⟩
  have hul : u.length = ws.length := by rw [hu, List.length_set]
  have hur : ∀ j, 0 ≤ j → rd u j = if j = rb p t + 1 + r.length then n + 1 else rd ws j := fun j hj => by rw [hu]; exact rd_set (by omega) (by omega) hj
  obtain ⟨v, hv⟩ : ∃ v, v = u.set (rb p t).toNat ((r.length : Int) + 1) := ⟨_, rfl⟩
  have hvl : v.length = ws.length := by rw [hv, List.length_set, hul]
  have hvr : ∀ j, 0 ≤ j → rd v j = if j = rb p t then (r.length : Int) + 1 else rd u j := fun j hj => by rw [hv]; exact rd_set (by omega) (by omega) hj
  refine ⟨v, ?_, hvl, ⟨?_, by simp; omega, fun i hi => ?_, fun m hm => ?_⟩, fun j hj h1 h2 => ?_⟩
  · unfold D.retire_Put
    rw [count_at hp ht]
    refine load_runs (by omega) (by omega) ?_
    unfold D.retire_Put_1
    rw [h.count, wrapu_id (x := p.retire) (by omega) (by omega), show decide ((r.length : Int) ≥ p.retire) = false from by simp; omega, wrap_small (show -1000000 ≤ (r.length : Int) by omega) (by omega), retired_at hp ht (by omega), wrap_small (show -1000000 ≤ n + 1 by omega) (by omega), wrapu_id (x := n + 1) (by omega) (by omega)]
    refine store_runs (by omega) (by omega) ?_
    rw [← hu]
    unfold D.retire_Put_1_1
    rw [count_at hp ht, wrapu_id (by omega) (by omega)]
    refine store_runs (by omega) (by omega) ?_
    rw [← hv]
    unfold D.retire_Put_1_1_1
    rw [wrap_small (show -1000000 ≤ (r.length : Int) by omega) (by omega), wrap_small (by omega) (by omega)]
    exact .done _ _
  · rw [hvr _ (by omega), if_pos rfl]; simp
  · rw [hvr _ (by omega), if_neg (by omega), hur _ (by omega)]
    by_cases e : i = r.length
    · subst e
      rw [if_pos rfl]
      simp
    · have hi' : i < r.length := by simp at hi; omega
      rw [if_neg (by omega), h.slot i hi', List.getElem_append_left hi']
  · rcases List.mem_append.1 hm with hm | hm
    · exact h.range m hm
    · rcases List.mem_singleton.1 hm with rfl; exact hn
  · rw [hvr j hj, if_neg h1, hur j hj, if_neg h2]

/-- What a thread retired is told. -/
theorem rlist_eq {p : Plan} (hp : PF p) {M : Mem} {t : Int} {r : List Int} (ht : 0 ≤ t ∧ t < p.threads) (hl : (M.ws.length : Int) = D.plan_Plan_Size p) (h : RetAt p M.ws t r) (hnn : p.nodes ≤ 1000) {fu : Nat} (hfu : 2000 < fu) : D.retire_List fu p M 0 t = some r := by
  obtain ⟨q1, q2, q3⟩ := rb_in hp ht
  have hS := Size_eq hp
  have hN := nodes_le hp
  have hn1 := hp.n1
  have hr2 := hp.r2
  have hr1 := hp.r1
  have ht1 := hp.t1
  have hroom := h.room
  unfold D.retire_List
  rw [count_at hp ht, Peek_eq (by omega) (by omega), h.count]
  simp only [Option.bind_some]
  have hmin : IntKind.i64.wrap (minI (r.length : Int) (IntKind.u64.wrap (maxI p.retire 0))) = (r.length : Int) := by
    have : maxI p.retire 0 = p.retire := by unfold maxI; rw [if_neg (by omega)]
    rw [this, wrapu_id (by omega) (by omega)]
    have : minI (r.length : Int) p.retire = (r.length : Int) := by unfold minI; split <;> omega
    rw [this, wrap_small (by omega) (by omega)]
  rw [hmin]
  refine loop_inv (fun o => o = some r) (fun (i : Nat) (x : List Int × Int) => x.2 = (i : Int) ∧ x.1 = r.take i) r.length fu ⟨rfl, by simp⟩ (by omega) ?_ ?_
  · rintro i ⟨l, x⟩ hi ⟨rfl, rfl⟩
    simp only
    have hm : r[i] ∈ r := List.getElem_mem hi
    have hr := h.range _ hm
    have ha : appD (r.take i) [r[i]] = some (r.take i ++ [r[i]]) := by unfold appD; rw [if_pos (by simp only [Modest2, List.length_singleton, List.length_take]; omega)]
    rw [show decide ((i : Int) < (r.length : Int)) = true from by simp; omega, retired_at hp ht (by omega), Peek_eq (by omega) (by omega), h.slot i hi]
    simp only [cond_true, Option.bind_some]
    rw [show decide (r[i] + 1 ≥ 1) = true from by simp; omega, wrapu_id (x := p.nodes) (by omega) (by omega), show decide (r[i] + 1 ≤ p.nodes) = true from by simp; omega, wrap_small (show -1000000 ≤ r[i] + 1 by omega) (by omega), show r[i] + 1 - 1 = r[i] from by omega, wrap_small (show -1000000 ≤ r[i] by omega) (by omega), ha]
    simp only [cond_true, Option.bind_some]
    rw [wrap_small (show -1000000 ≤ (i : Int) + 1 by omega) (by omega)]
    exact ⟨_, rfl, by simp, by simp⟩
  · rintro ⟨l, x⟩ ⟨rfl, rfl⟩
    simp only
    rw [show decide ((r.length : Int) < (r.length : Int)) = false from by simp]
    exact ⟨_, rfl, by simp⟩

/-! ### A scan -/
/-- Of a list of retired nodes: what is left when the places below k are looked at, from the last one on, and what is reclaimed. -/
def scanL (held : Int → Bool) : Nat → List Int → List Int × List Int
  | 0, r => (r, [])
  | k + 1, r => match r[k]? with
    | none => scanL held k r
    | some n => if held n then scanL held k r else
      let q := scanL held k ((r.set k ((r.getLast?).getD 0)).dropLast)
      (q.1, n :: q.2)

theorem rm_perm {r : List Int} {k : Nat} (hk : k < r.length) : List.Perm (r[k] :: (r.set k ((r.getLast?).getD 0)).dropLast) r ∧ (r.set k ((r.getLast?).getD 0)).dropLast.length + 1 = r.length := by
  rcases List.eq_nil_or_concat r with rfl | ⟨s, z, rfl⟩
  · cases hk
  · simp only [List.concat_eq_append] at hk ⊢
    rw [List.getLast?_append, List.getLast?_singleton]
    simp only [Option.some_or, Option.getD_some]
    rw [List.length_append, List.length_singleton] at hk
    by_cases e : k = s.length
    · subst e
      rw [List.set_append_right _ _ (Nat.le_refl _)]
      simp only [Nat.sub_self, List.set_cons_zero, List.dropLast_concat]
      simp only [List.getElem_append_right (Nat.le_refl _), Nat.sub_self, List.getElem_cons_zero, List.length_append, List.length_singleton]
      exact ⟨(List.perm_append_singleton z s).symm, by simp⟩
    · have hk' : k < s.length := by omega
      rw [List.set_append_left _ _ hk']
      simp only [List.dropLast_concat, List.getElem_append_left hk', List.length_set, List.length_append, List.length_singleton]
      refine ⟨?_, by simp⟩
      rw [List.set_eq_take_append_cons_drop, if_pos hk']
      have h1 : List.Perm (s[k] :: (s.take k ++ z :: s.drop (k + 1))) (z :: (s.take k ++ s[k] :: s.drop (k + 1))) := by
        refine (List.Perm.cons _ List.perm_middle).trans ?_
        refine (List.Perm.swap _ _ _).trans ?_
        exact List.Perm.cons _ List.perm_middle.symm
      have h2 : s.take k ++ s[k] :: s.drop (k + 1) = s := by rw [← List.drop_eq_getElem_cons hk', List.take_append_drop]
      rw [h2] at h1
      exact h1.trans (List.perm_append_singleton z s).symm

theorem rm_at {r : List Int} {k i : Nat} (hk : k < r.length) (hi : i < (r.set k ((r.getLast?).getD 0)).dropLast.length) : (r.set k ((r.getLast?).getD 0)).dropLast[i] = if i = k then r[r.length - 1]'(by omega) else r[i]'(by simp at hi; omega) := by
  have hlast : (r.getLast?).getD 0 = r[r.length - 1]'(by omega) := by
    rw [List.getLast?_eq_getElem?, List.getElem?_eq_getElem (by omega)]
    rfl
  rw [List.getElem_dropLast, List.getElem_set]
  by_cases e : k = i
  · rw [if_pos e, if_pos e.symm]; exact hlast
  · rw [if_neg e, if_neg (Ne.symm e)]

/-- The state that a node has when it is reclaimed. -/
def tof (p : Plan) (ws : List Int) (n : Int) : State := D.state_State_Freed (D.state_Of (rd ws (D.plan_Plan_nodes p + n * 5))).1 p.gen

def pushAll (p : Plan) (ws : List Int) (out l : List Int) : List Int := out.foldl (fun l n => if (tof p ws n).mode = 3 then l else n :: l) l

theorem pushAll_nil {p : Plan} {ws l : List Int} : pushAll p ws [] l = l := rfl

theorem pushAll_cons {p : Plan} {ws out l : List Int} {n : Int} : pushAll p ws (n :: out) l = pushAll p ws out (if (tof p ws n).mode = 3 then l else n :: l) := rfl

theorem pushAll_congr {p : Plan} {ws ws' : List Int} : ∀ {out l : List Int}, (∀ n, n ∈ out → rd ws' (D.plan_Plan_nodes p + n * 5) = rd ws (D.plan_Plan_nodes p + n * 5)) → pushAll p ws' out l = pushAll p ws out l
  | [], _, _ => by rw [pushAll_nil, pushAll_nil]
  | m :: out, l, h => by
    rw [pushAll_cons, pushAll_cons]
    have e : tof p ws' m = tof p ws m := by unfold tof; rw [h m (List.mem_cons_self ..)]
    rw [e]
    exact pushAll_congr fun n hn => h n (List.mem_cons_of_mem _ hn)

theorem scanL_perm {held : Int → Bool} : ∀ (k : Nat) (r : List Int), k ≤ r.length → List.Perm ((scanL held k r).2 ++ (scanL held k r).1) r
  | 0, r, _ => List.Perm.refl _
  | k + 1, r, hk => by
    have hk' : k < r.length := hk
    simp only [scanL, List.getElem?_eq_getElem hk']
    cases held r[k]
    · simp only [Bool.false_eq_true, if_false, List.cons_append]
      obtain ⟨h1, h2⟩ := rm_perm hk'
      exact (List.Perm.cons _ (scanL_perm k _ (by omega))).trans h1
    · simp only [if_true]
      exact scanL_perm k r (by omega)

/-- What a scan comes to. -/
structure Scanned (p : Plan) (t : Int) (ws ws' : List Int) (r' out l : List Int) (g : Int) : Prop where
  len : ws'.length = ws.length
  ret : RetAt p ws' t r'
  free : ∃ g', g' ≤ g + out.length ∧ FreeAt p ws' (pushAll p ws out l) g'
  states : ∀ n, n ∈ out → rd ws' (D.plan_Plan_nodes p + n * 5) = D.state_State_Word (tof p ws n)
  fields : ∀ n f, n ∈ out → 0 ≤ f → f < 3 → rd ws' (D.plan_Plan_nodes p + n * 5 + 2 + f) = 0
  others : ∀ j, 0 < j → (∀ n, n ∈ out → ¬ ofNode p n j) → ¬ (rb p t ≤ j ∧ j < rb p t + 1 + p.retire) → rd ws' j = rd ws j

def heldW (p : Plan) (ws : List Int) (n : Int) : Prop := ∃ j, 0 ≤ j ∧ j < p.threads * 3 ∧ rd ws (D.plan_Plan_hazards p + j) = n + 1

theorem scanned_runs {p : Plan} (hp : PF p) (hnn : p.nodes ≤ 1000) {t : Int} (ht : 0 ≤ t ∧ t < p.threads) {held : Int → Bool} (J : Nat) (hJ : 100 < J) : ∀ (k : Nat) (r ws l : List Int) (g done : Int) (K : Nat), k ≤ r.length → (ws.length : Int) = D.plan_Plan_Size p → RetAt p ws t r → FreeAt p ws l g →
    (∀ n, n ∈ r → n ∉ l) → r.Nodup → (∀ n, n ∈ r → (held n = true ↔ heldW p ws n)) → g + k < 1000000 → 0 ≤ done → done + k ≤ 100000 → k < K →
    ∃ (m : Nat) (ws' : List Int), m ≤ 70 * k ∧ Runs (D.retire_scanned J K p t ⟨(k : Int) - 1, (r.length : Int), done⟩) ws m (done + ((scanL held k r).2.length : Int)) ws' ∧ Scanned p t ws ws' (scanL held k r).1 (scanL held k r).2 l g := by
  obtain ⟨q1, q2, q3⟩ := rb_in hp ht
  have hS := Size_eq hp
  have hN := nodes_le hp
  have hn1 := hp.n1
  have hr2 := hp.r2
  have ht2 := hp.t2
  have hz := hz_in hp
  intro k
  induction k with
  | zero =>
    intro r ws l g done K hk hl hR hF hrl hnd hh hg hd hd2 hK
    obtain ⟨K, rfl⟩ : ∃ q, K = q + 1 := ⟨K - 1, by omega⟩
    refine ⟨0, ws, by omega, ?_, ⟨rfl, hR, ⟨g, by simp [scanL], hF⟩, fun n hn => by simp [scanL] at hn, fun n f hn => by simp [scanL] at hn, fun _ _ _ _ => rfl⟩⟩
    show Runs (D.retire_scanned_body J (D.retire_scanned J K) p t _) _ _ _ _
    unfold D.retire_scanned_body
    rw [show decide ((⟨((0 : Nat) : Int) - 1, (r.length : Int), done⟩ : Scan).at_ < 0) = true from by simp]
    have : done + ((scanL held 0 r).2.length : Int) = done := by simp [scanL]
    rw [this]
    exact .done _ _
  | succ k ih =>
    intro r ws l g done K hk hl hR hF hrl hnd hh hg hd hd2 hK
    obtain ⟨K, rfl⟩ : ∃ q, K = q + 1 := ⟨K - 1, by omega⟩
    have hk' : k < r.length := hk
    have hroom := hR.room
    have hm : r[k] ∈ r := List.getElem_mem hk'
    have hrk := hR.range _ hm
    obtain ⟨n, hnk⟩ : ∃ n, n = r[k] := ⟨_, rfl⟩
    rw [← hnk] at hm hrk
    have hbody : ∀ {m : Nat} {res : Int} {ws' : List Int}, Runs (T.bind (D.hazard_Held J p n) (fun x => D.retire_scanned_1_1 J (D.retire_scanned J K) p t ⟨(k : Int) - 1, (r.length : Int), done⟩ ⟨(k : Int), (r.length : Int), done⟩ (n + 1) x)) ws m res ws' →
        Runs (D.retire_scanned J (K + 1) p t ⟨((k + 1 : Nat) : Int) - 1, (r.length : Int), done⟩) ws (m + 1) res ws' := by
      intro m res ws' hr
      rw [show ((k + 1 : Nat) : Int) - 1 = (k : Int) from by omega]
      show Runs (D.retire_scanned_body J (D.retire_scanned J K) p t _) _ _ _ _
      unfold D.retire_scanned_body
      simp only
      rw [show decide ((k : Int) < 0) = false from by rw [decide_eq_false_iff_not]; omega, retired_at hp ht (by omega), wrap_small (show -1000000 ≤ (k : Int) - 1 by omega) (by omega)]
      refine load_runs (by omega) (by omega) ?_
      rw [hR.slot k hk', ← hnk]
      unfold D.retire_scanned_1
      rw [show decide (n + 1 < 1) = false from by simp; omega, wrapu_id (x := p.nodes) (by omega) (by omega), show decide (n + 1 > p.nodes) = false from by simp; omega, wrap_small (show -1000000 ≤ n + 1 by omega) (by omega), show n + 1 - 1 = n from by omega, wrap_small (show -1000000 ≤ n by omega) (by omega)]
      exact hr
    have hsc : scanL held (k + 1) r = if held n then scanL held k r else ((scanL held k ((r.set k ((r.getLast?).getD 0)).dropLast)).1, n :: (scanL held k ((r.set k ((r.getLast?).getD 0)).dropLast)).2) := by
      simp only [scanL, List.getElem?_eq_getElem hk', hnk]
    by_cases hc : held n = true
    · rw [hsc, if_pos hc]
      obtain ⟨j, j0, j1, hj⟩ := (hh n hm).1 hc
      obtain ⟨m1, hm1, hr1⟩ := held_yes hp hl (n := n) (by omega) (p.threads * 3).toNat 0 J (by omega) (by omega) (by omega) ⟨j, by omega, j1, hj⟩
      obtain ⟨m, ws', hm2, hr2', hsd⟩ := ih r ws l g done K (by omega) hl hR hF hrl hnd hh (by omega) hd (by omega) (by omega)
      refine ⟨m1 + m + 1, ws', by omega, hbody ?_, hsd⟩
      exact Runs.bind (g := fun x => D.retire_scanned_1_1 J (D.retire_scanned J K) p t ⟨(k : Int) - 1, (r.length : Int), done⟩ ⟨(k : Int), (r.length : Int), done⟩ (n + 1) x) hr1 hr2'
    · rw [hsc, if_neg hc]
      have hno : ∀ j, 0 ≤ j → j < p.threads * 3 → rd ws (D.plan_Plan_hazards p + j) ≠ n + 1 := fun j j0 j1 hj => hc ((hh n hm).2 ⟨j, j0, j1, hj⟩)
      have hr1 := held_no hp hl (n := n) (by omega) (p.threads * 3).toNat 0 J (by omega) (by omega) (by omega) hno
      obtain ⟨hpm, hpl⟩ := rm_perm hk'
      rw [← hnk] at hpm
      obtain ⟨r2, hr2e⟩ : ∃ r2, r2 = (r.set k ((r.getLast?).getD 0)).dropLast := ⟨_, rfl⟩
      have hat : ∀ (i : Nat) (hi : i < r2.length), r2[i] = if i = k then r[r.length - 1]'(by omega) else r[i]'(by rw [hr2e] at hi; simp at hi; omega) := by
        intro i hi
        subst hr2e
        exact rm_at hk' hi
      rw [← hr2e] at hpm hpl ⊢
      have hnd2 : (n :: r2).Nodup := hpm.nodup_iff.2 hnd
      have hsub : ∀ q, q ∈ r2 → q ∈ r ∧ q ≠ n := fun q hq => ⟨hpm.subset (List.mem_cons_of_mem _ hq), fun e => (List.nodup_cons.1 hnd2).1 (e ▸ hq)⟩
      -- the words with the node taken out
      obtain ⟨v, hv⟩ : ∃ v, v = if k = r.length - 1 then ws else ws.set (rb p t + 1 + k).toNat (r[r.length - 1]'(by omega) + 1) := ⟨_, rfl⟩
      have hvl : v.length = ws.length := by rw [hv]; split <;> simp
      have hvr : ∀ j, 0 ≤ j → rd v j = if j = rb p t + 1 + k then r[r.length - 1]'(by omega) + 1 else rd ws j := by
        intro j hj
        rw [hv]
        by_cases e : k = r.length - 1
        · rw [if_pos e]
          split
          · rename_i h
            rw [h, hR.slot k hk']
            congr 2
          · rfl
        · rw [if_neg e]
          exact rd_set (by omega) (by omega) hj
      obtain ⟨u, hu⟩ : ∃ u, u = v.set (rb p t).toNat ((r.length : Int) - 1) := ⟨_, rfl⟩
      have hul : u.length = ws.length := by rw [hu, List.length_set, hvl]
      have hur : ∀ j, 0 ≤ j → rd u j = if j = rb p t then (r.length : Int) - 1 else rd v j := fun j hj => by rw [hu]; exact rd_set (by omega) (by omega) hj
      have huo : ∀ j, 0 ≤ j → ¬ (rb p t ≤ j ∧ j < rb p t + 1 + p.retire) → rd u j = rd ws j := by
        intro j hj hno
        rw [hur j hj, if_neg (by omega), hvr j hj, if_neg (by omega)]
      have hR2 : RetAt p u t r2 := by
        refine ⟨?_, by omega, fun i hi => ?_, fun q hq => hR.range q (hsub q hq).1⟩
        · rw [hur _ (by omega), if_pos rfl]; omega
        · rw [hur _ (by omega), if_neg (by omega), hvr _ (by omega), hat i hi]
          by_cases e : i = k
          · rw [if_pos (by omega), if_pos e]
          · rw [if_neg (by omega), if_neg e]
            exact hR.slot i (by omega)
      have hF2 : FreeAt p u l g := hF.keep hul (huo 0 (by omega) (by omega)) fun q hq => by
        have := hF.range q hq
        exact huo _ (by unfold nx; omega) (by unfold nx; omega)
      have hst : rd u (D.plan_Plan_nodes p + n * 5) = rd ws (D.plan_Plan_nodes p + n * 5) := huo _ (by omega) (by omega)
      obtain ⟨w, hw1, hw⟩ := reclaim_runs hp hrk (by omega) (by omega) hF2 (hrl n hm) (t := tof p ws n) (by unfold tof; rw [hst]) (J - 4)
      rw [show J - 4 + 4 = J from by omega] at hw1
      obtain ⟨g2, hg2, hFw⟩ : ∃ g2, g2 ≤ g + 1 ∧ FreeAt p w (if (tof p ws n).mode = 3 then l else n :: l) g2 := by
        by_cases hm3 : (tof p ws n).mode = 3
        · exact ⟨g, by omega, by rw [if_pos hm3]; exact hw.gone hm3⟩
        · exact ⟨g + 1, by omega, by rw [if_neg hm3]; exact hw.free hm3⟩
      have hwl := hw.len
      have hwo := hw.others
      have hwu : ∀ j, 0 < j → j < D.plan_Plan_nodes p → ¬ (rb p t ≤ j ∧ j < rb p t + 1 + p.retire) → rd w j = rd ws j := fun j h0 h1 h2 => by
        rw [hwo j h0 (by unfold ofNode; omega), huo j (by omega) h2]
      have hRw : RetAt p w t r2 := hR2.keep fun j h0 h1 => hwo j (by omega) (by unfold ofNode; omega)
      have hother : ∀ q, q ∈ r2 → ∀ f : Int, 0 ≤ f → f < 5 → rd w (D.plan_Plan_nodes p + q * 5 + f) = rd ws (D.plan_Plan_nodes p + q * 5 + f) := by
        intro q hq f f0 f1
        have hqr := hR.range q (hsub q hq).1
        have hqn := (hsub q hq).2
        rw [hwo _ (by omega) (by unfold ofNode; omega), huo _ (by omega) (by omega)]
      have hA : ∀ q, q ∈ r2 → q ∉ (if (tof p ws n).mode = 3 then l else n :: l) := by
        intro q hq hql
        split at hql
        · exact hrl q (hsub q hq).1 hql
        · rcases List.mem_cons.1 hql with rfl | hql
          · exact (hsub _ hq).2 rfl
          · exact hrl q (hsub q hq).1 hql
      have hB : ∀ q, q ∈ r2 → (held q = true ↔ heldW p w q) := by
        intro q hq
        rw [hh q (hsub q hq).1]
        unfold heldW
        constructor
        · rintro ⟨j, j0, j1, hj⟩
          exact ⟨j, j0, j1, by rw [hwu _ (by omega) (by omega) (by omega)]; exact hj⟩
        · rintro ⟨j, j0, j1, hj⟩
          exact ⟨j, j0, j1, by rw [hwu _ (by omega) (by omega) (by omega)] at hj; exact hj⟩
      obtain ⟨m, ws', hm2, hr2', hsd⟩ := ih r2 w (if (tof p ws n).mode = 3 then l else n :: l) g2 (done + 1) K (by omega) (by omega) hRw hFw hA (List.nodup_cons.1 hnd2).2 hB (by omega) (by omega) (by omega) (by omega)
      have hout : ∀ q, q ∈ (scanL held k r2).2 → q ∈ r2 := fun q hq => (scanL_perm (held := held) k r2 (by omega)).subset (List.mem_append_left _ hq)
      have hlen2 : (r2.length : Int) = (r.length : Int) - 1 := by omega
      have hfin : Runs (D.retire_removed_1 J (D.retire_scanned J K) p t ((r.length : Int) - 1) n ⟨(k : Int), (r.length : Int), done⟩) v ((if (tof p ws n).mode = 3 then 5 else 8) + m + 1) (done + 1 + ((scanL held k r2).2.length : Int)) ws' := by
        unfold D.retire_removed_1
        rw [count_at hp ht, wrapu_id (x := (r.length : Int) - 1) (by omega) (by omega)]
        refine store_runs (by omega) (by omega) ?_
        rw [← hu]
        unfold D.retire_removed_1_1
        refine Runs.bind (g := fun x => D.retire_removed_1_1_1 J (D.retire_scanned J K) p t ⟨(k : Int), (r.length : Int), done⟩ ((r.length : Int) - 1) x) hw1 ?_
        unfold D.retire_removed_1_1_1
        simp only
        rw [wrap_small (show -1000000 ≤ (k : Int) - 1 by omega) (by omega), wrap_small (show -1000000 ≤ done + 1 by omega) (by omega), ← hlen2]
        exact hr2'
      have hrem : ∃ m3 : Nat, m3 ≤ m + 11 ∧ Runs (D.retire_removed J (D.retire_scanned J K) p t ⟨(k : Int), (r.length : Int), done⟩ n) ws m3 (done + 1 + ((scanL held k r2).2.length : Int)) ws' := by
        unfold D.retire_removed
        simp only
        rw [wrap_small (show -1000000 ≤ (r.length : Int) - 1 by omega) (by omega)]
        by_cases e : k = r.length - 1
        · rw [show ((k : Int) == (r.length : Int) - 1) = true from by simp; omega]
          rw [if_pos e] at hv
          rw [hv] at hfin
          exact ⟨_, by split <;> omega, hfin⟩
        · rw [show ((k : Int) == (r.length : Int) - 1) = false from by simp; omega]
          rw [if_neg e] at hv
          refine ⟨(if (tof p ws n).mode = 3 then 5 else 8) + m + 1 + 1 + 1, by split <;> omega, ?_⟩
          simp only [cond_false]
          rw [retired_at hp ht (by omega)]
          refine load_runs (by omega) (by omega) ?_
          unfold D.retire_removed_2
          have hlast := hR.slot (r.length - 1) (by omega)
          rw [show rb p t + 1 + ((r.length : Int) - 1) = rb p t + 1 + ((r.length - 1 : Nat) : Int) from by omega, hlast]
          simp only
          rw [retired_at hp ht (by omega)]
          refine store_runs (by omega) (by omega) ?_
          rw [← hv]
          exact hfin
      obtain ⟨m3, hm3, hrem⟩ := hrem
      refine ⟨(p.threads * 3).toNat + m3 + 1, ws', by omega, hbody ?_, ?_⟩
      · refine Runs.bind (g := fun x => D.retire_scanned_1_1 J (D.retire_scanned J K) p t ⟨(k : Int) - 1, (r.length : Int), done⟩ ⟨(k : Int), (r.length : Int), done⟩ (n + 1) x) hr1 ?_
        unfold D.retire_scanned_1_1
        simp only [cond_false]
        rw [wrap_small (show -1000000 ≤ n + 1 by omega) (by omega), show n + 1 - 1 = n from by omega, wrap_small (show -1000000 ≤ n by omega) (by omega), List.length_cons]
        rw [show done + (((scanL held k r2).2.length + 1 : Nat) : Int) = done + 1 + ((scanL held k r2).2.length : Int) from by omega]
        exact hrem
      · have hst2 : ∀ q, q ∈ r2 → rd w (D.plan_Plan_nodes p + q * 5) = rd ws (D.plan_Plan_nodes p + q * 5) := fun q hq => by
          have := hother q hq 0 (by omega) (by omega)
          rwa [Int.add_zero] at this
        have hnout : n ∉ (scanL held k r2).2 := fun h => (hsub n (hout n h)).2 rfl
        refine ⟨by rw [hsd.len, hwl, hul], hsd.ret, ?_, fun q hq => ?_, fun q f hq f0 f1 => ?_, fun j h0 h1 h2 => ?_⟩
        · obtain ⟨g3, hg3, hF3⟩ := hsd.free
          refine ⟨g3, by rw [List.length_cons]; omega, ?_⟩
          show FreeAt p ws' (pushAll p ws (scanL held k r2).2 (if (tof p ws n).mode = 3 then l else n :: l)) g3
          rw [← pushAll_congr fun q hq => hst2 q (hout q hq)]
          exact hF3
        · rcases List.mem_cons.1 hq with rfl | hq
          · rw [hsd.others _ (by omega) (fun q' hq' => by
              have := (hsub q' (hout q' hq')).2
              unfold ofNode; omega) (by omega)]
            exact hw.state
          · rw [hsd.states q hq]
            unfold tof
            rw [hst2 q (hout q hq)]
        · rcases List.mem_cons.1 hq with rfl | hq
          · rw [hsd.others _ (by omega) (fun q' hq' => by
              have := (hsub q' (hout q' hq')).2
              unfold ofNode; omega) (by omega)]
            exact hw.fields f f0 f1
          · exact hsd.fields q f hq f0 f1
        · rw [hsd.others j h0 (fun q hq => h1 q (List.mem_cons_of_mem _ hq)) h2, hwo j h0 (h1 n (List.mem_cons_self ..)), huo j (by omega) h2]

theorem scan_runs {p : Plan} (hp : PF p) (hnn : p.nodes ≤ 1000) {t : Int} (ht : 0 ≤ t ∧ t < p.threads) {held : Int → Bool} (J : Nat) (hJ : 1100 < J) {r ws l : List Int} {g : Int} (hl : (ws.length : Int) = D.plan_Plan_Size p) (hR : RetAt p ws t r) (hF : FreeAt p ws l g)
    (hrl : ∀ n, n ∈ r → n ∉ l) (hnd : r.Nodup) (hh : ∀ n, n ∈ r → (held n = true ↔ heldW p ws n)) (hg : g < 900000) :
    ∃ (m : Nat) (ws' : List Int), m ≤ 70 * r.length + 1 ∧ Runs (D.retire_Scan J p t) ws m ((scanL held r.length r).2.length : Int) ws' ∧ Scanned p t ws ws' (scanL held r.length r).1 (scanL held r.length r).2 l g := by
  obtain ⟨q1, q2, q3⟩ := rb_in hp ht
  have hS := Size_eq hp
  have hn1 := hp.n1
  have hr2 := hp.r2
  have hr1 := hp.r1
  have ht1 := hp.t1
  have hroom := hR.room
  obtain ⟨m, ws', hm, hr, hsd⟩ := scanned_runs hp hnn ht J (by omega) r.length r ws l g 0 J (Nat.le_refl _) hl hR hF hrl hnd hh (by omega) (by omega) (by omega) (by omega)
  refine ⟨m + 1, ws', by omega, ?_, hsd⟩
  unfold D.retire_Scan
  rw [count_at hp ht]
  refine load_runs (by omega) (by omega) ?_
  rw [hR.count]
  unfold D.retire_Scan_1
  have hmin : IntKind.i64.wrap (minI (r.length : Int) (IntKind.u64.wrap p.retire)) = (r.length : Int) := by
    rw [wrapu_id (by omega) (by omega)]
    have : minI (r.length : Int) p.retire = (r.length : Int) := by unfold minI; split <;> omega
    rw [this, wrap_small (by omega) (by omega)]
  rw [hmin, wrap_small (show -1000000 ≤ (r.length : Int) - 1 by omega) (by omega)]
  rw [Int.zero_add] at hr
  exact hr

end Go.Proofs.YtphnnjiaiemkcaaGreat
