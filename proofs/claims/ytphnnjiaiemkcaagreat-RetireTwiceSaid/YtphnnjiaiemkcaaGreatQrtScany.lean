/- Scans in laws: what is left is held; how many nodes there are; hazards that are set. -/
import Derived.Test.YtphnnjiaiemkcaaGreatQrtScanx
import Derived.Test.YtphnnjiaiemkcaaGreatQrtRef9x
namespace Go.Proofs.YtphnnjiaiemkcaaGreat
open Go.RowKit
theorem scanL_left {held : Int → Bool} : ∀ (k : Nat) (r : List Int), k ≤ r.length → ∀ n, n ∈ (scanL held k r).1 → held n = true ∨ n ∈ r.drop k
  | 0, r, _, n, h => .inr (by simpa [scanL] using h)
  | k + 1, r, hk, n, h => by
    have hk' : k < r.length := hk
    simp only [scanL, List.getElem?_eq_getElem hk'] at h
    have hd : r.drop k = r[k] :: r.drop (k + 1) := List.drop_eq_getElem_cons hk'
    cases hh : held r[k]
    · rw [hh] at h
      simp only [Bool.false_eq_true, if_false] at h
      obtain ⟨h1, h2⟩ := rm_perm hk'
      rcases scanL_left k _ (by omega) n h with h3 | h3
      · exact .inl h3
      · obtain ⟨i, hi, he⟩ := List.getElem_of_mem h3
        rw [List.getElem_drop] at he
        have hlt : k + i < (r.set k ((r.getLast?).getD 0)).dropLast.length := by
          rw [List.length_drop] at hi
          omega
        rw [rm_at hk' hlt] at he
        refine .inr ?_
        split at he
        · rw [← he]
          have : r[r.length - 1] = (r.drop (k + 1))[r.length - 1 - (k + 1)]'(by rw [List.length_drop]; omega) := by
            rw [List.getElem_drop]
            congr 1
            omega
          rw [this]
          exact List.getElem_mem _
        · rw [← he]
          have : r[k + i]'(by omega) = (r.drop (k + 1))[k + i - (k + 1)]'(by rw [List.length_drop]; omega) := by
            rw [List.getElem_drop]
            congr 1
            omega
          rw [this]
          exact List.getElem_mem _
    · rw [hh] at h
      simp only [if_true] at h
      rcases scanL_left k r (by omega) n h with h3 | h3
      · exact .inl h3
      · rw [hd] at h3
        rcases List.mem_cons.1 h3 with rfl | h3
        · exact .inl hh
        · exact .inr h3

theorem scanL_held {held : Int → Bool} {r : List Int} {n : Int} (h : n ∈ (scanL held r.length r).1) : held n = true := by
  rcases scanL_left r.length r (Nat.le_refl _) n h with h | h
  · exact h
  · rw [List.drop_length] at h; cases h

theorem scanL_count {held : Int → Bool} (r : List Int) : (scanL held r.length r).2.length + (scanL held r.length r).1.length = r.length := by
  have := (scanL_perm (held := held) r.length r (Nat.le_refl _)).length_eq
  rwa [List.length_append] at this

theorem scanL_all {held : Int → Bool} : ∀ (k : Nat) (r : List Int), k ≤ r.length → (∀ n, n ∈ r → held n = true) → scanL held k r = (r, [])
  | 0, r, _, _ => rfl
  | k + 1, r, hk, h => by
    have hk' : k < r.length := hk
    simp only [scanL, List.getElem?_eq_getElem hk', h _ (List.getElem_mem hk'), if_true]
    exact scanL_all k r (by omega) h

/-- As many as there are. -/
theorem nodup_le : ∀ (l m : List Int), l.Nodup → (∀ x, x ∈ l → x ∈ m) → l.length ≤ m.length
  | [], _, _, _ => Nat.zero_le _
  | x :: l, m, hn, hs => by
    have hx : x ∈ m := hs x (List.mem_cons_self ..)
    have h1 := nodup_le l (m.erase x) (List.nodup_cons.1 hn).2 fun y hy => (List.mem_erase_of_ne (fun e : y = x => (List.nodup_cons.1 hn).1 (e ▸ hy))).2 (hs y (List.mem_cons_of_mem _ hy))
    rw [List.length_erase_of_mem hx] at h1
    have := List.length_pos_of_mem hx
    simp only [List.length_cons]
    omega

theorem range_mem {n : Int} {k : Nat} (h0 : 0 ≤ n) (h1 : n < k) : n ∈ (List.range' 0 k).map fun (q : Nat) => (q : Int) := by
  refine List.mem_map.2 ⟨n.toNat, List.mem_range'_1.2 ⟨by omega, by omega⟩, by omega⟩

theorem range_le {l : List Int} {k : Nat} (hn : l.Nodup) (hr : ∀ n, n ∈ l → 0 ≤ n ∧ n < k) : l.length ≤ k := by
  have := nodup_le l ((List.range' 0 k).map fun (q : Nat) => (q : Int)) hn fun x hx => range_mem (hr x hx).1 (hr x hx).2
  simpa using this

theorem FreeAt.count {p : Plan} {ws l : List Int} {g : Int} (h : FreeAt p ws l g) (hn : 0 ≤ p.nodes) : (l.length : Int) ≤ p.nodes := by
  have := range_le (k := p.nodes.toNat) h.nodup fun n hn => by have := h.range n hn; omega
  omega

theorem Popped.ret {p : Plan} (hp : PF p) {ws : List Int} {w : Int} {i : Nat} (h : Popped p ws w i) {t : Int} (ht : 0 ≤ t ∧ t < p.threads) : RetAt p ws t [] := by
  obtain ⟨q1, q2, q3⟩ := rb_in hp ht
  have hr1 := hp.r1
  have ht1 := hp.t1
  exact ⟨h.zero _ q3 (by omega), by simp; omega, fun i hi => (by cases hi), fun _ h => (by cases h)⟩

theorem runUF {t : T Unit} {M : Mem} {ws' : List Int} {n : Nat} {most : Int} {fu : Nat} (h : Runs t M.ws n () ws') (hm : (n : Int) ≤ most) (hm2 : most ≤ 1000000) (hn : n < fu) : ∃ c, D.prog_Run_None fu (fu, t) M cap0 most = some ((), (n : Int), true, ⟨ws', c⟩) := by
  rw [run_None]; exact runG_eq h hm hm2 (by omega) hn

theorem hset_at {p : Plan} (hp : PF p) {ws : List Int} (hl : Len p ws) {i n : Int} (h0 : 0 ≤ i) (h1 : i < p.threads * 3) (hn : -1 ≤ n ∧ n ≤ 1000000000000000000) : Runs (D.hazard_Set p (IntKind.i64.wrap (i.tdiv 3)) (i.tmod 3) n) ws 1 () (ws.set (D.plan_Plan_hazards p + i).toNat (n + 1)) := by
  have ht2 := hp.t2
  rw [(tdiv3 h0).1, (tdiv3 h0).2, wrap_small (by omega) (by omega)]
  have := hset_runs hp hl (t := i / 3) (s := i % 3) (n := n) (by omega) (by omega) hn
  rwa [show D.plan_Plan_hazards p + i / 3 * 3 + i % 3 = D.plan_Plan_hazards p + i from by omega] at this

/-- Retired nodes and free ones stay, where hazards alone are changed. -/
structure HzOnly (p : Plan) (ws ws' : List Int) : Prop where
  len : ws'.length = ws.length
  same : ∀ j, 0 ≤ j → ¬ (D.plan_Plan_hazards p ≤ j ∧ j < D.plan_Plan_hazards p + p.threads * 3) → rd ws' j = rd ws j

theorem HzOnly.refl {p : Plan} {ws : List Int} : HzOnly p ws ws := ⟨rfl, fun _ _ _ => rfl⟩

theorem HzOnly.set {p : Plan} (hp : PF p) {ws ws' : List Int} (h : HzOnly p ws ws') (hl : Len p ws) {i v : Int} (h0 : 0 ≤ i) (h1 : i < p.threads * 3) : HzOnly p ws (ws'.set (D.plan_Plan_hazards p + i).toNat v) := by
  obtain ⟨g1, g2, g3, g4⟩ := hz_in hp
  have hn1 := hp.n1
  have hl2 := h.len
  unfold Len at hl
  refine ⟨by rw [List.length_set, h.len], fun j hj hno => ?_⟩
  rw [rd_set (by omega) (by omega) hj, if_neg (by omega)]
  exact h.same j hj hno

theorem HzOnly.ret {p : Plan} (hp : PF p) {ws ws' : List Int} {t : Int} {r : List Int} (ht : 0 ≤ t ∧ t < p.threads) (h : HzOnly p ws ws') (hr : RetAt p ws t r) : RetAt p ws' t r := by
  obtain ⟨q1, q2, q3⟩ := rb_in hp ht
  exact hr.keep fun j h0 h1 => h.same j (by omega) (by omega)

theorem HzOnly.free {p : Plan} (hp : PF p) {ws ws' l : List Int} {g : Int} (h : HzOnly p ws ws') (hf : FreeAt p ws l g) : FreeAt p ws' l g := by
  obtain ⟨g1, g2, g3, g4⟩ := hz_in hp
  have ht1 := hp.t1
  refine hf.keep h.len (h.same 0 (by omega) (by omega)) fun n hn => ?_
  have := hf.range n hn
  exact h.same _ (by unfold nx; omega) (by unfold nx; omega)

theorem Scanned.hz {p : Plan} (hp : PF p) {t : Int} (ht : 0 ≤ t ∧ t < p.threads) {ws ws' r' out l : List Int} {g : Int} (h : Scanned p t ws ws' r' out l g) (hr : ∀ n, n ∈ out → 0 ≤ n) {j : Int} (h0 : 0 ≤ j) (h1 : j < p.threads * 3) : rd ws' (D.plan_Plan_hazards p + j) = rd ws (D.plan_Plan_hazards p + j) := by
  obtain ⟨g1, g2, g3, g4⟩ := hz_in hp
  obtain ⟨q1, q2, q3⟩ := rb_in hp ht
  exact h.others _ (by omega) (fun n hn => by have := hr n hn; unfold ofNode; omega) (by omega)

end Go.Proofs.YtphnnjiaiemkcaaGreat
