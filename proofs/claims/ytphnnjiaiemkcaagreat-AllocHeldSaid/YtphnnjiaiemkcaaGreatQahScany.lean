/- Scans in laws: what is left is held; how many nodes there are; hazards that are set. -/
import Derived.Test.YtphnnjiaiemkcaaGreatQahScanx
import Derived.Test.YtphnnjiaiemkcaaGreatQahFreex
namespace Go.Proofs.YtphnnjiaiemkcaaGreat
open Go.RowKit
/-- As many as there are. -/
theorem nodup_le : ∀ (l m : List Int), l.Nodup → (∀ x, x ∈ l → x ∈ m) → l.length ≤ m.length
  | [], _, _, _ => Nat.zero_le _
  | x :: l, m, hn, hs => by
    have hx : x ∈ m := hs x (List.mem_cons_self ..)
    have h1 := nodup_le l (m.erase x) (List.nodup_cons.1 hn).2 fun y hy => (List.mem_erase_of_ne (fun e : y = x => (List.nodup_cons.1 hn).1 (e ▸ hy))).2 (hs y (List.mem_cons_of_mem _ hy))
    rw [List.length_erase_of_mem hx] at h1
    have := List.length_pos_of_mem hx
    simp only [List.length_cons]
    omega

theorem range_mem {n : Int} {k : Nat} (h0 : 0 ≤ n) (h1 : n < k) : n ∈ (List.range' 0 k).map fun (q : Nat) => (q : Int) := by
  refine List.mem_map.2 ⟨n.toNat, List.mem_range'_1.2 ⟨by omega, by omega⟩, by omega⟩

theorem range_le {l : List Int} {k : Nat} (hn : l.Nodup) (hr : ∀ n, n ∈ l → 0 ≤ n ∧ n < k) : l.length ≤ k := by
  have := nodup_le l ((List.range' 0 k).map fun (q : Nat) => (q : Int)) hn fun x hx => range_mem (hr x hx).1 (hr x hx).2
  simpa using this

theorem FreeAt.count {p : Plan} {ws l : List Int} {g : Int} (h : FreeAt p ws l g) (hn : 0 ≤ p.nodes) : (l.length : Int) ≤ p.nodes := by
  have := range_le (k := p.nodes.toNat) h.nodup fun n hn => by have := h.range n hn; omega
  omega

theorem Popped.ret {p : Plan} (hp : PF p) {ws : List Int} {w : Int} {i : Nat} (h : Popped p ws w i) {t : Int} (ht : 0 ≤ t ∧ t < p.threads) : RetAt p ws t [] := by
  obtain ⟨q1, q2, q3⟩ := rb_in hp ht
  have hr1 := hp.r1
  have ht1 := hp.t1
  exact ⟨h.zero _ q3 (by omega), by simp; omega, fun i hi => (by cases hi), fun _ h => (by cases h)⟩

/-- Retired nodes and free ones stay, where hazards alone are changed. -/
structure HzOnly (p : Plan) (ws ws' : List Int) : Prop where
  len : ws'.length = ws.length
  same : ∀ j, 0 ≤ j → ¬ (D.plan_Plan_hazards p ≤ j ∧ j < D.plan_Plan_hazards p + p.threads * 3) → rd ws' j = rd ws j

theorem HzOnly.refl {p : Plan} {ws : List Int} : HzOnly p ws ws := ⟨rfl, fun _ _ _ => rfl⟩

theorem HzOnly.set {p : Plan} (hp : PF p) {ws ws' : List Int} (h : HzOnly p ws ws') (hl : Len p ws) {i v : Int} (h0 : 0 ≤ i) (h1 : i < p.threads * 3) : HzOnly p ws (ws'.set (D.plan_Plan_hazards p + i).toNat v) := by
  obtain ⟨g1, g2, g3, g4⟩ := hz_in hp
  have hn1 := hp.n1
  have hl2 := h.len
  unfold Len at hl
  refine ⟨by rw [List.length_set, h.len], fun j hj hno => ?_⟩
  rw [rd_set (by omega) (by omega) hj, if_neg (by omega)]
  exact h.same j hj hno

theorem HzOnly.ret {p : Plan} (hp : PF p) {ws ws' : List Int} {t : Int} {r : List Int} (ht : 0 ≤ t ∧ t < p.threads) (h : HzOnly p ws ws') (hr : RetAt p ws t r) : RetAt p ws' t r := by
  obtain ⟨q1, q2, q3⟩ := rb_in hp ht
  exact hr.keep fun j h0 h1 => h.same j (by omega) (by omega)

theorem HzOnly.free {p : Plan} (hp : PF p) {ws ws' l : List Int} {g : Int} (h : HzOnly p ws ws') (hf : FreeAt p ws l g) : FreeAt p ws' l g := by
  obtain ⟨g1, g2, g3, g4⟩ := hz_in hp
  have ht1 := hp.t1
  refine hf.keep h.len (h.same 0 (by omega) (by omega)) fun n hn => ?_
  have := hf.range n hn
  exact h.same _ (by unfold nx; omega) (by unfold nx; omega)

theorem Scanned.hz {p : Plan} (hp : PF p) {t : Int} (ht : 0 ≤ t ∧ t < p.threads) {ws ws' r' out l : List Int} {g : Int} (h : Scanned p t ws ws' r' out l g) (hr : ∀ n, n ∈ out → 0 ≤ n) {j : Int} (h0 : 0 ≤ j) (h1 : j < p.threads * 3) : rd ws' (D.plan_Plan_hazards p + j) = rd ws (D.plan_Plan_hazards p + j) := by
  obtain ⟨g1, g2, g3, g4⟩ := hz_in hp
  obtain ⟨q1, q2, q3⟩ := rb_in hp ht
  exact h.others _ (by omega) (fun n hn => by have := hr n hn; unfold ofNode; omega) (by omega)

end Go.Proofs.YtphnnjiaiemkcaaGreat
