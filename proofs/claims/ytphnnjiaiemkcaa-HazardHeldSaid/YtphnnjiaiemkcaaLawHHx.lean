/- HazardHeld: what the walk found answers as the law says. -/
import Derived.Test.YtphnnjiaiemkcaaHazx
import Derived.Test.YtphnnjiaiemkcaaLawHH
namespace Go.Proofs.Ytphnnjiaiemkcaa
open Go.RowKit
/-- The first of some words that is x: whether there is one, and how many were looked at. -/
def hf (H : Int → Int) (x : Int) : Nat → Int → Bool × Nat
  | 0, _ => (false, 0)
  | d + 1, i => if H i = x then (true, 1) else ((hf H x d (i + 1)).1, (hf H x d (i + 1)).2 + 1)
theorem hf_le (H : Int → Int) (x : Int) : ∀ d i, (hf H x d i).2 ≤ d ∧ ((hf H x d i).1 = false → (hf H x d i).2 = d)
  | 0, i => ⟨Nat.le_refl _, fun _ => rfl⟩
  | d + 1, i => by
    unfold hf
    obtain ⟨h1, h2⟩ := hf_le H x d (i + 1)
    split
    · exact ⟨by omega, fun h => by cases h⟩
    · exact ⟨Nat.succ_le_succ h1, fun h => congrArg (· + 1) (h2 h)⟩
theorem hf_congr {H H' : Int → Int} {x : Int} : ∀ (d : Nat) (i : Int), (∀ j, i ≤ j → j < i + d → H j = H' j) → hf H x d i = hf H' x d i
  | 0, _, _ => rfl
  | d + 1, i, h => by
    unfold hf
    rw [h i (Int.le_refl _) (by omega), hf_congr d (i + 1) fun j h1 h2 => h j (by omega) (by omega)]
theorem held_exact {p : Plan} (hp : PF p) {ws : List Int} (hl : Len p ws) {n : Int} (hn : -1 ≤ n ∧ n ≤ 1000000) : ∀ (d : Nat) (i : Int) (k : Nat), i + d = p.threads * 3 → 0 ≤ i → d < k →
    Runs (D.hazard_held k p n i) ws (hf (fun j => rd ws (D.plan_Plan_hazards p + j)) (n + 1) d i).2 (hf (fun j => rd ws (D.plan_Plan_hazards p + j)) (n + 1) d i).1 ws := by
  obtain ⟨g1, g2, g3, g4⟩ := hz_in hp
  have hn1 := hp.n1
  have ht2 := hp.t2
  intro d
  induction d with
  | zero =>
    intro i k hi _ hk
    exact held_no hp hl (by omega) 0 i k hi (by omega) hk fun j h1 h2 => by omega
  | succ d ih =>
    intro i k hi h0 hk
    obtain ⟨k, rfl⟩ : ∃ q, k = q + 1 := ⟨k - 1, by omega⟩
    have hb : D.hazard_held (k + 1) p n i = .act 0 (D.plan_Plan_hazards p + i) 0 0 (fun x => D.hazard_held_1 (D.hazard_held k) n p i x) := by
      show D.hazard_held_body (D.hazard_held k) p n i = _
      unfold D.hazard_held_body
      rw [wrap_small (show -1000000 ≤ p.threads * 3 by omega) (by omega), show (i == p.threads * 3) = false from by simp; omega, hz_at hp h0 (by omega)]
      rfl
    unfold Len at hl
    unfold hf
    by_cases e : rd ws (D.plan_Plan_hazards p + i) = n + 1
    · simp only [e, if_true]
      rw [hb]
      refine .load (by omega) (by omega) ?_
      unfold D.hazard_held_1
      rw [word_eq hn.1 (by omega), e, show (n + 1 == n + 1) = true from by simp]
      exact .done _ _
    · simp only [e, if_false]
      rw [hb]
      refine .load (by omega) (by omega) ?_
      unfold D.hazard_held_1
      rw [word_eq hn.1 (by omega), show (rd ws (D.plan_Plan_hazards p + i) == n + 1) = false from by simpa using e, wrap_small (by omega) (by omega)]
      exact ih (i + 1) k (by omega) (by omega) (by omega)
theorem ref_held {fu : Nat} {w : List Int} {n : Int} (hw : w.length ≤ 1000) (hf' : w.length < fu) (hn : -1 ≤ n ∧ n ≤ 1000000) : D.cubicleref10_Held fu w n = some ((hf (rd w) (n + 1) w.length 0).1, ((hf (rd w) (n + 1) w.length 0).2 : Int)) := by
  have hx : IntKind.u64.wrap (IntKind.i64.wrap (n + 1)) = n + 1 := by
    rw [wrap_id (x := n + 1) (by omega) (by omega), wrapu_id (by omega) (by omega)]
  have key : ∀ (d : Nat) (i : Nat) (k : Nat), i + d = w.length → d < k → (runLoop (fun (x1 : Bool × Int × Int) => (bif (decide (x1.2.2 < (w.length : Int))) then ((getI w x1.2.2).bind (fun (x6 : Int) => (bif (x6 == (IntKind.u64.wrap (IntKind.i64.wrap (n + 1)))) then (some (Lp.ret (true, (IntKind.i64.wrap (x1.2.2 + 1))))) else (some (Lp.next (x1.1, x1.2.1, (IntKind.i64.wrap (x1.2.2 + 1)))))))) else (some (Lp.brk (x1.1, x1.2.1, x1.2.2))))) k (false, 0, (i : Int))).bind (afterLoop fun _ => some (false, (w.length : Int))) =
      some (if (hf (rd w) (n + 1) d i).1 then (true, (i : Int) + (hf (rd w) (n + 1) d i).2) else (false, (w.length : Int))) := by
    intro d
    induction d with
    | zero =>
      intro i k hi hk
      obtain ⟨k, rfl⟩ : ∃ q, k = q + 1 := ⟨k - 1, by omega⟩
      simp only [runLoop]
      rw [show decide ((i : Int) < (w.length : Int)) = false from by simp; omega]
      rfl
    | succ d ih =>
      intro i k hi hk
      obtain ⟨k, rfl⟩ : ∃ q, k = q + 1 := ⟨k - 1, by omega⟩
      simp only [runLoop, hx]
      rw [show decide ((i : Int) < (w.length : Int)) = true from by simp; omega, getI_rd (by omega) (by omega)]
      simp only [cond_true, Option.bind_some]
      unfold hf
      by_cases e : rd w (i : Int) = n + 1
      · rw [show (rd w (i : Int) == n + 1) = true from by simpa using e, wrap_small (by omega) (by omega)]
        simp [goOn, afterLoop, e]
      · rw [show (rd w (i : Int) == n + 1) = false from by simpa using e, wrap_small (by omega) (by omega)]
        have := ih (i + 1) k (by omega) (by omega)
        simp only [hx] at this
        simp only [cond_false, Option.bind_some, goOn, e, if_false]
        rw [show ((i : Int) + 1) = ((i + 1 : Nat) : Int) from by omega, this]
        congr 1
        split
        · congr 1; omega
        · rfl
  unfold D.cubicleref10_Held loopThen
  have h0 := key w.length 0 fu (by omega) hf'
  rw [show ((0 : Nat) : Int) = 0 from rfl] at h0
  rw [h0]
  obtain ⟨h1, h2⟩ := hf_le (rd w) (n + 1) w.length 0
  cases hb : (hf (rd w) (n + 1) w.length 0).1
  · rw [h2 hb]; rfl
  · simp

theorem pure_HazardHeld (p : Plan) (l : List Put) (n : Int) (_ : -9223372036854775808 ≤ p.nodes ∧ p.nodes ≤ 9223372036854775807) (_ : -9223372036854775808 ≤ p.threads ∧ p.threads ≤ 9223372036854775807)
    (_ : -9223372036854775808 ≤ p.retire ∧ p.retire ≤ 9223372036854775807) (_ : -9223372036854775808 ≤ p.domains ∧ p.domains ≤ 9223372036854775807) (_ : -9223372036854775808 ≤ p.buckets ∧ p.buckets ≤ 9223372036854775807)
    (_ : -9223372036854775808 ≤ p.gen ∧ p.gen ≤ 9223372036854775807) (_ : ∀ x, x ∈ l → (-9223372036854775808 ≤ x.thread ∧ x.thread ≤ 9223372036854775807) ∧ (-9223372036854775808 ≤ x.slot ∧ x.slot ≤ 9223372036854775807) ∧ -9223372036854775808 ≤ x.n ∧ x.n ≤ 9223372036854775807)
    (_ : -9223372036854775808 ≤ n ∧ n ≤ 9223372036854775807) : ∃ fu, Wk.D.cubiclelaw10_HazardHeld fu p l n = some true := by
  refine ⟨2000, ?_⟩
  unfold Wk.D.cubiclelaw10_HazardHeld
  rw [awake10]
  simp only [Option.bind_some, Bool.not_true, cond_false]
  cases hll : decide ((l.length : Int) > 30)
  case true => rfl
  cases hf0 : D.cubiclelaw10_fits p 0 0 n
  · rfl
  cases hn : decide (n < 0)
  case true => rfl
  simp only [Bool.not_true, cond_false, Option.bind_some]
  obtain ⟨hp, hfw, _, _, _, hnn⟩ := fits_eq hf0
  have hn : 0 ≤ n := by simpa using hn
  have hll : (l.length : Int) ≤ 30 := by simpa using hll
  obtain ⟨g1, g2, g3, g4⟩ := hz_in hp
  have hn1 := hp.n1
  have ht1 := hp.t1
  have ht2 := hp.t2
  obtain ⟨M, hM, hL⟩ := laid_eq hp hfw (fu := 2000) (by omega)
  rw [wrap_small (show -1000000 ≤ 3 * p.threads by omega) (by omega)]
  have hmk : makeD (0 : Int) (3 * p.threads) = some (List.replicate (3 * p.threads).toNat 0) := by
    unfold makeD; rw [if_pos (by omega)]
  simp only [hM, hmk, Option.bind_some, Cap_eq]
  have hrep : ∀ j : Int, rd (List.replicate (3 * p.threads).toNat (0 : Int)) j = 0 := fun j => by
    unfold rd
    rw [List.getD_eq_getElem?_getD, List.getElem?_replicate]
    split <;> rfl
  refine loop_inv (fun o => o = some true) (fun (i : Nat) (x : Bool × List Int × Int × Mem) => x.1 = false ∧ x.2.2.1 = (i : Int) ∧ x.2.1.length = (3 * p.threads).toNat ∧ Len p x.2.2.2.ws ∧ ∀ j, 0 ≤ j → j < p.threads * 3 → rd x.2.2.2.ws (D.plan_Plan_hazards p + j) = rd x.2.1 j) l.length 2000
    ⟨rfl, rfl, by simp, hL.len, fun j h0 h1 => by rw [laid_hz hp hL h0 h1, hrep]⟩ (by omega) ?_ ?_
  · rintro i ⟨b, w, x, M⟩ hi ⟨rfl, rfl, hwl, hl, hz⟩
    simp only at hwl hl hz ⊢
    rw [show decide ((i : Int) < (l.length : Int)) = true from by simp; omega, getI_nat hi]
    simp only [cond_true, Option.bind_some]
    have hw1 : IntKind.i64.wrap ((i : Int) + 1) = ((i + 1 : Nat) : Int) := by rw [wrap_small (by omega) (by omega)]; omega
    rw [hw1]
    cases hft : D.cubiclelaw10_fits p l[i].thread l[i].slot l[i].n
    · exact ⟨_, rfl, rfl, rfl, hwl, hl, hz⟩
    obtain ⟨_, _, ht, hs, hq0, hq1⟩ := fits_eq hft
    simp only [Bool.not_true, cond_false]
    obtain ⟨c, hc⟩ := runU (most := 9) (M := M) (hset_runs hp hl ht hs (n := l[i].n) (by omega)) (by omega) (by omega) (by omega)
    rw [hc, wrap_small (show -1000000 ≤ 3 * l[i].thread by omega) (by omega), wrap_small (show -1000000 ≤ 3 * l[i].thread + l[i].slot by omega) (by omega)]
    simp only [Option.bind_some]
    rw [getI_rd (ws := w) (i := 3 * l[i].thread + l[i].slot) (by omega) (by omega), wrap_small (show -1000000 ≤ l[i].n + 1 by omega) (by omega), wrapu_id (x := l[i].n + 1) (by omega) (by omega)]
    refine ⟨_, rfl, rfl, rfl, by simpa using hwl, by unfold Len at hl ⊢; simpa using hl, fun j h0 h1 => ?_⟩
    unfold Len at hl
    simp only
    rw [rd_set (by omega) (by omega) (by omega), rd_set (by omega) (by omega) h0]
    by_cases e : j = 3 * l[i].thread + l[i].slot
    · rw [if_pos (by omega), if_pos e]
    · rw [if_neg (by omega), if_neg e]; exact hz j h0 h1
  rintro ⟨b, w, x, M1⟩ ⟨rfl, rfl, hwl, hl1, hz1⟩
  simp only at hwl hl1 hz1 ⊢
  rw [show decide ((l.length : Int) < (l.length : Int)) = false from by simp]
  refine ⟨_, rfl, ?_⟩
  have hr := held_exact hp hl1 (n := n) (by omega) (p.threads * 3).toNat 0 (2000 + 1) (by omega) (by omega) (by omega)
  have hle := (hf_le (fun j => rd M1.ws (D.plan_Plan_hazards p + j)) (n + 1) (p.threads * 3).toNat 0).1
  obtain ⟨c, hc⟩ := runB (most := 200) hr (by omega) (by omega) (by omega)
  have hcg := hf_congr (H := fun j => rd M1.ws (D.plan_Plan_hazards p + j)) (H' := rd w) (x := n + 1) (p.threads * 3).toNat 0 fun j h0 h1 => hz1 j h0 (by omega)
  simp only
  rw [show D.hazard_Held (2000 + 1) p n = D.hazard_held (2000 + 1) p n 0 from rfl, hc, ref_held (w := w) (by omega) (by omega) (by omega), hcg, show (p.threads * 3).toNat = w.length from by omega]
  obtain ⟨ws', hr2, hl2, hw2⟩ := clear_runs hp (t := p.threads - 1) (by omega) 3 0 (2000 + 1) M1.ws (by omega) (by omega) (by omega) hl1
  obtain ⟨c2, hc2⟩ := runU (most := 9) (M := ⟨M1.ws, c⟩) hr2 (by omega) (by omega) (by omega)
  simp only [Option.bind_some]
  rw [wrap_small (show -1000000 ≤ p.threads - 1 by omega) (by omega), show D.hazard_Clear (2000 + 1) p (p.threads - 1) = D.hazard_clear (2000 + 1) p (p.threads - 1) 0 from rfl, hc2]
  simp only [Option.bind_some, bne_self_eq_false, cond_false, Bool.not_true]
  rw [show (((3 : Nat) : Int) != 3) = false from rfl]
  simp only [cond_false, Option.bind_some]
  unfold Len at hl2
  refine loop_inv (fun o => o = some true) (fun (t : Nat) (x : Bool × Int) => x = (false, (t : Int))) p.threads.toNat 2000 rfl (by omega) ?_ ?_
  · rintro t x ht rfl
    simp only
    rw [show decide ((t : Int) < p.threads) = true from by simp; omega]
    simp only [cond_true]
    refine loop_inv (fun (o : Option (Lp (Bool × Int) Bool)) => ∃ x', o = some (Lp.next x') ∧ x' = (false, ((t + 1 : Nat) : Int))) (fun (i : Nat) (x : Bool × Int) => x = (false, (i : Int))) 3 2000 rfl (by omega) ?_ ?_
    · rintro i x hi rfl
      simp only
      rw [show decide ((i : Int) < 3) = true from by simp; omega]
      simp only [cond_true]
      have hH : D.plan_Plan_Hazard p (t : Int) (i : Int) = D.plan_Plan_hazards p + (t : Int) * 3 + i := by rw [Hazard_eq hp, if_pos (by omega)]
      rw [hH, Peek_eq (by omega) (by simp only; omega)]
      simp only [Option.bind_some]
      rw [hw2 _ (by omega), wrap_small (show -1000000 ≤ (i : Int) + 1 by omega) (by omega)]
      by_cases e : (t : Int) = p.threads - 1
      · rw [if_pos (by omega), show ((t : Int) == p.threads - 1) = true from by simpa using e, show decide ((t : Int) < p.threads - 1) = false from by simp; omega]
        exact ⟨_, rfl, by simp⟩
      · rw [if_neg (by omega), show ((t : Int) == p.threads - 1) = false from by simpa using e, show decide ((t : Int) < p.threads - 1) = true from by simp; omega,
          wrap_small (show -1000000 ≤ 3 * (t : Int) by omega) (by omega), wrap_small (show -1000000 ≤ 3 * (t : Int) + i by omega) (by omega), getI_rd (ws := w) (i := 3 * (t : Int) + i) (by omega) (by omega)]
        have hq := hz1 (3 * (t : Int) + i) (by omega) (by omega)
        rw [show D.plan_Plan_hazards p + (3 * (t : Int) + i) = D.plan_Plan_hazards p + (t : Int) * 3 + i from by omega] at hq
        rw [hq]
        simp only [cond_false, cond_true, Option.bind_some, bne_self_eq_false]
        exact ⟨_, rfl, by simp⟩
    · rintro x rfl
      simp only
      rw [wrap_small (show -1000000 ≤ (t : Int) + 1 by omega) (by omega)]
      exact ⟨_, rfl, _, rfl, by simp⟩
  · rintro x rfl
    simp only
    rw [show decide (((p.threads.toNat : Nat) : Int) < p.threads) = false from by simp; omega]
    exact ⟨_, rfl, trivial⟩
end Go.Proofs.Ytphnnjiaiemkcaa
