/- HazardClears: what the walk found answers as the law says. -/
import Derived.Test.YtphnnjiaiemkcaaHazx
import Derived.Test.YtphnnjiaiemkcaaLawHC
namespace Go.Proofs.Ytphnnjiaiemkcaa
open Go.RowKit
def slot (l : List Int) (t : Int) : Int := (l.getD t.toNat 0) % 3

theorem pure_HazardClears (p : Plan) (n : Int) (slots : List Int) (_ : -9223372036854775808 ≤ p.nodes ∧ p.nodes ≤ 9223372036854775807) (_ : -9223372036854775808 ≤ p.threads ∧ p.threads ≤ 9223372036854775807)
    (_ : -9223372036854775808 ≤ p.retire ∧ p.retire ≤ 9223372036854775807) (_ : -9223372036854775808 ≤ p.domains ∧ p.domains ≤ 9223372036854775807) (_ : -9223372036854775808 ≤ p.buckets ∧ p.buckets ≤ 9223372036854775807)
    (_ : -9223372036854775808 ≤ p.gen ∧ p.gen ≤ 9223372036854775807) (_ : -9223372036854775808 ≤ n ∧ n ≤ 9223372036854775807) (hsl : ∀ x, x ∈ slots → 0 ≤ x ∧ x ≤ 255) : ∃ fu, Wk.D.cubiclelaw10_HazardClears fu p n slots = some true := by
  refine ⟨2000, ?_⟩
  unfold Wk.D.cubiclelaw10_HazardClears
  rw [awake10]
  simp only [Option.bind_some, Bool.not_true, cond_false]
  cases hf : D.cubiclelaw10_fits p 0 0 n
  · rfl
  cases hn : decide (n < 0)
  case true => rfl
  cases hl : decide ((slots.length : Int) > 16)
  case true => rfl
  simp only [Bool.not_true, cond_false, Option.bind_some]
  obtain ⟨hp, hfw, _, _, _, hnn⟩ := fits_eq hf
  have hn : 0 ≤ n := by simpa using hn
  have hl : (slots.length : Int) ≤ 16 := by simpa using hl
  obtain ⟨g1, g2, g3, g4⟩ := hz_in hp
  have hn1 := hp.n1
  have ht1 := hp.t1
  have ht2 := hp.t2
  obtain ⟨M, hM, hL⟩ := laid_eq hp hfw (fu := 2000) (by omega)
  simp only [hM, Option.bind_some, Cap_eq]
  obtain ⟨K, hK⟩ : ∃ K : Nat, minI (slots.length : Int) p.threads = K ∧ (K : Int) ≤ p.threads ∧ K ≤ slots.length := by
    unfold minI
    split
    · exact ⟨p.threads.toNat, by omega, by omega, by omega⟩
    · exact ⟨slots.length, rfl, by omega, Nat.le_refl _⟩
  obtain ⟨hK, hKT, hKl⟩ := hK
  rw [hK]
  have hslot : ∀ t : Nat, t < K → getI slots (t : Int) = some (slots.getD t 0) ∧ IntKind.i64.wrap ((slots.getD t 0).tmod 3) = slot slots t ∧ 0 ≤ slot slots t ∧ slot slots t < 3 := by
    intro t ht
    have h1 : t < slots.length := by omega
    have h2 := hsl (slots.getD t 0) (by rw [List.getD_eq_getElem?_getD, List.getElem?_eq_getElem h1]; exact List.getElem_mem h1)
    have h3 : slot slots (t : Int) = (slots.getD t 0) % 3 := by simp [slot]
    refine ⟨?_, ?_, by omega, by omega⟩
    · rw [getI_nat h1, List.getD_eq_getElem?_getD, List.getElem?_eq_getElem h1]; rfl
    · rw [(tdiv3 h2.1).2, wrap_small (by omega) (by omega), h3]
  refine loop_inv (fun o => o = some true) (fun (i : Nat) (x : Int × Mem) => x.1 = (i : Int) ∧ Len p x.2.ws ∧ ∀ j, 0 ≤ j → j < p.threads * 3 → rd x.2.ws (D.plan_Plan_hazards p + j) = if j / 3 < (i : Int) ∧ j % 3 = slot slots (j / 3) then n + 1 else 0) K 2000
    ⟨rfl, hL.len, fun j h0 h1 => by rw [laid_hz hp hL h0 h1, if_neg (by omega)]⟩ (by omega) ?_ ?_
  · rintro i ⟨x, M⟩ hi ⟨rfl, hl, hz⟩
    simp only at hl hz ⊢
    obtain ⟨s1, s2, s3, s4⟩ := hslot i hi
    rw [show decide ((i : Int) < (K : Int)) = true from by simp; omega, s1]
    simp only [cond_true, Option.bind_some, s2]
    have hr := hset_runs hp hl (t := (i : Int)) (s := slot slots i) (n := n) (by omega) ⟨s3, s4⟩ (by omega)
    obtain ⟨c, hc⟩ := runU (most := 9) hr (by omega) (by omega) (by omega)
    rw [hc]
    refine ⟨_, rfl, ?_, by unfold Len at hl ⊢; simpa using hl, fun j h0 h1 => ?_⟩
    · simp only; rw [wrap_small (by omega) (by omega)]; omega
    · unfold Len at hl
      rw [rd_set (by omega) (by omega) (by omega)]
      by_cases e : D.plan_Plan_hazards p + j = D.plan_Plan_hazards p + (i : Int) * 3 + slot slots i
      · have hj : j / 3 = (i : Int) := by omega
        rw [if_pos e, if_pos ⟨by omega, by rw [hj]; omega⟩]
      · rw [if_neg e, hz j h0 h1]
        by_cases e2 : j / 3 < (i : Int) ∧ j % 3 = slot slots (j / 3)
        · rw [if_pos e2, if_pos ⟨by omega, e2.2⟩]
        · rw [if_neg e2, if_neg]
          rintro ⟨q1, q2⟩
          by_cases hj : j / 3 = (i : Int)
          · rw [hj] at q2; omega
          · exact e2 ⟨by omega, q2⟩
  rintro ⟨x, M1⟩ ⟨rfl, hl1, hz1⟩
  simp only at hl1 hz1 ⊢
  rw [show decide ((K : Int) < (K : Int)) = false from by simp]
  refine ⟨_, rfl, ?_⟩
  refine loop_inv (fun o => o = some true) (fun (i : Nat) (x : Bool × Int × Mem) => x.1 = false ∧ x.2.1 = (i : Int) ∧ Len p x.2.2.ws ∧ ∀ j, 0 ≤ j → j < p.threads * 3 → rd x.2.2.ws (D.plan_Plan_hazards p + j) = if (i : Int) ≤ j / 3 ∧ j / 3 < (K : Int) ∧ j % 3 = slot slots (j / 3) then n + 1 else 0) K 2000
    ⟨rfl, rfl, hl1, fun j h0 h1 => ?_⟩ (by omega) ?_ ?_
  · rw [hz1 j h0 h1]
    by_cases e : j / 3 < (K : Int) ∧ j % 3 = slot slots (j / 3)
    · rw [if_pos e, if_pos ⟨by omega, e.1, e.2⟩]
    · rw [if_neg e, if_neg (fun h => e ⟨h.2.1, h.2.2⟩)]
  · rintro i ⟨b, x, M⟩ hi ⟨rfl, rfl, hl, hz⟩
    simp only at hl hz ⊢
    obtain ⟨s1, s2, s3, s4⟩ := hslot i hi
    rw [show decide ((i : Int) < (K : Int)) = true from by simp; omega]
    simp only [cond_true, Option.bind_some]
    obtain ⟨m, hm, hr⟩ := held_yes hp hl (n := n) (by omega) (p.threads * 3).toNat 0 (2000 + 1) (by omega) (by omega) (by omega) ⟨(i : Int) * 3 + slot slots i, by omega, by omega, by
      have hj : ((i : Int) * 3 + slot slots i) / 3 = (i : Int) := by omega
      rw [hz _ (by omega) (by omega), if_pos ⟨by omega, by omega, by rw [hj]; omega⟩]⟩
    obtain ⟨c, hc⟩ := runB (most := 99) hr (by omega) (by omega) (by omega)
    rw [show D.hazard_Held (2000 + 1) p n = D.hazard_held (2000 + 1) p n 0 from rfl, hc]
    simp only [Option.bind_some, Bool.not_true, cond_false]
    obtain ⟨ws', hr2, hl2, hw2⟩ := clear_runs hp (t := (i : Int)) (by omega) 3 0 (2000 + 1) M.ws (by omega) (by omega) (by omega) hl
    obtain ⟨c2, hc2⟩ := runU (most := 9) (M := ⟨M.ws, c⟩) hr2 (by omega) (by omega) (by omega)
    rw [show D.hazard_Clear (2000 + 1) p (i : Int) = D.hazard_clear (2000 + 1) p (i : Int) 0 from rfl, hc2]
    refine ⟨_, rfl, rfl, ?_, hl2, fun j h0 h1 => ?_⟩
    · simp only; rw [wrap_small (by omega) (by omega)]; omega
    · simp only
      rw [hw2 _ (by omega)]
      by_cases e : D.plan_Plan_hazards p + (i : Int) * 3 + 0 ≤ D.plan_Plan_hazards p + j ∧ D.plan_Plan_hazards p + j < D.plan_Plan_hazards p + (i : Int) * 3 + 3
      · rw [if_pos e, if_neg (by omega)]
      · rw [if_neg e, hz j h0 h1]
        by_cases e2 : (i : Int) ≤ j / 3 ∧ j / 3 < (K : Int) ∧ j % 3 = slot slots (j / 3)
        · rw [if_pos e2, if_pos ⟨by omega, e2.2.1, e2.2.2⟩]
        · rw [if_neg e2, if_neg (fun h => e2 ⟨by omega, h.2.1, h.2.2⟩)]
  rintro ⟨b, x, M2⟩ ⟨rfl, rfl, hl2, hz2⟩
  simp only at hl2 hz2 ⊢
  rw [show decide ((K : Int) < (K : Int)) = false from by simp]
  refine ⟨_, rfl, ?_⟩
  have hr := held_no hp hl2 (n := n) (by omega) (p.threads * 3).toNat 0 (2000 + 1) (by omega) (by omega) (by omega) fun j h0 h1 => by
    rw [hz2 j h0 h1, if_neg (by omega)]; omega
  obtain ⟨c, hc⟩ := runB (most := 99) hr (by omega) (by omega) (by omega)
  simp only [Option.bind_some]
  rw [show D.hazard_Held (2000 + 1) p n = D.hazard_held (2000 + 1) p n 0 from rfl, hc]
  simp only [Option.bind_some, Bool.not_false, cond_true]
  rw [wrap_small (by omega) (by omega)]
  show some _ = some true
  congr 1
  simp
  omega
end Go.Proofs.Ytphnnjiaiemkcaa
