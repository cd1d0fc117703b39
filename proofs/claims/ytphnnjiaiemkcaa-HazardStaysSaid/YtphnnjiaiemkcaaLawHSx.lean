/- HazardStays: what the walk found answers as the law says. -/
import Derived.Test.YtphnnjiaiemkcaaHazx
import Derived.Test.YtphnnjiaiemkcaaLawHS
namespace Go.Proofs.Ytphnnjiaiemkcaa
open Go.RowKit
theorem pure_HazardStays (x : Stay) (_ : -9223372036854775808 ≤ x.p.nodes ∧ x.p.nodes ≤ 9223372036854775807) (_ : -9223372036854775808 ≤ x.p.threads ∧ x.p.threads ≤ 9223372036854775807)
    (_ : -9223372036854775808 ≤ x.p.retire ∧ x.p.retire ≤ 9223372036854775807) (_ : -9223372036854775808 ≤ x.p.domains ∧ x.p.domains ≤ 9223372036854775807) (_ : -9223372036854775808 ≤ x.p.buckets ∧ x.p.buckets ≤ 9223372036854775807)
    (_ : -9223372036854775808 ≤ x.p.gen ∧ x.p.gen ≤ 9223372036854775807) (_ : -9223372036854775808 ≤ x.thread ∧ x.thread ≤ 9223372036854775807) (_ : -9223372036854775808 ≤ x.slot ∧ x.slot ≤ 9223372036854775807) (hw : 0 ≤ x.w ∧ x.w ≤ 18446744073709551615) :
    ∃ fu, Wk.D.cubiclelaw10_HazardStays fu x = some true := by
  refine ⟨2000, ?_⟩
  obtain ⟨p, t, s, w⟩ := x
  simp only at *
  unfold Wk.D.cubiclelaw10_HazardStays
  rw [awake10]
  simp only [Option.bind_some, Bool.not_true, cond_false]
  cases hf : D.cubiclelaw10_fits p t s 0
  · rfl
  simp only [Bool.not_true, cond_false]
  obtain ⟨hp, hfw, ht, hs, _, _⟩ := fits_eq hf
  obtain ⟨g1, g2, g3, g4⟩ := hz_in hp
  have hn1 := hp.n1
  obtain ⟨M, hM, hL⟩ := laid_eq hp hfw (fu := 2000) (by omega)
  obtain ⟨v, hv⟩ : ∃ v, v = w.tmod 1099511627776 := ⟨_, rfl⟩
  have hv2 : v = w % 1099511627776 := hv.trans (Int.tmod_eq_emod_of_nonneg hw.1)
  have hl := hL.len
  have hF : D.plan_Plan_Field p 0 1 = D.plan_Plan_nodes p + 3 := by rw [Field_eq hp, if_pos (by omega)]; omega
  simp only [hM, Option.bind_some, Cap_eq, ← hv, hF]
  obtain ⟨c, hc⟩ := Do_ok (fu := 2000) (M := M) (op := 1) (a := v) (b := 0) (by omega) (getI_rd (ws := M.ws) (i := D.plan_Plan_nodes p + 3) (by omega) (by omega))
  rw [show acted 1 (D.plan_Plan_nodes p + 3) v 0 (rd M.ws (D.plan_Plan_nodes p + 3)) M.ws = M.ws.set (D.plan_Plan_nodes p + 3).toNat v from by simp [acted]] at hc
  simp only [hc, Option.bind_some]
  obtain ⟨ws, hws⟩ : ∃ ws, ws = M.ws.set (D.plan_Plan_nodes p + 3).toNat v := ⟨_, rfl⟩
  rw [← hws]
  have hl1 : Len p ws := by rw [hws]; unfold Len; simpa using hl
  have hr1 : rd ws (D.plan_Plan_nodes p + 3) = v := by rw [hws, rd_set (by omega) (by omega) (by omega), if_pos rfl]
  have hz : rd ws (D.plan_Plan_hazards p + t * 3 + s) = 0 := by
    rw [hws, rd_set (by omega) (by omega) (by omega), if_neg (by omega)]
    have := laid_hz hp hL (j := t * 3 + s) (by omega) (by omega)
    rw [← Int.add_assoc] at this
    exact this
  have hnm := named_eq (w := v) (sh := 1) (by omega) (by omega) (by omega)
  rw [show (2 : Int) ^ (1 : Int).toNat = 2 from rfl] at hnm
  obtain ⟨q1, q2⟩ := guard_runs hp hl1 (sh := 1) ht hs (at_ := D.plan_Plan_nodes p + 3) (by omega) (by omega) (by omega) (w := v) (by omega) (by omega) (by omega) hr1 2000
  rw [show (2 : Int) ^ (1 : Int).toNat = 2 from rfl] at q1 q2
  have hH : D.plan_Plan_Hazard p t s = D.plan_Plan_hazards p + t * 3 + s := by rw [Hazard_eq hp, if_pos ⟨ht, hs⟩]
  have hg : D.hazard_Guard (2000 + 1) p t s (D.plan_Plan_nodes p + 3) 1 = .act 0 (D.plan_Plan_nodes p + 3) 0 0 (fun x => D.hazard_guard (2000 + 1) p t s (D.plan_Plan_nodes p + 3) 1 x) := rfl
  unfold Len at hl1
  rw [hnm, hg, hH]
  by_cases e : v / 2 - 1 < 0
  · have hrun : Runs (.act 0 (D.plan_Plan_nodes p + 3) 0 0 (fun x => D.hazard_guard (2000 + 1) p t s (D.plan_Plan_nodes p + 3) 1 x)) ws (0 + 1) v ws := .load (by omega) (by omega) (by rw [hr1]; exact q1 e)
    obtain ⟨c2, hc2⟩ := runW (most := 9) (M := ⟨ws, c⟩) hrun (by omega) (by omega) (by omega)
    rw [hc2, show decide (v / 2 - 1 < 0) = true from by simpa using e]
    simp only [Option.bind_some, cond_true]
    rw [show (v == v) = true from by simp, show (((0 + 1 : Nat) : Int) == 1) = true from rfl, Peek_eq (by omega) (by simp only; omega), hz]
    rfl
  · have hl2 : ((ws.set (D.plan_Plan_hazards p + t * 3 + s).toNat (v / 2)).length : Int) = D.plan_Plan_Size p := by simpa using hl1
    have hrun : Runs (.act 0 (D.plan_Plan_nodes p + 3) 0 0 (fun x => D.hazard_guard (2000 + 1) p t s (D.plan_Plan_nodes p + 3) 1 x)) ws (2 + 1) v (ws.set (D.plan_Plan_hazards p + t * 3 + s).toNat (v / 2)) := .load (by omega) (by omega) (by rw [hr1]; exact q2 e)
    obtain ⟨c2, hc2⟩ := runW (most := 9) (M := ⟨ws, c⟩) hrun (by omega) (by omega) (by omega)
    rw [hc2, show decide (v / 2 - 1 < 0) = false from by simpa using e]
    simp only [Option.bind_some, cond_false]
    rw [show (v == v) = true from by simp, show (((2 + 1 : Nat) : Int) == 3) = true from rfl, Peek_eq (by omega) (by simp only; omega)]
    simp only [cond_true, Option.bind_some]
    rw [rd_set (by omega) (by omega) (by omega), if_pos rfl, wrap_id (x := v / 2 - 1 + 1) (by omega) (by omega), wrapu_id (by omega) (by omega)]
    show some _ = some true
    congr 1
    simp
end Go.Proofs.Ytphnnjiaiemkcaa
