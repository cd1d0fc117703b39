/- FreeAlone: what the walk found answers as the law says. -/
import Derived.Test.YtphnnjiaiemkcaaFaRef9x
import Derived.Test.YtphnnjiaiemkcaaFaLawFA
namespace Go.Proofs.Ytphnnjiaiemkcaa
open Go.RowKit
theorem pure_FreeAlone (p : Plan) (pops : List Bool) (_ : -9223372036854775808 ≤ p.nodes ∧ p.nodes ≤ 9223372036854775807) (_ : -9223372036854775808 ≤ p.threads ∧ p.threads ≤ 9223372036854775807)
    (_ : -9223372036854775808 ≤ p.retire ∧ p.retire ≤ 9223372036854775807) (_ : -9223372036854775808 ≤ p.domains ∧ p.domains ≤ 9223372036854775807) (_ : -9223372036854775808 ≤ p.buckets ∧ p.buckets ≤ 9223372036854775807)
    (_ : -9223372036854775808 ≤ p.gen ∧ p.gen ≤ 9223372036854775807) : ∃ fu, Wk.D.cubiclelaw09_FreeAlone fu p pops = some true := by
  refine ⟨2000, ?_⟩
  unfold Wk.D.cubiclelaw09_FreeAlone
  rw [awake09]
  simp only [Option.bind_some, Bool.not_true, cond_false]
  cases hf : D.cubicleref06_Few p
  · rfl
  cases hg : D.cubicleref06_Formed p
  · rfl
  cases hl : decide ((pops.length : Int) > 60)
  case true => rfl
  simp only [Bool.not_true, cond_false, Option.bind_some]
  have hp := ref_formed hg
  have hfw := ref_few hp hf
  have hl : (pops.length : Int) ≤ 60 := by simpa using hl
  have hn1 := hp.n1
  have hN := nodes_le hp
  have hS := Size_eq hp
  obtain ⟨M, hM, hL⟩ := laid_eq hp hfw (fu := 2000) (by omega)
  have h0 := laid_free hp hL
  rw [fresh_ref (by omega) (by omega) (by omega)]
  simp only [hM, Option.bind_some, Cap_eq]
  refine loop_inv (fun o => o = some true) (fun (i : Nat) (x : Bool × List Int × List Int × Int × Mem) => x.2.2.2.1 = (i : Int) ∧ ∃ g, g ≤ i ∧ FreeAt p x.2.2.2.2.ws x.2.1 g ∧ Parted p x.2.1 x.2.2.1) pops.length 2000
    ⟨rfl, 0, by omega, h0, Parted.start hp h0⟩ (by omega) ?_ ?_
  · rintro i ⟨b0, l, mine, x, M⟩ hi ⟨rfl, g, hgi, hF, hP⟩
    simp only at hgi hF hP ⊢
    have g0 := hF.g0
    have hlen := hP.len
    rw [show decide ((i : Int) < (pops.length : Int)) = true from by simp; omega, getI_nat hi, wrap_small (show -1000000 ≤ (i : Int) + 1 by omega) (by omega)]
    simp only [cond_true, Option.bind_some]
    cases hb : pops[i]
    · simp only [cond_false]
      rcases List.eq_nil_or_concat mine with rfl | ⟨ms, m, rfl⟩
      · rw [show decide ((([] : List Int).length : Int) > 0) = false from rfl]
        simp only [cond_false]
        rw [list_eq hp hF (by omega) (by omega) (by omega) (by omega)]
        simp only [Option.bind_some]
        rw [same_refl (by omega) (by omega)]
        exact ⟨_, rfl, by simp, g, by omega, hF, hP⟩
      · rw [List.concat_eq_append] at hP hlen ⊢
        have hml : ms.length ≤ 60 := by simp at hlen; omega
        rw [show decide (((ms ++ [m]).length : Int) > 0) = true from by simp only [List.length_append, List.length_singleton, decide_eq_true_eq]; omega, getI_last (by omega), slice_last (by omega)]
        simp only [cond_true, Option.bind_some]
        have hm := hP.range m (by simp)
        obtain ⟨hP2, hno⟩ := hP.pushLast
        obtain ⟨ws', hr, hF2, _⟩ := push_runs hp hF (by omega) (by omega) hm hno 2000
        obtain ⟨c, hc⟩ := runI (most := 9) hr (by omega) (by omega) (by omega)
        rw [hc, push_ref (by omega)]
        simp only [Option.bind_some]
        have hlen2 := hP2.len
        rw [show (m != m) = false from by simp, list_eq hp (M := ⟨ws', c⟩) hF2 (by omega) (by omega) (by omega) (by omega)]
        rw [show (((3 : Nat) : Int) != 3) = false from rfl]
        simp only [Bool.not_true, cond_false, Option.bind_some]
        rw [same_refl (by omega) (by omega)]
        exact ⟨_, rfl, by simp, g + 1, by omega, hF2, hP2⟩
    · simp only [cond_true]
      cases l with
      | nil =>
        obtain ⟨c, hc⟩ := runI (most := 9) (pop_none hp hF (by omega) 2000) (by omega) (by omega) (by omega)
        rw [hc, pop_ref_nil]
        simp only [Option.bind_some]
        rw [show ((-1 : Int) != -1) = false from rfl, show decide ((-1 : Int) ≥ 0) = false from rfl, show decide ((-1 : Int) < 0) = true from rfl, show (((1 : Nat) : Int) != 3) = true from rfl, show (((1 : Nat) : Int) != 1) = false from rfl]
        simp only [Bool.not_true, cond_false, cond_true, Option.bind_some]
        rw [list_eq hp (M := ⟨M.ws, c⟩) hF (by omega) (by simp; omega) (by omega) (by omega)]
        simp only [Option.bind_some]
        rw [same_refl (by simp) (by simp)]
        exact ⟨_, rfl, by simp, g, by omega, hF, hP⟩
      | cons n l =>
        have hn := hF.range n (List.mem_cons_self ..)
        obtain ⟨hr, hF2⟩ := pop_runs hp hF (by omega) (by omega) 2000
        obtain ⟨c, hc⟩ := runI (most := 9) hr (by omega) (by omega) (by omega)
        have hll : l.length ≤ 60 := by simp at hlen; omega
        rw [hc, pop_ref_cons (by omega)]
        simp only [Option.bind_some]
        have ha : appD mine [n] = some (mine ++ [n]) := by unfold appD; rw [if_pos (by simp only [Modest2, List.length_singleton]; simp at hlen; omega)]
        rw [show (n != n) = false from by simp, show decide (n ≥ 0) = true from by simp; omega, show decide (n < 0) = false from by simp; omega, show (((3 : Nat) : Int) != 3) = false from rfl]
        simp only [Bool.not_true, cond_false, cond_true, Option.bind_some, ha]
        rw [list_eq hp (M := ⟨_, c⟩) hF2 (by omega) (by simp at hlen; omega) (by omega) (by omega)]
        simp only [Option.bind_some]
        rw [same_refl (by omega) (by omega)]
        exact ⟨_, rfl, by simp, g + 1, by omega, hF2, hP.pop hn⟩
  rintro ⟨b0, l, mine, x, M2⟩ ⟨rfl, g, hgi, hF, hP⟩
  simp only at hgi hF hP ⊢
  rw [show decide ((pops.length : Int) < (pops.length : Int)) = false from by simp]
  refine ⟨_, rfl, ?_⟩
  simp only
  obtain ⟨c, hc⟩ := runI (most := 9) (push_bad hp (ws := M2.ws) (n := p.nodes) (by omega) 2000) (by omega) (by omega) (by omega)
  rw [hc]
  rfl

end Go.Proofs.Ytphnnjiaiemkcaa
