/- RetireReclaims: what the walk found answers as the law says. -/
import Derived.Test.YtphnnjiaiemkcaaRrRecx
import Derived.Test.YtphnnjiaiemkcaaRrLawRR
namespace Go.Proofs.Ytphnnjiaiemkcaa
open Go.RowKit
theorem pure_RetireReclaims (p : Plan) (n : Int) (s : State) (_ : -9223372036854775808 ≤ p.nodes ∧ p.nodes ≤ 9223372036854775807) (_ : -9223372036854775808 ≤ p.threads ∧ p.threads ≤ 9223372036854775807)
    (_ : -9223372036854775808 ≤ p.retire ∧ p.retire ≤ 9223372036854775807) (_ : -9223372036854775808 ≤ p.domains ∧ p.domains ≤ 9223372036854775807) (_ : -9223372036854775808 ≤ p.buckets ∧ p.buckets ≤ 9223372036854775807)
    (_ : -9223372036854775808 ≤ p.gen ∧ p.gen ≤ 9223372036854775807) (_ : -9223372036854775808 ≤ n ∧ n ≤ 9223372036854775807) (_ : -9223372036854775808 ≤ s.gen ∧ s.gen ≤ 9223372036854775807)
    (_ : -9223372036854775808 ≤ s.mode ∧ s.mode ≤ 9223372036854775807) (_ : -9223372036854775808 ≤ s.kind ∧ s.kind ≤ 9223372036854775807) : ∃ fu, Wk.D.cubiclelaw11_RetireReclaims fu p n s = some true := by
  refine ⟨2000, ?_⟩
  unfold Wk.D.cubiclelaw11_RetireReclaims
  rw [awake11]
  simp only [Option.bind_some, Bool.not_true, cond_false]
  cases hf : D.cubiclelaw11_few p
  · rfl
  cases hn0 : decide (n < 0)
  case true => rfl
  cases hn1 : decide (n ≥ p.nodes)
  case true => rfl
  cases hs : D.state_State_Formed s
  · rfl
  simp only [Bool.not_true, cond_false, Option.bind_some]
  obtain ⟨hp, hfw⟩ := few_eq hf
  have hsf := state_formed.1 hs
  have hn : 0 ≤ n ∧ n < p.nodes := by
    simp only [decide_eq_false_iff_not] at hn0 hn1
    omega
  have hpn := hp.n1
  have hN := nodes_le hp
  have hS := Size_eq hp
  obtain ⟨M, hM, hP⟩ := popped_eq hp hfw s
  simp only [hM, Option.bind_some, Cap_eq]
  have hF := hP.free
  rw [Nat.sub_self] at hF
  obtain ⟨t, ht⟩ : ∃ t, t = D.state_State_Freed s p.gen := ⟨_, rfl⟩
  have hw := hP.state n hn.1 (by omega)
  obtain ⟨ws', hr, hR⟩ := reclaim_runs hp (ws := M.ws) (n := n) (l := []) (g := ((p.nodes.toNat : Nat) : Int)) hn (by omega) (by omega) hF (by simp) (t := t) (by rw [hw, of_word hsf]; exact ht) 1997
  have hlen := hF.len
  have hl' := hR.len
  rw [← ht]
  have hpk : ∀ (c j : Int), 0 ≤ j → j < D.plan_Plan_Size p → D.mem_Memory_Peek 2000 ⟨ws', c⟩ 0 j = some (rd ws' j) := fun c j h0 h1 => Peek_eq0 (M := ⟨ws', c⟩) h0 (by simp only; omega)
  rw [st_at hp hn, fl_at hp hn (f := 0) (by omega), fl_at hp hn (f := 1) (by omega), fl_at hp hn (f := 2) (by omega)]
  have f0 := hR.fields 0 (by omega) (by omega)
  have f1 := hR.fields 1 (by omega) (by omega)
  have f2 := hR.fields 2 (by omega) (by omega)
  by_cases hm : t.mode = 3
  · rw [if_pos hm, if_pos hm] at hr
    obtain ⟨c, hc⟩ := runI (most := 99) hr (by omega) (by omega) (by omega)
    have hl := list_eq hp (M := ⟨ws', c⟩) (hR.gone hm) (by omega) (by simp; omega) (by omega) (fu := 2000) (by omega)
    rw [hc]
    simp only [Option.bind_some, hl, Bool.not_true, cond_false]
    rw [hpk _ _ (by omega) (by omega), hpk _ _ (by omega) (by omega), hpk _ _ (by omega) (by omega), hpk _ _ (by omega) (by omega), hR.state, f0, f1, f2]
    simp [hm]
  · rw [if_neg hm, if_neg hm] at hr
    obtain ⟨c, hc⟩ := runI (most := 99) hr (by omega) (by omega) (by omega)
    have hl := list_eq hp (M := ⟨ws', c⟩) (hR.free hm) (by omega) (by simp; omega) (by omega) (fu := 2000) (by omega)
    rw [hc]
    simp only [Option.bind_some, hl, Bool.not_true, cond_false]
    rw [hpk _ _ (by omega) (by omega), hpk _ _ (by omega) (by omega), hpk _ _ (by omega) (by omega), hpk _ _ (by omega) (by omega), hR.state, f0, f1, f2]
    simp [getI, show (t.mode == 3) = false from by simpa using hm]

end Go.Proofs.Ytphnnjiaiemkcaa
