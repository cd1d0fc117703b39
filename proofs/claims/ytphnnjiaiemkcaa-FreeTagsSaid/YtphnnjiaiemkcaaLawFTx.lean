/- FreeTags: what the walk found answers as the law says. -/
import Derived.Test.YtphnnjiaiemkcaaFreex
import Derived.Test.YtphnnjiaiemkcaaLawFT
namespace Go.Proofs.Ytphnnjiaiemkcaa
open Go.RowKit
/-- What is free, and what was popped: each node once. -/
structure Parted (p : Plan) (l mine : List Int) : Prop where
  nodup : (l ++ mine).Nodup
  len : ((l.length + mine.length : Nat) : Int) = p.nodes
  range : ∀ n, n ∈ mine → 0 ≤ n ∧ n < p.nodes
theorem Parted.start {p : Plan} (hp : PF p) {ws : List Int} (h : FreeAt p ws (allN p) 0) : Parted p (allN p) [] := by
  have := hp.n1
  exact ⟨by rw [List.append_nil]; exact h.nodup, by simp [allN]; omega, fun _ h => by cases h⟩
theorem Parted.pop {p : Plan} {n : Int} {l mine : List Int} (h : Parted p (n :: l) mine) (hr : 0 ≤ n ∧ n < p.nodes) : Parted p l (mine ++ [n]) := by
  refine ⟨?_, by have := h.len; simp at this ⊢; omega, fun m hm => ?_⟩
  · have h1 := h.nodup
    rw [List.cons_append, List.nodup_cons] at h1
    rw [← List.append_assoc]
    exact List.nodup_append.2 ⟨h1.2, by simp, fun a ha b hb => by
      rcases List.mem_singleton.1 hb with rfl
      exact fun e => h1.1 (e ▸ ha)⟩
  · rcases List.mem_append.1 hm with hm | hm
    · exact h.range m hm
    · rcases List.mem_singleton.1 hm with rfl; exact hr
theorem Parted.push {p : Plan} {m : Int} {l ms : List Int} (h : Parted p l (m :: ms)) : Parted p (m :: l) ms ∧ m ∉ l := by
  have h1 := h.nodup
  have h2 := List.nodup_append.1 h1
  have h3 := List.nodup_cons.1 h2.2.1
  have hno : m ∉ l := fun hm => h2.2.2 m hm m (List.mem_cons_self ..) rfl
  refine ⟨⟨?_, by have := h.len; simp at this ⊢; omega, fun n hn => h.range n (List.mem_cons_of_mem _ hn)⟩, hno⟩
  rw [List.cons_append, List.nodup_cons]
  refine ⟨fun hm => ?_, List.nodup_append.2 ⟨h2.1, h3.2, fun a ha b hb => h2.2.2 a ha b (List.mem_cons_of_mem _ hb)⟩⟩
  rcases List.mem_append.1 hm with hm | hm
  · exact hno hm
  · exact h3.1 hm
theorem pure_FreeTags (p : Plan) (pops : List Bool) (_ : -9223372036854775808 ≤ p.nodes ∧ p.nodes ≤ 9223372036854775807) (_ : -9223372036854775808 ≤ p.threads ∧ p.threads ≤ 9223372036854775807)
    (_ : -9223372036854775808 ≤ p.retire ∧ p.retire ≤ 9223372036854775807) (_ : -9223372036854775808 ≤ p.domains ∧ p.domains ≤ 9223372036854775807) (_ : -9223372036854775808 ≤ p.buckets ∧ p.buckets ≤ 9223372036854775807)
    (_ : -9223372036854775808 ≤ p.gen ∧ p.gen ≤ 9223372036854775807) : ∃ fu, Wk.D.cubiclelaw09_FreeTags fu p pops = some true := by
  refine ⟨2000, ?_⟩
  unfold Wk.D.cubiclelaw09_FreeTags
  rw [awake09]
  simp only [Option.bind_some, Bool.not_true, cond_false]
  cases hf : D.cubicleref06_Few p
  · rfl
  cases hg : D.cubicleref06_Formed p
  · rfl
  cases hl : decide ((pops.length : Int) > 60)
  case true => rfl
  simp only [Bool.not_true, cond_false, Option.bind_some]
  have hp := ref_formed hg
  have hfw := ref_few hp hf
  have hl : (pops.length : Int) ≤ 60 := by simpa using hl
  have hn1 := hp.n1
  have hN := nodes_le hp
  have hS := Size_eq hp
  obtain ⟨M, hM, hL⟩ := laid_eq hp hfw (fu := 2000) (by omega)
  have h0 := laid_free hp hL
  simp only [hM, Option.bind_some, Cap_eq]
  refine loop_inv (fun o => o = some true) (fun (i : Nat) (x : Int × List Int × Int × Mem) => x.2.2.1 = (i : Int) ∧ x.1 ≤ i ∧ ∃ l, FreeAt p x.2.2.2.ws l x.1 ∧ Parted p l x.2.1) pops.length 2000
    ⟨rfl, Int.le_refl _, allN p, h0, Parted.start hp h0⟩ (by omega) ?_ ?_
  · rintro i ⟨g, mine, x, M⟩ hi ⟨rfl, hgi, l, hF, hP⟩
    simp only at hgi hF hP ⊢
    have g0 := hF.g0
    rw [show decide ((i : Int) < (pops.length : Int)) = true from by simp; omega, getI_nat hi, wrap_small (show -1000000 ≤ (i : Int) + 1 by omega) (by omega)]
    simp only [cond_true, Option.bind_some]
    cases hb : pops[i]
    · simp only [cond_false]
      cases mine with
      | nil => exact ⟨_, rfl, by simp, by simp only; omega, l, hF, hP⟩
      | cons m ms =>
        rw [show decide (((m :: ms).length : Int) > 0) = true from by simp, show getI (m :: ms) 0 = some m from rfl]
        simp only [cond_true, Option.bind_some]
        have hm := hP.range m (List.mem_cons_self ..)
        obtain ⟨hP2, hno⟩ := hP.push
        obtain ⟨ws', hr, hF2, _⟩ := push_runs hp hF (by omega) (by omega) hm hno 2000
        obtain ⟨c, hc⟩ := runI (most := 9) hr (by omega) (by omega) (by omega)
        rw [hc]
        have hsl : sliceD (m :: ms) 1 ((m :: ms).length : Int) = some ms := by
          unfold sliceD
          rw [if_pos (by simp only [List.length_cons]; omega)]
          simp
        simp only [Option.bind_some, hsl]
        rw [wrap_small (show -1000000 ≤ g + 1 by omega) (by omega)]
        exact ⟨_, rfl, by simp, by simp only; omega, m :: l, hF2, hP2⟩
    · simp only [cond_true]
      cases l with
      | nil =>
        obtain ⟨c, hc⟩ := runI (most := 9) (pop_none hp hF (by omega) 2000) (by omega) (by omega) (by omega)
        rw [hc]
        exact ⟨_, rfl, by simp, by simp only; omega, [], hF, hP⟩
      | cons n l =>
        have hn := hF.range n (List.mem_cons_self ..)
        obtain ⟨hr, hF2⟩ := pop_runs hp hF (by omega) (by omega) 2000
        obtain ⟨c, hc⟩ := runI (most := 9) hr (by omega) (by omega) (by omega)
        rw [hc]
        simp only [Option.bind_some]
        have hlen := hP.len
        have ha : appD mine [n] = some (mine ++ [n]) := by unfold appD; rw [if_pos (by simp only [Modest2, List.length_singleton]; simp at hlen; omega)]
        rw [show decide (n ≥ 0) = true from by simp; omega, ha, wrap_small (show -1000000 ≤ g + 1 by omega) (by omega)]
        exact ⟨_, rfl, by simp, by simp only; omega, l, hF2, hP.pop hn⟩
  rintro ⟨g, mine, x, M2⟩ ⟨rfl, hgi, l, hF, hP⟩
  simp only at hgi hF hP ⊢
  rw [show decide ((pops.length : Int) < (pops.length : Int)) = false from by simp]
  refine ⟨_, rfl, ?_⟩
  have g0 := hF.g0
  have hs := hF.len
  have hlen := hP.len
  obtain ⟨f1, f2⟩ := first_le hF.range (by omega)
  simp only
  rw [Head_eq hp, Peek_eq0 (by omega) (by omega), hF.head]
  simp only [Option.bind_some]
  rw [shr21 (by omega), show (g * 2097152 + first l) / 2097152 = g from by omega, wrapu_id (x := g) g0 (by omega), show (g == g) = true from by simp, list_eq hp hF (by omega) (by omega) (by omega) (by omega)]
  simp only [cond_true, Option.bind_some]
  rw [wrap_id (by omega) (by omega)]
  show some _ = some true
  congr 1
  simp
  omega
end Go.Proofs.Ytphnnjiaiemkcaa
