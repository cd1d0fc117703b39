/- Words stand side by side. -/
import Derived.Test.YtphnnjiaiemkcaaLawPR
import Derived.Test.YtphnnjiaiemkcaaLawPMx
namespace Go.Proofs.Ytphnnjiaiemkcaa
open Go.RowKit
/-- A loop that counts up: each round goes on to the next number; at the end it is left. -/
theorem runLoop_up {X Z : Type} {body : X → Option (Lp X Z)} (x : Nat → X) (n : Nat) (hs : ∀ i, i < n → body (x i) = some (.next (x (i + 1)))) (he : body (x n) = some (.brk (x n))) :
    ∀ d i, i + d = n → ∀ k, d < k → runLoop body k (x i) = some (.brk (x n)) := by
  intro d
  induction d with
  | zero =>
    intro i hi k hk
    obtain ⟨k, rfl⟩ : ∃ q, k = q + 1 := ⟨k - 1, by omega⟩
    have : i = n := by omega
    subst this
    simp [runLoop, he, goOn]
  | succ d ih =>
    intro i hi k hk
    obtain ⟨k, rfl⟩ : ∃ q, k = q + 1 := ⟨k - 1, by omega⟩
    simp only [runLoop, hs i (by omega), Option.bind_some, goOn]
    exact ih (i + 1) (by omega) k (by omega)
theorem ne_stepO {Z : Type} {a b : Int} {x y z : Option Z} (h : a = b) (hx : x = z) : (bif a != b then y else x) = z := by
  subst h; simp [hx]
theorem loop_up {X Z : Type} {body : X → Option (Lp X Z)} {f : X → Option Z} {z : Option Z} {x0 : X} (x : Nat → X) (n k : Nat) (h0 : x0 = x 0) (hk : n < k) (hs : ∀ i, i < n → body (x i) = some (.next (x (i + 1)))) (he : body (x n) = some (.brk (x n)))
    (hf : f (x n) = z) : loopThen body k x0 f = z := by
  unfold loopThen
  rw [h0, runLoop_up x n hs he n 0 (by omega) k hk]
  exact hf
theorem pure_PlanRises (p : Plan) (_ : -9223372036854775808 ≤ p.nodes ∧ p.nodes ≤ 9223372036854775807) (_ : -9223372036854775808 ≤ p.threads ∧ p.threads ≤ 9223372036854775807)
    (_ : -9223372036854775808 ≤ p.retire ∧ p.retire ≤ 9223372036854775807) (_ : -9223372036854775808 ≤ p.domains ∧ p.domains ≤ 9223372036854775807) (_ : -9223372036854775808 ≤ p.buckets ∧ p.buckets ≤ 9223372036854775807)
    (_ : -9223372036854775808 ≤ p.gen ∧ p.gen ≤ 9223372036854775807) : ∃ fu, Wk.D.cubiclelaw06_PlanRises fu p = some true := by
  refine ⟨100, ?_⟩
  unfold Wk.D.cubiclelaw06_PlanRises
  rw [awake06]
  simp only [Bool.not_true, cond_false]
  cases hf : D.cubicleref06_Few p
  · rfl
  cases hg : D.cubicleref06_Formed p
  · rfl
  simp only [Bool.not_true, cond_false]
  have hp := ref_formed hg
  obtain ⟨f1, f2, f3, f4⟩ := ref_few hp hf
  have hN := nodes_le hp
  have hc := cells_le hp
  have hz := hz_le hp
  have hr := rt_le hp
  obtain ⟨n1, n2, t1, t2, d1, d2, b1, b2, g1, g2, r1, r2⟩ := id hp
  refine loop_up (fun i => (false, (i : Int))) p.nodes.toNat 100 rfl (by omega) (fun i hi => ?_) ?_ ?_
  · simp only [State_eq hp, Next_eq hp, Field_eq hp]
    rw [show decide ((i : Int) < p.nodes) = true from by simp; omega]
    simp only [cond_true]
    have hw : ∀ q : Int, 0 ≤ q → q ≤ 100000 → IntKind.i64.wrap q = q := fun q h1 h2 => wrap_id (by omega) (by omega)
    refine ne_stepO ?_ (ne_stepO ?_ (ne_stepO ?_ ?_))
    · rw [if_pos, if_pos, hw] <;> omega
    · rw [if_pos, if_pos, hw] <;> omega
    · rw [if_pos, if_pos, hw] <;> omega
    cases i with
    | zero => simp; decide
    | succ i =>
      rw [show decide (((i + 1 : Nat) : Int) > 0) = true from by first | (simp; done) | (simp; omega)]
      simp only [cond_true]
      refine ne_stepO ?_ ?_
      · rw [if_pos, hw (((i + 1 : Nat) : Int) - 1), if_pos, hw] <;> omega
      · rw [hw] <;> first | omega | rfl
  · rw [show decide (((p.nodes.toNat : Nat) : Int) < p.nodes) = false from by simp; omega]
    rfl
  have hC := counts_eq hp
  have hNe := nodes_eq hp
  have hH := hazards_eq hp
  have hw : ∀ q : Int, -100000 ≤ q → q ≤ 100000 → IntKind.i64.wrap q = q := fun q h1 h2 => wrap_id (by omega) (by omega)
  refine loop_up (fun i => (false, (i : Int))) p.threads.toNat 100 rfl (by omega) (fun i hi => ?_) ?_ ?_
  · simp only [Hazard_eq hp, Retired_eq hp, Count_eq hp]
    rw [show decide ((i : Int) < p.threads) = true from by simp; omega]
    simp only [cond_true]
    have ht := tr_le hp (t := (i : Int)) (by omega) (by omega)
    rw [hw (p.retire - 1) (by omega) (by omega)]
    generalize (i : Int) * (1 + p.retire) = B at *
    refine ne_stepO ?_ (ne_stepO ?_ (ne_stepO ?_ ?_))
    · rw [if_pos, if_pos, hw] <;> omega
    · rw [if_pos, if_pos, hw] <;> omega
    · rw [if_pos, if_pos, hw] <;> omega
    · rw [hw] <;> first | omega | rfl
  · rw [show decide (((p.threads.toNat : Nat) : Int) < p.threads) = false from by simp; omega]
    rfl
  · show some _ = some true
    congr 1
    simp only [State_eq hp, Count_eq hp]
    have ht := tr_le hp (t := p.threads - 1) (by omega) (by omega)
    have hm : (p.threads - 1) * (1 + p.retire) = p.threads * (1 + p.retire) - (1 + p.retire) := by rw [Int.sub_mul, Int.one_mul]
    rw [hw (p.threads - 1) (by omega) (by omega)]
    rw [hm] at ht ⊢
    generalize p.threads * (1 + p.retire) = T at *
    refine eq_last ?_
    rw [if_pos, if_pos, hw (_ + p.retire), hw] <;> omega
end Go.Proofs.Ytphnnjiaiemkcaa
