/- AllocHeld: what the walk found answers as the law says. -/
import Derived.Test.YtphnnjiaiemkcaaGreatQahAhB
import Derived.Test.YtphnnjiaiemkcaaGreatQahAhC
import Derived.Test.YtphnnjiaiemkcaaGreatQahScany
import Derived.Test.YtphnnjiaiemkcaaGreatQahLawAH
namespace Go.Proofs.YtphnnjiaiemkcaaGreat
open Go.RowKit
theorem ahAll_end {g : Grant} {n : Nat} {M : Mem} (h : ahAll g n M = true) : ahEnd g M = some true := by
  cases n with
  | zero => simpa [ahAll] using h
  | succ n => simp only [ahAll, Bool.and_eq_true, beq_iff_eq] at h; exact h.1

theorem ahAll_turn {g : Grant} {n : Nat} {M : Mem} (h : ahAll g (n + 1) M = true) : ∃ M', ahTurn g M = some M' ∧ ahAll g n M' = true := by
  simp only [ahAll, Bool.and_eq_true] at h
  cases hc : ahTurn g M with
  | none => rw [hc] at h; simp at h
  | some M' => rw [hc] at h; exact ⟨M', rfl, h.2⟩

theorem ah_start (s : Int) (hs : 0 ≤ s ∧ s < 3) : ∃ g M, ahStart s = some (g, M) ∧ ahAll g 59 M = true := by
  have key : ∀ s, (match ahStart s with | some (g, M) => ahAll g 59 M | none => false) = true → ∃ g M, ahStart s = some (g, M) ∧ ahAll g 59 M = true := fun s h => by
    cases hc : ahStart s with
    | none => rw [hc] at h; cases h
    | some q => obtain ⟨g, M⟩ := q; rw [hc] at h; exact ⟨g, M, rfl, h⟩
  rcases (show s = 0 ∨ s = 1 ∨ s = 2 by omega) with rfl | rfl | rfl
  · exact key 0 ah0
  · exact key 1 ah1
  · exact key 2 ah2

theorem pure_AllocHeld (turns slot : Int) (ht : 0 ≤ turns ∧ turns ≤ 255) (hs : 0 ≤ slot ∧ slot ≤ 255) : ∃ fu, Wk.D.cubiclelaw12_AllocHeld fu turns slot = some true := by
  refine ⟨1200, ?_⟩
  unfold Wk.D.cubiclelaw12_AllocHeld
  rw [show D.cubiclelaw12_awake 1200 = some true from by decide +kernel]
  simp only [Option.bind_some, Bool.not_true, cond_false, Cap_eq]
  obtain ⟨k, hk, hk2⟩ : ∃ k : Nat, IntKind.i64.wrap (turns.tmod 60) = (k : Int) ∧ k ≤ 59 := by
    rw [Int.tmod_eq_emod_of_nonneg ht.1, wrap_small (by omega) (by omega)]
    exact ⟨(turns % 60).toNat, by omega, by omega⟩
  obtain ⟨s, hse, hs2⟩ : ∃ s : Int, IntKind.i64.wrap (slot.tmod 3) = s ∧ 0 ≤ s ∧ s < 3 := by
    rw [Int.tmod_eq_emod_of_nonneg hs.1, wrap_small (by omega) (by omega)]
    exact ⟨_, rfl, by omega, by omega⟩
  rw [hk, hse]
  obtain ⟨g, M, hst, hall⟩ := ah_start s hs2
  unfold ahStart at hst
  obtain ⟨M0, h0, hst⟩ := Option.bind_eq_some_iff.1 hst
  obtain ⟨x1, h1, hst⟩ := Option.bind_eq_some_iff.1 hst
  obtain ⟨x2, h2, hst⟩ := Option.bind_eq_some_iff.1 hst
  obtain ⟨x3, h3, hst⟩ := Option.bind_eq_some_iff.1 hst
  simp only [Option.some.injEq, Prod.mk.injEq] at hst
  obtain ⟨rfl, rfl⟩ := hst
  simp only [h0, h1, h2, h3, Option.bind_some]
  refine loop_inv (fun o => o = some true) (fun (i : Nat) (x : Bool × Int × Mem) => x.1 = false ∧ x.2.1 = (i : Int) ∧ ∃ n, k ≤ n + i ∧ ahAll x1.1 n x.2.2 = true) k 1200 ⟨rfl, rfl, 59, by omega, hall⟩ (by omega) ?_ ?_
  · rintro i ⟨b, x, M1⟩ hi ⟨rfl, rfl, n, hn, ha⟩
    simp only at ha ⊢
    obtain ⟨n, rfl⟩ : ∃ q, n = q + 1 := ⟨n - 1, by omega⟩
    obtain ⟨M2, htu, ha2⟩ := ahAll_turn ha
    unfold ahTurn at htu
    obtain ⟨y, hy, htu⟩ := Option.bind_eq_some_iff.1 htu
    rw [show decide ((i : Int) < (k : Int)) = true from by rw [decide_eq_true_eq]; omega, wrap_small (show -1000000 ≤ (i : Int) + 1 by omega) (by omega)]
    simp only [cond_true, hy, Option.bind_some]
    cases he : (y.1.e != 0)
    · rw [he] at htu
      cases hnn : (y.1.node == x1.1.node)
      · rw [hnn] at htu
        simp only [cond_false] at htu
        obtain ⟨z, hz, htu⟩ := Option.bind_eq_some_iff.1 htu
        simp only [Option.some.injEq] at htu
        subst htu
        simp only [cond_false, Option.bind_some, hz]
        exact ⟨_, rfl, rfl, by simp, n, by omega, ha2⟩
      · rw [hnn] at htu; cases htu
    · rw [he] at htu; cases htu
  · rintro ⟨b, x, M1⟩ ⟨rfl, rfl, n, hn, ha⟩
    simp only at ha ⊢
    rw [show decide ((k : Int) < (k : Int)) = false from by simp]
    refine ⟨_, rfl, ?_⟩
    have he := ahAll_end ha
    unfold ahEnd at he
    exact he

end Go.Proofs.YtphnnjiaiemkcaaGreat
