/- The reference's lists, without the code. -/
import Derived.Test.YtphnnjiaiemkcaaGreatQrsFreex
namespace Go.Proofs.YtphnnjiaiemkcaaGreat
open Go.RowKit
theorem same_refl {fu : Nat} {l : List Int} (h : l.length < fu) (h2 : l.length ≤ 900000) : D.cubicleref09_Same fu l l = some true := by
  unfold D.cubicleref09_Same
  rw [show ((l.length : Int) != (l.length : Int)) = false from by simp]
  simp only [cond_false]
  refine loop_inv (fun o => o = some true) (fun (i : Nat) (x : Bool × Int) => x.2 = (i : Int)) l.length fu rfl h ?_ ?_
  · rintro i ⟨b, x⟩ hi rfl
    simp only
    rw [show decide ((i : Int) < (l.length : Int)) = true from by simp; omega, getI_nat hi, wrap_small (show -1000000 ≤ (i : Int) + 1 by omega) (by omega)]
    simp only [cond_true, Option.bind_some]
    rw [show (l[i] != l[i]) = false from by simp]
    exact ⟨_, rfl, by simp⟩
  · rintro ⟨b, x⟩ rfl
    simp only
    rw [show decide ((l.length : Int) < (l.length : Int)) = false from by simp]
    exact ⟨_, rfl, by simp⟩

theorem has_eq {fu : Nat} {l : List Int} {n : Int} (h : l.length < fu) (h2 : l.length ≤ 900000) : D.cubicleref09_Has fu l n = some (decide (n ∈ l)) := by
  unfold D.cubicleref09_Has
  have key : ∀ (r d : List Int) (k : Nat) (b : Bool), d ++ r = l → n ∉ d → r.length < k → (runLoop (fun (x1 : Bool × Int) => (bif (decide (x1.2 < (l.length : Int))) then ((getI l x1.2).bind (fun (x6 : Int) => (bif (x6 == n) then (some (Lp.ret true)) else (some (Lp.next (x1.1, (IntKind.i64.wrap (x1.2 + 1)))))))) else (some (Lp.brk (x1.1, x1.2))))) k (b, (d.length : Int))).bind (afterLoop fun (x8 : Bool × Int) => (some false)) = some (decide (n ∈ l)) := by
    intro r
    induction r with
    | nil =>
      intro d k b hd hn hk
      obtain ⟨k, rfl⟩ : ∃ q, k = q + 1 := ⟨k - 1, by omega⟩
      rw [List.append_nil] at hd
      subst hd
      simp only [runLoop]
      rw [show decide ((d.length : Int) < (d.length : Int)) = false from by simp]
      simp only [cond_false, Option.bind_some, goOn, afterLoop]
      rw [show decide (n ∈ d) = false from by simpa using hn]
    | cons m r ih =>
      intro d k b hd hn hk
      simp only [List.length_cons] at hk
      obtain ⟨k, rfl⟩ : ∃ q, k = q + 1 := ⟨k - 1, by omega⟩
      have hdl : d.length < l.length := by rw [← hd]; simp
      have hm : l[d.length] = m := by subst hd; simp
      simp only [runLoop]
      rw [show decide ((d.length : Int) < (l.length : Int)) = true from by simp; omega, getI_nat hdl, hm]
      simp only [cond_true, Option.bind_some]
      by_cases e : m = n
      · subst e
        rw [show (m == m) = true from by simp]
        simp only [cond_true, Option.bind_some, goOn, afterLoop]
        rw [show decide (m ∈ l) = true from by rw [← hd]; simp]
      · rw [show (m == n) = false from by simpa using e, wrap_small (show -1000000 ≤ (d.length : Int) + 1 by omega) (by omega)]
        simp only [cond_false, Option.bind_some, goOn]
        have := ih (d ++ [m]) k b (by rw [List.append_assoc]; exact hd) (by simp; exact ⟨hn, fun h => e h.symm⟩) (by omega)
        rw [show ((d ++ [m]).length : Int) = (d.length : Int) + 1 from by simp] at this
        exact this
  exact key l [] fu false rfl (by simp) h

theorem push_ref {fu : Nat} {l : List Int} {n : Int} (h : l.length ≤ 900000) : D.cubicleref09_Push fu l n = some (n :: l) := by
  unfold D.cubicleref09_Push appD
  rw [if_pos (by simp [Modest2]; omega)]
  rfl

end Go.Proofs.YtphnnjiaiemkcaaGreat
