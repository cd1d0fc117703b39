/- The reference's lists, without the code. -/
import Derived.Test.YtphnnjiaiemkcaaFsFreex
namespace Go.Proofs.Ytphnnjiaiemkcaa
open Go.RowKit
theorem has_eq {fu : Nat} {l : List Int} {n : Int} (h : l.length < fu) (h2 : l.length ≤ 900000) : D.cubicleref09_Has fu l n = some (decide (n ∈ l)) := by
  unfold D.cubicleref09_Has
  have key : ∀ (r d : List Int) (k : Nat) (b : Bool), d ++ r = l → n ∉ d → r.length < k → (runLoop (fun (x1 : Bool × Int) => (bif (decide (x1.2 < (l.length : Int))) then ((getI l x1.2).bind (fun (x6 : Int) => (bif (x6 == n) then (some (Lp.ret true)) else (some (Lp.next (x1.1, (IntKind.i64.wrap (x1.2 + 1)))))))) else (some (Lp.brk (x1.1, x1.2))))) k (b, (d.length : Int))).bind (afterLoop fun (x8 : Bool × Int) => (some false)) = some (decide (n ∈ l)) := by
    intro r
    induction r with
    | nil =>
      intro d k b hd hn hk
      obtain ⟨k, rfl⟩ : ∃ q, k = q + 1 := ⟨k - 1, by omega⟩
      rw [List.append_nil] at hd
      subst hd
      simp only [runLoop]
      rw [show decide ((d.length : Int) < (d.length : Int)) = false from by simp]
      simp only [cond_false, Option.bind_some, goOn, afterLoop]
      rw [show decide (n ∈ d) = false from by simpa using hn]
    | cons m r ih =>
      intro d k b hd hn hk
      simp only [List.length_cons] at hk
      obtain ⟨k, rfl⟩ : ∃ q, k = q + 1 := ⟨k - 1, by omega⟩
      have hdl : d.length < l.length := by rw [← hd]; simp
      have hm : l[d.length] = m := by subst hd; simp
      simp only [runLoop]
      rw [show decide ((d.length : Int) < (l.length : Int)) = true from by simp; omega, getI_nat hdl, hm]
      simp only [cond_true, Option.bind_some]
      by_cases e : m = n
      · subst e
        rw [show (m == m) = true from by simp]
        simp only [cond_true, Option.bind_some, goOn, afterLoop]
        rw [show decide (m ∈ l) = true from by rw [← hd]; simp]
      · rw [show (m == n) = false from by simpa using e, wrap_small (show -1000000 ≤ (d.length : Int) + 1 by omega) (by omega)]
        simp only [cond_false, Option.bind_some, goOn]
        have := ih (d ++ [m]) k b (by rw [List.append_assoc]; exact hd) (by simp; exact ⟨hn, fun h => e h.symm⟩) (by omega)
        rw [show ((d ++ [m]).length : Int) = (d.length : Int) + 1 from by simp] at this
        exact this
  exact key l [] fu false rfl (by simp) h

/-- What is free, and what was popped: each node once. -/
structure Parted (p : Plan) (l mine : List Int) : Prop where
  nodup : (l ++ mine).Nodup
  len : ((l.length + mine.length : Nat) : Int) = p.nodes
  range : ∀ n, n ∈ mine → 0 ≤ n ∧ n < p.nodes

theorem Parted.start {p : Plan} (hp : PF p) {ws : List Int} (h : FreeAt p ws (allN p) 0) : Parted p (allN p) [] := by
  have := hp.n1
  exact ⟨by rw [List.append_nil]; exact h.nodup, by simp [allN]; omega, fun _ h => by cases h⟩

theorem Parted.pop {p : Plan} {n : Int} {l mine : List Int} (h : Parted p (n :: l) mine) (hr : 0 ≤ n ∧ n < p.nodes) : Parted p l (mine ++ [n]) := by
  refine ⟨?_, by have := h.len; simp at this ⊢; omega, fun m hm => ?_⟩
  · have h1 := h.nodup
    rw [List.cons_append, List.nodup_cons] at h1
    rw [← List.append_assoc]
    exact List.nodup_append.2 ⟨h1.2, by simp, fun a ha b hb => by
      rcases List.mem_singleton.1 hb with rfl
      exact fun e => h1.1 (e ▸ ha)⟩
  · rcases List.mem_append.1 hm with hm | hm
    · exact h.range m hm
    · rcases List.mem_singleton.1 hm with rfl; exact hr

theorem Parted.push {p : Plan} {m : Int} {l ms : List Int} (h : Parted p l (m :: ms)) : Parted p (m :: l) ms ∧ m ∉ l := by
  have h1 := h.nodup
  have h2 := List.nodup_append.1 h1
  have h3 := List.nodup_cons.1 h2.2.1
  have hno : m ∉ l := fun hm => h2.2.2 m hm m (List.mem_cons_self ..) rfl
  refine ⟨⟨?_, by have := h.len; simp at this ⊢; omega, fun n hn => h.range n (List.mem_cons_of_mem _ hn)⟩, hno⟩
  rw [List.cons_append, List.nodup_cons]
  refine ⟨fun hm => ?_, List.nodup_append.2 ⟨h2.1, h3.2, fun a ha b hb => h2.2.2 a ha b (List.mem_cons_of_mem _ hb)⟩⟩
  rcases List.mem_append.1 hm with hm | hm
  · exact hno hm
  · exact h3.1 hm

theorem awake09 : D.cubiclelaw09_awake 2000 = some true := by decide +kernel

end Go.Proofs.Ytphnnjiaiemkcaa
