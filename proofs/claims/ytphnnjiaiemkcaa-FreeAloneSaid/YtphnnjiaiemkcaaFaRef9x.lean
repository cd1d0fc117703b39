/- The reference's lists, without the code. -/
import Derived.Test.YtphnnjiaiemkcaaFaFreex
namespace Go.Proofs.Ytphnnjiaiemkcaa
open Go.RowKit
theorem same_refl {fu : Nat} {l : List Int} (h : l.length < fu) (h2 : l.length ≤ 900000) : D.cubicleref09_Same fu l l = some true := by
  unfold D.cubicleref09_Same
  rw [show ((l.length : Int) != (l.length : Int)) = false from by simp]
  simp only [cond_false]
  refine loop_inv (fun o => o = some true) (fun (i : Nat) (x : Bool × Int) => x.2 = (i : Int)) l.length fu rfl h ?_ ?_
  · rintro i ⟨b, x⟩ hi rfl
    simp only
    rw [show decide ((i : Int) < (l.length : Int)) = true from by simp; omega, getI_nat hi, wrap_small (show -1000000 ≤ (i : Int) + 1 by omega) (by omega)]
    simp only [cond_true, Option.bind_some]
    rw [show (l[i] != l[i]) = false from by simp]
    exact ⟨_, rfl, by simp⟩
  · rintro ⟨b, x⟩ rfl
    simp only
    rw [show decide ((l.length : Int) < (l.length : Int)) = false from by simp]
    exact ⟨_, rfl, by simp⟩

theorem fresh_ref {fu : Nat} {n : Int} (h0 : 0 ≤ n) (h1 : n ≤ 900000) (h : n.toNat < fu) : D.cubicleref09_Fresh fu n = some ((List.range' 0 n.toNat).map fun (q : Nat) => (q : Int)) := by
  unfold D.cubicleref09_Fresh
  refine loop_inv (fun o => o = some ((List.range' 0 n.toNat).map fun (q : Nat) => (q : Int))) (fun (i : Nat) (x : List Int × Int) => x.2 = (i : Int) ∧ x.1 = (List.range' 0 i).map fun (q : Nat) => (q : Int)) n.toNat fu ⟨rfl, rfl⟩ h ?_ ?_
  · rintro i ⟨l, x⟩ hi ⟨rfl, rfl⟩
    simp only
    have ha : appD ((List.range' 0 i).map fun (q : Nat) => (q : Int)) [(i : Int)] = some ((List.range' 0 (i + 1)).map fun (q : Nat) => (q : Int)) := by
      unfold appD
      rw [if_pos (by simp [Modest2]; omega), List.range'_concat, List.map_append]
      simp
    rw [show decide ((i : Int) < n) = true from by simp; omega, ha, wrap_small (show -1000000 ≤ (i : Int) + 1 by omega) (by omega)]
    exact ⟨_, rfl, by simp, rfl⟩
  · rintro ⟨l, x⟩ ⟨rfl, rfl⟩
    simp only
    rw [show decide ((n.toNat : Int) < n) = false from by simp; omega]
    exact ⟨_, rfl, rfl⟩

theorem push_ref {fu : Nat} {l : List Int} {n : Int} (h : l.length ≤ 900000) : D.cubicleref09_Push fu l n = some (n :: l) := by
  unfold D.cubicleref09_Push appD
  rw [if_pos (by simp [Modest2]; omega)]
  rfl

theorem pop_ref_nil {fu : Nat} : D.cubicleref09_Pop fu [] = some (-1, []) := rfl

theorem pop_ref_cons {fu : Nat} {l : List Int} {n : Int} (h : l.length ≤ 900000) : D.cubicleref09_Pop fu (n :: l) = some (n, l) := by
  unfold D.cubicleref09_Pop
  rw [show (((n :: l).length : Int) == 0) = false from by simp; omega]
  have hs : sliceD (n :: l) 1 ((n :: l).length : Int) = some l := by
    unfold sliceD
    rw [if_pos (by simp only [List.length_cons]; omega)]
    simp
  have ha : appD ([] : List Int) l = some l := by
    unfold appD
    rw [if_pos (by simp [Modest2]; omega)]
    rfl
  simp only [cond_false, hs, ha, Option.bind_some]
  rfl

theorem getI_last {ms : List Int} {m : Int} (h : ms.length ≤ 900000) : getI (ms ++ [m]) (IntKind.i64.wrap (((ms ++ [m]).length : Int) - 1)) = some m := by
  rw [wrap_small (by simp only [List.length_append, List.length_singleton]; omega) (by simp only [List.length_append, List.length_singleton]; omega), show (((ms ++ [m]).length : Int) - 1) = ((ms.length : Nat) : Int) from by simp, getI_nat (by simp)]
  simp

theorem slice_last {ms : List Int} {m : Int} (h : ms.length ≤ 900000) : sliceD (ms ++ [m]) 0 (IntKind.i64.wrap (((ms ++ [m]).length : Int) - 1)) = some ms := by
  rw [wrap_small (by simp only [List.length_append, List.length_singleton]; omega) (by simp only [List.length_append, List.length_singleton]; omega), show (((ms ++ [m]).length : Int) - 1) = ((ms.length : Nat) : Int) from by simp]
  unfold sliceD
  rw [if_pos (by simp only [List.length_append, List.length_singleton]; omega)]
  simp

/-- What is free, and what was popped: each node once. -/
structure Parted (p : Plan) (l mine : List Int) : Prop where
  nodup : (l ++ mine).Nodup
  len : ((l.length + mine.length : Nat) : Int) = p.nodes
  range : ∀ n, n ∈ mine → 0 ≤ n ∧ n < p.nodes

theorem Parted.start {p : Plan} (hp : PF p) {ws : List Int} (h : FreeAt p ws (allN p) 0) : Parted p (allN p) [] := by
  have := hp.n1
  exact ⟨by rw [List.append_nil]; exact h.nodup, by simp [allN]; omega, fun _ h => by cases h⟩

theorem Parted.pop {p : Plan} {n : Int} {l mine : List Int} (h : Parted p (n :: l) mine) (hr : 0 ≤ n ∧ n < p.nodes) : Parted p l (mine ++ [n]) := by
  refine ⟨?_, by have := h.len; simp at this ⊢; omega, fun m hm => ?_⟩
  · have h1 := h.nodup
    rw [List.cons_append, List.nodup_cons] at h1
    rw [← List.append_assoc]
    exact List.nodup_append.2 ⟨h1.2, by simp, fun a ha b hb => by
      rcases List.mem_singleton.1 hb with rfl
      exact fun e => h1.1 (e ▸ ha)⟩
  · rcases List.mem_append.1 hm with hm | hm
    · exact h.range m hm
    · rcases List.mem_singleton.1 hm with rfl; exact hr

theorem Parted.push {p : Plan} {m : Int} {l ms : List Int} (h : Parted p l (m :: ms)) : Parted p (m :: l) ms ∧ m ∉ l := by
  have h1 := h.nodup
  have h2 := List.nodup_append.1 h1
  have h3 := List.nodup_cons.1 h2.2.1
  have hno : m ∉ l := fun hm => h2.2.2 m hm m (List.mem_cons_self ..) rfl
  refine ⟨⟨?_, by have := h.len; simp at this ⊢; omega, fun n hn => h.range n (List.mem_cons_of_mem _ hn)⟩, hno⟩
  rw [List.cons_append, List.nodup_cons]
  refine ⟨fun hm => ?_, List.nodup_append.2 ⟨h2.1, h3.2, fun a ha b hb => h2.2.2 a ha b (List.mem_cons_of_mem _ hb)⟩⟩
  rcases List.mem_append.1 hm with hm | hm
  · exact hno hm
  · exact h3.1 hm

theorem Parted.pushLast {p : Plan} {m : Int} {l ms : List Int} (h : Parted p l (ms ++ [m])) : Parted p (m :: l) ms ∧ m ∉ l := by
  refine Parted.push (ms := ms) ⟨?_, by have := h.len; simp at this ⊢; omega, fun n hn => h.range n ?_⟩
  · exact (List.Perm.nodup_iff (List.Perm.append_left l (List.perm_append_singleton m ms))).1 h.nodup
  · rcases List.mem_cons.1 hn with rfl | hn
    · simp
    · simp [hn]

theorem awake09 : D.cubiclelaw09_awake 2000 = some true := by decide +kernel

end Go.Proofs.Ytphnnjiaiemkcaa
