/- PlanPlaces and PlanAll: what the walks found answers as the laws say. -/
import Derived.Test.YtphnnjiaiemkcaaWordsx
import Derived.Test.YtphnnjiaiemkcaaLawPA
import Derived.Test.YtphnnjiaiemkcaaLawPP
namespace Go.Proofs.Ytphnnjiaiemkcaa
open Go.RowKit
theorem loop_invR {X Z : Type} {body : X → Option (Lp X Z)} {f : X → Option Z} {x0 : X} (Q : Option Z → Prop) (I : Nat → X → Prop) (n k : Nat) (h0 : I 0 x0) (hk : n < k)
    (hs : ∀ i x, i < n → I i x → (∃ x', body x = some (.next x') ∧ I (i + 1) x') ∨ ∃ z, body x = some (.ret z) ∧ Q (some z)) (he : ∀ x, I n x → ∃ x', body x = some (.brk x') ∧ Q (f x')) : Q (loopThen body k x0 f) := by
  have h : ∀ d i x, i + d = n → I i x → ∀ k, d < k → Q ((runLoop body k x).bind (afterLoop f)) := by
    intro d
    induction d with
    | zero =>
      intro i x hi hI k hk
      obtain ⟨k, rfl⟩ : ∃ q, k = q + 1 := ⟨k - 1, by omega⟩
      obtain rfl : i = n := by omega
      obtain ⟨x', hb, hf⟩ := he x hI
      simp only [runLoop, hb, Option.bind_some, goOn, afterLoop]
      exact hf
    | succ d ih =>
      intro i x hi hI k hk
      obtain ⟨k, rfl⟩ : ∃ q, k = q + 1 := ⟨k - 1, by omega⟩
      rcases hs i x (by omega) hI with ⟨x', hb, hI'⟩ | ⟨z, hb, hq⟩
      · simp only [runLoop, hb, Option.bind_some, goOn]
        exact ih (i + 1) x' (by omega) hI' k (by omega)
      · simp only [runLoop, hb, Option.bind_some, goOn, afterLoop]
        exact hq
  exact h n 0 x0 (by omega) h0 k hk
theorem getI_nat {α : Type} {l : List α} {i : Nat} (h : i < l.length) : getI l i = some l[i] := by
  unfold getI
  rw [if_pos (by omega), Int.toNat_natCast, List.getElem?_eq_getElem h]

theorem place_eq {p : Plan} {l : List WordP} {n : Int} {S : WordP → Prop} (hI : Inv p l n S) (hn : n ≤ 5000) {fu : Nat} (hfu : 5000 < fu) (x : WordP) :
    ∃ r, D.cubicleref06_Place fu l x = some r ∧ (x ∈ l → r = told p x) ∧ (x ∉ l → r = -1) := by
  have hl := hI.len
  unfold D.cubicleref06_Place
  refine loop_invR (fun o => ∃ r, o = some r ∧ (x ∈ l → r = told p x) ∧ (x ∉ l → r = -1)) (fun (i : Nat) (y : Int × Int) => y.2 = (i : Int) ∧ ∀ j, j < i → l[j]? ≠ some x) l.length fu ⟨rfl, fun j hj => by omega⟩ (by omega) ?_ ?_
  · rintro i ⟨y, k⟩ hi ⟨rfl, hno⟩
    simp only
    rw [show decide ((i : Int) < (l.length : Int)) = true from by simp; omega, getI_nat hi]
    simp only [cond_true, Option.bind_some]
    cases he : l[i] == x
    · refine .inl ⟨_, rfl, ?_, fun j hj => ?_⟩
      · simp only; rw [wrap_small (by omega) (by omega)]; omega
      · by_cases hji : j = i
        · subst hji
          rw [List.getElem?_eq_getElem hi]
          simpa using he
        · exact hno j (by omega)
    · have he : l[i] = x := by simpa using he
      have hq : l[i]? = some x := by rw [List.getElem?_eq_getElem hi, he]
      refine .inr ⟨_, rfl, _, rfl, fun _ => (hI.good i x hq).symm, fun h => absurd (List.mem_of_getElem? hq) h⟩
  · rintro ⟨y, k⟩ ⟨rfl, hno⟩
    simp only
    rw [show decide ((l.length : Int) < (l.length : Int)) = false from by simp]
    refine ⟨_, rfl, _, rfl, fun h => ?_, fun _ => rfl⟩
    obtain ⟨j, hj⟩ := List.mem_iff_getElem?.1 h
    exact absurd hj (hno j (List.getElem?_eq_some_iff.1 hj).1)

/-- A word in the form in which it stands in the list. -/
def Normal (x : WordP) : Prop := 0 ≤ x.sort ∧ x.sort ≤ 8 ∧ (x.sort = 0 → x.a = 0) ∧ (x.sort = 0 ∨ x.sort = 1 ∨ x.sort = 4 ∨ x.sort = 6 ∨ x.sort = 7 → x.b = 0)
theorem told_mem {p : Plan} (hp : PF p) {l : List WordP} {n : Int} (hI : Inv p l n (SN p p.nodes)) {x : WordP} (hx : Normal x) (h : x ∉ l) : told p x = -1 := by
  obtain ⟨s, a, b⟩ := x
  obtain ⟨h0, h8, ha, hb⟩ := hx
  simp only at h0 h8 ha hb
  have hno : ¬ SN p p.nodes ⟨s, a, b⟩ := fun hs => h (hI.all _ hs)
  have hcase : s = 0 ∨ s = 1 ∨ s = 2 ∨ s = 3 ∨ s = 4 ∨ s = 5 ∨ s = 6 ∨ s = 7 ∨ s = 8 := by omega
  rcases hcase with rfl | rfl | rfl | rfl | rfl | rfl | rfl | rfl | rfl
  · have e1 := ha rfl
    have e2 := hb (by omega)
    subst e1; subst e2
    exact absurd (.inl (.inl (.inl (.inl rfl)))) hno
  · have e2 := hb (by omega)
    rw [told_kind hp, if_neg]
    intro hq
    exact hno (.inl (.inl (.inl (.inr (.inl ⟨rfl, e2, hq.1, hq.2⟩)))))
  · rw [told_cell hp, if_neg]
    intro hq
    exact hno (.inl (.inl (.inl (.inr (.inr ⟨rfl, hq.1.1, hq.1.2, hq.2.1, hq.2.2⟩)))))
  · rw [told_hazard hp, if_neg]
    intro hq
    exact hno (.inl (.inl (.inr ⟨rfl, hq.1.1, hq.1.2, hq.2.1, hq.2.2⟩)))
  · have e2 := hb (by omega)
    rw [told_count hp, if_neg]
    intro hq
    exact hno (.inl (.inr (.inl ⟨rfl, e2, hq.1, hq.2⟩)))
  · rw [told_retired hp, if_neg]
    intro hq
    exact hno (.inl (.inr (.inr ⟨rfl, hq.1.1, hq.1.2, hq.2.1, hq.2.2⟩)))
  · have e2 := hb (by omega)
    rw [told_state hp, if_neg]
    intro hq
    exact hno (.inr (.inl ⟨rfl, e2, hq.1, hq.2⟩))
  · have e2 := hb (by omega)
    rw [told_next hp, if_neg]
    intro hq
    exact hno (.inr (.inr (.inl ⟨rfl, e2, hq.1, hq.2⟩)))
  · rw [told_field hp, if_neg]
    intro hq
    exact hno (.inr (.inr (.inr ⟨rfl, hq.1.1, hq.1.2, hq.2.1, hq.2.2⟩)))

theorem place_bad {p : Plan} (h : D.plan_Plan_Formed p = false) (x : Int) (l : List Bound) : D.plan_Plan_place p x l = -1 := by
  unfold D.plan_Plan_place
  rw [h]; rfl
theorem told_bad {p : Plan} (h : D.plan_Plan_Formed p = false) (x : WordP) : told p x = -1 := by
  unfold told D.cubiclelaw06_told D.plan_Plan_Head D.plan_Plan_Kind D.plan_Plan_Cell D.plan_Plan_Hazard D.plan_Plan_Count D.plan_Plan_Retired D.plan_Plan_State D.plan_Plan_Next D.plan_Plan_Field
  simp only [place_bad h]
  cases x.sort == 0 <;> cases x.sort == 1 <;> cases x.sort == 2 <;> cases x.sort == 3 <;> cases x.sort == 4 <;> cases x.sort == 5 <;> cases x.sort == 6 <;> cases x.sort == 7 <;> rfl
theorem Words_none {p : Plan} {n : Int} {fu : Nat} (h : D.plan_Plan_State p n = -1) : D.plan_Plan_Words fu p n = some [] := by
  unfold D.plan_Plan_Words
  rw [h]; rfl
theorem Words_some {p : Plan} {n : Int} {fu : Nat} (h : D.plan_Plan_State p n ≠ -1) (hfu : 3 < fu) : D.plan_Plan_Words fu p n = some [D.plan_Plan_Field p n 0, D.plan_Plan_Field p n 1, D.plan_Plan_Field p n 2] := by
  unfold D.plan_Plan_Words
  rw [show (D.plan_Plan_State p n == -1) = false from by simpa using h]
  obtain ⟨k, rfl⟩ : ∃ k, fu = k + 4 := ⟨fu - 4, by omega⟩
  rfl

theorem pure_PlanPlaces (p : Plan) (w : WordP) (_ : -9223372036854775808 ≤ p.nodes ∧ p.nodes ≤ 9223372036854775807) (_ : -9223372036854775808 ≤ p.threads ∧ p.threads ≤ 9223372036854775807)
    (_ : -9223372036854775808 ≤ p.retire ∧ p.retire ≤ 9223372036854775807) (_ : -9223372036854775808 ≤ p.domains ∧ p.domains ≤ 9223372036854775807) (_ : -9223372036854775808 ≤ p.buckets ∧ p.buckets ≤ 9223372036854775807)
    (_ : -9223372036854775808 ≤ p.gen ∧ p.gen ≤ 9223372036854775807) (_ : -9223372036854775808 ≤ w.sort ∧ w.sort ≤ 9223372036854775807) (_ : -9223372036854775808 ≤ w.a ∧ w.a ≤ 9223372036854775807) (_ : -9223372036854775808 ≤ w.b ∧ w.b ≤ 9223372036854775807) :
    ∃ fu, Wk.D.cubiclelaw06_PlanPlaces fu p w = some true := by
  refine ⟨6000, ?_⟩
  unfold Wk.D.cubiclelaw06_PlanPlaces
  rw [awake06]
  simp only [Bool.not_true, cond_false]
  cases hf : D.cubicleref06_Few p
  · rfl
  simp only [Bool.not_true, cond_false]
  cases h0 : decide (w.sort < 0)
  case true => rfl
  cases h8 : decide (w.sort > 8)
  case true => rfl
  simp only [cond_false, Option.bind_some]
  have h0 : ¬ w.sort < 0 := by simpa using h0
  have h8 : ¬ w.sort > 8 := by simpa using h8
  cases hg : D.cubicleref06_Formed p
  · simp only [Bool.not_false, cond_true]
    have hb : D.plan_Plan_Formed p = false := by rw [← formed_eq]; exact hg
    have hs : D.plan_Plan_State p w.a = -1 := place_bad hb _ _
    rw [show D.plan_Plan_Size p = 0 from by unfold D.plan_Plan_Size; rw [hb]; rfl, show D.plan_Plan_Cells p = 0 from by unfold D.plan_Plan_Cells; rw [hb]; rfl, show D.cubiclelaw06_told p w = -1 from told_bad hb w, Words_none hs, hb]
    rfl
  have hp := ref_formed hg
  have hfm : D.plan_Plan_Formed p = true := by rw [← formed_eq]; exact hg
  have hfw := ref_few hp hf
  obtain ⟨l, hl, hI⟩ := words_eq hp hfw (fu := 6000) (by omega)
  simp only [Bool.not_true, cond_false, hl, Option.bind_some, hfm, cond_true]
  rw [show (D.plan_Plan_Size p == (l.length : Int)) = true from by rw [hI.len]; simp, show (D.plan_Plan_Cells p == D.cubicleref06_Cells p) = true from by rw [Cells_eq hp, RefCells_eq]; simp]
  simp only [cond_true]
  have hsz : D.plan_Plan_Size p ≤ 5000 := by
    have hc := cells_le hp
    have hcells : D.plan_Plan_cells p ≤ 10 := by
      unfold D.plan_Plan_cells maxI
      split <;> omega
    have hdm : p.domains * (1 + D.plan_Plan_cells p) ≤ 6 * 11 := Int.mul_le_mul hfw.2.2.1 (by omega) (by omega) (by omega)
    have htr : p.threads * (1 + p.retire) ≤ 16 * 41 := Int.mul_le_mul hp.t2 (by omega) (by have := hp.r1; have := hp.t1; omega) (by omega)
    have := hp.t2
    rw [Size_eq hp, nodes_eq hp]
    omega
  have fin : ∀ x : WordP, Normal x → told p w = told p x → ((D.cubicleref06_Place 6000 l x).bind fun z => some (D.cubiclelaw06_told p w == z)) = some true := by
    intro x hx ht
    obtain ⟨r, hr, h1, h2⟩ := place_eq hI hsz (fu := 6000) (by omega) x
    rw [hr]
    show some (told p w == r) = some true
    congr 1
    rw [ht]
    by_cases hm : x ∈ l
    · rw [h1 hm]; simp
    · rw [h2 hm, told_mem hp hI hx hm]; simp
  obtain ⟨s, a, b⟩ := w
  simp only at h0 h8
  have hcase : s = 0 ∨ s = 1 ∨ s = 2 ∨ s = 3 ∨ s = 4 ∨ s = 5 ∨ s = 6 ∨ s = 7 ∨ s = 8 := by omega
  rcases hcase with rfl | rfl | rfl | rfl | rfl | rfl | rfl | rfl | rfl
  · have := fin ⟨0, 0, 0⟩ (by simp [Normal]) rfl
    simpa using this
  · have := fin ⟨1, a, 0⟩ (by simp [Normal]) rfl
    simpa using this
  · have := fin ⟨2, a, b⟩ (by simp [Normal]) rfl
    simpa using this
  · have := fin ⟨3, a, b⟩ (by simp [Normal]) rfl
    simpa using this
  · have := fin ⟨4, a, 0⟩ (by simp [Normal]) rfl
    simpa using this
  · have := fin ⟨5, a, b⟩ (by simp [Normal]) rfl
    simpa using this
  · have := fin ⟨6, a, 0⟩ (by simp [Normal]) rfl
    simpa using this
  · have := fin ⟨7, a, 0⟩ (by simp [Normal]) rfl
    simpa using this
  · have := fin ⟨8, a, b⟩ (by simp [Normal]) rfl
    simpa using this

theorem pure_PlanAll (p : Plan) (_ : -9223372036854775808 ≤ p.nodes ∧ p.nodes ≤ 9223372036854775807) (_ : -9223372036854775808 ≤ p.threads ∧ p.threads ≤ 9223372036854775807)
    (_ : -9223372036854775808 ≤ p.retire ∧ p.retire ≤ 9223372036854775807) (_ : -9223372036854775808 ≤ p.domains ∧ p.domains ≤ 9223372036854775807) (_ : -9223372036854775808 ≤ p.buckets ∧ p.buckets ≤ 9223372036854775807)
    (_ : -9223372036854775808 ≤ p.gen ∧ p.gen ≤ 9223372036854775807) : ∃ fu, Wk.D.cubiclelaw06_PlanAll fu p = some true := by
  refine ⟨6000, ?_⟩
  unfold Wk.D.cubiclelaw06_PlanAll
  rw [awake06]
  simp only [Bool.not_true, cond_false]
  cases hf : D.cubicleref06_Few p
  · rfl
  cases hg : D.cubicleref06_Formed p
  · rfl
  simp only [Bool.not_true, cond_false, Option.bind_some]
  have hp := ref_formed hg
  have hfw := ref_few hp hf
  obtain ⟨l, hl, hI⟩ := words_eq hp hfw (fu := 6000) (by omega)
  have hsz : D.plan_Plan_Size p ≤ 5000 := by
    have hc := cells_le hp
    have hcells : D.plan_Plan_cells p ≤ 10 := by
      unfold D.plan_Plan_cells maxI
      split <;> omega
    have hdm : p.domains * (1 + D.plan_Plan_cells p) ≤ 6 * 11 := Int.mul_le_mul hfw.2.2.1 (by omega) (by omega) (by omega)
    have htr : p.threads * (1 + p.retire) ≤ 16 * 41 := Int.mul_le_mul hp.t2 (by omega) (by have := hp.r1; have := hp.t1; omega) (by omega)
    have := hp.t2
    rw [Size_eq hp, nodes_eq hp]
    omega
  have hlen := hI.len
  have hN := nodes_le hp
  simp only [hl, Option.bind_some]
  refine loop_inv (fun o => o = some true) (fun (i : Nat) (x : Bool × Int) => x = (false, (i : Int))) l.length 6000 rfl (by omega) ?_ ?_
  · rintro i x hi rfl
    simp only
    rw [show decide ((i : Int) < (l.length : Int)) = true from by simp; omega, getI_nat hi]
    simp only [cond_true, Option.bind_some]
    have hq := hI.good i l[i] (List.getElem?_eq_getElem hi)
    rw [show (D.cubiclelaw06_told p l[i] != (i : Int)) = false from by rw [show D.cubiclelaw06_told p l[i] = (i : Int) from hq]; simp, wrap_small (by omega) (by omega)]
    exact ⟨_, rfl, by simp⟩
  rintro x rfl
  simp only
  rw [show decide ((l.length : Int) < (l.length : Int)) = false from by simp]
  refine ⟨_, rfl, ?_⟩
  refine loop_inv (fun o => o = some true) (fun (i : Nat) (x : Bool × Int) => x = (false, (i : Int))) p.nodes.toNat 6000 rfl (by have := hp.n1; omega) ?_ ?_
  · rintro i x hi rfl
    simp only
    rw [show decide ((i : Int) < p.nodes) = true from by simp; omega, Words_some (by rw [State_eq hp, if_pos (by omega)]; omega) (by omega), wrap_small (by omega) (by omega)]
    refine ⟨_, ?_, by rfl⟩
    simp [getI]
  rintro x rfl
  simp only
  have hn1 := hp.n1
  rw [show decide (((p.nodes.toNat : Nat) : Int) < p.nodes) = false from by simp; omega]
  refine ⟨_, rfl, ?_⟩
  rw [Words_none (p := p) (n := p.nodes) (by rw [State_eq hp, if_neg (by omega)]), Words_none (p := p) (n := -1) (by rw [State_eq hp, if_neg (by omega)])]
  rfl
end Go.Proofs.Ytphnnjiaiemkcaa
