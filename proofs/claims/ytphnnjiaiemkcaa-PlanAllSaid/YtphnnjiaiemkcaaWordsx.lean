/- The words of a formed plan, one by one: each stands at its place, and none is lacking. -/
import Derived.Test.YtphnnjiaiemkcaaRowP
import Derived.Test.YtphnnjiaiemkcaaLawPRx
namespace Go.Proofs.Ytphnnjiaiemkcaa
open Go.RowKit
theorem loop_inv {X Z : Type} {body : X → Option (Lp X Z)} {f : X → Option Z} {x0 : X} (Q : Option Z → Prop) (I : Nat → X → Prop) (n k : Nat) (h0 : I 0 x0) (hk : n < k)
    (hs : ∀ i x, i < n → I i x → ∃ x', body x = some (.next x') ∧ I (i + 1) x') (he : ∀ x, I n x → ∃ x', body x = some (.brk x') ∧ Q (f x')) : Q (loopThen body k x0 f) := by
  have h : ∀ d i x, i + d = n → I i x → ∀ k, d < k → Q ((runLoop body k x).bind (afterLoop f)) := by
    intro d
    induction d with
    | zero =>
      intro i x hi hI k hk
      obtain ⟨k, rfl⟩ : ∃ q, k = q + 1 := ⟨k - 1, by omega⟩
      obtain rfl : i = n := by omega
      obtain ⟨x', hb, hf⟩ := he x hI
      simp only [runLoop, hb, Option.bind_some, goOn, afterLoop]
      exact hf
    | succ d ih =>
      intro i x hi hI k hk
      obtain ⟨k, rfl⟩ : ∃ q, k = q + 1 := ⟨k - 1, by omega⟩
      obtain ⟨x', hb, hI'⟩ := hs i x (by omega) hI
      simp only [runLoop, hb, Option.bind_some, goOn]
      exact ih (i + 1) x' (by omega) hI' k (by omega)
  exact h n 0 x0 (by omega) h0 k hk

abbrev told := D.cubiclelaw06_told
structure Inv (p : Plan) (l : List WordP) (n : Int) (S : WordP → Prop) : Prop where
  good : ∀ (i : Nat) w, l[i]? = some w → told p w = i
  len : (l.length : Int) = n
  all : ∀ x, S x → x ∈ l
theorem Inv.push {p : Plan} {l : List WordP} {n : Int} {S : WordP → Prop} {w : WordP} (h : Inv p l n S) (hw : told p w = n) : Inv p (l ++ [w]) (n + 1) (fun x => S x ∨ x = w) := by
  refine ⟨fun i v hi => ?_, by have := h.len; simp; omega, fun x hx => ?_⟩
  · rw [List.getElem?_append] at hi
    split at hi
    · exact h.good i v hi
    · rename_i hlt
      cases hd : i - l.length with
      | zero =>
        rw [hd] at hi
        simp at hi
        subst hi
        have := h.len
        omega
      | succ k => rw [hd] at hi; simp at hi
  · rcases hx with hx | rfl
    · exact List.mem_append_left _ (h.all x hx)
    · simp
theorem Inv.mono {p : Plan} {l : List WordP} {n n' : Int} {S S' : WordP → Prop} (h : Inv p l n S) (hn : n = n') (hS : ∀ x, S' x → S x) : Inv p l n' S' := ⟨h.good, hn ▸ h.len, fun x hx => h.all x (hS x hx)⟩
theorem Inv.app {p : Plan} {l m : List WordP} {n : Int} {S : WordP → Prop} (h : Inv p l n S) (hn : n + m.length ≤ 100000) : appD l m = some (l ++ m) := by
  have := h.len
  unfold appD
  rw [if_pos (by simp only [Modest2]; omega)]
theorem wrap_small {x : Int} (h0 : -1000000 ≤ x) (h1 : x ≤ 1000000) : IntKind.i64.wrap x = x := wrap_id (by omega) (by omega)
/-- A loop that puts so many words behind. -/
theorem fill {Z : Type} {p : Plan} {fu : Nat} {l : List WordP} {n0 M : Int} {S : WordP → Prop} {f : List WordP × Int → Option Z} (Q : Option Z → Prop) (m : Nat) (w : Int → WordP) (hM : M = m) (hm : m < fu) (hm2 : m ≤ 1000) (hl : Inv p l n0 S) (h0 : n0 ≤ 5000)
    (hw : ∀ i : Nat, i < m → told p (w i) = n0 + i) (hf : ∀ l', Inv p l' (n0 + m) (fun x => S x ∨ ∃ i : Nat, i < m ∧ x = w i) → Q (f (l', m))) :
    Q (loopThen (fun (x : List WordP × Int) => (bif (decide (x.2 < M)) then ((appD x.1 ([w x.2])).bind (fun (y : List WordP) => (some (Lp.next (y, (IntKind.i64.wrap (x.2 + 1))))))) else (some (Lp.brk (x.1, x.2))))) fu (l, 0) f) := by
  subst hM
  refine loop_inv Q (fun (i : Nat) (x : List WordP × Int) => x.2 = (i : Int) ∧ Inv p x.1 (n0 + i) (fun x => S x ∨ ∃ j : Nat, j < i ∧ x = w j)) m fu ⟨rfl, hl.mono (by simp) (by rintro x (h | ⟨j, h, _⟩); exact h; omega)⟩ hm ?_ ?_
  · rintro i ⟨l', k⟩ hi ⟨rfl, hI⟩
    simp only at hI ⊢
    rw [show decide ((i : Int) < (m : Int)) = true from by simp; omega, hI.app (by simp; omega), wrap_small (by omega) (by omega)]
    refine ⟨_, rfl, by simp, ?_⟩
    refine (hI.push (hw i hi)).mono (by omega) ?_
    rintro x (h | ⟨j, h, rfl⟩)
    · exact .inl (.inl h)
    · by_cases hj : j = i
      · subst hj; exact .inr rfl
      · exact .inl (.inr ⟨j, by omega, rfl⟩)
  · rintro ⟨l', k⟩ ⟨rfl, hI⟩
    simp only at hI ⊢
    rw [show decide ((m : Int) < (m : Int)) = false from by simp]
    exact ⟨_, rfl, hf l' hI⟩

theorem told_kind {p : Plan} (hp : PF p) (d b : Int) : told p ⟨1, d, b⟩ = if 0 ≤ d ∧ d < p.domains then 1 + d * (1 + D.plan_Plan_cells p) else -1 := by
  rw [← Kind_eq hp]; rfl
theorem told_cell {p : Plan} (hp : PF p) (d i : Int) : told p ⟨2, d, i⟩ = if (0 ≤ d ∧ d < p.domains) ∧ 0 ≤ i ∧ i < D.plan_Plan_cells p then 2 + d * (1 + D.plan_Plan_cells p) + i else -1 := by
  rw [← Cell_eq hp]; rfl
theorem told_hazard {p : Plan} (hp : PF p) (t i : Int) : told p ⟨3, t, i⟩ = if (0 ≤ t ∧ t < p.threads) ∧ 0 ≤ i ∧ i < 3 then D.plan_Plan_hazards p + t * 3 + i else -1 := by
  rw [← Hazard_eq hp]; rfl
theorem told_count {p : Plan} (hp : PF p) (t b : Int) : told p ⟨4, t, b⟩ = if 0 ≤ t ∧ t < p.threads then D.plan_Plan_counts p + t * (1 + p.retire) else -1 := by
  rw [← Count_eq hp]; rfl
theorem told_retired {p : Plan} (hp : PF p) (t i : Int) : told p ⟨5, t, i⟩ = if (0 ≤ t ∧ t < p.threads) ∧ 0 ≤ i ∧ i < p.retire then D.plan_Plan_counts p + t * (1 + p.retire) + 1 + i else -1 := by
  rw [← Retired_eq hp]; rfl
theorem told_state {p : Plan} (hp : PF p) (n b : Int) : told p ⟨6, n, b⟩ = if 0 ≤ n ∧ n < p.nodes then D.plan_Plan_nodes p + n * 5 else -1 := by
  rw [← State_eq hp]; rfl
theorem told_next {p : Plan} (hp : PF p) (n b : Int) : told p ⟨7, n, b⟩ = if 0 ≤ n ∧ n < p.nodes then D.plan_Plan_nodes p + n * 5 + 1 else -1 := by
  rw [← Next_eq hp]; rfl
theorem told_field {p : Plan} (hp : PF p) (n f : Int) : told p ⟨8, n, f⟩ = if (0 ≤ n ∧ n < p.nodes) ∧ 0 ≤ f ∧ f < 3 then D.plan_Plan_nodes p + n * 5 + 2 + f else -1 := by
  rw [← Field_eq hp]; rfl
theorem told_head {p : Plan} (hp : PF p) (a b : Int) : told p ⟨0, a, b⟩ = 0 := by
  exact Head_eq hp
theorem RefCells_eq (p : Plan) : D.cubicleref06_Cells p = D.plan_Plan_cells p := rfl

def SD (p : Plan) (d : Int) (x : WordP) : Prop := x = ⟨0, 0, 0⟩ ∨ (x.sort = 1 ∧ x.b = 0 ∧ 0 ≤ x.a ∧ x.a < d) ∨ (x.sort = 2 ∧ 0 ≤ x.a ∧ x.a < d ∧ 0 ≤ x.b ∧ x.b < D.plan_Plan_cells p)
def SH (p : Plan) (t : Int) (x : WordP) : Prop := SD p p.domains x ∨ (x.sort = 3 ∧ 0 ≤ x.a ∧ x.a < t ∧ 0 ≤ x.b ∧ x.b < 3)
def SR (p : Plan) (t : Int) (x : WordP) : Prop := SH p p.threads x ∨ (x.sort = 4 ∧ x.b = 0 ∧ 0 ≤ x.a ∧ x.a < t) ∨ (x.sort = 5 ∧ 0 ≤ x.a ∧ x.a < t ∧ 0 ≤ x.b ∧ x.b < p.retire)
def SN (p : Plan) (n : Int) (x : WordP) : Prop := SR p p.threads x ∨ (x.sort = 6 ∧ x.b = 0 ∧ 0 ≤ x.a ∧ x.a < n) ∨ (x.sort = 7 ∧ x.b = 0 ∧ 0 ≤ x.a ∧ x.a < n) ∨ (x.sort = 8 ∧ 0 ≤ x.a ∧ x.a < n ∧ 0 ≤ x.b ∧ x.b < 3)

theorem words_eq {p : Plan} (hp : PF p) (hf : p.nodes ≤ 40 ∧ p.retire ≤ 40 ∧ p.domains ≤ 6 ∧ p.buckets ≤ 10) {fu : Nat} (hfu : 1000 < fu) : ∃ l, D.cubicleref06_Words fu p = some l ∧ Inv p l (D.plan_Plan_Size p) (SN p p.nodes) := by
  have hc := cells_le hp
  have hz := hz_le hp
  have hr := rt_le hp
  have hC := counts_eq hp
  have hNe := nodes_eq hp
  have hH := hazards_eq hp
  have hN := nodes_le hp
  have hS := Size_eq hp
  obtain ⟨f1, f2, f3, f4⟩ := hf
  obtain ⟨n1, n2, t1, t2, d1, d2, b1, b2, g1, g2, r1, r2⟩ := id hp
  have hcells : D.plan_Plan_cells p ≤ 10 := by
    unfold D.plan_Plan_cells maxI
    split <;> omega
  have hdm : p.domains * (1 + D.plan_Plan_cells p) ≤ 6 * 11 := Int.mul_le_mul f3 (by omega) (by omega) (by omega)
  have htr : p.threads * (1 + p.retire) ≤ 16 * 41 := Int.mul_le_mul t2 (by omega) (by omega) (by omega)
  unfold D.cubicleref06_Words
  simp only [RefCells_eq]
  have hnat : ∀ x : Int, 0 ≤ x → x = (x.toNat : Int) := fun x h => by omega
  -- the domains
  refine loop_inv (fun o => ∃ l, o = some l ∧ Inv p l (D.plan_Plan_Size p) (SN p p.nodes)) (fun (d : Nat) (x : List WordP × Int) => x.2 = (d : Int) ∧ Inv p x.1 (1 + d * (1 + D.plan_Plan_cells p)) (SD p d)) p.domains.toNat fu ⟨rfl, ?_⟩ (by omega) ?_ ?_
  · have h0 : Inv p [] 0 (fun _ => False) := ⟨fun i w h => by simp at h, rfl, fun _ h => h.elim⟩
    have := h0.push (w := ⟨0, 0, 0⟩) (told_head hp 0 0)
    refine this.mono (by simp) ?_
    rintro x (h | ⟨_, _, h⟩ | ⟨_, _, h⟩)
    · exact .inr h
    · omega
    · omega
  · rintro d ⟨l, k⟩ hd ⟨rfl, hI⟩
    simp only at hI ⊢
    have hdl := dc_le hp (d := d) (by omega) (by omega)
    have hdm' : (d : Int) * (1 + D.plan_Plan_cells p) ≤ 6 * 11 := Int.mul_le_mul (by omega) (by omega) (by omega) (by omega)
    rw [show decide ((d : Int) < p.domains) = true from by simp; omega, hI.app (by simp; omega), wrap_small (by omega) (by omega)]
    simp only [cond_true, Option.bind_some]
    have h1 := hI.push (w := ⟨1, d, 0⟩) (by rw [told_kind hp, if_pos (by omega)])
    refine fill (fun (o : Option (Lp (List WordP × Int) (List WordP))) => ∃ x', o = some (Lp.next x') ∧ x'.2 = ((d + 1 : Nat) : Int) ∧ Inv p x'.1 (1 + ((d + 1 : Nat) : Int) * (1 + D.plan_Plan_cells p)) (SD p ((d + 1 : Nat) : Int))) (D.plan_Plan_cells p).toNat (fun i => ⟨2, d, i⟩) (hnat _ (by omega)) (by omega) (by omega) h1 (by omega) ?_ ?_
    · intro i hi
      rw [told_cell hp, if_pos (by omega)]
      omega
    · intro l' hI'
      refine ⟨_, rfl, by simp, hI'.mono ?_ ?_⟩
      · rw [Int.natCast_add, Int.add_mul]
        omega
      · rintro ⟨s, a, b⟩ (h | ⟨h1, h2, h3, h4⟩ | ⟨h1, h2, h3, h4, h5⟩)
        · exact .inl (.inl (.inl h))
        · simp only at h1 h2 h3 h4
          by_cases ha : a = d
          · subst ha; subst h1; subst h2; exact .inl (.inr rfl)
          · exact .inl (.inl (.inr (.inl ⟨h1, h2, h3, by simp only; omega⟩)))
        · simp only at h1 h2 h3 h4 h5
          by_cases ha : a = d
          · subst ha; subst h1; exact .inr ⟨b.toNat, by omega, by rw [← hnat b h4]⟩
          · exact .inl (.inl (.inr (.inr ⟨h1, h2, by simp only; omega, h4, h5⟩)))
  rintro ⟨l, k⟩ ⟨rfl, hI⟩
  simp only at hI ⊢
  rw [show decide (((p.domains.toNat : Nat) : Int) < p.domains) = false from by simp; omega]
  refine ⟨_, rfl, ?_⟩
  rw [← hnat p.domains d1] at hI
  -- the hazards
  refine loop_inv (fun o => ∃ l, o = some l ∧ Inv p l (D.plan_Plan_Size p) (SN p p.nodes)) (fun (t : Nat) (x : List WordP × Int) => x.2 = (t : Int) ∧ Inv p x.1 (D.plan_Plan_hazards p + t * 3) (SH p t)) p.threads.toNat fu ⟨rfl, hI.mono (by omega) ?_⟩ (by omega) ?_ ?_
  · rintro x (h | ⟨_, _, h⟩)
    · exact h
    · omega
  · rintro t ⟨l, k⟩ ht ⟨rfl, hI⟩
    simp only at hI ⊢
    rw [show decide ((t : Int) < p.threads) = true from by simp; omega, wrap_small (x := (t : Int) + 1) (by omega) (by omega)]
    simp only [cond_true]
    refine fill (fun (o : Option (Lp (List WordP × Int) (List WordP))) => ∃ x', o = some (Lp.next x') ∧ x'.2 = ((t + 1 : Nat) : Int) ∧ Inv p x'.1 (D.plan_Plan_hazards p + ((t + 1 : Nat) : Int) * 3) (SH p ((t + 1 : Nat) : Int))) 3 (fun i => ⟨3, t, i⟩) rfl (by omega) (by omega) hI (by omega) ?_ ?_
    · intro i hi
      rw [told_hazard hp, if_pos (by omega)]
    · intro l' hI'
      refine ⟨_, rfl, by simp, hI'.mono (by omega) ?_⟩
      rintro ⟨s, a, b⟩ (h | ⟨h1, h2, h3, h4, h5⟩)
      · exact .inl (.inl h)
      · simp only at h1 h2 h3 h4 h5
        by_cases ha : a = t
        · subst ha; subst h1; exact .inr ⟨b.toNat, by omega, by rw [← hnat b h4]⟩
        · exact .inl (.inr ⟨h1, h2, by simp only; omega, h4, h5⟩)
  clear hI
  rintro ⟨l, k⟩ ⟨rfl, hI⟩
  simp only at hI ⊢
  rw [show decide (((p.threads.toNat : Nat) : Int) < p.threads) = false from by simp; omega]
  refine ⟨_, rfl, ?_⟩
  rw [← hnat p.threads (by omega)] at hI
  -- the retired words
  refine loop_inv (fun o => ∃ l, o = some l ∧ Inv p l (D.plan_Plan_Size p) (SN p p.nodes)) (fun (t : Nat) (x : List WordP × Int) => x.2 = (t : Int) ∧ Inv p x.1 (D.plan_Plan_counts p + t * (1 + p.retire)) (SR p t)) p.threads.toNat fu ⟨rfl, hI.mono (by simp; omega) ?_⟩ (by omega) ?_ ?_
  · rintro x (h | ⟨_, _, h⟩ | ⟨_, _, h⟩)
    · exact h
    · omega
    · omega
  · rintro t ⟨l, k⟩ ht ⟨rfl, hI⟩
    simp only at hI ⊢
    have htl := tr_le hp (t := t) (by omega) (by omega)
    have htm : (t : Int) * (1 + p.retire) ≤ 16 * 41 := Int.mul_le_mul (by omega) (by omega) (by omega) (by omega)
    rw [show decide ((t : Int) < p.threads) = true from by simp; omega, hI.app (by simp; omega), wrap_small (by omega) (by omega)]
    simp only [cond_true, Option.bind_some]
    have h1 := hI.push (w := ⟨4, t, 0⟩) (by rw [told_count hp, if_pos (by omega)])
    refine fill (fun (o : Option (Lp (List WordP × Int) (List WordP))) => ∃ x', o = some (Lp.next x') ∧ x'.2 = ((t + 1 : Nat) : Int) ∧ Inv p x'.1 (D.plan_Plan_counts p + ((t + 1 : Nat) : Int) * (1 + p.retire)) (SR p ((t + 1 : Nat) : Int))) p.retire.toNat (fun i => ⟨5, t, i⟩) (hnat _ (by omega)) (by omega) (by omega) h1 (by omega) ?_ ?_
    · intro i hi
      rw [told_retired hp, if_pos (by omega)]
    · intro l' hI'
      refine ⟨_, rfl, by simp, hI'.mono ?_ ?_⟩
      · rw [Int.natCast_add, Int.add_mul]
        omega
      · rintro ⟨s, a, b⟩ (h | ⟨h1, h2, h3, h4⟩ | ⟨h1, h2, h3, h4, h5⟩)
        · exact .inl (.inl (.inl h))
        · simp only at h1 h2 h3 h4
          by_cases ha : a = t
          · subst ha; subst h1; subst h2; exact .inl (.inr rfl)
          · exact .inl (.inl (.inr (.inl ⟨h1, h2, h3, by simp only; omega⟩)))
        · simp only at h1 h2 h3 h4 h5
          by_cases ha : a = t
          · subst ha; subst h1; exact .inr ⟨b.toNat, by omega, by rw [← hnat b h4]⟩
          · exact .inl (.inl (.inr (.inr ⟨h1, h2, by simp only; omega, h4, h5⟩)))
  clear hI
  rintro ⟨l, k⟩ ⟨rfl, hI⟩
  simp only at hI ⊢
  rw [show decide (((p.threads.toNat : Nat) : Int) < p.threads) = false from by simp; omega]
  refine ⟨_, rfl, ?_⟩
  rw [← hnat p.threads (by omega)] at hI
  -- the nodes
  refine loop_inv (fun o => ∃ l, o = some l ∧ Inv p l (D.plan_Plan_Size p) (SN p p.nodes)) (fun (n : Nat) (x : List WordP × Int) => x.2 = (n : Int) ∧ Inv p x.1 (D.plan_Plan_nodes p + n * 5) (SN p n)) p.nodes.toNat fu ⟨rfl, hI.mono (by simp; omega) ?_⟩ (by omega) ?_ ?_
  · rintro x (h | ⟨_, _, h⟩ | ⟨_, _, h⟩ | ⟨_, _, h⟩)
    · exact h
    · omega
    · omega
    · omega
  · rintro n ⟨l, k⟩ hn ⟨rfl, hI⟩
    simp only at hI ⊢
    rw [show decide ((n : Int) < p.nodes) = true from by simp; omega, hI.app (by simp; omega), wrap_small (x := (n : Int) + 1) (by omega) (by omega)]
    simp only [cond_true, Option.bind_some]
    have h1 := hI.push (w := ⟨6, n, 0⟩) (by rw [told_state hp, if_pos (by omega)])
    have h2 := h1.push (w := ⟨7, n, 0⟩) (by rw [told_next hp, if_pos (by omega)])
    rw [List.append_assoc] at h2
    refine fill (fun (o : Option (Lp (List WordP × Int) (List WordP))) => ∃ x', o = some (Lp.next x') ∧ x'.2 = ((n + 1 : Nat) : Int) ∧ Inv p x'.1 (D.plan_Plan_nodes p + ((n + 1 : Nat) : Int) * 5) (SN p ((n + 1 : Nat) : Int))) 3 (fun i => ⟨8, n, i⟩) rfl (by omega) (by omega) h2 (by omega) ?_ ?_
    · intro i hi
      rw [told_field hp, if_pos (by omega)]
      omega
    · intro l' hI'
      refine ⟨_, rfl, by simp, hI'.mono (by omega) ?_⟩
      rintro ⟨s, a, b⟩ (h | ⟨h1, h2, h3, h4⟩ | ⟨h1, h2, h3, h4⟩ | ⟨h1, h2, h3, h4, h5⟩)
      · exact .inl (.inl (.inl (.inl h)))
      · simp only at h1 h2 h3 h4
        by_cases ha : a = n
        · subst ha; subst h1; subst h2; exact .inl (.inl (.inr rfl))
        · exact .inl (.inl (.inl (.inr (.inl ⟨h1, h2, h3, by simp only; omega⟩))))
      · simp only at h1 h2 h3 h4
        by_cases ha : a = n
        · subst ha; subst h1; subst h2; exact .inl (.inr rfl)
        · exact .inl (.inl (.inl (.inr (.inr (.inl ⟨h1, h2, h3, by simp only; omega⟩)))))
      · simp only at h1 h2 h3 h4 h5
        by_cases ha : a = n
        · subst ha; subst h1; exact .inr ⟨b.toNat, by omega, by rw [← hnat b h4]⟩
        · exact .inl (.inl (.inl (.inr (.inr (.inr ⟨h1, h2, by simp only; omega, h4, h5⟩)))))
  clear hI
  rintro ⟨l, k⟩ ⟨rfl, hI⟩
  simp only at hI ⊢
  rw [show decide (((p.nodes.toNat : Nat) : Int) < p.nodes) = false from by simp; omega]
  refine ⟨_, rfl, _, rfl, ?_⟩
  rw [← hnat p.nodes (by omega)] at hI
  exact hI.mono hS.symm (fun _ h => h)
end Go.Proofs.Ytphnnjiaiemkcaa
