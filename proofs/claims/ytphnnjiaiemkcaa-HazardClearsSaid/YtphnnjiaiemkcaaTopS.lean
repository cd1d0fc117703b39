/- A law's row: arguments that are slices of integers. -/
import Derived.Test.YtphnnjiaiemkcaaTop
import Derived.Test.YtphnnjiaiemkcaaTypes2
import Derived.ChangeSlices
namespace Go.Proofs.Ytphnnjiaiemkcaa
open Go.ChangeShapes Go.WideShapes Go.RowKit Go.Deep Go.ChangeAt
section
variable {H : Type} {enc : TypeId × Value → H} {P : Program} {w : World} {base : Nat} {spare : Nat → Bool} {held : Bool}
theorem open_rowI {T : TypeId} {r : Reach} {b0 : Nat} {t e : TypeId} {k : IntKind} {v : Value} {d : DataW H} {p : List MemPlace} (f : Int → List Value) (hf : ∀ x, f x = [.int k x]) (ht : P.underlying t = some (.slice e)) (he : P.underlying e = some (.int k)) (hc : P.cellsOf e = 1)
    (hv : Value.okWide P w r b0 t v) (h : DataW.Trod enc P w base spare held t v d p) : ∃ xs : List Int, RoAt T 1 f v xs w ∧ ∀ n, n ∈ xs → (Lit.int k n).wf = true := by
  obtain ⟨a, len, cap, rfl⟩ := okWide_slice ht hv
  obtain ⟨fuel, hd⟩ := h
  rcases open_ints ht he hc hd with ⟨h1, _⟩ | ⟨ad, n, c, zs, h1, _, hnc, _, hz, _, hcell, hw⟩
  · simp only [Value.cells, List.cons.injEq, and_true] at h1
    injection h1 with h1 h2 h3
    subst h1; subst h2; subst h3
    exact ⟨[], .inl ⟨_, _, rfl, rfl⟩, fun _ h => by cases h⟩
  · simp only [Value.cells, List.cons.injEq, and_true] at h1
    injection h1 with h1 h2 h3
    subst h1; subst h2; subst h3
    refine ⟨zs.take len, ?_, fun n hn => hw n (List.mem_of_mem_take hn)⟩
    have hlen : len ≤ zs.length := by rw [hz]; split <;> omega
    cases len with
    | zero => exact .inl ⟨_, _, rfl, by simp⟩
    | succ m =>
      have h0 := hcell 0 (by omega)
      have hsp : ad.spot = none := by
        rw [show ad.add 0 = ad from rfl] at h0
        unfold World.cell? at h0
        split at h0
        · split at h0
          · cases h0
          · rename_i h; simpa using h
        · cases h0
      obtain ⟨g, o, sp⟩ := ad
      simp only at hsp
      subst hsp
      have hx : ∃ cur E fz, w.heap[g]? = some (.cells cur E fz) := by
        unfold World.cell? at h0
        split at h0
        · rename_i c' E fz hh; exact ⟨c', E, fz, hh⟩
        · cases h0
      obtain ⟨cur, E, fz, hh⟩ := hx
      refine .inr ⟨g, o, cap, cur, E, fz, ?_, ?_, hh, ?_⟩
      · rw [List.length_take, Nat.min_eq_left hlen]
      · intro he
        have := congrArg List.length he
        rw [List.length_take, Nat.min_eq_left hlen] at this
        simp at this
      · have hfm : ∀ l : List Int, l.flatMap f = l.map (.int k) := by
          intro l
          induction l with
          | nil => rfl
          | cons x l ih => simp [List.flatMap_cons, hf, ih]
        rw [hfm, List.length_take, Nat.min_eq_left hlen, Nat.mul_one]
        apply List.ext_getElem?
        intro j
        rw [List.getElem?_take, List.getElem?_drop, List.getElem?_map, List.getElem?_take]
        split
        · have h2 := hcell j (by omega)
          rw [Addr.add_lit] at h2
          simp only [World.cell?, hh] at h2
          have h3 : cur[o + j]? = some (.int k (zs.getD j 0)) := by simpa using h2
          rw [show (cur.toList)[o + j]? = some (.int k (zs.getD j 0)) from by simpa using h3]
          rw [List.getElem?_eq_getElem (by omega)]
          simp [List.getD_eq_getElem?_getD, List.getElem?_eq_getElem (show j < zs.length by omega)]
        · rfl
end
end Go.Proofs.Ytphnnjiaiemkcaa
