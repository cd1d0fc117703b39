/- A law's row: arguments that are slices, or structs within structs. -/
import Derived.ChangeSlices
import Derived.Test.YtjkinpbfmihhdaaGreatCrM15
import Derived.Test.YtjkinpbfmihhdaaGreatCrM3
set_option linter.all false
namespace Go.Proofs.YtjkinpbfmihhdaaGreat
open Go.ChangeShapes Go.WideShapes Go.RowKit Go.Deep Go.ChangeAt
section
variable {H : Type} {enc : TypeId × Value → H} {P : Program} {w : World} {base : Nat} {spare : Nat → Bool} {held : Bool}
def Ints (ks : List IntKind) (cs : List Value) : Prop := ∃ ns : List Int, cs = List.zipWith Value.int ks ns ∧ ns.length = ks.length ∧ ∀ q, q ∈ List.zip ks ns → (Lit.int q.1 q.2).wf = true

theorem Ints.append {ks ks' : List IntKind} {cs cs' : List Value} (h : Ints ks cs) (h' : Ints ks' cs') : Ints (ks ++ ks') (cs ++ cs') := by
  obtain ⟨ns, rfl, h2, h3⟩ := h
  obtain ⟨ns', rfl, h2', h3'⟩ := h'
  refine ⟨ns ++ ns', (List.zipWith_append h2.symm).symm, by simp [h2, h2'], fun q hq => ?_⟩
  rw [List.zip_append h2.symm] at hq
  rcases List.mem_append.1 hq with hq | hq
  · exact h3 q hq
  · exact h3' q hq

/-- A slice of things that read as such. -/
theorem open_rowG {α : Type} {T : TypeId} {r : Reach} {b0 : Nat} {t e : TypeId} {v : Value} {d : DataW H} {p : List MemPlace} {sz : Nat} (f : α → List Value) (Pr : α → Prop) (z : α) (ht : P.underlying t = some (.slice e))
    (hel : ∀ m cs x, DataW.trod enc P w base spare held m e cs = some x → ∃ y, cs = f y ∧ Pr y) (hc : P.cellsOf e = sz) (hpos : 0 < sz) (hfl : ∀ x, (f x).length = sz)
    (hv : Value.okWide P w r b0 t v) (h : DataW.Trod enc P w base spare held t v d p) : ∃ xs : List α, RoAt T sz f v xs w ∧ ∀ x, x ∈ xs → Pr x := by
  obtain ⟨a, len, cap, rfl⟩ := okWide_slice ht hv
  obtain ⟨fuel, hd⟩ := h
  rcases open_slice ht hd with ⟨h1, _⟩ | ⟨ad, n', c, m, q, D, Pl, h1, _, hnc, _, hm, _, hcell⟩
  · simp only [Value.cells, List.cons.injEq, and_true] at h1
    injection h1 with h1 h2 h3
    subst h1; subst h2; subst h3
    exact ⟨[], .inl ⟨_, _, rfl, rfl⟩, fun _ h => by cases h⟩
  · simp only [Value.cells, List.cons.injEq, and_true] at h1
    injection h1 with h1 h2 h3
    subst h1; subst h2; subst h3
    have hlen : len ≤ m := by rw [hm]; split <;> omega
    have hI : ∀ i, i < len → ∃ y : α, w.cells? base (ad.add (i * sz)) sz = some (f y) ∧ Pr y := fun i hi => by
      obtain ⟨cs', h1, h2⟩ := hcell i (by omega)
      obtain ⟨y, h3, h4⟩ := hel q cs' _ h2
      rw [hc, h3] at h1
      exact ⟨y, h1, h4⟩
    obtain ⟨g, hg⟩ := Classical.axiomOfChoice (r := fun (i : Nat) (y : α) => i < len → w.cells? base (ad.add (i * sz)) sz = some (f y) ∧ Pr y)
      (fun i => by
        by_cases hi : i < len
        · obtain ⟨y, h⟩ := hI i hi; exact ⟨y, fun _ => h⟩
        · exact ⟨z, fun h => absurd h hi⟩)
    refine ⟨(List.range len).map fun i => g i, ?_, fun x hx => ?_⟩
    · cases len with
      | zero => exact .inl ⟨_, _, rfl, rfl⟩
      | succ m0 =>
        have hz : ∀ i, i < m0 + 1 → ∀ j u, (f ((g i)))[j]? = some u → w.cell? ((ad.add (i * sz)).add j) = some u := fun i hi j u hu => by
          obtain ⟨h1, _⟩ := hg i hi
          obtain ⟨_, h4, h5⟩ := World.cells?_some h1
          have hj : j < (f (g i)).length := (List.getElem?_eq_some_iff.1 hu).1
          rw [h5 j (by omega), hu]
        have h0 := hz 0 (by omega) 0 ((f ((g 0)))[0]'(by rw [hfl]; exact hpos)) (by simp)
        have hadd : (ad.add (0 * sz)).add 0 = ad := by rw [Nat.zero_mul]; rfl
        rw [hadd] at h0
        have hsp : ad.spot = none := by
          unfold World.cell? at h0
          split at h0
          · split at h0
            · cases h0
            · rename_i h; simpa using h
          · cases h0
        obtain ⟨gB, o, sp⟩ := ad
        simp only at hsp
        subst hsp
        have hx : ∃ cur E fz, w.heap[gB]? = some (.cells cur E fz) := by
          unfold World.cell? at h0
          split at h0
          · rename_i c' E fz hh; exact ⟨c', E, fz, hh⟩
          · cases h0
        obtain ⟨cur, E, fz, hh⟩ := hx
        refine .inr ⟨gB, o, cap, cur, E, fz, by simp, ?_, hh, ?_, by simpa using hnc⟩
        · intro he
          have := congrArg List.length he
          simp at this
        · have hll : ((List.range (m0 + 1)).map fun i => g i).length = m0 + 1 := by simp
          apply List.ext_getElem?
          intro q
          rw [hll]
          by_cases hq : q < (m0 + 1) * sz
          · have hi : q / sz < m0 + 1 := (Nat.div_lt_iff_lt_mul hpos).2 hq
            have hj : q % sz < sz := Nat.mod_lt _ hpos
            have hqq : q / sz * sz + q % sz = q := by rw [Nat.mul_comm]; exact Nat.div_add_mod q sz
            have h1 := hz (q / sz) hi (q % sz) ((f ((g (q / sz))))[q % sz]'(by rw [hfl]; exact hj)) (by simp)
            rw [Addr.add_lit, Addr.add_lit] at h1
            simp only [World.cell?, hh] at h1
            have h2 := flatMap_at hfl ((List.range (m0 + 1)).map fun i => g i) (q / sz) (by rw [hll]; exact hi) (q % sz) ((f ((g (q / sz))))[q % sz]'(by rw [hfl]; exact hj)) (by simp)
            rw [hqq] at h2
            rw [h2, List.getElem?_take, if_pos hq, List.getElem?_drop]
            rw [Nat.add_assoc, hqq] at h1
            simpa using h1
          · rw [List.getElem?_take, if_neg hq, List.getElem?_eq_none]
            rw [zz4o hfl, hll]
            omega
    · obtain ⟨i, hi, rfl⟩ := List.mem_map.1 hx
      exact (hg i (List.mem_range.1 hi)).2

theorem open_rowB {T : TypeId} {r : Reach} {b0 : Nat} {t e : TypeId} {v : Value} {d : DataW H} {p : List MemPlace} (ht : P.underlying t = some (.slice e)) (he : P.underlying e = some .bool) (hc : P.cellsOf e = 1)
    (hv : Value.okWide P w r b0 t v) (h : DataW.Trod enc P w base spare held t v d p) : ∃ xs : List Bool, RoAt T 1 boolE v xs w := by
  obtain ⟨xs, h1, _⟩ := open_rowG (T := T) boolE (fun _ => True) false ht (fun m cs x hx => by
    obtain ⟨b, hb, _⟩ := DataW.trod_bool he hx
    exact ⟨b, hb, trivial⟩) hc (by omega) (fun _ => rfl) hv h
  exact ⟨xs, h1⟩

end
end Go.Proofs.YtjkinpbfmihhdaaGreat
