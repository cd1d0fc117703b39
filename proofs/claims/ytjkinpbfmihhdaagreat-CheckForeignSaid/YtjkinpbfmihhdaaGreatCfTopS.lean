/- A law's row: arguments that are slices, or structs within structs. -/
import Derived.Test.YtjkinpbfmihhdaaGreatCfTop
import Derived.Test.YtjkinpbfmihhdaaGreatCfTypes2
import Derived.ChangeSlices
namespace Go.Proofs.YtjkinpbfmihhdaaGreat
open Go.ChangeShapes Go.WideShapes Go.RowKit Go.Deep Go.ChangeAt
section
variable {H : Type} {enc : TypeId × Value → H} {P : Program} {w : World} {base : Nat} {spare : Nat → Bool} {held : Bool}
/-- The kinds of a type's cells, if all are integers, through structs. -/
def flatF (P : Program) (k : TypeId → Option (List IntKind)) : Nat → List Go.Field → Option (List IntKind)
  | _, [] => some []
  | off, f :: fs => if f.offset = off then (k f.type).bind fun ks => if ks.length = P.cellsOf f.type then (flatF P k (off + P.cellsOf f.type) fs).map (ks ++ ·) else none else none

def flatK (P : Program) : Nat → TypeId → Option (List IntKind)
  | 0, _ => none
  | n + 1, t => match P.underlying t with
    | some (.int k) => some [k]
    | some (.struct fs) => (flatF P (flatK P n) 0 fs.toList).bind fun ks => if ks.length = P.cellsOf t then some ks else none
    | _ => none

def Ints (ks : List IntKind) (cs : List Value) : Prop := ∃ ns : List Int, cs = List.zipWith Value.int ks ns ∧ ns.length = ks.length ∧ ∀ q, q ∈ List.zip ks ns → (Lit.int q.1 q.2).wf = true

theorem Ints.append {ks ks' : List IntKind} {cs cs' : List Value} (h : Ints ks cs) (h' : Ints ks' cs') : Ints (ks ++ ks') (cs ++ cs') := by
  obtain ⟨ns, rfl, h2, h3⟩ := h
  obtain ⟨ns', rfl, h2', h3'⟩ := h'
  refine ⟨ns ++ ns', (List.zipWith_append h2.symm).symm, by simp [h2, h2'], fun q hq => ?_⟩
  rw [List.zip_append h2.symm] at hq
  rcases List.mem_append.1 hq with hq | hq
  · exact h3 q hq
  · exact h3' q hq

theorem flatF_ints {k : TypeId → Option (List IntKind)} {m : Nat} {cs : List Value} (hk : ∀ t ks cs x, k t = some ks → DataW.trod enc P w base spare held m t cs = some x → Ints ks cs) : ∀ (fs : List Go.Field) (off : Nat) (ks : List IntKind), flatF P k off fs = some ks →
    (∀ f, f ∈ fs → ∃ y, DataW.trod enc P w base spare held m f.type ((cs.drop f.offset).take (P.cellsOf f.type)) = some y) → Ints ks ((cs.drop off).take ks.length)
  | [], off, ks, h, _ => by
    obtain rfl := Option.some.inj h
    exact ⟨[], by simp, rfl, fun q hq => by simp at hq⟩
  | f :: fs, off, ks, h, hf => by
    unfold flatF at h
    split at h
    · rename_i ho
      obtain ⟨k1, h1, h⟩ := Option.bind_eq_some_iff.1 h
      split at h
      · rename_i hl
        obtain ⟨k2, h2, rfl⟩ := Option.map_eq_some_iff.1 h
        obtain ⟨y, hy⟩ := hf f (List.mem_cons_self ..)
        have i1 := hk _ _ _ _ h1 hy
        have i2 := flatF_ints hk fs _ k2 h2 fun g hg => hf g (List.mem_cons_of_mem _ hg)
        rw [ho, ← hl] at i1
        rw [List.length_append, List.take_add, List.drop_drop, hl]
        rw [hl] at i1
        exact i1.append i2
      · cases h
    · cases h

theorem trod_flat : ∀ (n : Nat) (t : TypeId) (ks : List IntKind) (m : Nat) (cs : List Value) (x : DataW H × List MemPlace), flatK P n t = some ks → DataW.trod enc P w base spare held m t cs = some x → Ints ks cs
  | 0, _, _, _, _, _, h, _ => by cases h
  | n + 1, t, ks, m, cs, x, h, hd => by
    unfold flatK at h
    split at h
    · rename_i k hu
      obtain rfl := Option.some.inj h
      obtain ⟨z, h1, _, h2⟩ := DataW.trod_int hu hd
      subst h1
      exact ⟨[z], rfl, rfl, fun q hq => by
        rcases List.mem_singleton.1 hq with rfl
        exact h2⟩
    · rename_i fs hu
      obtain ⟨ks', h1, h2⟩ := Option.bind_eq_some_iff.1 h
      split at h2
      · rename_i hl
        obtain rfl := Option.some.inj h2
        obtain ⟨xs, m', _, hx, hcl, hlen, hfs⟩ := DataW.trod_struct hu hd
        have := flatF_ints (m := m') (cs := cs) (fun t ks cs x => trod_flat n t ks m' cs x) fs.toList 0 ks' h1 fun f hf => by
          obtain ⟨j, hj, he⟩ := List.mem_iff_getElem.1 hf
          have hj' : fs[j]? = some f := by rw [← he]; simp
          have h3 := hfs j f hj'
          have hjs : j < fs.size := by simpa using hj
          exact ⟨_, h3.trans (List.getElem?_eq_getElem (show j < xs.length by omega))⟩
        rw [List.drop_zero, List.take_of_length_le (by omega)] at this
        exact this
      · cases h2
    · cases h

/-- A struct by value whose cells are integers. -/
theorem open_structN {r : Reach} {b0 : Nat} {t : TypeId} {fs : Array Go.Field} {v : Value} {d : DataW H} {p : List MemPlace} (n : Nat) (ks : List IntKind) (hs : P.underlying t = some (.struct fs)) (hk : flatK P n t = some ks)
    (hv : Value.okWide P w r b0 t v) (h : DataW.Trod enc P w base spare held t v d p) :
    ∃ ns : List Int, v = .agg (List.zipWith Value.int ks ns).toArray ∧ ns.length = ks.length ∧ ∀ q, q ∈ List.zip ks ns → (Lit.int q.1 q.2).wf = true := by
  obtain ⟨cs, rfl, hsz⟩ := okWide_struct hs hv
  obtain ⟨fuel, hf⟩ := h
  obtain ⟨ns, h1, h2, h3⟩ := trod_flat n t ks fuel _ _ hk hf
  refine ⟨ns, ?_, h2, h3⟩
  rw [← h1]
  simp [Value.cells]

end
end Go.Proofs.YtjkinpbfmihhdaaGreat
