/- A law's row: arguments that are slices, or structs within structs. -/
import Derived.Test.YtphnnjiaiemkcaaRrTop
import Derived.Test.YtphnnjiaiemkcaaRrTypes2
import Derived.ChangeSlices
namespace Go.Proofs.Ytphnnjiaiemkcaa
open Go.ChangeShapes Go.WideShapes Go.RowKit Go.Deep Go.ChangeAt
section
variable {H : Type} {enc : TypeId × Value → H} {P : Program} {w : World} {base : Nat} {spare : Nat → Bool} {held : Bool}
def Ints (ks : List IntKind) (cs : List Value) : Prop := ∃ ns : List Int, cs = List.zipWith Value.int ks ns ∧ ns.length = ks.length ∧ ∀ q, q ∈ List.zip ks ns → (Lit.int q.1 q.2).wf = true

theorem Ints.append {ks ks' : List IntKind} {cs cs' : List Value} (h : Ints ks cs) (h' : Ints ks' cs') : Ints (ks ++ ks') (cs ++ cs') := by
  obtain ⟨ns, rfl, h2, h3⟩ := h
  obtain ⟨ns', rfl, h2', h3'⟩ := h'
  refine ⟨ns ++ ns', (List.zipWith_append h2.symm).symm, by simp [h2, h2'], fun q hq => ?_⟩
  rw [List.zip_append h2.symm] at hq
  rcases List.mem_append.1 hq with hq | hq
  · exact h3 q hq
  · exact h3' q hq

end
end Go.Proofs.Ytphnnjiaiemkcaa
