/- A law's row from what its walk hands back: arguments opened. -/
import Derived.Test.YtphnnjiaiemkcaaGreatRows
import Derived.WalkKit
import Derived.ProofKit
import Derived.OpenShut
import Derived.ShutString
import Derived.ChangeOld
import Derived.Below
import Derived.Carry
import Derived.SizedLaws
import Derived.Deep.Slices
import Derived.Deep.Fields
import Derived.ChangeSame
namespace Go.Proofs.YtphnnjiaiemkcaaGreat
open Go.ChangeShapes Go.WideShapes Go.RowKit Go.Deep Go.ChangeAt
section
variable {H : Type} {enc : TypeId × Value → H} {P : Program} {w : World} {base : Nat} {spare : Nat → Bool} {held : Bool}
theorem one_of_drop {α : Type} {l : List α} {j : Nat} (h : j < l.length) : (l.drop j).take 1 = [l[j]] := by
  rw [List.drop_eq_getElem_cons h]
  rfl

/-- A struct by value whose fields are integers, of whatever number. -/
theorem open_structI {r : Reach} {b0 : Nat} {t : TypeId} {fs : Array Field} {v : Value} {d : DataW H} {p : List MemPlace} (ks : List IntKind) (hs : P.underlying t = some (.struct fs)) (hone : oneCellFields P fs = true)
    (hC : P.cellsOf t = fs.size) (hk : fs.toList.map (fun f => P.underlying f.type) = ks.map fun k => some (.int k))
    (hv : Value.okWide P w r b0 t v) (h : DataW.Trod enc P w base spare held t v d p) :
    ∃ ns : List Int, v = .agg (List.zipWith Value.int ks ns).toArray ∧ ns.length = ks.length ∧ ∀ q, q ∈ List.zip ks ns → (Lit.int q.1 q.2).wf = true := by
  obtain ⟨cs, rfl, hsz⟩ := okWide_struct hs hv
  obtain ⟨fuel, hf⟩ := h
  obtain ⟨xs, n, _, hx, hl, hlen, hfs⟩ := DataW.trod_struct hs hf
  have hkl : ks.length = fs.size := by
    have := congrArg List.length hk
    simpa using this.symm
  have hcl : cs.size = fs.size := hsz.trans hC
  have hat : ∀ j (hj : j < cs.size), ∃ (k : IntKind) (m : Int), ks[j]? = some k ∧ cs[j] = .int k m ∧ (Lit.int k m).wf = true := by
    intro j hj
    have hjf : fs[j]? = some fs[j] := by simp
    obtain ⟨ho, hc⟩ := hone_of hone j _ hjf
    have h1 := hfs j _ hjf
    rw [ho, hc] at h1
    have hcs : ((Value.agg cs).cells.toList.drop j).take 1 = [cs[j]] := by
      have := one_of_drop (l := cs.toList) (j := j) (by simpa using hj)
      simpa [Value.cells] using this
    rw [hcs] at h1
    have hxs : xs[j]? = some (xs[j]'(by omega)) := by simp
    rw [hxs] at h1
    have hu : (fs.toList.map (fun f => P.underlying f.type))[j]? = some (P.underlying fs[j].type) := by simp [hjf]
    rw [hk] at hu
    obtain ⟨k, hk1, hk2⟩ : ∃ k, ks[j]? = some k ∧ some (.int k) = P.underlying fs[j].type := by
      simpa using hu
    obtain ⟨m, hm, _, hw⟩ := DataW.trod_int hk2.symm h1
    exact ⟨k, m, hk1, by simpa using hm, hw⟩
  refine ⟨cs.toList.map intOf, ?_, by simp; omega, ?_⟩
  · congr 1
    apply Array.ext_getElem?
    intro j
    rcases Nat.lt_or_ge j cs.size with hj | hj
    · obtain ⟨k, m, h1, h2, _⟩ := hat j hj
      simp [List.getElem?_zipWith, h1, hj, h2, intOf]
    · simp [List.getElem?_zipWith, hj]
  · intro q hq
    obtain ⟨j, hj, he⟩ := List.mem_iff_getElem.1 hq
    simp only [List.length_zip, List.length_map, Array.length_toList] at hj
    obtain ⟨k, m, h1, h2, h3⟩ := hat j (by omega)
    have hk3 : ks[j]'(by omega) = k := by
      have := List.getElem?_eq_getElem (l := ks) (i := j) (by omega)
      rw [h1] at this
      exact (Option.some.inj this).symm
    simp only [List.getElem_zip, List.getElem_map] at he
    rw [← he]
    simp only [hk3, Array.getElem_toList, h2, intOf]
    exact h3

end
theorem list6 {α : Type} {l : List α} (h : l.length = 6) : ∃ x0 x1 x2 x3 x4 x5, l = [x0, x1, x2, x3, x4, x5] := by
  match l, h with
  | [x0, x1, x2, x3, x4, x5], _ => exact ⟨x0, x1, x2, x3, x4, x5, rfl⟩

theorem laidOut : laidOutB Tryz.prog = true := by kernel_rfl

end Go.Proofs.YtphnnjiaiemkcaaGreat
