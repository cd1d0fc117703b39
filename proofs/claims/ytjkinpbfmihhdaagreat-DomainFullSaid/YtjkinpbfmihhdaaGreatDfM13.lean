/- Some of our texts, one behind the other. -/
import Derived.WalkKit
import Derived.ProofKit
import Derived.OpenShut
import Derived.ShutString
import Derived.ChangeOld
import Derived.Below
import Derived.Carry
import Derived.SizedLaws
import Derived.Deep.Slices
import Derived.Deep.Fields
import Derived.ChangeSame
import Derived.Test.YtjkinpbfmihhdaaGreatRows
set_option linter.all false
/- A law's row from what its walk hands back: arguments opened. -/
namespace Go.Proofs.YtjkinpbfmihhdaaGreat
open Go.ChangeShapes Go.WideShapes Go.RowKit Go.Deep Go.ChangeAt
section
variable {H : Type} {enc : TypeId × Value → H} {P : Program} {w : World} {base : Nat} {spare : Nat → Bool} {held : Bool}
theorem one_of_drop {α : Type} {l : List α} {j : Nat} (h : j < l.length) : (l.drop j).take 1 = [l[j]] := by
  rw [List.drop_eq_getElem_cons h]
  rfl

/-- A struct by value whose fields are integers, of whatever number. -/
theorem open_structI {r : Reach} {b0 : Nat} {t : TypeId} {fs : Array Go.Field} {v : Value} {d : DataW H} {p : List MemPlace} (ks : List IntKind) (hs : P.underlying t = some (.struct fs)) (hone : oneCellFields P fs = true)
    (hC : P.cellsOf t = fs.size) (hk : fs.toList.map (fun f => P.underlying f.type) = ks.map fun k => some (.int k))
    (hv : Value.okWide P w r b0 t v) (h : DataW.Trod enc P w base spare held t v d p) :
    ∃ ns : List Int, v = .agg (List.zipWith Value.int ks ns).toArray ∧ ns.length = ks.length ∧ ∀ q, q ∈ List.zip ks ns → (Lit.int q.1 q.2).wf = true := by
  obtain ⟨cs, rfl, hsz⟩ := okWide_struct hs hv
  obtain ⟨fuel, hf⟩ := h
  obtain ⟨xs, n, _, hx, hl, hlen, hfs⟩ := DataW.trod_struct hs hf
  have hkl : ks.length = fs.size := by
    have := congrArg List.length hk
    simpa using this.symm
  have hcl : cs.size = fs.size := hsz.trans hC
  have hat : ∀ j (hj : j < cs.size), ∃ (k : IntKind) (m : Int), ks[j]? = some k ∧ cs[j] = .int k m ∧ (Lit.int k m).wf = true := by
    intro j hj
    have hjf : fs[j]? = some fs[j] := by simp
    obtain ⟨ho, hc⟩ := hone_of hone j _ hjf
    have h1 := hfs j _ hjf
    rw [ho, hc] at h1
    have hcs : ((Value.agg cs).cells.toList.drop j).take 1 = [cs[j]] := by
      have := one_of_drop (l := cs.toList) (j := j) (by simpa using hj)
      simpa [Value.cells] using this
    rw [hcs] at h1
    have hxs : xs[j]? = some (xs[j]'(by omega)) := by simp
    rw [hxs] at h1
    have hu : (fs.toList.map (fun f => P.underlying f.type))[j]? = some (P.underlying fs[j].type) := by simp [hjf]
    rw [hk] at hu
    obtain ⟨k, hk1, hk2⟩ : ∃ k, ks[j]? = some k ∧ some (.int k) = P.underlying fs[j].type := by
      simpa using hu
    obtain ⟨m, hm, _, hw⟩ := DataW.trod_int hk2.symm h1
    exact ⟨k, m, hk1, by simpa using hm, hw⟩
  refine ⟨cs.toList.map intOf, ?_, by simp; omega, ?_⟩
  · congr 1
    apply Array.ext_getElem?
    intro j
    rcases Nat.lt_or_ge j cs.size with hj | hj
    · obtain ⟨k, m, h1, h2, _⟩ := hat j hj
      simp [List.getElem?_zipWith, h1, hj, h2, intOf]
    · simp [List.getElem?_zipWith, hj]
  · intro q hq
    obtain ⟨j, hj, he⟩ := List.mem_iff_getElem.1 hq
    simp only [List.length_zip, List.length_map, Array.length_toList] at hj
    obtain ⟨k, m, h1, h2, h3⟩ := hat j (by omega)
    have hk3 : ks[j]'(by omega) = k := by
      have := List.getElem?_eq_getElem (l := ks) (i := j) (by omega)
      rw [h1] at this
      exact (Option.some.inj this).symm
    simp only [List.getElem_zip, List.getElem_map] at he
    rw [← he]
    simp only [hk3, Array.getElem_toList, h2, intOf]
    exact h3

end
theorem list6 {α : Type} {l : List α} (h : l.length = 6) : ∃ x0 x1 x2 x3 x4 x5, l = [x0, x1, x2, x3, x4, x5] := by
  match l, h with
  | [x0, x1, x2, x3, x4, x5], _ => exact ⟨x0, x1, x2, x3, x4, x5, rfl⟩

theorem laidOut : laidOutB Tryz.prog = true := by kernel_rfl

end Go.Proofs.YtjkinpbfmihhdaaGreat

/- The program's order of start: its words, told once. -/
namespace Go.Proofs.YtjkinpbfmihhdaaGreat
open Go.ChangeShapes Go.WideShapes Go.ChangeAt Go.RowKit
def ioN : List Nat := [104, 97, 114, 110, 101, 115, 115, 32, 54, 98, 100, 53, 55, 52, 57, 55, 57, 102, 48, 50, 53, 98, 54, 54, 98, 99, 99, 51, 55, 98, 48, 57, 99, 51, 53, 101, 56, 53, 49, 100, 100, 102, 54, 101, 99, 57, 48, 98, 101, 48, 53, 49, 49, 98, 100, 55, 100, 48, 101, 52, 101, 97, 57, 57, 56, 49, 57, 57, 102, 57, 102, 50, 32, 99, 117, 116, 32, 97, 116, 32, 99, 117, 98, 105, 99, 108, 101, 47, 99, 117, 98, 105, 99, 108, 101, 108, 97, 119, 49, 51, 46, 67, 104, 101, 99, 107, 84, 119, 111, 32, 99, 117, 98, 105, 99, 108, 101, 47, 99, 117, 98, 105, 99, 108, 101, 108, 97, 119, 49, 51, 46, 67, 104, 101, 99, 107, 70, 114, 101, 115, 104, 32, 99, 117, 98, 105, 99, 108, 101, 47, 99, 117, 98, 105, 99, 108, 101, 108, 97, 119, 49, 51, 46, 67, 104, 101, 99, 107, 71, 117, 97, 114, 100, 101, 100, 32, 99, 117, 98, 105, 99, 108, 101, 47, 99, 117, 98, 105, 99, 108, 101, 108, 97, 119, 49, 51, 46, 67, 104, 101, 99, 107, 82, 97, 99, 101, 32, 99, 117, 98, 105, 99, 108, 101, 47, 99, 117, 98, 105, 99, 108, 101, 108, 97, 119, 49, 51, 46, 67, 104, 101, 99, 107, 70, 111, 114, 101, 105, 103, 110, 32, 99, 117, 98, 105, 99, 108, 101, 47, 99, 117, 98, 105, 99, 108, 101, 108, 97, 119, 49, 51, 46, 67, 104, 101, 99, 107, 65, 108, 111, 110, 101, 32, 99, 117, 98, 105, 99, 108, 101, 47, 99, 117, 98, 105, 99, 108, 101, 108, 97, 119, 49, 51, 46, 67, 104, 101, 99, 107, 67, 108, 101, 97, 114, 115, 32, 99, 117, 98, 105, 99, 108, 101, 47, 99, 117, 98, 105, 99, 108, 101, 108, 97, 119, 49, 52, 46, 81, 117, 101, 117, 101, 65, 108, 111, 110, 101, 32, 99, 117, 98, 105, 99, 108, 101, 47, 99, 117, 98, 105, 99, 108, 101, 108, 97, 119, 49, 52, 46, 81, 117, 101, 117, 101, 83, 116, 97, 108, 108, 115, 32, 99, 117, 98, 105, 99, 108, 101, 47, 99, 117, 98, 105, 99, 108, 101, 108, 97, 119, 49, 52, 46, 81, 117, 101, 117, 101, 79, 114, 100, 101, 114, 32, 99, 117, 98, 105, 99, 108, 101, 47, 99, 117, 98, 105, 99, 108, 101, 108, 97, 119, 49, 52, 46, 81, 117, 101, 117, 101, 82, 97, 99, 101, 32, 99, 117, 98, 105, 99, 108, 101, 47, 99, 117, 98, 105, 99, 108, 101, 108, 97, 119, 49, 52, 46, 81, 117, 101, 117, 101, 77, 97, 110, 121, 32, 99, 117, 98, 105, 99, 108, 101, 47, 99, 117, 98, 105, 99, 108, 101, 108, 97, 119, 49, 52, 46, 81, 117, 101, 117, 101, 78, 111, 100, 101, 115, 32, 99, 117, 98, 105, 99, 108, 101, 47, 99, 117, 98, 105, 99, 108, 101, 108, 97, 119, 49, 53, 46, 76, 105, 115, 116, 75, 101, 121, 115, 32, 99, 117, 98, 105, 99, 108, 101, 47, 99, 117, 98, 105, 99, 108, 101, 108, 97, 119, 49, 53, 46, 76, 105, 115, 116, 82, 97, 99, 101, 32, 99, 117, 98, 105, 99, 108, 101, 47, 99, 117, 98, 105, 99, 108, 101, 108, 97, 119, 49, 53, 46, 76, 105, 115, 116, 65, 108, 111, 110, 101, 32, 99, 117, 98, 105, 99, 108, 101, 47, 99, 117, 98, 105, 99, 108, 101, 108, 97, 119, 49, 53, 46, 76, 105, 115, 116, 83, 116, 97, 108, 108, 115, 32, 99, 117, 98, 105, 99, 108, 101, 47, 99, 117, 98, 105, 99, 108, 101, 108, 97, 119, 49, 53, 46, 76, 105, 115, 116, 77, 97, 110, 121, 32, 99, 117, 98, 105, 99, 108, 101, 47, 99, 117, 98, 105, 99, 108, 101, 108, 97, 119, 49, 53, 46, 76, 105, 115, 116, 78, 111, 100, 101, 115, 32, 99, 117, 98, 105, 99, 108, 101, 47, 99, 117, 98, 105, 99, 108, 101, 108, 97, 119, 49, 50, 46, 65, 108, 108, 111, 99, 65, 108, 111, 110, 101, 32, 99, 117, 98, 105, 99, 108, 101, 47, 99, 117, 98, 105, 99, 108, 101, 108, 97, 119, 49, 55, 46, 68, 111, 109, 97, 105, 110, 70, 117, 108, 108, 32, 99, 117, 98, 105, 99, 108, 101, 47, 99, 117, 98, 105, 99, 108, 101, 108, 97, 119, 49, 55, 46, 68, 111, 109, 97, 105, 110, 82, 97, 99, 101, 32, 99, 117, 98, 105, 99, 108, 101, 47, 99, 117, 98, 105, 99, 108, 101, 108, 97, 119, 49, 55, 46, 68, 111, 109, 97, 105, 110, 79, 100, 100, 32, 99, 117, 98, 105, 99, 108, 101, 47, 99, 117, 98, 105, 99, 108, 101, 108, 97, 119, 49, 54, 46, 68, 105, 99, 116, 67, 101, 108, 108, 115]

theorem io1 : Tryz.prog.initOrder = String.ofList (ioN.map Char.ofNat) := by kernel_rfl

theorem io2 : Tryz.prog.initOrder.toList = ioN.map Char.ofNat := by rw [io1, String.toList_ofList]

theorem io3 : behindMainWord (wordsSigns Tryz.prog.initOrder.toList) = (([99, 117, 116] : List Nat).map Char.ofNat) :: ([[97, 116], [99, 117, 98, 105, 99, 108, 101, 47, 99, 117, 98, 105, 99, 108, 101, 108, 97, 119, 49, 51, 46, 67, 104, 101, 99, 107, 84, 119, 111], [99, 117, 98, 105, 99, 108, 101, 47, 99, 117, 98, 105, 99, 108, 101, 108, 97, 119, 49, 51, 46, 67, 104, 101, 99, 107, 70, 114, 101, 115, 104], [99, 117, 98, 105, 99, 108, 101, 47, 99, 117, 98, 105, 99, 108, 101, 108, 97, 119, 49, 51, 46, 67, 104, 101, 99, 107, 71, 117, 97, 114, 100, 101, 100], [99, 117, 98, 105, 99, 108, 101, 47, 99, 117, 98, 105, 99, 108, 101, 108, 97, 119, 49, 51, 46, 67, 104, 101, 99, 107, 82, 97, 99, 101], [99, 117, 98, 105, 99, 108, 101, 47, 99, 117, 98, 105, 99, 108, 101, 108, 97, 119, 49, 51, 46, 67, 104, 101, 99, 107, 70, 111, 114, 101, 105, 103, 110], [99, 117, 98, 105, 99, 108, 101, 47, 99, 117, 98, 105, 99, 108, 101, 108, 97, 119, 49, 51, 46, 67, 104, 101, 99, 107, 65, 108, 111, 110, 101], [99, 117, 98, 105, 99, 108, 101, 47, 99, 117, 98, 105, 99, 108, 101, 108, 97, 119, 49, 51, 46, 67, 104, 101, 99, 107, 67, 108, 101, 97, 114, 115], [99, 117, 98, 105, 99, 108, 101, 47, 99, 117, 98, 105, 99, 108, 101, 108, 97, 119, 49, 52, 46, 81, 117, 101, 117, 101, 65, 108, 111, 110, 101], [99, 117, 98, 105, 99, 108, 101, 47, 99, 117, 98, 105, 99, 108, 101, 108, 97, 119, 49, 52, 46, 81, 117, 101, 117, 101, 83, 116, 97, 108, 108, 115], [99, 117, 98, 105, 99, 108, 101, 47, 99, 117, 98, 105, 99, 108, 101, 108, 97, 119, 49, 52, 46, 81, 117, 101, 117, 101, 79, 114, 100, 101, 114], [99, 117, 98, 105, 99, 108, 101, 47, 99, 117, 98, 105, 99, 108, 101, 108, 97, 119, 49, 52, 46, 81, 117, 101, 117, 101, 82, 97, 99, 101], [99, 117, 98, 105, 99, 108, 101, 47, 99, 117, 98, 105, 99, 108, 101, 108, 97, 119, 49, 52, 46, 81, 117, 101, 117, 101, 77, 97, 110, 121], [99, 117, 98, 105, 99, 108, 101, 47, 99, 117, 98, 105, 99, 108, 101, 108, 97, 119, 49, 52, 46, 81, 117, 101, 117, 101, 78, 111, 100, 101, 115], [99, 117, 98, 105, 99, 108, 101, 47, 99, 117, 98, 105, 99, 108, 101, 108, 97, 119, 49, 53, 46, 76, 105, 115, 116, 75, 101, 121, 115], [99, 117, 98, 105, 99, 108, 101, 47, 99, 117, 98, 105, 99, 108, 101, 108, 97, 119, 49, 53, 46, 76, 105, 115, 116, 82, 97, 99, 101], [99, 117, 98, 105, 99, 108, 101, 47, 99, 117, 98, 105, 99, 108, 101, 108, 97, 119, 49, 53, 46, 76, 105, 115, 116, 65, 108, 111, 110, 101], [99, 117, 98, 105, 99, 108, 101, 47, 99, 117, 98, 105, 99, 108, 101, 108, 97, 119, 49, 53, 46, 76, 105, 115, 116, 83, 116, 97, 108, 108, 115], [99, 117, 98, 105, 99, 108, 101, 47, 99, 117, 98, 105, 99, 108, 101, 108, 97, 119, 49, 53, 46, 76, 105, 115, 116, 77, 97, 110, 121], [99, 117, 98, 105, 99, 108, 101, 47, 99, 117, 98, 105, 99, 108, 101, 108, 97, 119, 49, 53, 46, 76, 105, 115, 116, 78, 111, 100, 101, 115], [99, 117, 98, 105, 99, 108, 101, 47, 99, 117, 98, 105, 99, 108, 101, 108, 97, 119, 49, 50, 46, 65, 108, 108, 111, 99, 65, 108, 111, 110, 101], [99, 117, 98, 105, 99, 108, 101, 47, 99, 117, 98, 105, 99, 108, 101, 108, 97, 119, 49, 55, 46, 68, 111, 109, 97, 105, 110, 70, 117, 108, 108], [99, 117, 98, 105, 99, 108, 101, 47, 99, 117, 98, 105, 99, 108, 101, 108, 97, 119, 49, 55, 46, 68, 111, 109, 97, 105, 110, 82, 97, 99, 101], [99, 117, 98, 105, 99, 108, 101, 47, 99, 117, 98, 105, 99, 108, 101, 108, 97, 119, 49, 55, 46, 68, 111, 109, 97, 105, 110, 79, 100, 100], [99, 117, 98, 105, 99, 108, 101, 47, 99, 117, 98, 105, 99, 108, 101, 108, 97, 119, 49, 54, 46, 68, 105, 99, 116, 67, 101, 108, 108, 115]] : List (List Nat)).map (List.map Char.ofNat) := by rw [io2]; kernel_rfl

theorem stripG (r : List (List Char)) : stripLifts liftWords (([99, 117, 116].map Char.ofNat) :: r) = ([], ([99, 117, 116].map Char.ofNat) :: r) := by rfl

theorem makeG {P : Program} {r : List (List Char)} (h : behindMainWord (wordsSigns P.initOrder.toList) = ([99, 117, 116].map Char.ofNat) :: r) : P.make = some .cut := by
  unfold Program.make
  rw [h]
  rfl

theorem liftsG {P : Program} {r : List (List Char)} (h : behindMainWord (wordsSigns P.initOrder.toList) = ([99, 117, 116].map Char.ofNat) :: r) : P.liftsFinal = false := by
  unfold Program.liftsFinal Program.headLifts
  rw [h, stripG]
  rfl

theorem enterG {P : Program} {r : List (List Char)} (h : behindMainWord (wordsSigns P.initOrder.toList) = ([99, 117, 116].map Char.ofNat) :: r) (h1 : P.laysLater = false) (h2 : P.bearsReflect = false) (h3 : P.doorFits [] = true) : P.mayEnter = true := by
  unfold Program.mayEnter
  rw [h]
  simp only [stripG, h1, h2, h3]
  rfl

theorem e1 : Tryz.prog.laysLater = false := by kernel_rfl

theorem e2 : Tryz.prog.bearsReflect = false := by kernel_rfl

theorem e3 : Tryz.prog.doorFits [] = true := by kernel_rfl

theorem io_make : Tryz.prog.make = some .cut := makeG io3

theorem io_lifts : Tryz.prog.liftsFinal = false := liftsG io3

theorem io_enter : Tryz.prog.mayEnter = true := enterG io3 e1 e2 e3

theorem io_maps : mapsRowed Tryz.prog = true := by kernel_rfl

theorem io_heard : Tryz.prog.stopsHeard = true := by kernel_rfl

end Go.Proofs.YtjkinpbfmihhdaaGreat
