/- Some of our texts, one behind the other. -/
import Derived.Test.YtjkinpbfmihhdaaGreatDaM7
import Derived.Test.YtjkinpbfmihhdaaGreatDaLawDR
import Derived.WalkKit
import Derived.ProofKit
import Derived.OpenShut
import Derived.ShutString
import Derived.ChangeOld
import Derived.Below
import Derived.Carry
import Derived.SizedLaws
import Derived.Deep.Slices
import Derived.Deep.Fields
import Derived.ChangeSame
import Derived.Test.YtjkinpbfmihhdaaGreatRows
import Derived.ChangeSlices
import Derived.Test.YtjkinpbfmihhdaaGreatDaM2
set_option linter.all false
/- DomainRace: what the walk found answers as the law says: all orders, looked at. -/
set_option linter.unusedVariables false
namespace Go.Proofs.YtjkinpbfmihhdaaGreat
open Go.RowKit
theorem race17 : D.cubiclelaw17_race = raceG (⟨0, 0⟩ : Res) := rfl

theorem awake17R : D.cubiclelaw17_awake 1000 = some true := by decide +kernel

/-- What the law asks of the end. -/
def finK (x y : Int) (a b : Res) (ws : List Int) : Bool := match D.domain_Kinds 1000 (⟨6, 2, 7, 2, 1, 9⟩ : Plan) ⟨ws, 0⟩ 0 with
  | some k => a.e == 0 && b.e == 0 && IntKind.u64.wrap (a.v + b.v) == 1 && (k.length : Int) == 2 && getI k a.v == some x && getI k b.v == some y
  | none => false

def drAll (a b : Bool) : Bool := match D.cubiclelaw09_Laid 1000 (⟨6, 2, 7, 2, 1, 9⟩ : Plan) with
  | some M => exploreR (D.domain_Make 1001 (⟨(⟨6, 2, 7, 2, 1, 9⟩ : Plan), 0, 0⟩ : Seat) (D.cubiclelaw17_kind a)) (D.domain_Make 1001 (⟨(⟨6, 2, 7, 2, 1, 9⟩ : Plan), 0, 1⟩ : Seat) (D.cubiclelaw17_kind b)) (finK (D.cubiclelaw17_kind a) (D.cubiclelaw17_kind b)) 60 [⟨[], [], M.ws⟩]
  | none => false

theorem dr00 : drAll false false = true := by decide +kernel

theorem dr01 : drAll false true = true := by decide +kernel

theorem dr10 : drAll true false = true := by decide +kernel

theorem dr11 : drAll true true = true := by decide +kernel

theorem pure_DomainRace (a b : Bool) (picks : List Bool) : ∃ fu, Wk.D.cubiclelaw17_DomainRace fu a b picks = some true := by
  refine ⟨1000, ?_⟩
  unfold Wk.D.cubiclelaw17_DomainRace
  rw [awake17R]
  simp only [Option.bind_some, Bool.not_true, cond_false]
  cases h1 : decide ((picks.length : Int) > 60)
  case true => rfl
  simp only [decide_eq_false_iff_not] at h1
  simp only [cond_false, Option.bind_some]
  have hall : drAll a b = true := by
    cases a
    · cases b
      · exact dr00
      · exact dr01
    · cases b
      · exact dr10
      · exact dr11
  unfold drAll at hall
  split at hall
  · rename_i M hM
    rw [hM]
    have hS := explore_ok (Q := fun ra rb ws => finK (D.cubiclelaw17_kind a) (D.cubiclelaw17_kind b) ra rb ws = true) (fun _ _ _ h => h) hall _ (List.mem_singleton.2 rfl)
    simp only [played] at hS
    obtain ⟨ra, rb, M', hr, hq⟩ := raceG_ok (z := (⟨0, 0⟩ : Res)) (fu := 1000) (picks := picks) (M := M) hS (by omega) (by omega) (by omega)
    simp only [Option.bind_some, race17]
    rw [hr]
    simp only [Option.bind_some, cond_true]
    unfold finK at hq
    have hk : D.domain_Kinds 1000 (⟨6, 2, 7, 2, 1, 9⟩ : Plan) M' 0 = D.domain_Kinds 1000 (⟨6, 2, 7, 2, 1, 9⟩ : Plan) ⟨M'.ws, 0⟩ 0 := rfl
    rw [hk]
    split at hq
    · rename_i k hk
      rw [hk]
      simp only [Bool.and_eq_true, beq_iff_eq] at hq
      obtain ⟨⟨⟨⟨⟨q1, q2⟩, q3⟩, q4⟩, q5⟩, q6⟩ := hq
      simp only [Option.bind_some, q1, q2, q3, q4, q5, q6, beq_self_eq_true, cond_true]
    · cases hq
  · cases hall

end Go.Proofs.YtjkinpbfmihhdaaGreat

/- A law's row from what its walk hands back: arguments opened. -/
namespace Go.Proofs.YtjkinpbfmihhdaaGreat
open Go.ChangeShapes Go.WideShapes Go.RowKit Go.Deep Go.ChangeAt
section
variable {H : Type} {enc : TypeId × Value → H} {P : Program} {w : World} {base : Nat} {spare : Nat → Bool} {held : Bool}
end
theorem laidOut : laidOutB Tryz.prog = true := by kernel_rfl

end Go.Proofs.YtjkinpbfmihhdaaGreat

/- The program's order of start: its words, told once. -/
namespace Go.Proofs.YtjkinpbfmihhdaaGreat
open Go.ChangeShapes Go.WideShapes Go.ChangeAt Go.RowKit
def ioN : List Nat := [104, 97, 114, 110, 101, 115, 115, 32, 54, 98, 100, 53, 55, 52, 57, 55, 57, 102, 48, 50, 53, 98, 54, 54, 98, 99, 99, 51, 55, 98, 48, 57, 99, 51, 53, 101, 56, 53, 49, 100, 100, 102, 54, 101, 99, 57, 48, 98, 101, 48, 53, 49, 49, 98, 100, 55, 100, 48, 101, 52, 101, 97, 57, 57, 56, 49, 57, 57, 102, 57, 102, 50, 32, 99, 117, 116, 32, 97, 116, 32, 99, 117, 98, 105, 99, 108, 101, 47, 99, 117, 98, 105, 99, 108, 101, 108, 97, 119, 49, 51, 46, 67, 104, 101, 99, 107, 84, 119, 111, 32, 99, 117, 98, 105, 99, 108, 101, 47, 99, 117, 98, 105, 99, 108, 101, 108, 97, 119, 49, 51, 46, 67, 104, 101, 99, 107, 70, 114, 101, 115, 104, 32, 99, 117, 98, 105, 99, 108, 101, 47, 99, 117, 98, 105, 99, 108, 101, 108, 97, 119, 49, 51, 46, 67, 104, 101, 99, 107, 71, 117, 97, 114, 100, 101, 100, 32, 99, 117, 98, 105, 99, 108, 101, 47, 99, 117, 98, 105, 99, 108, 101, 108, 97, 119, 49, 51, 46, 67, 104, 101, 99, 107, 82, 97, 99, 101, 32, 99, 117, 98, 105, 99, 108, 101, 47, 99, 117, 98, 105, 99, 108, 101, 108, 97, 119, 49, 51, 46, 67, 104, 101, 99, 107, 70, 111, 114, 101, 105, 103, 110, 32, 99, 117, 98, 105, 99, 108, 101, 47, 99, 117, 98, 105, 99, 108, 101, 108, 97, 119, 49, 51, 46, 67, 104, 101, 99, 107, 65, 108, 111, 110, 101, 32, 99, 117, 98, 105, 99, 108, 101, 47, 99, 117, 98, 105, 99, 108, 101, 108, 97, 119, 49, 51, 46, 67, 104, 101, 99, 107, 67, 108, 101, 97, 114, 115, 32, 99, 117, 98, 105, 99, 108, 101, 47, 99, 117, 98, 105, 99, 108, 101, 108, 97, 119, 49, 52, 46, 81, 117, 101, 117, 101, 65, 108, 111, 110, 101, 32, 99, 117, 98, 105, 99, 108, 101, 47, 99, 117, 98, 105, 99, 108, 101, 108, 97, 119, 49, 52, 46, 81, 117, 101, 117, 101, 83, 116, 97, 108, 108, 115, 32, 99, 117, 98, 105, 99, 108, 101, 47, 99, 117, 98, 105, 99, 108, 101, 108, 97, 119, 49, 52, 46, 81, 117, 101, 117, 101, 79, 114, 100, 101, 114, 32, 99, 117, 98, 105, 99, 108, 101, 47, 99, 117, 98, 105, 99, 108, 101, 108, 97, 119, 49, 52, 46, 81, 117, 101, 117, 101, 82, 97, 99, 101, 32, 99, 117, 98, 105, 99, 108, 101, 47, 99, 117, 98, 105, 99, 108, 101, 108, 97, 119, 49, 52, 46, 81, 117, 101, 117, 101, 77, 97, 110, 121, 32, 99, 117, 98, 105, 99, 108, 101, 47, 99, 117, 98, 105, 99, 108, 101, 108, 97, 119, 49, 52, 46, 81, 117, 101, 117, 101, 78, 111, 100, 101, 115, 32, 99, 117, 98, 105, 99, 108, 101, 47, 99, 117, 98, 105, 99, 108, 101, 108, 97, 119, 49, 53, 46, 76, 105, 115, 116, 75, 101, 121, 115, 32, 99, 117, 98, 105, 99, 108, 101, 47, 99, 117, 98, 105, 99, 108, 101, 108, 97, 119, 49, 53, 46, 76, 105, 115, 116, 82, 97, 99, 101, 32, 99, 117, 98, 105, 99, 108, 101, 47, 99, 117, 98, 105, 99, 108, 101, 108, 97, 119, 49, 53, 46, 76, 105, 115, 116, 65, 108, 111, 110, 101, 32, 99, 117, 98, 105, 99, 108, 101, 47, 99, 117, 98, 105, 99, 108, 101, 108, 97, 119, 49, 53, 46, 76, 105, 115, 116, 83, 116, 97, 108, 108, 115, 32, 99, 117, 98, 105, 99, 108, 101, 47, 99, 117, 98, 105, 99, 108, 101, 108, 97, 119, 49, 53, 46, 76, 105, 115, 116, 77, 97, 110, 121, 32, 99, 117, 98, 105, 99, 108, 101, 47, 99, 117, 98, 105, 99, 108, 101, 108, 97, 119, 49, 53, 46, 76, 105, 115, 116, 78, 111, 100, 101, 115, 32, 99, 117, 98, 105, 99, 108, 101, 47, 99, 117, 98, 105, 99, 108, 101, 108, 97, 119, 49, 50, 46, 65, 108, 108, 111, 99, 65, 108, 111, 110, 101, 32, 99, 117, 98, 105, 99, 108, 101, 47, 99, 117, 98, 105, 99, 108, 101, 108, 97, 119, 49, 55, 46, 68, 111, 109, 97, 105, 110, 70, 117, 108, 108, 32, 99, 117, 98, 105, 99, 108, 101, 47, 99, 117, 98, 105, 99, 108, 101, 108, 97, 119, 49, 55, 46, 68, 111, 109, 97, 105, 110, 82, 97, 99, 101, 32, 99, 117, 98, 105, 99, 108, 101, 47, 99, 117, 98, 105, 99, 108, 101, 108, 97, 119, 49, 55, 46, 68, 111, 109, 97, 105, 110, 79, 100, 100, 32, 99, 117, 98, 105, 99, 108, 101, 47, 99, 117, 98, 105, 99, 108, 101, 108, 97, 119, 49, 54, 46, 68, 105, 99, 116, 67, 101, 108, 108, 115]

theorem io1 : Tryz.prog.initOrder = String.ofList (ioN.map Char.ofNat) := by kernel_rfl

theorem io2 : Tryz.prog.initOrder.toList = ioN.map Char.ofNat := by rw [io1, String.toList_ofList]

theorem io3 : behindMainWord (wordsSigns Tryz.prog.initOrder.toList) = (([99, 117, 116] : List Nat).map Char.ofNat) :: ([[97, 116], [99, 117, 98, 105, 99, 108, 101, 47, 99, 117, 98, 105, 99, 108, 101, 108, 97, 119, 49, 51, 46, 67, 104, 101, 99, 107, 84, 119, 111], [99, 117, 98, 105, 99, 108, 101, 47, 99, 117, 98, 105, 99, 108, 101, 108, 97, 119, 49, 51, 46, 67, 104, 101, 99, 107, 70, 114, 101, 115, 104], [99, 117, 98, 105, 99, 108, 101, 47, 99, 117, 98, 105, 99, 108, 101, 108, 97, 119, 49, 51, 46, 67, 104, 101, 99, 107, 71, 117, 97, 114, 100, 101, 100], [99, 117, 98, 105, 99, 108, 101, 47, 99, 117, 98, 105, 99, 108, 101, 108, 97, 119, 49, 51, 46, 67, 104, 101, 99, 107, 82, 97, 99, 101], [99, 117, 98, 105, 99, 108, 101, 47, 99, 117, 98, 105, 99, 108, 101, 108, 97, 119, 49, 51, 46, 67, 104, 101, 99, 107, 70, 111, 114, 101, 105, 103, 110], [99, 117, 98, 105, 99, 108, 101, 47, 99, 117, 98, 105, 99, 108, 101, 108, 97, 119, 49, 51, 46, 67, 104, 101, 99, 107, 65, 108, 111, 110, 101], [99, 117, 98, 105, 99, 108, 101, 47, 99, 117, 98, 105, 99, 108, 101, 108, 97, 119, 49, 51, 46, 67, 104, 101, 99, 107, 67, 108, 101, 97, 114, 115], [99, 117, 98, 105, 99, 108, 101, 47, 99, 117, 98, 105, 99, 108, 101, 108, 97, 119, 49, 52, 46, 81, 117, 101, 117, 101, 65, 108, 111, 110, 101], [99, 117, 98, 105, 99, 108, 101, 47, 99, 117, 98, 105, 99, 108, 101, 108, 97, 119, 49, 52, 46, 81, 117, 101, 117, 101, 83, 116, 97, 108, 108, 115], [99, 117, 98, 105, 99, 108, 101, 47, 99, 117, 98, 105, 99, 108, 101, 108, 97, 119, 49, 52, 46, 81, 117, 101, 117, 101, 79, 114, 100, 101, 114], [99, 117, 98, 105, 99, 108, 101, 47, 99, 117, 98, 105, 99, 108, 101, 108, 97, 119, 49, 52, 46, 81, 117, 101, 117, 101, 82, 97, 99, 101], [99, 117, 98, 105, 99, 108, 101, 47, 99, 117, 98, 105, 99, 108, 101, 108, 97, 119, 49, 52, 46, 81, 117, 101, 117, 101, 77, 97, 110, 121], [99, 117, 98, 105, 99, 108, 101, 47, 99, 117, 98, 105, 99, 108, 101, 108, 97, 119, 49, 52, 46, 81, 117, 101, 117, 101, 78, 111, 100, 101, 115], [99, 117, 98, 105, 99, 108, 101, 47, 99, 117, 98, 105, 99, 108, 101, 108, 97, 119, 49, 53, 46, 76, 105, 115, 116, 75, 101, 121, 115], [99, 117, 98, 105, 99, 108, 101, 47, 99, 117, 98, 105, 99, 108, 101, 108, 97, 119, 49, 53, 46, 76, 105, 115, 116, 82, 97, 99, 101], [99, 117, 98, 105, 99, 108, 101, 47, 99, 117, 98, 105, 99, 108, 101, 108, 97, 119, 49, 53, 46, 76, 105, 115, 116, 65, 108, 111, 110, 101], [99, 117, 98, 105, 99, 108, 101, 47, 99, 117, 98, 105, 99, 108, 101, 108, 97, 119, 49, 53, 46, 76, 105, 115, 116, 83, 116, 97, 108, 108, 115], [99, 117, 98, 105, 99, 108, 101, 47, 99, 117, 98, 105, 99, 108, 101, 108, 97, 119, 49, 53, 46, 76, 105, 115, 116, 77, 97, 110, 121], [99, 117, 98, 105, 99, 108, 101, 47, 99, 117, 98, 105, 99, 108, 101, 108, 97, 119, 49, 53, 46, 76, 105, 115, 116, 78, 111, 100, 101, 115], [99, 117, 98, 105, 99, 108, 101, 47, 99, 117, 98, 105, 99, 108, 101, 108, 97, 119, 49, 50, 46, 65, 108, 108, 111, 99, 65, 108, 111, 110, 101], [99, 117, 98, 105, 99, 108, 101, 47, 99, 117, 98, 105, 99, 108, 101, 108, 97, 119, 49, 55, 46, 68, 111, 109, 97, 105, 110, 70, 117, 108, 108], [99, 117, 98, 105, 99, 108, 101, 47, 99, 117, 98, 105, 99, 108, 101, 108, 97, 119, 49, 55, 46, 68, 111, 109, 97, 105, 110, 82, 97, 99, 101], [99, 117, 98, 105, 99, 108, 101, 47, 99, 117, 98, 105, 99, 108, 101, 108, 97, 119, 49, 55, 46, 68, 111, 109, 97, 105, 110, 79, 100, 100], [99, 117, 98, 105, 99, 108, 101, 47, 99, 117, 98, 105, 99, 108, 101, 108, 97, 119, 49, 54, 46, 68, 105, 99, 116, 67, 101, 108, 108, 115]] : List (List Nat)).map (List.map Char.ofNat) := by rw [io2]; kernel_rfl

theorem stripG (r : List (List Char)) : stripLifts liftWords (([99, 117, 116].map Char.ofNat) :: r) = ([], ([99, 117, 116].map Char.ofNat) :: r) := by rfl

theorem makeG {P : Program} {r : List (List Char)} (h : behindMainWord (wordsSigns P.initOrder.toList) = ([99, 117, 116].map Char.ofNat) :: r) : P.make = some .cut := by
  unfold Program.make
  rw [h]
  rfl

theorem liftsG {P : Program} {r : List (List Char)} (h : behindMainWord (wordsSigns P.initOrder.toList) = ([99, 117, 116].map Char.ofNat) :: r) : P.liftsFinal = false := by
  unfold Program.liftsFinal Program.headLifts
  rw [h, stripG]
  rfl

theorem enterG {P : Program} {r : List (List Char)} (h : behindMainWord (wordsSigns P.initOrder.toList) = ([99, 117, 116].map Char.ofNat) :: r) (h1 : P.laysLater = false) (h2 : P.bearsReflect = false) (h3 : P.doorFits [] = true) : P.mayEnter = true := by
  unfold Program.mayEnter
  rw [h]
  simp only [stripG, h1, h2, h3]
  rfl

theorem e1 : Tryz.prog.laysLater = false := by kernel_rfl

theorem e2 : Tryz.prog.bearsReflect = false := by kernel_rfl

theorem e3 : Tryz.prog.doorFits [] = true := by kernel_rfl

theorem io_make : Tryz.prog.make = some .cut := makeG io3

theorem io_lifts : Tryz.prog.liftsFinal = false := liftsG io3

theorem io_enter : Tryz.prog.mayEnter = true := enterG io3 e1 e2 e3

theorem io_maps : mapsRowed Tryz.prog = true := by kernel_rfl

theorem io_heard : Tryz.prog.stopsHeard = true := by kernel_rfl

end Go.Proofs.YtjkinpbfmihhdaaGreat

/- A law's row: arguments that are slices, or structs within structs. -/
namespace Go.Proofs.YtjkinpbfmihhdaaGreat
open Go.ChangeShapes Go.WideShapes Go.RowKit Go.Deep Go.ChangeAt
section
variable {H : Type} {enc : TypeId × Value → H} {P : Program} {w : World} {base : Nat} {spare : Nat → Bool} {held : Bool}
def Ints (ks : List IntKind) (cs : List Value) : Prop := ∃ ns : List Int, cs = List.zipWith Value.int ks ns ∧ ns.length = ks.length ∧ ∀ q, q ∈ List.zip ks ns → (Lit.int q.1 q.2).wf = true

theorem Ints.append {ks ks' : List IntKind} {cs cs' : List Value} (h : Ints ks cs) (h' : Ints ks' cs') : Ints (ks ++ ks') (cs ++ cs') := by
  obtain ⟨ns, rfl, h2, h3⟩ := h
  obtain ⟨ns', rfl, h2', h3'⟩ := h'
  refine ⟨ns ++ ns', (List.zipWith_append h2.symm).symm, by simp [h2, h2'], fun q hq => ?_⟩
  rw [List.zip_append h2.symm] at hq
  rcases List.mem_append.1 hq with hq | hq
  · exact h3 q hq
  · exact h3' q hq

/-- A slice of things that read as such. -/
theorem open_rowG {α : Type} {T : TypeId} {r : Reach} {b0 : Nat} {t e : TypeId} {v : Value} {d : DataW H} {p : List MemPlace} {sz : Nat} (f : α → List Value) (Pr : α → Prop) (z : α) (ht : P.underlying t = some (.slice e))
    (hel : ∀ m cs x, DataW.trod enc P w base spare held m e cs = some x → ∃ y, cs = f y ∧ Pr y) (hc : P.cellsOf e = sz) (hpos : 0 < sz) (hfl : ∀ x, (f x).length = sz)
    (hv : Value.okWide P w r b0 t v) (h : DataW.Trod enc P w base spare held t v d p) : ∃ xs : List α, RoAt T sz f v xs w ∧ ∀ x, x ∈ xs → Pr x := by
  obtain ⟨a, len, cap, rfl⟩ := okWide_slice ht hv
  obtain ⟨fuel, hd⟩ := h
  rcases open_slice ht hd with ⟨h1, _⟩ | ⟨ad, n', c, m, q, D, Pl, h1, _, hnc, _, hm, _, hcell⟩
  · simp only [Value.cells, List.cons.injEq, and_true] at h1
    injection h1 with h1 h2 h3
    subst h1; subst h2; subst h3
    exact ⟨[], .inl ⟨_, _, rfl, rfl⟩, fun _ h => by cases h⟩
  · simp only [Value.cells, List.cons.injEq, and_true] at h1
    injection h1 with h1 h2 h3
    subst h1; subst h2; subst h3
    have hlen : len ≤ m := by rw [hm]; split <;> omega
    have hI : ∀ i, i < len → ∃ y : α, w.cells? base (ad.add (i * sz)) sz = some (f y) ∧ Pr y := fun i hi => by
      obtain ⟨cs', h1, h2⟩ := hcell i (by omega)
      obtain ⟨y, h3, h4⟩ := hel q cs' _ h2
      rw [hc, h3] at h1
      exact ⟨y, h1, h4⟩
    obtain ⟨g, hg⟩ := Classical.axiomOfChoice (r := fun (i : Nat) (y : α) => i < len → w.cells? base (ad.add (i * sz)) sz = some (f y) ∧ Pr y)
      (fun i => by
        by_cases hi : i < len
        · obtain ⟨y, h⟩ := hI i hi; exact ⟨y, fun _ => h⟩
        · exact ⟨z, fun h => absurd h hi⟩)
    refine ⟨(List.range len).map fun i => g i, ?_, fun x hx => ?_⟩
    · cases len with
      | zero => exact .inl ⟨_, _, rfl, rfl⟩
      | succ m0 =>
        have hz : ∀ i, i < m0 + 1 → ∀ j u, (f ((g i)))[j]? = some u → w.cell? ((ad.add (i * sz)).add j) = some u := fun i hi j u hu => by
          obtain ⟨h1, _⟩ := hg i hi
          obtain ⟨_, h4, h5⟩ := World.cells?_some h1
          have hj : j < (f (g i)).length := (List.getElem?_eq_some_iff.1 hu).1
          rw [h5 j (by omega), hu]
        have h0 := hz 0 (by omega) 0 ((f ((g 0)))[0]'(by rw [hfl]; exact hpos)) (by simp)
        have hadd : (ad.add (0 * sz)).add 0 = ad := by rw [Nat.zero_mul]; rfl
        rw [hadd] at h0
        have hsp : ad.spot = none := by
          unfold World.cell? at h0
          split at h0
          · split at h0
            · cases h0
            · rename_i h; simpa using h
          · cases h0
        obtain ⟨gB, o, sp⟩ := ad
        simp only at hsp
        subst hsp
        have hx : ∃ cur E fz, w.heap[gB]? = some (.cells cur E fz) := by
          unfold World.cell? at h0
          split at h0
          · rename_i c' E fz hh; exact ⟨c', E, fz, hh⟩
          · cases h0
        obtain ⟨cur, E, fz, hh⟩ := hx
        refine .inr ⟨gB, o, cap, cur, E, fz, by simp, ?_, hh, ?_, by simpa using hnc⟩
        · intro he
          have := congrArg List.length he
          simp at this
        · have hll : ((List.range (m0 + 1)).map fun i => g i).length = m0 + 1 := by simp
          apply List.ext_getElem?
          intro q
          rw [hll]
          by_cases hq : q < (m0 + 1) * sz
          · have hi : q / sz < m0 + 1 := (Nat.div_lt_iff_lt_mul hpos).2 hq
            have hj : q % sz < sz := Nat.mod_lt _ hpos
            have hqq : q / sz * sz + q % sz = q := by rw [Nat.mul_comm]; exact Nat.div_add_mod q sz
            have h1 := hz (q / sz) hi (q % sz) ((f ((g (q / sz))))[q % sz]'(by rw [hfl]; exact hj)) (by simp)
            rw [Addr.add_lit, Addr.add_lit] at h1
            simp only [World.cell?, hh] at h1
            have h2 := flatMap_at hfl ((List.range (m0 + 1)).map fun i => g i) (q / sz) (by rw [hll]; exact hi) (q % sz) ((f ((g (q / sz))))[q % sz]'(by rw [hfl]; exact hj)) (by simp)
            rw [hqq] at h2
            rw [h2, List.getElem?_take, if_pos hq, List.getElem?_drop]
            rw [Nat.add_assoc, hqq] at h1
            simpa using h1
          · rw [List.getElem?_take, if_neg hq, List.getElem?_eq_none]
            rw [flatMap_len hfl, hll]
            omega
    · obtain ⟨i, hi, rfl⟩ := List.mem_map.1 hx
      exact (hg i (List.mem_range.1 hi)).2

theorem open_rowB {T : TypeId} {r : Reach} {b0 : Nat} {t e : TypeId} {v : Value} {d : DataW H} {p : List MemPlace} (ht : P.underlying t = some (.slice e)) (he : P.underlying e = some .bool) (hc : P.cellsOf e = 1)
    (hv : Value.okWide P w r b0 t v) (h : DataW.Trod enc P w base spare held t v d p) : ∃ xs : List Bool, RoAt T 1 boolE v xs w := by
  obtain ⟨xs, h1, _⟩ := open_rowG (T := T) boolE (fun _ => True) false ht (fun m cs x hx => by
    obtain ⟨b, hb, _⟩ := DataW.trod_bool he hx
    exact ⟨b, hb, trivial⟩) hc (by omega) (fun _ => rfl) hv h
  exact ⟨xs, h1⟩

end
end Go.Proofs.YtjkinpbfmihhdaaGreat
