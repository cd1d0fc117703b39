/- Some of our texts, one behind the other. -/
import Derived.Test.YtjkinpbfmihhdaaGreatCfM13
import Derived.Test.YtjkinpbfmihhdaaGreatCfM9
import Derived.Test.YtjkinpbfmihhdaaGreatCfLawCFo
import Derived.WalkKit
import Derived.ProofKit
import Derived.OpenShut
import Derived.ShutString
import Derived.ChangeOld
import Derived.Below
import Derived.Carry
import Derived.SizedLaws
import Derived.Deep.Slices
import Derived.Deep.Fields
import Derived.ChangeSame
import Derived.Test.YtjkinpbfmihhdaaGreatRows
import Derived.ChangeSlices
import Derived.Test.YtjkinpbfmihhdaaGreatCfM3
/- CheckForeign: what the walk found answers as the law says. -/
set_option linter.unusedVariables false
namespace Go.Proofs.YtjkinpbfmihhdaaGreat
open Go.RowKit
theorem awake13F : D.cubiclelaw13_awake 2000 = some true := by decide +kernel

theorem laidSmall : ∃ M, D.cubiclelaw09_Laid 2000 D.cubiclelaw13_Small = some M ∧ M.cnt = 3 := by
  have h : (D.cubiclelaw09_Laid 2000 D.cubiclelaw13_Small).map (·.cnt) = some 3 := by decide +kernel
  cases hM : D.cubiclelaw09_Laid 2000 D.cubiclelaw13_Small with
  | none => rw [hM] at h; cases h
  | some M => rw [hM] at h; exact ⟨M, rfl, by simpa using h⟩

theorem pure_CheckForeign (s : Seat) (w f : Int) (_ : -9223372036854775808 ≤ s.p.nodes ∧ s.p.nodes ≤ 9223372036854775807) (_ : -9223372036854775808 ≤ s.p.threads ∧ s.p.threads ≤ 9223372036854775807)
    (_ : -9223372036854775808 ≤ s.p.retire ∧ s.p.retire ≤ 9223372036854775807) (_ : -9223372036854775808 ≤ s.p.domains ∧ s.p.domains ≤ 9223372036854775807) (_ : -9223372036854775808 ≤ s.p.buckets ∧ s.p.buckets ≤ 9223372036854775807)
    (_ : -9223372036854775808 ≤ s.p.gen ∧ s.p.gen ≤ 9223372036854775807) (_ : -9223372036854775808 ≤ s.tenant ∧ s.tenant ≤ 9223372036854775807) (_ : -9223372036854775808 ≤ s.thread ∧ s.thread ≤ 9223372036854775807)
    (hw : 0 ≤ w ∧ w ≤ 18446744073709551615) (_ : -9223372036854775808 ≤ f ∧ f ≤ 9223372036854775807) : ∃ fu, Wk.D.cubiclelaw13_CheckForeign fu s w f = some true := by
  refine ⟨2000, ?_⟩
  unfold Wk.D.cubiclelaw13_CheckForeign
  rw [awake13F]
  simp only [Option.bind_some, Bool.not_true, cond_false]
  cases h1 : D.cubicleref06_Few s.p
  case false => rfl
  simp only [Bool.not_true, cond_false, Option.bind_some]
  obtain ⟨M, hM, hc⟩ := laidSmall
  rw [hM]
  simp only [Option.bind_some]
  have hmine := mine_eq (w := w) ⟨hw.1, by omega⟩ s.tenant s.p.nodes
  have hd3 : decide (f ≥ 3) = decide (f > 2) := by rw [decide_eq_decide]; omega
  refine loop_inv (fun o => o = some true) (fun (i : Nat) (x : Bool × Int) => x = (false, (i : Int) + 1)) 5 2000 rfl (by omega) ?_ ?_
  · rintro i x hi rfl
    refine ⟨(false, ((i + 1 : Nat) : Int) + 1), ?_, rfl⟩
    have hq : i = 0 ∨ i = 1 ∨ i = 2 ∨ i = 3 ∨ i = 4 := by omega
    simp only [D.cubiclelaw13_Made, D.check_New, D.check_Drop, D.check_Read, D.check_Write, D.check_Swap, D.check_look, hmine, hd3]
    generalize (D.cubicleref08_Mine w s.tenant s.p.nodes) = m
    obtain ⟨h, m⟩ := m
    generalize D.check_Seat_Formed s = F
    generalize decide (f < 0) = b1
    generalize decide (f > 2) = b2
    rcases hq with rfl | rfl | rfl | rfl | rfl <;> cases F <;> cases b1 <;> cases b2 <;> cases m <;> rfl
  · rintro x rfl
    refine ⟨(false, 6), rfl, ?_⟩
    have hcnt : D.mem_Memory_Count 2000 M = some 3 := by
      show some M.cnt = some 3
      rw [hc]
    simp only [hcnt, D.check_Seat_Formed, formed_eq]
    generalize D.plan_Plan_Formed s.p = F
    generalize decide (s.tenant ≥ 0) = b1
    generalize decide (s.tenant < 64) = b2
    generalize decide (s.thread ≥ 0) = b3
    generalize decide (s.thread < s.p.threads) = b4
    cases F <;> cases b1 <;> cases b2 <;> cases b3 <;> cases b4 <;> rfl

end Go.Proofs.YtjkinpbfmihhdaaGreat

/- A law's row from what its walk hands back: arguments opened. -/
namespace Go.Proofs.YtjkinpbfmihhdaaGreat
open Go.ChangeShapes Go.WideShapes Go.RowKit Go.Deep Go.ChangeAt
section
variable {H : Type} {enc : TypeId × Value → H} {P : Program} {w : World} {base : Nat} {spare : Nat → Bool} {held : Bool}
end
theorem list8 {α : Type} {l : List α} (h : l.length = 8) : ∃ x0 x1 x2 x3 x4 x5 x6 x7, l = [x0, x1, x2, x3, x4, x5, x6, x7] := by
  match l, h with
  | [x0, x1, x2, x3, x4, x5, x6, x7], _ => exact ⟨x0, x1, x2, x3, x4, x5, x6, x7, rfl⟩

theorem laidOut : laidOutB Tryz.prog = true := by kernel_rfl

end Go.Proofs.YtjkinpbfmihhdaaGreat

/- The program's order of start: its words, told once. -/
namespace Go.Proofs.YtjkinpbfmihhdaaGreat
open Go.ChangeShapes Go.WideShapes Go.ChangeAt Go.RowKit
def ioN : List Nat := [104, 97, 114, 110, 101, 115, 115, 32, 54, 98, 100, 53, 55, 52, 57, 55, 57, 102, 48, 50, 53, 98, 54, 54, 98, 99, 99, 51, 55, 98, 48, 57, 99, 51, 53, 101, 56, 53, 49, 100, 100, 102, 54, 101, 99, 57, 48, 98, 101, 48, 53, 49, 49, 98, 100, 55, 100, 48, 101, 52, 101, 97, 57, 57, 56, 49, 57, 57, 102, 57, 102, 50, 32, 99, 117, 116, 32, 97, 116, 32, 99, 117, 98, 105, 99, 108, 101, 47, 99, 117, 98, 105, 99, 108, 101, 108, 97, 119, 49, 51, 46, 67, 104, 101, 99, 107, 84, 119, 111, 32, 99, 117, 98, 105, 99, 108, 101, 47, 99, 117, 98, 105, 99, 108, 101, 108, 97, 119, 49, 51, 46, 67, 104, 101, 99, 107, 70, 114, 101, 115, 104, 32, 99, 117, 98, 105, 99, 108, 101, 47, 99, 117, 98, 105, 99, 108, 101, 108, 97, 119, 49, 51, 46, 67, 104, 101, 99, 107, 71, 117, 97, 114, 100, 101, 100, 32, 99, 117, 98, 105, 99, 108, 101, 47, 99, 117, 98, 105, 99, 108, 101, 108, 97, 119, 49, 51, 46, 67, 104, 101, 99, 107, 82, 97, 99, 101, 32, 99, 117, 98, 105, 99, 108, 101, 47, 99, 117, 98, 105, 99, 108, 101, 108, 97, 119, 49, 51, 46, 67, 104, 101, 99, 107, 70, 111, 114, 101, 105, 103, 110, 32, 99, 117, 98, 105, 99, 108, 101, 47, 99, 117, 98, 105, 99, 108, 101, 108, 97, 119, 49, 51, 46, 67, 104, 101, 99, 107, 65, 108, 111, 110, 101, 32, 99, 117, 98, 105, 99, 108, 101, 47, 99, 117, 98, 105, 99, 108, 101, 108, 97, 119, 49, 51, 46, 67, 104, 101, 99, 107, 67, 108, 101, 97, 114, 115, 32, 99, 117, 98, 105, 99, 108, 101, 47, 99, 117, 98, 105, 99, 108, 101, 108, 97, 119, 49, 52, 46, 81, 117, 101, 117, 101, 65, 108, 111, 110, 101, 32, 99, 117, 98, 105, 99, 108, 101, 47, 99, 117, 98, 105, 99, 108, 101, 108, 97, 119, 49, 52, 46, 81, 117, 101, 117, 101, 83, 116, 97, 108, 108, 115, 32, 99, 117, 98, 105, 99, 108, 101, 47, 99, 117, 98, 105, 99, 108, 101, 108, 97, 119, 49, 52, 46, 81, 117, 101, 117, 101, 79, 114, 100, 101, 114, 32, 99, 117, 98, 105, 99, 108, 101, 47, 99, 117, 98, 105, 99, 108, 101, 108, 97, 119, 49, 52, 46, 81, 117, 101, 117, 101, 82, 97, 99, 101, 32, 99, 117, 98, 105, 99, 108, 101, 47, 99, 117, 98, 105, 99, 108, 101, 108, 97, 119, 49, 52, 46, 81, 117, 101, 117, 101, 77, 97, 110, 121, 32, 99, 117, 98, 105, 99, 108, 101, 47, 99, 117, 98, 105, 99, 108, 101, 108, 97, 119, 49, 52, 46, 81, 117, 101, 117, 101, 78, 111, 100, 101, 115, 32, 99, 117, 98, 105, 99, 108, 101, 47, 99, 117, 98, 105, 99, 108, 101, 108, 97, 119, 49, 53, 46, 76, 105, 115, 116, 75, 101, 121, 115, 32, 99, 117, 98, 105, 99, 108, 101, 47, 99, 117, 98, 105, 99, 108, 101, 108, 97, 119, 49, 53, 46, 76, 105, 115, 116, 82, 97, 99, 101, 32, 99, 117, 98, 105, 99, 108, 101, 47, 99, 117, 98, 105, 99, 108, 101, 108, 97, 119, 49, 53, 46, 76, 105, 115, 116, 65, 108, 111, 110, 101, 32, 99, 117, 98, 105, 99, 108, 101, 47, 99, 117, 98, 105, 99, 108, 101, 108, 97, 119, 49, 53, 46, 76, 105, 115, 116, 83, 116, 97, 108, 108, 115, 32, 99, 117, 98, 105, 99, 108, 101, 47, 99, 117, 98, 105, 99, 108, 101, 108, 97, 119, 49, 53, 46, 76, 105, 115, 116, 77, 97, 110, 121, 32, 99, 117, 98, 105, 99, 108, 101, 47, 99, 117, 98, 105, 99, 108, 101, 108, 97, 119, 49, 53, 46, 76, 105, 115, 116, 78, 111, 100, 101, 115, 32, 99, 117, 98, 105, 99, 108, 101, 47, 99, 117, 98, 105, 99, 108, 101, 108, 97, 119, 49, 50, 46, 65, 108, 108, 111, 99, 65, 108, 111, 110, 101, 32, 99, 117, 98, 105, 99, 108, 101, 47, 99, 117, 98, 105, 99, 108, 101, 108, 97, 119, 49, 55, 46, 68, 111, 109, 97, 105, 110, 70, 117, 108, 108, 32, 99, 117, 98, 105, 99, 108, 101, 47, 99, 117, 98, 105, 99, 108, 101, 108, 97, 119, 49, 55, 46, 68, 111, 109, 97, 105, 110, 82, 97, 99, 101, 32, 99, 117, 98, 105, 99, 108, 101, 47, 99, 117, 98, 105, 99, 108, 101, 108, 97, 119, 49, 55, 46, 68, 111, 109, 97, 105, 110, 79, 100, 100, 32, 99, 117, 98, 105, 99, 108, 101, 47, 99, 117, 98, 105, 99, 108, 101, 108, 97, 119, 49, 54, 46, 68, 105, 99, 116, 67, 101, 108, 108, 115]

theorem io1 : Tryz.prog.initOrder = String.ofList (ioN.map Char.ofNat) := by kernel_rfl

theorem io2 : Tryz.prog.initOrder.toList = ioN.map Char.ofNat := by rw [io1, String.toList_ofList]

theorem io3 : behindMainWord (wordsSigns Tryz.prog.initOrder.toList) = (([99, 117, 116] : List Nat).map Char.ofNat) :: ([[97, 116], [99, 117, 98, 105, 99, 108, 101, 47, 99, 117, 98, 105, 99, 108, 101, 108, 97, 119, 49, 51, 46, 67, 104, 101, 99, 107, 84, 119, 111], [99, 117, 98, 105, 99, 108, 101, 47, 99, 117, 98, 105, 99, 108, 101, 108, 97, 119, 49, 51, 46, 67, 104, 101, 99, 107, 70, 114, 101, 115, 104], [99, 117, 98, 105, 99, 108, 101, 47, 99, 117, 98, 105, 99, 108, 101, 108, 97, 119, 49, 51, 46, 67, 104, 101, 99, 107, 71, 117, 97, 114, 100, 101, 100], [99, 117, 98, 105, 99, 108, 101, 47, 99, 117, 98, 105, 99, 108, 101, 108, 97, 119, 49, 51, 46, 67, 104, 101, 99, 107, 82, 97, 99, 101], [99, 117, 98, 105, 99, 108, 101, 47, 99, 117, 98, 105, 99, 108, 101, 108, 97, 119, 49, 51, 46, 67, 104, 101, 99, 107, 70, 111, 114, 101, 105, 103, 110], [99, 117, 98, 105, 99, 108, 101, 47, 99, 117, 98, 105, 99, 108, 101, 108, 97, 119, 49, 51, 46, 67, 104, 101, 99, 107, 65, 108, 111, 110, 101], [99, 117, 98, 105, 99, 108, 101, 47, 99, 117, 98, 105, 99, 108, 101, 108, 97, 119, 49, 51, 46, 67, 104, 101, 99, 107, 67, 108, 101, 97, 114, 115], [99, 117, 98, 105, 99, 108, 101, 47, 99, 117, 98, 105, 99, 108, 101, 108, 97, 119, 49, 52, 46, 81, 117, 101, 117, 101, 65, 108, 111, 110, 101], [99, 117, 98, 105, 99, 108, 101, 47, 99, 117, 98, 105, 99, 108, 101, 108, 97, 119, 49, 52, 46, 81, 117, 101, 117, 101, 83, 116, 97, 108, 108, 115], [99, 117, 98, 105, 99, 108, 101, 47, 99, 117, 98, 105, 99, 108, 101, 108, 97, 119, 49, 52, 46, 81, 117, 101, 117, 101, 79, 114, 100, 101, 114], [99, 117, 98, 105, 99, 108, 101, 47, 99, 117, 98, 105, 99, 108, 101, 108, 97, 119, 49, 52, 46, 81, 117, 101, 117, 101, 82, 97, 99, 101], [99, 117, 98, 105, 99, 108, 101, 47, 99, 117, 98, 105, 99, 108, 101, 108, 97, 119, 49, 52, 46, 81, 117, 101, 117, 101, 77, 97, 110, 121], [99, 117, 98, 105, 99, 108, 101, 47, 99, 117, 98, 105, 99, 108, 101, 108, 97, 119, 49, 52, 46, 81, 117, 101, 117, 101, 78, 111, 100, 101, 115], [99, 117, 98, 105, 99, 108, 101, 47, 99, 117, 98, 105, 99, 108, 101, 108, 97, 119, 49, 53, 46, 76, 105, 115, 116, 75, 101, 121, 115], [99, 117, 98, 105, 99, 108, 101, 47, 99, 117, 98, 105, 99, 108, 101, 108, 97, 119, 49, 53, 46, 76, 105, 115, 116, 82, 97, 99, 101], [99, 117, 98, 105, 99, 108, 101, 47, 99, 117, 98, 105, 99, 108, 101, 108, 97, 119, 49, 53, 46, 76, 105, 115, 116, 65, 108, 111, 110, 101], [99, 117, 98, 105, 99, 108, 101, 47, 99, 117, 98, 105, 99, 108, 101, 108, 97, 119, 49, 53, 46, 76, 105, 115, 116, 83, 116, 97, 108, 108, 115], [99, 117, 98, 105, 99, 108, 101, 47, 99, 117, 98, 105, 99, 108, 101, 108, 97, 119, 49, 53, 46, 76, 105, 115, 116, 77, 97, 110, 121], [99, 117, 98, 105, 99, 108, 101, 47, 99, 117, 98, 105, 99, 108, 101, 108, 97, 119, 49, 53, 46, 76, 105, 115, 116, 78, 111, 100, 101, 115], [99, 117, 98, 105, 99, 108, 101, 47, 99, 117, 98, 105, 99, 108, 101, 108, 97, 119, 49, 50, 46, 65, 108, 108, 111, 99, 65, 108, 111, 110, 101], [99, 117, 98, 105, 99, 108, 101, 47, 99, 117, 98, 105, 99, 108, 101, 108, 97, 119, 49, 55, 46, 68, 111, 109, 97, 105, 110, 70, 117, 108, 108], [99, 117, 98, 105, 99, 108, 101, 47, 99, 117, 98, 105, 99, 108, 101, 108, 97, 119, 49, 55, 46, 68, 111, 109, 97, 105, 110, 82, 97, 99, 101], [99, 117, 98, 105, 99, 108, 101, 47, 99, 117, 98, 105, 99, 108, 101, 108, 97, 119, 49, 55, 46, 68, 111, 109, 97, 105, 110, 79, 100, 100], [99, 117, 98, 105, 99, 108, 101, 47, 99, 117, 98, 105, 99, 108, 101, 108, 97, 119, 49, 54, 46, 68, 105, 99, 116, 67, 101, 108, 108, 115]] : List (List Nat)).map (List.map Char.ofNat) := by rw [io2]; kernel_rfl

theorem stripG (r : List (List Char)) : stripLifts liftWords (([99, 117, 116].map Char.ofNat) :: r) = ([], ([99, 117, 116].map Char.ofNat) :: r) := by rfl

theorem makeG {P : Program} {r : List (List Char)} (h : behindMainWord (wordsSigns P.initOrder.toList) = ([99, 117, 116].map Char.ofNat) :: r) : P.make = some .cut := by
  unfold Program.make
  rw [h]
  rfl

theorem liftsG {P : Program} {r : List (List Char)} (h : behindMainWord (wordsSigns P.initOrder.toList) = ([99, 117, 116].map Char.ofNat) :: r) : P.liftsFinal = false := by
  unfold Program.liftsFinal Program.headLifts
  rw [h, stripG]
  rfl

theorem enterG {P : Program} {r : List (List Char)} (h : behindMainWord (wordsSigns P.initOrder.toList) = ([99, 117, 116].map Char.ofNat) :: r) (h1 : P.laysLater = false) (h2 : P.bearsReflect = false) (h3 : P.doorFits [] = true) : P.mayEnter = true := by
  unfold Program.mayEnter
  rw [h]
  simp only [stripG, h1, h2, h3]
  rfl

theorem e1 : Tryz.prog.laysLater = false := by kernel_rfl

theorem e2 : Tryz.prog.bearsReflect = false := by kernel_rfl

theorem e3 : Tryz.prog.doorFits [] = true := by kernel_rfl

theorem io_make : Tryz.prog.make = some .cut := makeG io3

theorem io_lifts : Tryz.prog.liftsFinal = false := liftsG io3

theorem io_enter : Tryz.prog.mayEnter = true := enterG io3 e1 e2 e3

theorem io_maps : mapsRowed Tryz.prog = true := by kernel_rfl

theorem io_heard : Tryz.prog.stopsHeard = true := by kernel_rfl

end Go.Proofs.YtjkinpbfmihhdaaGreat

/- A law's row: arguments that are slices, or structs within structs. -/
namespace Go.Proofs.YtjkinpbfmihhdaaGreat
open Go.ChangeShapes Go.WideShapes Go.RowKit Go.Deep Go.ChangeAt
section
variable {H : Type} {enc : TypeId × Value → H} {P : Program} {w : World} {base : Nat} {spare : Nat → Bool} {held : Bool}
/-- The kinds of a type's cells, if all are integers, through structs. -/
def flatF (P : Program) (k : TypeId → Option (List IntKind)) : Nat → List Go.Field → Option (List IntKind)
  | _, [] => some []
  | off, f :: fs => if f.offset = off then (k f.type).bind fun ks => if ks.length = P.cellsOf f.type then (flatF P k (off + P.cellsOf f.type) fs).map (ks ++ ·) else none else none

def flatK (P : Program) : Nat → TypeId → Option (List IntKind)
  | 0, _ => none
  | n + 1, t => match P.underlying t with
    | some (.int k) => some [k]
    | some (.struct fs) => (flatF P (flatK P n) 0 fs.toList).bind fun ks => if ks.length = P.cellsOf t then some ks else none
    | _ => none

def Ints (ks : List IntKind) (cs : List Value) : Prop := ∃ ns : List Int, cs = List.zipWith Value.int ks ns ∧ ns.length = ks.length ∧ ∀ q, q ∈ List.zip ks ns → (Lit.int q.1 q.2).wf = true

theorem Ints.append {ks ks' : List IntKind} {cs cs' : List Value} (h : Ints ks cs) (h' : Ints ks' cs') : Ints (ks ++ ks') (cs ++ cs') := by
  obtain ⟨ns, rfl, h2, h3⟩ := h
  obtain ⟨ns', rfl, h2', h3'⟩ := h'
  refine ⟨ns ++ ns', (List.zipWith_append h2.symm).symm, by simp [h2, h2'], fun q hq => ?_⟩
  rw [List.zip_append h2.symm] at hq
  rcases List.mem_append.1 hq with hq | hq
  · exact h3 q hq
  · exact h3' q hq

theorem flatF_ints {k : TypeId → Option (List IntKind)} {m : Nat} {cs : List Value} (hk : ∀ t ks cs x, k t = some ks → DataW.trod enc P w base spare held m t cs = some x → Ints ks cs) : ∀ (fs : List Go.Field) (off : Nat) (ks : List IntKind), flatF P k off fs = some ks →
    (∀ f, f ∈ fs → ∃ y, DataW.trod enc P w base spare held m f.type ((cs.drop f.offset).take (P.cellsOf f.type)) = some y) → Ints ks ((cs.drop off).take ks.length)
  | [], off, ks, h, _ => by
    obtain rfl := Option.some.inj h
    exact ⟨[], by simp, rfl, fun q hq => by simp at hq⟩
  | f :: fs, off, ks, h, hf => by
    unfold flatF at h
    split at h
    · rename_i ho
      obtain ⟨k1, h1, h⟩ := Option.bind_eq_some_iff.1 h
      split at h
      · rename_i hl
        obtain ⟨k2, h2, rfl⟩ := Option.map_eq_some_iff.1 h
        obtain ⟨y, hy⟩ := hf f (List.mem_cons_self ..)
        have i1 := hk _ _ _ _ h1 hy
        have i2 := flatF_ints hk fs _ k2 h2 fun g hg => hf g (List.mem_cons_of_mem _ hg)
        rw [ho, ← hl] at i1
        rw [List.length_append, List.take_add, List.drop_drop, hl]
        rw [hl] at i1
        exact i1.append i2
      · cases h
    · cases h

theorem trod_flat : ∀ (n : Nat) (t : TypeId) (ks : List IntKind) (m : Nat) (cs : List Value) (x : DataW H × List MemPlace), flatK P n t = some ks → DataW.trod enc P w base spare held m t cs = some x → Ints ks cs
  | 0, _, _, _, _, _, h, _ => by cases h
  | n + 1, t, ks, m, cs, x, h, hd => by
    unfold flatK at h
    split at h
    · rename_i k hu
      obtain rfl := Option.some.inj h
      obtain ⟨z, h1, _, h2⟩ := DataW.trod_int hu hd
      subst h1
      exact ⟨[z], rfl, rfl, fun q hq => by
        rcases List.mem_singleton.1 hq with rfl
        exact h2⟩
    · rename_i fs hu
      obtain ⟨ks', h1, h2⟩ := Option.bind_eq_some_iff.1 h
      split at h2
      · rename_i hl
        obtain rfl := Option.some.inj h2
        obtain ⟨xs, m', _, hx, hcl, hlen, hfs⟩ := DataW.trod_struct hu hd
        have := flatF_ints (m := m') (cs := cs) (fun t ks cs x => trod_flat n t ks m' cs x) fs.toList 0 ks' h1 fun f hf => by
          obtain ⟨j, hj, he⟩ := List.mem_iff_getElem.1 hf
          have hj' : fs[j]? = some f := by rw [← he]; simp
          have h3 := hfs j f hj'
          have hjs : j < fs.size := by simpa using hj
          exact ⟨_, h3.trans (List.getElem?_eq_getElem (show j < xs.length by omega))⟩
        rw [List.drop_zero, List.take_of_length_le (by omega)] at this
        exact this
      · cases h2
    · cases h

/-- A struct by value whose cells are integers. -/
theorem open_structN {r : Reach} {b0 : Nat} {t : TypeId} {fs : Array Go.Field} {v : Value} {d : DataW H} {p : List MemPlace} (n : Nat) (ks : List IntKind) (hs : P.underlying t = some (.struct fs)) (hk : flatK P n t = some ks)
    (hv : Value.okWide P w r b0 t v) (h : DataW.Trod enc P w base spare held t v d p) :
    ∃ ns : List Int, v = .agg (List.zipWith Value.int ks ns).toArray ∧ ns.length = ks.length ∧ ∀ q, q ∈ List.zip ks ns → (Lit.int q.1 q.2).wf = true := by
  obtain ⟨cs, rfl, hsz⟩ := okWide_struct hs hv
  obtain ⟨fuel, hf⟩ := h
  obtain ⟨ns, h1, h2, h3⟩ := trod_flat n t ks fuel _ _ hk hf
  refine ⟨ns, ?_, h2, h3⟩
  rw [← h1]
  simp [Value.cells]

end
end Go.Proofs.YtjkinpbfmihhdaaGreat
