/- States' words: the code's answers by closed forms. -/
import Derived.Test.YtjkinpbfmihhdaaGreatCfStatesH
namespace Go.Proofs.YtjkinpbfmihhdaaGreat
open Go.RowKit

def fGen : Field := ⟨0, 30⟩

def fMode : Field := ⟨30, 2⟩

def fKind : Field := ⟨32, 2⟩

theorem lay_formed : St.D.field_Formed 10 [fGen, fMode, fKind] = some true := by decide +kernel

theorem split_lay (w : Int) : St.D.field_Split 10 [fGen, fMode, fKind] w = bif (bits_andNot .u64 (bits_andNot .u64 (bits_andNot .u64 w (D.field_Field_mask fGen)) (D.field_Field_mask fMode)) (D.field_Field_mask fKind) != 0) then some ([], 10)
    else some ([D.field_Field_Get fGen w, D.field_Field_Get fMode w, D.field_Field_Get fKind w], 0) := by
  unfold St.D.field_Split
  rw [lay_formed]
  rfl

theorem pack_lay (a b c : Int) : St.D.field_Pack 10 [fGen, fMode, fKind] [a, b, c] = bif (decide (a > D.field_Field_Most fGen)) then some (0, 1) else bif (decide (b > D.field_Field_Most fMode)) then some (0, 1) else bif (decide (c > D.field_Field_Most fKind)) then some (0, 1)
    else some (D.field_Field_Put fKind (D.field_Field_Put fMode (D.field_Field_Put fGen 0 a) b) c, 0) := by
  unfold St.D.field_Pack
  rw [lay_formed]
  have w1 : IntKind.i64.wrap ((0 : Int) + 1) = 1 := rfl
  have w2 : IntKind.i64.wrap ((1 : Int) + 1) = 2 := rfl
  have w3 : IntKind.i64.wrap ((2 : Int) + 1) = 3 := rfl
  have g0 : ∀ {α : Type} (x y z : α), getI [x, y, z] 0 = some x := fun _ _ _ => rfl
  have g1 : ∀ {α : Type} (x y z : α), getI [x, y, z] 1 = some y := fun _ _ _ => rfl
  have g2 : ∀ {α : Type} (x y z : α), getI [x, y, z] 2 = some z := fun _ _ _ => rfl
  have l3 : ∀ {α : Type} (x y z : α), (([x, y, z] : List α).length : Int) = 3 := fun _ _ _ => rfl
  cases h1 : decide (a > D.field_Field_Most fGen) <;> cases h2 : decide (b > D.field_Field_Most fMode) <;> cases h3 : decide (c > D.field_Field_Most fKind) <;>
    simp only [loopThen, runLoop, goOn, afterLoop, w1, w2, w3, g0, g1, g2, l3, h1, h2, h3, Option.bind_some, cond_true, cond_false, Bool.not_true, bne_self_eq_false, show decide ((0 : Int) < 3) = true from rfl, show decide ((1 : Int) < 3) = true from rfl, show decide ((2 : Int) < 3) = true from rfl, show decide ((3 : Int) < 3) = false from rfl]

/-- A state's word. -/
def D.state_State_Word (s : State) : Int := (St.D.state_State_Word 10 s).getD 0

/-- A word's state, and if it is one. -/
def D.state_Of (w : Int) : State × Bool := (St.D.state_Of 10 w).getD (⟨0, 0, 0⟩, false)

theorem word_some (s : State) : ∃ r, St.D.state_State_Word 10 s = some r := by
  unfold St.D.state_State_Word
  cases (!(D.state_State_Formed s))
  · show ∃ r, (((St.D.field_Pack 10 [fGen, fMode, fKind] [IntKind.u64.wrap s.gen, IntKind.u64.wrap s.mode, IntKind.u64.wrap s.kind]).bind (fun (x17 : Int × Int) => (some x17.1)))) = some r
    rw [pack_lay]
    generalize decide (IntKind.u64.wrap s.gen > D.field_Field_Most fGen) = b1
    generalize decide (IntKind.u64.wrap s.mode > D.field_Field_Most fMode) = b2
    generalize decide (IntKind.u64.wrap s.kind > D.field_Field_Most fKind) = b3
    cases b1 <;> cases b2 <;> cases b3 <;> exact ⟨_, rfl⟩
  · exact ⟨_, rfl⟩

theorem of_some (w : Int) : ∃ r, St.D.state_Of 10 w = some r := by
  unfold St.D.state_Of
  show ∃ r, (St.D.field_Split 10 [fGen, fMode, fKind] w).bind _ = some r
  rw [split_lay]
  generalize (bits_andNot .u64 (bits_andNot .u64 (bits_andNot .u64 w (D.field_Field_mask fGen)) (D.field_Field_mask fMode)) (D.field_Field_mask fKind) != 0) = b
  cases b
  · show ∃ r, (bif (!(D.state_State_Formed (⟨(IntKind.i64.wrap (D.field_Field_Get fGen w)), (IntKind.i64.wrap (D.field_Field_Get fMode w)), (IntKind.i64.wrap (D.field_Field_Get fKind w))⟩ : State))) then _ else _) = some r
    generalize (!(D.state_State_Formed (⟨(IntKind.i64.wrap (D.field_Field_Get fGen w)), (IntKind.i64.wrap (D.field_Field_Get fMode w)), (IntKind.i64.wrap (D.field_Field_Get fKind w))⟩ : State))) = b
    cases b <;> exact ⟨_, rfl⟩
  · exact ⟨_, rfl⟩

theorem c_state_State_Word (w0 : World) (a0 : State) : Calls Tryz.prog 91 #[.agg (stateC a0).toArray] w0 (PureRes (.int .u64 (D.state_State_Word a0)) w0) := by
  obtain ⟨r, hr⟩ := word_some a0
  unfold D.state_State_Word
  rw [hr]
  exact St.c_state_State_Word w0 a0 hr

theorem c_state_Of (w0 : World) (a0 : Int) : Calls Tryz.prog 67 #[.int .u64 a0] w0 (PureRes (.tuple #[(.agg (stateC (D.state_Of a0).1).toArray), (.bool (D.state_Of a0).2)]) w0) := by
  obtain ⟨r, hr⟩ := of_some a0
  unfold D.state_Of
  rw [hr]
  exact St.c_state_Of w0 a0 hr

end Go.Proofs.YtjkinpbfmihhdaaGreat
