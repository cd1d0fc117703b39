/- Handles' words: the code's answers by closed forms. -/
import Derived.Test.YtjkinpbfmihhdaaGreatCfHandlesH
namespace Go.Proofs.YtjkinpbfmihhdaaGreat
open Go.RowKit

def hIdx : Field := ⟨0, 20⟩

def hGen : Field := ⟨20, 30⟩

def hTen : Field := ⟨50, 6⟩

def hSeal : Field := ⟨58, 6⟩

theorem hlay_formed : St.D.field_Formed 10 [hIdx, hGen, hTen, hSeal] = some true := by decide +kernel

theorem hsplit (w : Int) : St.D.field_Split 10 [hIdx, hGen, hTen, hSeal] w = bif (bits_andNot .u64 (bits_andNot .u64 (bits_andNot .u64 (bits_andNot .u64 w (D.field_Field_mask hIdx)) (D.field_Field_mask hGen)) (D.field_Field_mask hTen)) (D.field_Field_mask hSeal) != 0) then some ([], 10)
    else some ([D.field_Field_Get hIdx w, D.field_Field_Get hGen w, D.field_Field_Get hTen w, D.field_Field_Get hSeal w], 0) := by
  unfold St.D.field_Split
  rw [hlay_formed]
  rfl

theorem hpack (a b c d : Int) : St.D.field_Pack 10 [hIdx, hGen, hTen, hSeal] [a, b, c, d] = bif (decide (a > D.field_Field_Most hIdx)) then some (0, 1) else bif (decide (b > D.field_Field_Most hGen)) then some (0, 1) else bif (decide (c > D.field_Field_Most hTen)) then some (0, 1)
    else bif (decide (d > D.field_Field_Most hSeal)) then some (0, 1) else some (D.field_Field_Put hSeal (D.field_Field_Put hTen (D.field_Field_Put hGen (D.field_Field_Put hIdx 0 a) b) c) d, 0) := by
  unfold St.D.field_Pack
  rw [hlay_formed]
  have w1 : IntKind.i64.wrap ((0 : Int) + 1) = 1 := rfl
  have w2 : IntKind.i64.wrap ((1 : Int) + 1) = 2 := rfl
  have w3 : IntKind.i64.wrap ((2 : Int) + 1) = 3 := rfl
  have w4 : IntKind.i64.wrap ((3 : Int) + 1) = 4 := rfl
  have g0 : ∀ {α : Type} (x y z u : α), getI [x, y, z, u] 0 = some x := fun _ _ _ _ => rfl
  have g1 : ∀ {α : Type} (x y z u : α), getI [x, y, z, u] 1 = some y := fun _ _ _ _ => rfl
  have g2 : ∀ {α : Type} (x y z u : α), getI [x, y, z, u] 2 = some z := fun _ _ _ _ => rfl
  have g3 : ∀ {α : Type} (x y z u : α), getI [x, y, z, u] 3 = some u := fun _ _ _ _ => rfl
  have l4 : ∀ {α : Type} (x y z u : α), (([x, y, z, u] : List α).length : Int) = 4 := fun _ _ _ _ => rfl
  cases h1 : decide (a > D.field_Field_Most hIdx) <;> cases h2 : decide (b > D.field_Field_Most hGen) <;> cases h3 : decide (c > D.field_Field_Most hTen) <;> cases h4 : decide (d > D.field_Field_Most hSeal) <;>
    simp only [loopThen, runLoop, goOn, afterLoop, w1, w2, w3, w4, g0, g1, g2, g3, l4, h1, h2, h3, h4, Option.bind_some, cond_true, cond_false, Bool.not_true, bne_self_eq_false, show decide ((0 : Int) < 4) = true from rfl, show decide ((1 : Int) < 4) = true from rfl, show decide ((2 : Int) < 4) = true from rfl, show decide ((3 : Int) < 4) = true from rfl, show decide ((4 : Int) < 4) = false from rfl]

/-- A handle's word. -/
def D.handle_Handle_Word (h : Handle) : Int := (St.D.handle_Handle_Word 10 h).getD 0

/-- A word's handle, and if it is one. -/
def D.handle_Of (w : Int) : Handle × Bool := (St.D.handle_Of 10 w).getD (⟨0, 0, 0⟩, false)

theorem hword_some (h : Handle) : ∃ r, St.D.handle_Handle_Word 10 h = some r := by
  unfold St.D.handle_Handle_Word
  cases (!(D.handle_Handle_Formed h))
  · show ∃ r, (((St.D.field_Pack 10 [hIdx, hGen, hTen, hSeal] [IntKind.u64.wrap h.index, IntKind.u64.wrap h.gen, IntKind.u64.wrap h.tenant, 42]).bind (fun (x17 : Int × Int) => (some x17.1)))) = some r
    rw [hpack]
    generalize decide (IntKind.u64.wrap h.index > D.field_Field_Most hIdx) = b1
    generalize decide (IntKind.u64.wrap h.gen > D.field_Field_Most hGen) = b2
    generalize decide (IntKind.u64.wrap h.tenant > D.field_Field_Most hTen) = b3
    generalize decide ((42 : Int) > D.field_Field_Most hSeal) = b4
    cases b1 <;> cases b2 <;> cases b3 <;> cases b4 <;> exact ⟨_, rfl⟩
  · exact ⟨_, rfl⟩

theorem hof_some (w : Int) : ∃ r, St.D.handle_Of 10 w = some r := by
  unfold St.D.handle_Of
  show ∃ r, (St.D.field_Split 10 [hIdx, hGen, hTen, hSeal] w).bind _ = some r
  rw [hsplit]
  generalize (bits_andNot .u64 (bits_andNot .u64 (bits_andNot .u64 (bits_andNot .u64 w (D.field_Field_mask hIdx)) (D.field_Field_mask hGen)) (D.field_Field_mask hTen)) (D.field_Field_mask hSeal) != 0) = b
  cases b
  · show ∃ r, (bif (D.field_Field_Get hSeal w != 42) then _ else _) = some r
    generalize (D.field_Field_Get hSeal w != 42) = b
    cases b <;> exact ⟨_, rfl⟩
  · exact ⟨_, rfl⟩

theorem c_handle_Handle_Word (w0 : World) (a0 : Handle) : Calls Tryz.prog 116 #[.agg (handleC a0).toArray] w0 (PureRes (.int .u64 (D.handle_Handle_Word a0)) w0) := by
  obtain ⟨r, hr⟩ := hword_some a0
  unfold D.handle_Handle_Word
  rw [hr]
  exact St.c_handle_Handle_Word w0 a0 hr

theorem c_handle_Of (w0 : World) (a0 : Int) : Calls Tryz.prog 226 #[.int .u64 a0] w0 (PureRes (.tuple #[(.agg (handleC (D.handle_Of a0).1).toArray), (.bool (D.handle_Of a0).2)]) w0) := by
  obtain ⟨r, hr⟩ := hof_some a0
  unfold D.handle_Of
  rw [hr]
  exact St.c_handle_Of w0 a0 hr

end Go.Proofs.YtjkinpbfmihhdaaGreat
