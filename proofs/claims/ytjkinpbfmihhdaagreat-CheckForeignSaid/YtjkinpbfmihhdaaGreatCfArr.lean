/- Arrays that are sliced whole: a cell's block read as a row. -/
import Derived.Test.YtjkinpbfmihhdaaGreatCfRow
namespace Go.Proofs.YtjkinpbfmihhdaaGreat
open Go.RowKit

/-- An array's type: so many elements, of so many cells each. -/
def arrTy (P : Program) (t : TypeId) (n k : Nat) : Bool := match P.underlying t with | some (.array m e) => m == n && sized P e k && !(n == 0) | _ => false

theorem y_arr {P : Program} {w : World} {a : Act} {d : Option Tmp} {ty : TypeId} {pos : String} {aft : Array Edge} {N : Nat} {s : SL} {x : Operand} {t : TypeId} {b n k : Nat} {R : Value → World → Prop} (hfr : Fr a N s) (ht : arrTy P t n k = true)
    (hx : lookO s x = .pointer (some ⟨b, 0, none⟩)) (hR : R (.slice (some ⟨b, 0, none⟩) n n) w) : Yields P ⟨d, .slice t x none none none, ty, pos, aft, none⟩ a w R := by
  refine .of_run (v := .slice (some ⟨b, 0, none⟩) n n) (w' := w) ?_ hR
  unfold arrTy at ht
  cases h2 : P.underlying t with
  | none => rw [h2] at ht; cases ht
  | some d1 =>
    rw [h2] at ht
    cases d1 with
    | array m e =>
      simp only [Bool.and_eq_true, beq_iff_eq, Bool.not_eq_true', beq_eq_false_iff_ne] at ht
      obtain ⟨⟨rfl, ht⟩, _⟩ := ht
      have hs : (sizeOf e).run P w = .ok k w := run_size ht
      simp [execOp, hfr.ev hx, Instr.sliceAt, Instr.sureAddr, Instr.sliceBounds, run_underlying h2, hs, Addr.add]
    | _ => cases ht

theorem RoAt.ofCell {α : Type} {T E : TypeId} {sz : Nat} {f : α → List Value} {b n : Nat} {xs : List α} {w : World} {c : Array Value} (h : w.heap[b]? = .some (.cells c E (0, 0))) (hn : xs.length = n) (hne : xs ≠ []) (hc : c.toList.take (n * sz) = xs.flatMap f) :
    RoAt T sz f (.slice (.some ⟨b, 0, none⟩) n n) xs w := by
  subst hn
  exact .inr ⟨b, 0, xs.length, c, E, (0, 0), rfl, hne, h, by rw [List.drop_zero]; exact hc, Nat.le_refl _⟩

end Go.Proofs.YtjkinpbfmihhdaaGreat
