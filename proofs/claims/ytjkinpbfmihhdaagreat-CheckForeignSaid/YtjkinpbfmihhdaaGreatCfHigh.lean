/- Functions into trees that take a function into trees. -/
import Derived.Test.YtjkinpbfmihhdaaGreatCfBase
namespace Go.Proofs.YtjkinpbfmihhdaaGreat
open Go.RowKit

/-- A function value takes a number and a function of words, and stands for a function into trees, at all levels. -/
def FnHAt {R : Type} (P : Program) (E : Enc R) (F : Nat → Prop) (w : World) (f : FuncId) (first cap : List Value) (d : Int → (Int → T R) → T R) : Prop :=
  ∀ (m : Nat) (x : Int) {nf : FuncId} {n1 n2 : List Value} {g : Int → T R} (F' : Nat → Prop) (w' : World), (∀ b, F b → F' b) → Same F w w' → w.heap.size ≤ w'.heap.size → (∀ b, F' b → b < w'.heap.size) →
    FnT P E u64 m F' w' (.func (.func nf) n1.toArray n2.toArray) g → Calls P f (first ++ [Value.int .i64 x, Value.func (.func nf) n1.toArray n2.toArray] ++ cap).toArray w' (RepRes P E m (d x g) F' w')

def FnH {R : Type} (P : Program) (E : Enc R) (F : Nat → Prop) (w : World) (fv : Value) (d : Int → (Int → T R) → T R) : Prop :=
  ∃ (f : FuncId) (first cap : List Value), callable P f = true ∧ fv = .func (.func f) first.toArray cap.toArray ∧ FnHAt P E F w f first cap d

section
variable {R : Type} {P : Program} {E : Enc R}
theorem FnH.mono {F F' : Nat → Prop} {w w' : World} {fv : Value} {d : Int → (Int → T R) → T R} (h : FnH P E F w fv d)
    (hs : ∀ b, F b → F' b) (h1 : Same F w w') (h2 : w.heap.size ≤ w'.heap.size) : FnH P E F' w' fv d := by
  obtain ⟨f, first, cap, hc, hv, h⟩ := h
  exact ⟨f, first, cap, hc, hv, fun m x nf n1 n2 g F1 w1 k1 k2 k3 k4 k5 => h m x F1 w1 (fun b hb => k1 b (hs b hb)) (h1.trans (k2.sub hs)) (by omega) k4 k5⟩

theorem FnH.at_ {F : Nat → Prop} {w : World} {f : FuncId} {first cap : List Value} {d : Int → (Int → T R) → T R} (h : FnH P E F w (.func (.func f) first.toArray cap.toArray) d) :
    callable P f = true ∧ FnHAt P E F w f first cap d := by
  obtain ⟨f', first', cap', hc, he, hf⟩ := h
  simp only [Value.func.injEq, Fn.func.injEq] at he
  obtain ⟨e1, e2, e3⟩ := he
  have e2' : first = first' := by simpa using congrArg Array.toList e2
  have e3' : cap = cap' := by simpa using congrArg Array.toList e3
  subst e1; subst e2'; subst e3'
  exact ⟨hc, hf⟩

theorem y_callv2 {a : Act} {w : World} {d : Option Tmp} {ty : TypeId} {pos : String} {aft : Array Edge} {N : Nat} {s : SL} (hfr : Fr a N s)
    {x x1 x2 : Operand} {f : FuncId} {fs cs : List Value} {ts : Array TypeId} {v1 v2 : Value} {R : Value → World → Prop} (hx0 : lookO s x = .func (.func f) fs.toArray cs.toArray) (hx1 : lookO s x1 = v1) (hx2 : lookO s x2 = v2)
    (hf : callable P f = true) (hc : Calls P f (fs ++ [v1, v2] ++ cs).toArray w fun e w' => ∃ v, e = .returned v ∧ R v w') : Yields P ⟨d, .call ⟨.value x, #[x1, x2], ts⟩, ty, pos, aft, none⟩ a w R :=
  y_callv hfr (xs := [x1, x2]) hx0 (by rw [List.map_cons, List.map_cons, List.map_nil, hx1, hx2]) hf hc

end
end Go.Proofs.YtjkinpbfmihhdaaGreat
