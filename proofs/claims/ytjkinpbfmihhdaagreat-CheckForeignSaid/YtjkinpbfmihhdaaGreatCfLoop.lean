/- Loops: a function that a loop computes, with a bound on its rounds; the law of a loop that computes it. -/
import Derived.Test.YtjkinpbfmihhdaaGreatCfFree
namespace Go.Proofs.YtjkinpbfmihhdaaGreat
open Go.RowKit

/-- What one round comes to: the next one's state; the loop is left; the function hands back. -/
inductive Lp (X Z : Type) where
  | next (x : X)
  | brk (x : X)
  | ret (z : Z)

def goOn {X Z : Type} (f : X → Option (Lp X Z)) : Lp X Z → Option (Lp X Z)
  | .next x => f x
  | .brk x => some (.brk x)
  | .ret z => some (.ret z)

def runLoop {X Z : Type} (body : X → Option (Lp X Z)) : Nat → X → Option (Lp X Z)
  | 0, _ => none
  | k + 1, x => (body x).bind (goOn (runLoop body k))

def afterLoop {X Z : Type} (f : X → Option Z) : Lp X Z → Option Z
  | .next _ => none
  | .brk x => f x
  | .ret z => some z

def loopThen {X Z : Type} (body : X → Option (Lp X Z)) (k : Nat) (x0 : X) (f : X → Option Z) : Option Z := (runLoop body k x0).bind (afterLoop f)

theorem bindD_elim {X Z : Type} {t : Option X} {f : X → Option Z} {z : Z} (h : t.bind f = some z) : ∃ x, t = some x ∧ f x = some z := by
  cases t with
  | none => cases h
  | some x => exact ⟨x, rfl, h⟩

section
variable {P : Program} {Q : Exit → Act → World → Prop} {c : Code} {a : Act} {w : World} {N : Nat} {s : SL} {X Z : Type}

end
end Go.Proofs.YtjkinpbfmihhdaaGreat
