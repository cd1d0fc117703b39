/- Loops: a function that a loop computes, with a bound on its rounds; the law of a loop that computes it. -/
import Derived.Test.YtphnnjiaiemkcaaFree
namespace Go.Proofs.Ytphnnjiaiemkcaa
open Go.RowKit

/-- What one round comes to: the next one's state; the loop is left; the function hands back. -/
inductive Lp (X Z : Type) where
  | next (x : X)
  | brk (x : X)
  | ret (z : Z)

def goOn {X Z : Type} (f : X → Option (Lp X Z)) : Lp X Z → Option (Lp X Z)
  | .next x => f x
  | .brk x => some (.brk x)
  | .ret z => some (.ret z)
def runLoop {X Z : Type} (body : X → Option (Lp X Z)) : Nat → X → Option (Lp X Z)
  | 0, _ => none
  | k + 1, x => (body x).bind (goOn (runLoop body k))
def afterLoop {X Z : Type} (f : X → Option Z) : Lp X Z → Option Z
  | .next _ => none
  | .brk x => f x
  | .ret z => some z
def loopThen {X Z : Type} (body : X → Option (Lp X Z)) (k : Nat) (x0 : X) (f : X → Option Z) : Option Z := (runLoop body k x0).bind (afterLoop f)
def letD {X Z : Type} (t : X) (f : X → Option Z) : Option Z := f t
theorem letD_elim {X Z : Type} {t : X} {f : X → Option Z} {z : Z} (h : letD t f = some z) : ∃ x, x = t ∧ f x = some z := ⟨t, rfl, h⟩
theorem bindD_elim {X Z : Type} {t : Option X} {f : X → Option Z} {z : Z} (h : t.bind f = some z) : ∃ x, t = some x ∧ f x = some z := by
  cases t with
  | none => cases h
  | some x => exact ⟨x, rfl, h⟩

section
variable {P : Program} {Q : Exit → Act → World → Prop} {c : Code} {a : Act} {w : World} {N : Nat} {s : SL} {X Z : Type}

def RoundPost (Q : Exit → Act → World → Prop) (id N : Nat) (S : X → List (Nat × Value)) (I : X → World → Prop) (z : Z) (y : Lp X Z) : Exit → Act → World → Prop
  | .normal, a, w => ∃ x' s', y = .next x' ∧ Fr a N s' ∧ (∀ q, q ∈ S x' → look s' q.1 = q.2) ∧ I x' w
  | .exit id', a, w => id' = id ∧ ∃ x' s', y = .brk x' ∧ Fr a N s' ∧ (∀ q, q ∈ S x' → look s' q.1 = q.2) ∧ I x' w
  | .ret, a, w => ∃ z', y = .ret z' ∧ (z' = z → Q .ret a w)
  | _, _, _ => False

theorem wp_loopD {id : Nat} {body : X → Option (Lp X Z)} {f : X → Option Z} {z : Z} {k : Nat} {x0 : X} (S : X → List (Nat × Value)) (I : X → World → Prop) (r : Fr a N s) (hs : ∀ q, q ∈ S x0 → look s q.1 = q.2) (h0 : I x0 w)
    (hD : loopThen body k x0 f = some z)
    (round : ∀ x a w g y (RP : Exit → Act → World → Prop),
      (∀ x' s' a' w', some (Lp.next x') = some y → Fr a' N s' → (∀ q, q ∈ S x' → look s' q.1 = q.2) → I x' w' → RP .normal a' w') →
      (∀ x' s' a' w', some (Lp.brk x') = some y → Fr a' N s' → (∀ q, q ∈ S x' → look s' q.1 = q.2) → I x' w' → RP (.exit id) a' w') →
      (∀ z' a' w', some (Lp.ret z') = some y → (some z' = some z → Q .ret a' w') → RP .ret a' w') →
      Fr a N (pushes (S x) (.base g)) → I x w → body x = some y → c.wp P RP a w)
    (rest : ∀ x a w g, Fr a N (pushes (S x) (.base g)) → I x w → f x = some z → Q .normal a w) : (Code.block id (.loop c)).wp P Q a w := by
  obtain ⟨q, hL, hq⟩ := bindD_elim hD
  refine wp_block ?_
  refine wp_loopF (X := X × Nat) (fun x => S x.1) (fun x w => I x.1 w ∧ runLoop body x.2 x.1 = some q) (fun x => x.2) (x0, k) r hs ⟨h0, hL⟩ ?_
  rintro ⟨x, m⟩ a w g hr ⟨hi, hm⟩
  cases m with
  | zero => cases hm
  | succ m =>
    obtain ⟨y, hy, hgo⟩ := bindD_elim hm
    refine Code.wp_mono ?_ (round x a w g y (RoundPost Q id N S I z y) (fun x' s' a' w' h r hs hi => ⟨x', s', (Option.some.inj h).symm, r, hs, hi⟩) (fun x' s' a' w' h r hs hi => ⟨rfl, x', s', (Option.some.inj h).symm, r, hs, hi⟩)
      (fun z' a' w' h hq => ⟨z', (Option.some.inj h).symm, fun h => hq (congrArg some h)⟩) hr hi hy)
    intro e a' w' h
    cases e with
    | normal =>
      obtain ⟨x', s', rfl, h2, h3, h4⟩ := h
      exact ⟨(x', m), s', h2, h3, ⟨h4, hgo⟩, Nat.lt_succ_self m⟩
    | exit id' =>
      obtain ⟨rfl, x', s', rfl, h2, h3, h4⟩ := h
      have hqe : q = .brk x' := (Option.some.inj hgo).symm
      subst hqe
      show Exit.inBlock id' Q (.exit id') a' w'
      simp only [Exit.inBlock, if_true]
      exact rest x' a' w' _ (h2.forget _ h3) h4 hq
    | ret =>
      obtain ⟨z', rfl, h2⟩ := h
      have hqe : q = .ret z' := (Option.some.inj hgo).symm
      subst hqe
      exact h2 (Option.some.inj hq)
    | _ => exact h.elim
end
end Go.Proofs.Ytphnnjiaiemkcaa
