/- Loops that are computed, by what holds at each round; small numbers. -/
import Derived.Test.YtjkinpbfmihhdaaGreatCfRefP
import Derived.Test.YtjkinpbfmihhdaaGreatCfRow
namespace Go.Proofs.YtjkinpbfmihhdaaGreat
open Go.RowKit
theorem loop_inv {X Z : Type} {body : X → Option (Lp X Z)} {f : X → Option Z} {x0 : X} (Q : Option Z → Prop) (I : Nat → X → Prop) (n k : Nat) (h0 : I 0 x0) (hk : n < k)
    (hs : ∀ i x, i < n → I i x → ∃ x', body x = some (.next x') ∧ I (i + 1) x') (he : ∀ x, I n x → ∃ x', body x = some (.brk x') ∧ Q (f x')) : Q (loopThen body k x0 f) := by
  have h : ∀ d i x, i + d = n → I i x → ∀ k, d < k → Q ((runLoop body k x).bind (afterLoop f)) := by
    intro d
    induction d with
    | zero =>
      intro i x hi hI k hk
      obtain ⟨k, rfl⟩ : ∃ q, k = q + 1 := ⟨k - 1, by omega⟩
      obtain rfl : i = n := by omega
      obtain ⟨x', hb, hf⟩ := he x hI
      simp only [runLoop, hb, Option.bind_some, goOn, afterLoop]
      exact hf
    | succ d ih =>
      intro i x hi hI k hk
      obtain ⟨k, rfl⟩ : ∃ q, k = q + 1 := ⟨k - 1, by omega⟩
      obtain ⟨x', hb, hI'⟩ := hs i x (by omega) hI
      simp only [runLoop, hb, Option.bind_some, goOn]
      exact ih (i + 1) x' (by omega) hI' k (by omega)
  exact h n 0 x0 (by omega) h0 k hk

end Go.Proofs.YtjkinpbfmihhdaaGreat
