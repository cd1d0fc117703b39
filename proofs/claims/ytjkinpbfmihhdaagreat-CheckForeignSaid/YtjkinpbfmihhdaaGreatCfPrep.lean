/- A program that is made in a region that draws its order, ahead of what is loaded there. -/
import Derived.Test.YtjkinpbfmihhdaaGreatCfBase
namespace Go.Proofs.YtjkinpbfmihhdaaGreat
open Go.RowKit

def PrepP {R : Type} (P : Program) (E : Enc R) (n : Nat) (t : T R) (F : Nat → Prop) (w : World) : Value → World → Prop := fun v x => Below w.heap.size w x ∧ Rep P E n t (grow F w x) x v

theorem PrepP.st {R : Type} {P : Program} {E : Enc R} {n : Nat} {t : T R} {F : Nat → Prop} {w : World} (hF : ∀ b, F b → b < w.heap.size) : ∀ v w1 w2, PrepP P E n t F w v w1 → Below w1.heap.size w1 w2 → PrepP P E n t F w v w2 := by
  rintro v w1 w2 ⟨h1, h2⟩ hb
  refine ⟨h1.trans (hb.mono h1.size), Rep.mono ?_ ?_ hb.size n _ _ h2⟩
  · rintro b (h | ⟨h3, h4⟩)
    · exact .inl h
    · exact .inr ⟨h3, Nat.lt_of_lt_of_le h4 hb.size⟩
  · rintro b (h | ⟨h3, h4⟩)
    · exact hb.block b (Nat.lt_of_lt_of_le (hF b h) h1.size)
    · exact hb.block b h4

theorem PrepP.of {R : Type} {P : Program} {E : Enc R} {n : Nat} {t : T R} {F : Nat → Prop} {w w1 w2 : World} {v : Value} (h1 : Below w.heap.size w w1) (hb : Below w1.heap.size w1 w2) (h : Rep P E n t (grow F w1 w2) w2 v) : PrepP P E n t F w v w2 := by
  refine ⟨h1.trans (hb.mono h1.size), Rep.mono ?_ (fun b _ => rfl) (Nat.le_refl _) n _ _ h⟩
  rintro b (h | ⟨h3, h4⟩)
  · exact .inl h
  · exact .inr ⟨Nat.le_trans h1.size h3, h4⟩

theorem drB {w w' : World} {d : Nat} (h : Below w.heap.size { w with drawn := d } w') : Below w.heap.size w w' := ⟨h.os, h.tape, h.output, h.size, h.block⟩

end Go.Proofs.YtjkinpbfmihhdaaGreat
