/- Programs' trees run on words: what a run of a program comes to, without the code. -/
import Derived.Test.YtjkinpbfmihhdaaGreatCfLaids
import Derived.Test.YtjkinpbfmihhdaaGreatCfTools
namespace Go.Proofs.YtjkinpbfmihhdaaGreat
open Go.RowKit

/-- The words behind an access that is done. -/
def acted (op at_ a b x : Int) (ws : List Int) : List Int :=
  if op = 1 then ws.set at_.toNat a else if op = 2 then (if x = a then ws.set at_.toNat b else ws) else if op = 3 then ws.set at_.toNat (IntKind.u64.wrap (x + a)) else ws

/-- A tree comes to its end, in so many steps. -/
inductive Runs {R : Type} : T R → List Int → Nat → R → List Int → Prop
  | done (r : R) (ws : List Int) : Runs (.done r) ws 0 r ws
  | act {op at_ a b x : Int} {k : Int → T R} {ws ws' : List Int} {n : Nat} {r : R} (h1 : 0 ≤ op ∧ op ≤ 3) (h2 : getI ws at_ = some x) (h : Runs (k x) (acted op at_ a b x ws) n r ws') : Runs (.act op at_ a b k) ws (n + 1) r ws'

theorem Runs.bind {A B : Type} {t : T A} {g : A → T B} {ws ws' ws'' : List Int} {n m : Nat} {a : A} {b : B} (h : Runs t ws n a ws') (h2 : Runs (g a) ws' m b ws'') : Runs (t.bind g) ws (n + m) b ws'' := by
  induction h with
  | done r ws => simpa [T.bind] using h2
  | @act op at_ a b x k ws ws' n r h1 h3 _ ih =>
    have := Runs.act (k := fun x => (k x).bind g) h1 h3 (ih h2)
    rw [show n + 1 + m = n + m + 1 from by omega]
    exact this

section
variable {R : Type}
end
/-! ### Words by their places -/
/-- The word at a place. -/
def rd (ws : List Int) (i : Int) : Int := ws.getD i.toNat 0

theorem getI_rd {ws : List Int} {i : Int} (h0 : 0 ≤ i) (h1 : i < ws.length) : getI ws i = some (rd ws i) := by
  unfold getI rd
  rw [if_pos h0, List.getD_eq_getElem?_getD, List.getElem?_eq_getElem (by omega)]
  rfl

theorem Runs.load {R : Type} {at_ : Int} {k : Int → T R} {ws ws' : List Int} {n : Nat} {r : R} (h0 : 0 ≤ at_) (h1 : at_ < ws.length) (h : Runs (k (rd ws at_)) ws n r ws') : Runs (.act 0 at_ 0 0 k) ws (n + 1) r ws' :=
  .act (by omega) (getI_rd h0 h1) (by simpa [acted] using h)

theorem Runs.store {R : Type} {at_ w : Int} {k : Int → T R} {ws ws' : List Int} {n : Nat} {r : R} (h0 : 0 ≤ at_) (h1 : at_ < ws.length) (h : Runs (k (rd ws at_)) (ws.set at_.toNat w) n r ws') : Runs (.act 1 at_ w 0 k) ws (n + 1) r ws' :=
  .act (by omega) (getI_rd h0 h1) (by simpa [acted] using h)

theorem wrapu_id {x : Int} (h0 : 0 ≤ x) (h1 : x < 18446744073709551616) : IntKind.u64.wrap x = x := by
  simp only [IntKind.wrap]
  simp [IntKind.signed, IntKind.bits]
  omega

/-! ### A memory that is laid out -/
/-- What is laid out: the list of free nodes; all else is 0. -/
structure LaidAt (p : Plan) (ws : List Int) : Prop where
  len : (ws.length : Int) = D.plan_Plan_Size p
  head : rd ws 0 = 1
  next : ∀ m, 0 ≤ m → m < p.nodes → rd ws (D.plan_Plan_nodes p + m * 5 + 1) = if m + 1 = p.nodes then 0 else m + 2
  zero : ∀ j, 0 < j → (∀ m, 0 ≤ m → m < p.nodes → j ≠ D.plan_Plan_nodes p + m * 5 + 1) → rd ws j = 0

end Go.Proofs.YtjkinpbfmihhdaaGreat
