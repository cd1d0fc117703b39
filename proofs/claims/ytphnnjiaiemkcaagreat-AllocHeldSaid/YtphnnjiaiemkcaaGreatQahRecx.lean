/- Nodes that are popped, and reclaimed: what the programs come to, without the code. -/
import Derived.Test.YtphnnjiaiemkcaaGreatQahL11
import Derived.Test.YtphnnjiaiemkcaaGreatQahStatev
namespace Go.Proofs.YtphnnjiaiemkcaaGreat
open Go.RowKit

section
variable {p : Plan} (hp : PF p) {n : Int} (hn : 0 ≤ n ∧ n < p.nodes)
include hp hn
end
/-- The words of node n. -/
def ofNode (p : Plan) (n j : Int) : Prop := D.plan_Plan_nodes p + n * 5 ≤ j ∧ j < D.plan_Plan_nodes p + n * 5 + 5

/-- A list of free nodes stays, where neither the head nor its nodes' links are changed. -/
theorem FreeAt.keep {p : Plan} {ws ws' : List Int} {l : List Int} {g : Int} (h : FreeAt p ws l g) (hl : ws'.length = ws.length) (h0 : rd ws' 0 = rd ws 0) (hk : ∀ n, n ∈ l → rd ws' (nx p n) = rd ws (nx p n)) : FreeAt p ws' l g :=
  ⟨by rw [hl]; exact h.len, h0.trans h.head, h.g0, h.range, h.nodup, h.linked.keep hk⟩

/-- What a node that is reclaimed comes to. -/
structure Reclaimed (p : Plan) (n : Int) (t : State) (ws ws' : List Int) (l : List Int) (g : Int) : Prop where
  len : ws'.length = ws.length
  state : rd ws' (D.plan_Plan_nodes p + n * 5) = D.state_State_Word t
  fields : ∀ f, 0 ≤ f → f < 3 → rd ws' (D.plan_Plan_nodes p + n * 5 + 2 + f) = 0
  gone : t.mode = 3 → FreeAt p ws' l g
  free : t.mode ≠ 3 → FreeAt p ws' (n :: l) (g + 1)
  others : ∀ j, 0 < j → ¬ ofNode p n j → rd ws' j = rd ws j

/-! ### All nodes are popped -/
/-- All nodes below i are popped, and have a state's word, and sevens. -/
structure Popped (p : Plan) (ws : List Int) (w : Int) (i : Nat) : Prop where
  free : FreeAt p ws ((List.range' i (p.nodes.toNat - i)).map fun (q : Nat) => (q : Int)) i
  state : ∀ n : Int, 0 ≤ n → n < i → rd ws (D.plan_Plan_nodes p + n * 5) = w
  field : ∀ n f : Int, 0 ≤ n → n < i → 0 ≤ f → f < 3 → rd ws (D.plan_Plan_nodes p + n * 5 + 2 + f) = 7
  zero : ∀ j, 0 < j → j < D.plan_Plan_nodes p → rd ws j = 0

end Go.Proofs.YtphnnjiaiemkcaaGreat
