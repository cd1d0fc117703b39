/- The list of free nodes: what its programs come to, without the code. -/
import Derived.Test.YtphnnjiaiemkcaaGreatQahRunx
import Derived.Test.YtphnnjiaiemkcaaGreatQahLists
namespace Go.Proofs.YtphnnjiaiemkcaaGreat
open Go.RowKit

/-! ### The head's word -/
/-! ### The list -/
/-- The place of a node's next. -/
def nx (p : Plan) (n : Int) : Int := D.plan_Plan_nodes p + n * 5 + 1

def first : List Int → Int
  | [] => 0
  | n :: _ => n + 1

def Linked (p : Plan) (ws : List Int) : List Int → Prop
  | [] => True
  | n :: l => rd ws (nx p n) = first l ∧ Linked p ws l

/-- The words hold this list of free nodes, the head was turned so often. -/
structure FreeAt (p : Plan) (ws : List Int) (l : List Int) (g : Int) : Prop where
  len : (ws.length : Int) = D.plan_Plan_Size p
  head : rd ws 0 = g * 2097152 + first l
  g0 : 0 ≤ g
  range : ∀ n, n ∈ l → 0 ≤ n ∧ n < p.nodes
  nodup : l.Nodup
  linked : Linked p ws l

theorem Linked.keep {p : Plan} {ws ws' : List Int} : ∀ {l : List Int}, Linked p ws l → (∀ n, n ∈ l → rd ws' (nx p n) = rd ws (nx p n)) → Linked p ws' l
  | [], _, _ => trivial
  | n :: _, h, hk => ⟨(hk n (List.mem_cons_self ..)).trans h.1, Linked.keep h.2 fun m hm => hk m (List.mem_cons_of_mem _ hm)⟩

end Go.Proofs.YtphnnjiaiemkcaaGreat
