/- The list of free nodes: what its programs come to, without the code. -/
import Derived.Test.YtjkinpbfmihhdaaGreatCfRunx
import Derived.Test.YtjkinpbfmihhdaaGreatCfLaids
namespace Go.Proofs.YtjkinpbfmihhdaaGreat
open Go.RowKit

/-! ### The head's word -/
theorem ofInt_nat {x : Int} (h0 : 0 ≤ x) (h1 : x < 18446744073709551616) : (BitVec.ofInt 64 x).toNat = x.toNat := by
  rw [BitVec.toNat_ofInt]
  congr 1
  exact Int.emod_eq_of_lt h0 (by simpa using h1)

theorem and_eq {x y : Int} (h0 : 0 ≤ x) (h1 : x < 18446744073709551616) (h2 : 0 ≤ y) (h3 : y < 18446744073709551616) : bits_and .u64 x y = ((x.toNat &&& y.toNat : Nat) : Int) := by
  have h : ((BitVec.ofInt 64 x &&& BitVec.ofInt 64 y).toNat : Int) = ((x.toNat &&& y.toNat : Nat) : Int) := by
    rw [BitVec.toNat_and, ofInt_nat h0 h1, ofInt_nat h2 h3]
  show IntKind.u64.wrap ((BitVec.ofInt 64 x &&& BitVec.ofInt 64 y).toNat : Int) = _
  rw [h]
  have : x.toNat &&& y.toNat < 2 ^ 64 := Nat.and_lt_two_pow _ (by omega)
  exact wrapu_id (by omega) (by omega)

theorem andNot_eq {x y : Int} (h0 : 0 ≤ x) (h1 : x < 18446744073709551616) (h2 : 0 ≤ y) (h3 : y < 18446744073709551616) : bits_andNot .u64 x y = ((x.toNat &&& (18446744073709551615 - y.toNat) : Nat) : Int) := by
  have h : ((BitVec.ofInt 64 x &&& ~~~(BitVec.ofInt 64 y)).toNat : Int) = ((x.toNat &&& (18446744073709551615 - y.toNat) : Nat) : Int) := by
    rw [BitVec.toNat_and, BitVec.toNat_not, ofInt_nat h0 h1, ofInt_nat h2 h3]
  show IntKind.u64.wrap ((BitVec.ofInt 64 x &&& ~~~(BitVec.ofInt 64 y)).toNat : Int) = _
  rw [h]
  have : x.toNat &&& (18446744073709551615 - y.toNat) < 2 ^ 64 := Nat.and_lt_two_pow _ (by omega)
  exact wrapu_id (by omega) (by omega)

/-! ### The list -/
/-- The place of a node's next. -/
def nx (p : Plan) (n : Int) : Int := D.plan_Plan_nodes p + n * 5 + 1

def first : List Int → Int
  | [] => 0
  | n :: _ => n + 1

def Linked (p : Plan) (ws : List Int) : List Int → Prop
  | [] => True
  | n :: l => rd ws (nx p n) = first l ∧ Linked p ws l

/-- The words hold this list of free nodes, the head was turned so often. -/
structure FreeAt (p : Plan) (ws : List Int) (l : List Int) (g : Int) : Prop where
  len : (ws.length : Int) = D.plan_Plan_Size p
  head : rd ws 0 = g * 2097152 + first l
  g0 : 0 ≤ g
  range : ∀ n, n ∈ l → 0 ≤ n ∧ n < p.nodes
  nodup : l.Nodup
  linked : Linked p ws l

theorem Linked.keep {p : Plan} {ws ws' : List Int} : ∀ {l : List Int}, Linked p ws l → (∀ n, n ∈ l → rd ws' (nx p n) = rd ws (nx p n)) → Linked p ws' l
  | [], _, _ => trivial
  | n :: _, h, hk => ⟨(hk n (List.mem_cons_self ..)).trans h.1, Linked.keep h.2 fun m hm => hk m (List.mem_cons_of_mem _ hm)⟩

end Go.Proofs.YtjkinpbfmihhdaaGreat
