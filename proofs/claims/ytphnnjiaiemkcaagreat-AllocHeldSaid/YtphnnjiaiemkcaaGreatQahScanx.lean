/- Retired nodes: what putting and scanning comes to, without the code. -/
import Derived.Test.YtphnnjiaiemkcaaGreatQahRecx
import Derived.Test.YtphnnjiaiemkcaaGreatQahHazt
namespace Go.Proofs.YtphnnjiaiemkcaaGreat
open Go.RowKit

/-- The place of a thread's count of retired nodes; its retired nodes stand behind it. -/
def rb (p : Plan) (t : Int) : Int := D.plan_Plan_counts p + t * (1 + p.retire)

/-- What a thread retired. -/
structure RetAt (p : Plan) (ws : List Int) (t : Int) (r : List Int) : Prop where
  count : rd ws (rb p t) = r.length
  room : (r.length : Int) ≤ p.retire
  slot : ∀ (i : Nat) (h : i < r.length), rd ws (rb p t + 1 + i) = r[i] + 1
  range : ∀ n, n ∈ r → 0 ≤ n ∧ n < p.nodes

section
variable {p : Plan} (hp : PF p) {t : Int} (ht : 0 ≤ t ∧ t < p.threads)
include hp ht
theorem rb_in : D.plan_Plan_hazards p + p.threads * 3 ≤ rb p t ∧ rb p t + 1 + p.retire ≤ D.plan_Plan_nodes p ∧ 0 < rb p t := by
  have h1 := hazards_eq hp
  have h2 := counts_eq hp
  have h3 := nodes_eq hp
  have h5 := hz_le hp
  have ht1 := hp.t1
  have hr1 := hp.r1
  unfold rb
  have h6 : t * (1 + p.retire) + (1 + p.retire) ≤ p.threads * (1 + p.retire) := by
    have : (t + 1) * (1 + p.retire) ≤ p.threads * (1 + p.retire) := Int.mul_le_mul_of_nonneg_right (by omega) (by omega)
    rw [Int.add_mul] at this
    omega
  have h7 : 0 ≤ t * (1 + p.retire) := Int.mul_nonneg (by omega) (by omega)
  exact ⟨by omega, by omega, by omega⟩

end
theorem RetAt.keep {p : Plan} {ws ws' : List Int} {t : Int} {r : List Int} (h : RetAt p ws t r) (hk : ∀ j, rb p t ≤ j → j < rb p t + 1 + p.retire → rd ws' j = rd ws j) : RetAt p ws' t r := by
  have h0 := h.room
  exact ⟨by rw [hk _ (by omega) (by omega)]; exact h.count, h.room, fun i hi => by rw [hk _ (by omega) (by omega)]; exact h.slot i hi, h.range⟩

/-! ### A scan -/
/-- The state that a node has when it is reclaimed. -/
def tof (p : Plan) (ws : List Int) (n : Int) : State := D.state_State_Freed (D.state_Of (rd ws (D.plan_Plan_nodes p + n * 5))).1 p.gen

def pushAll (p : Plan) (ws : List Int) (out l : List Int) : List Int := out.foldl (fun l n => if (tof p ws n).mode = 3 then l else n :: l) l

/-- What a scan comes to. -/
structure Scanned (p : Plan) (t : Int) (ws ws' : List Int) (r' out l : List Int) (g : Int) : Prop where
  len : ws'.length = ws.length
  ret : RetAt p ws' t r'
  free : ∃ g', g' ≤ g + out.length ∧ FreeAt p ws' (pushAll p ws out l) g'
  states : ∀ n, n ∈ out → rd ws' (D.plan_Plan_nodes p + n * 5) = D.state_State_Word (tof p ws n)
  fields : ∀ n f, n ∈ out → 0 ≤ f → f < 3 → rd ws' (D.plan_Plan_nodes p + n * 5 + 2 + f) = 0
  others : ∀ j, 0 < j → (∀ n, n ∈ out → ¬ ofNode p n j) → ¬ (rb p t ≤ j ∧ j < rb p t + 1 + p.retire) → rd ws' j = rd ws j

end Go.Proofs.YtphnnjiaiemkcaaGreat
