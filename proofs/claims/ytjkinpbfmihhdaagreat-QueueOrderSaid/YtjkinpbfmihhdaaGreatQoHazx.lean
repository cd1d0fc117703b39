/- Hazards: what their programs come to in the laws. -/
import Derived.Test.YtjkinpbfmihhdaaGreatQoM10
set_option linter.all false
namespace Go.Proofs.YtjkinpbfmihhdaaGreat
open Go.RowKit

/-! ### Guards -/
/-- A guard of a word that the place has: it names no node, or the hazard is set. -/
theorem zj4 {p : Plan} (hp : PF p) {ws : List Int} (hl : Len p ws) {t s at_ sh w : Int} (ht : 0 ≤ t ∧ t < p.threads) (hs : 0 ≤ s ∧ s < 3) (h0 : 0 ≤ at_) (h1 : at_ < D.zaD p) (hne : at_ ≠ D.zab p + t * 3 + s)
    (hw0 : 0 ≤ w) (hw1 : w < 1099511627776) (hsh : 0 ≤ sh ∧ sh < 3) (hw : rd ws at_ = w) (k : Nat) :
    (w / 2 ^ sh.toNat - 1 < 0 → Runs (D.zcf (k + 1) p t s at_ sh w) ws 0 w ws) ∧
    (¬ w / 2 ^ sh.toNat - 1 < 0 → Runs (D.zcf (k + 1) p t s at_ sh w) ws 2 w (ws.set (D.zab p + t * 3 + s).toNat (w / 2 ^ sh.toNat))) := by
  obtain ⟨h2, h3, h4⟩ := zn2 hw0 hsh
  obtain ⟨g1, g2, g3, g4⟩ := hz_in hp
  have hn1 := hp.n1
  have hb : D.zcf (k + 1) p t s at_ sh w = D.zbJ (D.zcf k) p t s at_ sh w := rfl
  have hq : IntKind.i64.wrap (IntKind.i64.wrap (shrI .u64 w sh) - 1) = w / 2 ^ sh.toNat - 1 := by
    rw [h2, zaS (x := w / 2 ^ sh.toNat) (by omega) (by omega), zaS (by omega) (by omega)]
  constructor
  · intro hlt
    rw [hb]
    unfold D.zbJ
    rw [hq, show decide (w / 2 ^ sh.toNat - 1 < 0) = true from by simpa using hlt]
    exact .done _ _
  · intro hge
    rw [hb]
    unfold D.zbJ
    rw [hq, show decide (w / 2 ^ sh.toNat - 1 < 0) = false from by simpa using hge]
    have hr := zga hp hl ht hs (n := w / 2 ^ sh.toNat - 1) (by omega)
    rw [show w / 2 ^ sh.toNat - 1 + 1 = w / 2 ^ sh.toNat from by omega] at hr
    show Runs ((D.ze2 p t s (w / 2 ^ sh.toNat - 1)).bind fun _ => D.zeb (D.zcf k) at_ w p t s sh) ws (1 + 1) w _
    refine Runs.bind hr ?_
    unfold Len at hl
    show Runs (.act 0 at_ 0 0 _) _ 1 _ _
    refine .load h0 (by simpa [hl] using h1) ?_
    have hx : rd (ws.set (D.zab p + t * 3 + s).toNat (w / 2 ^ sh.toNat)) at_ = w := by
      rw [zbw (by omega) (by omega) h0, if_neg hne, hw]
    rw [hx]
    unfold D.zcI
    rw [show (w == w) = true from by simp]
    exact .done _ _

end Go.Proofs.YtjkinpbfmihhdaaGreat
