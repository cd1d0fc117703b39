/- Hazards: what their programs come to in the laws. -/
import Derived.Test.YtphnnjiaiemkcaaHgHazt
namespace Go.Proofs.Ytphnnjiaiemkcaa
open Go.RowKit

theorem fits_eq {p : Plan} {t s n : Int} (h : D.cubiclelaw10_fits p t s n = true) : PF p ∧ (p.nodes ≤ 40 ∧ p.retire ≤ 40 ∧ p.domains ≤ 6 ∧ p.buckets ≤ 10) ∧ (0 ≤ t ∧ t < p.threads) ∧ (0 ≤ s ∧ s < 3) ∧ -1 ≤ n ∧ n < p.nodes := by
  unfold D.cubiclelaw10_fits at h
  cases h1 : D.cubicleref06_Few p <;> rw [h1] at h
  · cases h
  cases h2 : D.cubicleref06_Formed p <;> rw [h2] at h
  · cases h
  cases h3 : decide (t ≥ 0) <;> rw [h3] at h
  · cases h
  cases h4 : decide (t < p.threads) <;> rw [h4] at h
  · cases h
  cases h5 : decide (s ≥ 0) <;> rw [h5] at h
  · cases h
  cases h6 : decide (s < 3) <;> rw [h6] at h
  · cases h
  cases h7 : decide (n ≥ -1) <;> rw [h7] at h
  · cases h
  have h8 : decide (n < p.nodes) = true := h
  simp only [decide_eq_true_eq] at h3 h4 h5 h6 h7 h8
  exact ⟨ref_formed h2, ref_few (ref_formed h2) h1, ⟨h3, h4⟩, ⟨h5, h6⟩, h7, h8⟩

theorem awake10 : D.cubiclelaw10_awake 2000 = some true := by decide +kernel

/-! ### Guards -/
theorem named_eq {w sh : Int} (h0 : 0 ≤ w) (h1 : w < 1099511627776) (h : 0 ≤ sh ∧ sh < 3) : D.cubicleref10_Named w sh = w / 2 ^ sh.toNat - 1 := by
  obtain ⟨h2, h3, h4⟩ := shr_eq h0 h
  unfold D.cubicleref10_Named
  rw [h2, wrap_id (x := w / 2 ^ sh.toNat) (by omega) (by omega), wrap_id (by omega) (by omega)]

end Go.Proofs.Ytphnnjiaiemkcaa
