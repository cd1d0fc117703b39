/- CheckForeign: what the walk found answers as the law says. -/
import Derived.Test.YtjkinpbfmihhdaaGreatCfHandv
import Derived.Test.YtjkinpbfmihhdaaGreatCfTools
import Derived.Test.YtjkinpbfmihhdaaGreatCfLawCFo
set_option linter.unusedVariables false
namespace Go.Proofs.YtjkinpbfmihhdaaGreat
open Go.RowKit
theorem awake13F : D.cubiclelaw13_awake 2000 = some true := by decide +kernel

theorem laidSmall : ∃ M, D.cubiclelaw09_Laid 2000 D.cubiclelaw13_Small = some M ∧ M.cnt = 3 := by
  have h : (D.cubiclelaw09_Laid 2000 D.cubiclelaw13_Small).map (·.cnt) = some 3 := by decide +kernel
  cases hM : D.cubiclelaw09_Laid 2000 D.cubiclelaw13_Small with
  | none => rw [hM] at h; cases h
  | some M => rw [hM] at h; exact ⟨M, rfl, by simpa using h⟩

theorem pure_CheckForeign (s : Seat) (w f : Int) (_ : -9223372036854775808 ≤ s.p.nodes ∧ s.p.nodes ≤ 9223372036854775807) (_ : -9223372036854775808 ≤ s.p.threads ∧ s.p.threads ≤ 9223372036854775807)
    (_ : -9223372036854775808 ≤ s.p.retire ∧ s.p.retire ≤ 9223372036854775807) (_ : -9223372036854775808 ≤ s.p.domains ∧ s.p.domains ≤ 9223372036854775807) (_ : -9223372036854775808 ≤ s.p.buckets ∧ s.p.buckets ≤ 9223372036854775807)
    (_ : -9223372036854775808 ≤ s.p.gen ∧ s.p.gen ≤ 9223372036854775807) (_ : -9223372036854775808 ≤ s.tenant ∧ s.tenant ≤ 9223372036854775807) (_ : -9223372036854775808 ≤ s.thread ∧ s.thread ≤ 9223372036854775807)
    (hw : 0 ≤ w ∧ w ≤ 18446744073709551615) (_ : -9223372036854775808 ≤ f ∧ f ≤ 9223372036854775807) : ∃ fu, Wk.D.cubiclelaw13_CheckForeign fu s w f = some true := by
  refine ⟨2000, ?_⟩
  unfold Wk.D.cubiclelaw13_CheckForeign
  rw [awake13F]
  simp only [Option.bind_some, Bool.not_true, cond_false]
  cases h1 : D.cubicleref06_Few s.p
  case false => rfl
  simp only [Bool.not_true, cond_false, Option.bind_some]
  obtain ⟨M, hM, hc⟩ := laidSmall
  rw [hM]
  simp only [Option.bind_some]
  have hmine := mine_eq (w := w) ⟨hw.1, by omega⟩ s.tenant s.p.nodes
  have hd3 : decide (f ≥ 3) = decide (f > 2) := by rw [decide_eq_decide]; omega
  refine loop_inv (fun o => o = some true) (fun (i : Nat) (x : Bool × Int) => x = (false, (i : Int) + 1)) 5 2000 rfl (by omega) ?_ ?_
  · rintro i x hi rfl
    refine ⟨(false, ((i + 1 : Nat) : Int) + 1), ?_, rfl⟩
    have hq : i = 0 ∨ i = 1 ∨ i = 2 ∨ i = 3 ∨ i = 4 := by omega
    simp only [D.cubiclelaw13_Made, D.check_New, D.check_Drop, D.check_Read, D.check_Write, D.check_Swap, D.check_look, hmine, hd3]
    generalize (D.cubicleref08_Mine w s.tenant s.p.nodes) = m
    obtain ⟨h, m⟩ := m
    generalize D.check_Seat_Formed s = F
    generalize decide (f < 0) = b1
    generalize decide (f > 2) = b2
    rcases hq with rfl | rfl | rfl | rfl | rfl <;> cases F <;> cases b1 <;> cases b2 <;> cases m <;> rfl
  · rintro x rfl
    refine ⟨(false, 6), rfl, ?_⟩
    have hcnt : D.mem_Memory_Count 2000 M = some 3 := by
      show some M.cnt = some 3
      rw [hc]
    simp only [hcnt, D.check_Seat_Formed, formed_eq]
    generalize D.plan_Plan_Formed s.p = F
    generalize decide (s.tenant ≥ 0) = b1
    generalize decide (s.tenant < 64) = b2
    generalize decide (s.thread ≥ 0) = b3
    generalize decide (s.thread < s.p.threads) = b4
    cases F <;> cases b1 <;> cases b2 <;> cases b3 <;> cases b4 <;> rfl

end Go.Proofs.YtjkinpbfmihhdaaGreat
