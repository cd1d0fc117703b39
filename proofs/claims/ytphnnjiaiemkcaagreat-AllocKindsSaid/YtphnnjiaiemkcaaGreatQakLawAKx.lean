/- AllocKinds: what the walk found answers as the law says. -/
import Derived.Test.YtphnnjiaiemkcaaGreatQakAllocx
import Derived.Test.YtphnnjiaiemkcaaGreatQakLawAK
namespace Go.Proofs.YtphnnjiaiemkcaaGreat
open Go.RowKit
theorem pure_AllocKinds (p : Plan) (kind n : Int) (_ : -9223372036854775808 ≤ p.nodes ∧ p.nodes ≤ 9223372036854775807) (_ : -9223372036854775808 ≤ p.threads ∧ p.threads ≤ 9223372036854775807)
    (_ : -9223372036854775808 ≤ p.retire ∧ p.retire ≤ 9223372036854775807) (_ : -9223372036854775808 ≤ p.domains ∧ p.domains ≤ 9223372036854775807) (_ : -9223372036854775808 ≤ p.buckets ∧ p.buckets ≤ 9223372036854775807)
    (_ : -9223372036854775808 ≤ p.gen ∧ p.gen ≤ 9223372036854775807) (hkd : 0 ≤ kind ∧ kind ≤ 255) (hn : 0 ≤ n ∧ n ≤ 255) : ∃ fu, Wk.D.cubiclelaw12_AllocKinds fu p kind n = some true := by
  refine ⟨3000, ?_⟩
  unfold Wk.D.cubiclelaw12_AllocKinds
  rw [show D.cubiclelaw12_awake 3000 = some true from by decide +kernel]
  simp only [Option.bind_some, Bool.not_true, cond_false]
  cases hf : D.cubiclelaw12_few p
  · rfl
  simp only [Bool.not_true, cond_false]
  obtain ⟨hp, hfw⟩ := few12_eq hf
  have hn1 := hp.n1
  have ht1 := hp.t1
  have hN := nodes_le hp
  have hS := Size_eq hp
  have hr1 := hp.r1
  obtain ⟨k, hk, hk2⟩ : ∃ k : Int, IntKind.i64.wrap (kind.tmod 3) = k ∧ 0 ≤ k ∧ k ≤ 2 := by
    rw [Int.tmod_eq_emod_of_nonneg hkd.1, wrap_small (by omega) (by omega)]
    exact ⟨_, rfl, by omega, by omega⟩
  obtain ⟨m, hm, hm2⟩ : ∃ m : Nat, (IntKind.i64.wrap n).tmod p.nodes = (m : Int) ∧ (m : Int) < p.nodes := by
    rw [wrap_small (x := n) (by omega) (by omega), Int.tmod_eq_emod_of_nonneg hn.1]
    have h1 := Int.emod_nonneg n (show p.nodes ≠ 0 by omega)
    have h2 := Int.emod_lt_of_pos n (show 0 < p.nodes by omega)
    exact ⟨(n % p.nodes).toNat, by omega, by omega⟩
  obtain ⟨M, hM, hL⟩ := laid_eq hp hfw (fu := 3000) (by omega)
  simp only [hM, Option.bind_some, Cap_eq, hk, hm]
  have hgu : guardI (decide (p.nodes ≠ 0)) = some () := by rw [show decide (p.nodes ≠ 0) = true from by simp; omega]; rfl
  simp only [hgu, Option.bind_some]
  have t0 : (0 : Int) ≤ 0 ∧ (0 : Int) < p.threads := ⟨by omega, by omega⟩
  obtain ⟨p1, p2, p3⟩ := rb_in hp t0
  refine loop_inv (fun o => o = some true) (fun (i : Nat) (x : Bool × Int × Mem × Grant) => x.2.1 = (i : Int) ∧ GrantI p k i x.2.2.1.ws ∧ (0 < i → x.2.2.2 = ⟨(i : Int) - 1, 0, 0⟩)) (m + 1) 3000 ⟨rfl, .start hp hL k, fun h => by omega⟩ (by omega) ?_ ?_
  · rintro i ⟨b, x, M1, g⟩ hi ⟨rfl, hG, _⟩
    simp only at hG ⊢
    rw [show decide ((i : Int) ≤ (m : Int)) = true from by rw [decide_eq_true_eq]; omega, wrap_small (show -1000000 ≤ (i : Int) + 1 by omega) (by omega)]
    simp only [cond_true]
    obtain ⟨ws', hr, hG2, _⟩ := hG.step hp (by omega) hk2 (by omega) 3000
    obtain ⟨c, hc⟩ := runGr (M := M1) (fu := 3000) (most := 99) hr (by omega) (by omega) (by omega)
    obtain ⟨q1, q2, q3⟩ := sp_in hp (n := (i : Int)) (by omega)
    have hst := hG2.live i (by omega) (by omega)
    have hlen := hG2.free.len
    rw [hc]
    simp only [Option.bind_some]
    rw [show ((⟨(i : Int), 0, 0⟩ : Grant) == ⟨(i : Int), 0, 0⟩) = true from by simp, q3, Peek_eq (M := ⟨ws', c⟩) (by omega) (by simp only; omega)]
    simp only [Bool.not_true, cond_false, Option.bind_some]
    rw [hst.1, show (D.state_State_Word ⟨0, 1, k⟩ != D.state_State_Word ⟨0, 1, k⟩) = false from by simp]
    exact ⟨_, rfl, by simp, hG2, fun _ => by simp⟩
  rintro ⟨b, x, M1, g⟩ ⟨rfl, hG, hg⟩
  simp only at hG hg ⊢
  have hg := hg (by omega)
  subst hg
  rw [show decide (((m + 1 : Nat) : Int) ≤ (m : Int)) = false from by rw [decide_eq_false_iff_not]; omega]
  refine ⟨_, rfl, ?_⟩
  simp only
  rw [show ((m + 1 : Nat) : Int) - 1 = (m : Int) from by omega]
  obtain ⟨q1, q2, q3⟩ := sp_in hp (n := (m : Int)) (by omega)
  have hst := hG.live m (by omega) (by omega)
  have hlen := hG.free.len
  rw [Int.tmod_eq_emod_of_nonneg hn.1]
  have hget : getI [(m : Int)] 0 = some (m : Int) := rfl
  cases he : (n % 2 == 0)
  · obtain ⟨ws', hr, hl, hR, ho⟩ := stash_room hp t0 (n := (m : Int)) ⟨by omega, hm2⟩ (by omega) hlen hG.ret (by simp; omega) 3001
    obtain ⟨c, hc⟩ := runF (M := M1) (fu := 3000) (most := 99) hr (by omega) (by omega) (by omega)
    simp only [cond_false, hc, Option.bind_some]
    rw [rlist_eq hp (M := ⟨ws', c⟩) t0 (by simp only; omega) hR (by omega) (by omega), q3, Peek_eq (M := ⟨ws', c⟩) (by omega) (by simp only; omega)]
    simp only [Option.bind_some]
    rw [ho _ (by omega) (by unfold sp; omega) (by unfold sp; simp only [List.length_nil]; omega), hst.1]
    simp [getI]
  · obtain ⟨ws', hr, hl, hR, hs2, ho⟩ := retire_room hp t0 (n := (m : Int)) ⟨by omega, hm2⟩ (by omega) hlen hG.ret (by simp; omega) hst 3001
    obtain ⟨c, hc⟩ := runF (M := M1) (fu := 3000) (most := 99) hr (by omega) (by omega) (by omega)
    simp only [cond_true, hc, Option.bind_some]
    rw [rlist_eq hp (M := ⟨ws', c⟩) t0 (by simp only; omega) hR (by omega) (by omega), q3, Peek_eq (M := ⟨ws', c⟩) (by omega) (by simp only; omega)]
    simp only [Option.bind_some]
    rw [hs2.1]
    simp [getI, D.state_State_Retire]

end Go.Proofs.YtphnnjiaiemkcaaGreat
