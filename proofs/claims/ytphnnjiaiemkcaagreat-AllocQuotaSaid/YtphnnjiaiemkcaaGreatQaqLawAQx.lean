/- AllocQuota: what the walk found answers as the law says. -/
import Derived.Test.YtphnnjiaiemkcaaGreatQaqAllocx
import Derived.Test.YtphnnjiaiemkcaaGreatQaqLawAQ
namespace Go.Proofs.YtphnnjiaiemkcaaGreat
open Go.RowKit
theorem pure_AllocQuota (p : Plan) (n : Int) (_ : -9223372036854775808 ≤ p.nodes ∧ p.nodes ≤ 9223372036854775807) (_ : -9223372036854775808 ≤ p.threads ∧ p.threads ≤ 9223372036854775807)
    (_ : -9223372036854775808 ≤ p.retire ∧ p.retire ≤ 9223372036854775807) (_ : -9223372036854775808 ≤ p.domains ∧ p.domains ≤ 9223372036854775807) (_ : -9223372036854775808 ≤ p.buckets ∧ p.buckets ≤ 9223372036854775807)
    (_ : -9223372036854775808 ≤ p.gen ∧ p.gen ≤ 9223372036854775807) (hn : 0 ≤ n ∧ n ≤ 255) : ∃ fu, Wk.D.cubiclelaw12_AllocQuota fu p n = some true := by
  refine ⟨3000, ?_⟩
  unfold Wk.D.cubiclelaw12_AllocQuota
  rw [show D.cubiclelaw12_awake 3000 = some true from by decide +kernel]
  simp only [Option.bind_some, Bool.not_true, cond_false]
  cases hf : D.cubiclelaw12_few p
  · rfl
  simp only [Bool.not_true, cond_false]
  obtain ⟨hp, hfw⟩ := few12_eq hf
  have hn1 := hp.n1
  have ht1 := hp.t1
  have ht2 := hp.t2
  have hg1 := hp.g1
  have hg2 := hp.g2
  have hN := nodes_le hp
  have hS := Size_eq hp
  have hr1 := hp.r1
  obtain ⟨m, hm, hm2⟩ : ∃ m : Nat, (IntKind.i64.wrap n).tmod p.nodes = (m : Int) ∧ (m : Int) < p.nodes := by
    rw [wrap_small (x := n) (by omega) (by omega), Int.tmod_eq_emod_of_nonneg hn.1]
    have h1 := Int.emod_nonneg n (show p.nodes ≠ 0 by omega)
    have h2 := Int.emod_lt_of_pos n (show 0 < p.nodes by omega)
    exact ⟨(n % p.nodes).toNat, by omega, by omega⟩
  obtain ⟨M, hM, hL⟩ := laid_eq hp hfw (fu := 3000) (by omega)
  simp only [hM, Option.bind_some, Cap_eq, hm]
  have hgu : guardI (decide (p.nodes ≠ 0)) = some () := by rw [show decide (p.nodes ≠ 0) = true from by simp; omega]; rfl
  simp only [hgu, Option.bind_some]
  have t0 : (0 : Int) ≤ 0 ∧ (0 : Int) < p.threads := ⟨by omega, by omega⟩
  obtain ⟨p1, p2, p3⟩ := rb_in hp t0
  obtain ⟨g1, g2, g3, g4⟩ := hz_in hp
  refine loop_inv (fun o => o = some true) (fun (i : Nat) (x : Bool × Int × Mem) => x.2.1 = (i : Int) ∧ GrantI p 0 i x.2.2.ws ∧ ∀ j, 0 ≤ j → j < p.threads * 3 → rd x.2.2.ws (D.plan_Plan_hazards p + j) = 0) p.nodes.toNat 3000 ⟨rfl, .start hp hL 0, fun j h0 h1 => laid_hz hp hL h0 h1⟩ (by omega) ?_ ?_
  · rintro i ⟨b, x, M1⟩ hi ⟨rfl, hG, hz⟩
    simp only at hG hz ⊢
    rw [show decide ((i : Int) < p.nodes) = true from by rw [decide_eq_true_eq]; omega, wrap_small (show -1000000 ≤ (i : Int) + 1 by omega) (by omega)]
    simp only [cond_true]
    obtain ⟨ws', hr, hG2, ho⟩ := hG.step hp (by omega) ⟨Int.le_refl 0, by omega⟩ (by omega) 3000
    obtain ⟨c, hc⟩ := runGr (M := M1) (fu := 3000) (most := 100) hr (by omega) (by omega) (by omega)
    rw [hc]
    simp only [Option.bind_some]
    rw [show ((⟨(i : Int), 0, 0⟩ : Grant) == ⟨(i : Int), 0, 0⟩) = true from by simp]
    exact ⟨_, rfl, by simp, hG2, fun j h0 h1 => by rw [← hz j h0 h1]; exact ho _ (by omega) (by omega)⟩
  rintro ⟨b, x, M1⟩ ⟨rfl, hG, hz⟩
  simp only at hG hz ⊢
  rw [show decide ((p.nodes.toNat : Int) < p.nodes) = false from by rw [decide_eq_false_iff_not]; omega]
  refine ⟨_, rfl, ?_⟩
  simp only
  have hF := hG.free
  rw [Nat.sub_self] at hF
  have hF : FreeAt p M1.ws [] (p.nodes.toNat : Int) := hF
  have hR := hG.ret
  -- none is there
  obtain ⟨m1, ws1, hm1, hs1, hk1⟩ := new_scan hp (k := 0) (by omega) t0 (held := fun _ => false) 3001 (by omega) hR hF List.nodup_nil (fun _ h => (by cases h)) (by omega)
  obtain ⟨g', hg', hF1⟩ := hs1.free
  have hF1 : FreeAt p ws1 [] g' := hF1
  have hg' : g' ≤ (p.nodes.toNat : Int) := by simpa [scanL] using hg'
  have hr1' := hk1 (again_none hp (k := 0) hF1 (by omega) 3000)
  simp only [List.length_nil] at hm1
  obtain ⟨c1, hc1⟩ := runGr (M := M1) (fu := 3000) (most := 100) hr1' (by omega) (by omega) (by omega)
  have hR1 : RetAt p ws1 0 [] := hs1.ret
  have ho1 : ∀ j, 0 < j → ¬ (rb p 0 ≤ j ∧ j < rb p 0 + 1 + p.retire) → rd ws1 j = rd M1.ws j := fun j h0 h1 => hs1.others j h0 (fun n hn => (by cases hn)) h1
  obtain ⟨q1, q2, q3⟩ := sp_in hp (n := (m : Int)) (by omega)
  have hsn : D.plan_Plan_nodes p ≤ sp p m := by unfold sp; omega
  have hst : StAt p ws1 m ⟨0, 1, 0⟩ := by
    have := hG.live m (by omega) (by omega)
    exact ⟨by rw [ho1 _ q1 (by omega)]; exact this.1, this.2⟩
  rw [hc1]
  simp only [Option.bind_some]
  -- one is retired
  obtain ⟨ws2, hr2, hl2, hR2, hst2, ho2⟩ := retire_room hp t0 (n := (m : Int)) ⟨by omega, hm2⟩ (by omega) hF1.len hR1 (by simp; omega) hst 3001
  obtain ⟨c2, hc2⟩ := runF (M := ⟨ws1, c1⟩) (fu := 3000) (most := 1000) hr2 (by omega) (by omega) (by omega)
  rw [hc2]
  simp only [Option.bind_some]
  have hF2 : FreeAt p ws2 [] g' := hF1.keep hl2 (ho2 0 (by omega) (by omega) (by omega) (by simp only [List.length_nil]; omega)) fun _ h => (by cases h)
  have hz2 : ∀ j, 0 ≤ j → j < p.threads * 3 → rd ws2 (D.plan_Plan_hazards p + j) = 0 := fun j h0 h1 => by
    rw [ho2 _ (by omega) (by omega) (by omega) (by simp only [List.length_nil]; omega), ho1 _ (by omega) (by omega)]
    exact hz j h0 h1
  have hR2 : RetAt p ws2 0 [(m : Int)] := hR2
  -- it is granted
  obtain ⟨m3, ws3, hm3, hs3, hk3⟩ := new_scan hp (k := 0) (by omega) t0 (held := fun _ => false) 3001 (by omega) hR2 hF2 (by simp) (fun n hn => ⟨fun h => (by cases h), fun ⟨j, h0, h1, h2⟩ => by rw [hz2 j h0 h1] at h2; rcases List.mem_singleton.1 hn with rfl; omega⟩) (by omega)
  have hsc : scanL (fun _ => false) [(m : Int)].length [(m : Int)] = ([], [(m : Int)]) := by simp [scanL]
  rw [hsc] at hs3
  have htof : tof p ws2 m = ⟨1, 0, 0⟩ := by
    show D.state_State_Freed (D.state_Of (rd ws2 (sp p m))).1 p.gen = _
    rw [hst2.of]
    unfold D.state_State_Freed D.state_State_Retire
    rw [show decide ((0 : Int) ≥ p.gen) = false from by rw [decide_eq_false_iff_not]; omega]
    rfl
  obtain ⟨g3', hg3, hF3⟩ := hs3.free
  have hF3 : FreeAt p ws3 [(m : Int)] g3' := by
    rw [pushAll_cons, htof, if_neg (by decide), pushAll_nil] at hF3
    exact hF3
  have hg3 : g3' ≤ g' + 1 := by simpa using hg3
  have hst3 : StAt p ws3 m ⟨1, 0, 0⟩ := by
    have := hs3.states m (List.mem_singleton.2 rfl)
    rw [htof] at this
    exact ⟨this, by decide, by decide, by decide, by decide, by decide, by decide⟩
  obtain ⟨ws4, hr4, hl4, hF4, hst4, ho4⟩ := again_some hp hF3 (by omega) (by omega) hst3 (k := 0) ⟨Int.le_refl 0, by omega⟩ 3000
  have hr4' := hk3 hr4
  simp only [List.length_singleton] at hm3
  obtain ⟨c4, hc4⟩ := runGr (M := ⟨ws2, c2⟩) (fu := 3000) (most := 1000) hr4' (by omega) (by omega) (by omega)
  rw [hc4]
  simp only [Option.bind_some]
  have hR4 : RetAt p ws4 0 [] := RetAt.keep (ws := ws3) hs3.ret fun j h0 h1 => ho4 j (by omega) (by omega)
  -- and none again
  obtain ⟨m5, ws5, hm5, hs5, hk5⟩ := new_scan hp (k := 0) (by omega) t0 (held := fun _ => false) 3001 (by omega) hR4 hF4 List.nodup_nil (fun _ h => (by cases h)) (by omega)
  obtain ⟨g5, hg5, hF5⟩ := hs5.free
  have hF5 : FreeAt p ws5 [] g5 := hF5
  have hg5 : g5 ≤ g3' + 1 := by simpa [scanL] using hg5
  have hr5 := hk5 (again_none hp (k := 0) hF5 (by omega) 3000)
  simp only [List.length_nil] at hm5
  obtain ⟨c5, hc5⟩ := runGr (M := ⟨ws4, c4⟩) (fu := 3000) (most := 1000) hr5 (by omega) (by omega) (by omega)
  rw [hc5]
  simp

end Go.Proofs.YtphnnjiaiemkcaaGreat
