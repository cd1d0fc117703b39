/- RetireMore: what the walk found answers as the law says. -/
import Derived.Test.YtphnnjiaiemkcaaGreatQrmScany
import Derived.Test.YtphnnjiaiemkcaaGreatQrmLawRM
namespace Go.Proofs.YtphnnjiaiemkcaaGreat
open Go.RowKit
/-- More nodes than hazards: one isn't held. -/
theorem one_free {p : Plan} {ws r : List Int} (hn : r.Nodup) (hl : p.threads * 3 < (r.length : Int)) (ht : 0 ≤ p.threads) : ¬ ∀ n, n ∈ r → heldW p ws n := fun h => by
  have hm : (r.map fun n => n + 1).Nodup := List.Pairwise.map _ (fun a b h => by omega) hn
  have := nodup_le (r.map fun n => n + 1) ((List.range' 0 (p.threads * 3).toNat).map fun (q : Nat) => rd ws (D.plan_Plan_hazards p + (q : Int))) hm fun x hx => by
    obtain ⟨n, hn, rfl⟩ := List.mem_map.1 hx
    obtain ⟨j, h0, h1, h2⟩ := h n hn
    exact List.mem_map.2 ⟨j.toNat, List.mem_range'_1.2 ⟨by omega, by omega⟩, by rw [← h2]; congr 2; omega⟩
  simp at this
  omega

open Classical in
theorem pure_RetireMore (p : Plan) (l : List Int) (_ : -9223372036854775808 ≤ p.nodes ∧ p.nodes ≤ 9223372036854775807) (_ : -9223372036854775808 ≤ p.threads ∧ p.threads ≤ 9223372036854775807)
    (_ : -9223372036854775808 ≤ p.retire ∧ p.retire ≤ 9223372036854775807) (_ : -9223372036854775808 ≤ p.domains ∧ p.domains ≤ 9223372036854775807) (_ : -9223372036854775808 ≤ p.buckets ∧ p.buckets ≤ 9223372036854775807)
    (_ : -9223372036854775808 ≤ p.gen ∧ p.gen ≤ 9223372036854775807) (_ : ∀ n, n ∈ l → -9223372036854775808 ≤ n ∧ n ≤ 9223372036854775807) : ∃ fu, Wk.D.cubiclelaw11_RetireMore fu p l = some true := by
  refine ⟨5000, ?_⟩
  unfold Wk.D.cubiclelaw11_RetireMore
  rw [awake11b]
  simp only [Option.bind_some, Bool.not_true, cond_false]
  cases hf : D.cubiclelaw11_few p
  · rfl
  cases hl : decide ((l.length : Int) > 60)
  case true => rfl
  obtain ⟨hp, hfw⟩ := few_eq hf
  have hn1 := hp.n1
  have ht1 := hp.t1
  have ht2 := hp.t2
  rw [wrap_small (x := 3 * p.threads) (by omega) (by omega)]
  cases hnt : decide (p.nodes ≤ 3 * p.threads)
  case true => rfl
  simp only [Bool.not_true, cond_false, Option.bind_some]
  have hl : (l.length : Int) ≤ 60 := by simpa using hl
  have hnt : 3 * p.threads < p.nodes := by simp only [decide_eq_false_iff_not] at hnt; omega
  have hr1 := hp.r1
  have hr2 := hp.r2
  have hN := nodes_le hp
  have hS := Size_eq hp
  obtain ⟨g1, g2, g3, g4⟩ := hz_in hp
  have t0 : (0 : Int) ≤ 0 ∧ (0 : Int) < p.threads := ⟨by omega, by omega⟩
  obtain ⟨p1, p2, p3⟩ := rb_in hp t0
  obtain ⟨M, hM, hP⟩ := popped_eq hp hfw ⟨0, 2, 0⟩ (fu := 5000) (by omega)
  have hF := hP.free
  rw [Nat.sub_self] at hF
  have hF : FreeAt p M.ws [] p.nodes := by rw [show p.nodes = ((p.nodes.toNat : Nat) : Int) from by omega]; exact hF
  simp only [hM, Option.bind_some, Cap_eq]
  obtain ⟨k0, hk0⟩ : ∃ k0 : Nat, (k0 : Int) = 3 * p.threads := ⟨(3 * p.threads).toNat, by omega⟩
  refine loop_inv (fun o => o = some true) (fun (i : Nat) (x : Int × Mem) => x.1 = (i : Int) ∧ Len p x.2.ws ∧ RetAt p x.2.ws 0 ((List.range' 0 i).map fun (q : Nat) => (q : Int)) ∧ FreeAt p x.2.ws [] p.nodes) (k0 + 1) 5000
    ⟨rfl, hF.len, hP.ret hp t0, hF⟩ (by omega) ?_ ?_
  · rintro i ⟨x, M1⟩ hi ⟨rfl, hL, hR, hF1⟩
    simp only at hL hR hF1 ⊢
    rw [show decide ((i : Int) ≤ 3 * p.threads) = true from by rw [decide_eq_true_eq]; omega, wrap_small (show -1000000 ≤ (i : Int) + 1 by omega) (by omega)]
    simp only [cond_true]
    have hlen : ((List.range' 0 i).map fun (q : Nat) => (q : Int)).length = i := by simp
    obtain ⟨ws', hr, hl', hR2, ho⟩ := put_runs hp (n := (i : Int)) t0 (by omega) (by omega) hL hR (by omega)
    obtain ⟨c, hc⟩ := runF (M := M1) (fu := 5000) (most := 9) hr (by omega) (by omega) (by omega)
    rw [hc]
    refine ⟨_, rfl, by simp, by unfold Len; rw [hl']; exact hL, ?_, hF1.keep hl' (ho 0 (by omega) (by omega) (by omega)) fun _ h => (by cases h)⟩
    rw [List.range'_concat, List.map_append]
    simpa using hR2
  rintro ⟨x, M1⟩ ⟨rfl, hL, hR, hF1⟩
  simp only at hL hR hF1 ⊢
  rw [show decide (((k0 + 1 : Nat) : Int) ≤ 3 * p.threads) = false from by rw [decide_eq_false_iff_not]; omega]
  refine ⟨_, rfl, ?_⟩
  simp only
  obtain ⟨r, hr⟩ : ∃ r, r = (List.range' 0 (k0 + 1)).map fun (q : Nat) => (q : Int) := ⟨_, rfl⟩
  rw [← hr] at hR
  have hrl : r.length = k0 + 1 := by rw [hr]; simp
  have hrn : r.Nodup := by rw [hr]; exact List.Pairwise.map _ (fun a b h => by omega) (List.nodup_range' (s := 0) (n := k0 + 1))
  refine loop_inv (fun o => o = some true) (fun (i : Nat) (x : Int × Mem) => x.1 = (i : Int) ∧ HzOnly p M1.ws x.2.ws) (min l.length k0) 5000 ⟨rfl, .refl⟩ (by omega) ?_ ?_
  · rintro i ⟨x, M2⟩ hi ⟨rfl, hH⟩
    simp only at hH ⊢
    have hil : i < l.length := by omega
    rw [show decide ((i : Int) < (l.length : Int)) = true from by rw [decide_eq_true_eq]; omega, show decide ((i : Int) < 3 * p.threads) = true from by rw [decide_eq_true_eq]; omega, getI_nat hil, wrap_small (show -1000000 ≤ (i : Int) + 1 by omega) (by omega)]
    simp only [cond_true, Option.bind_some]
    cases h1 : decide (l[i] ≥ 0)
    · exact ⟨_, rfl, by simp, hH⟩
    cases h2 : decide (l[i] < p.nodes)
    · exact ⟨_, rfl, by simp, hH⟩
    simp only [decide_eq_true_eq] at h1 h2
    simp only [cond_true, Option.bind_some]
    have hL2 : Len p M2.ws := by have := hH.len; unfold Len at hL ⊢; omega
    obtain ⟨c, hc⟩ := runUF (M := M2) (fu := 5000) (most := 9) (hset_at hp hL2 (i := (i : Int)) (n := l[i]) (by omega) (by omega) (by omega)) (by omega) (by omega) (by omega)
    rw [hc]
    exact ⟨_, rfl, by simp, hH.set hp hL (by omega) (by omega)⟩
  rintro ⟨x, M2⟩ ⟨rfl, hH⟩
  simp only at hH ⊢
  refine ⟨(((min l.length k0 : Nat) : Int), M2), ?_, ?_⟩
  · by_cases e : l.length ≤ k0
    · rw [show decide (((min l.length k0 : Nat) : Int) < (l.length : Int)) = false from by rw [decide_eq_false_iff_not]; omega]; rfl
    · rw [show decide (((min l.length k0 : Nat) : Int) < (l.length : Int)) = true from by rw [decide_eq_true_eq]; omega, show decide (((min l.length k0 : Nat) : Int) < 3 * p.threads) = false from by rw [decide_eq_false_iff_not]; omega]; rfl
  simp only
  have hR2 := hH.ret hp t0 hR
  have hF2 := hH.free hp hF1
  have hL2 : Len p M2.ws := by have := hH.len; unfold Len at hL ⊢; omega
  obtain ⟨held, hheld⟩ : ∃ held : Int → Bool, ∀ n, held n = true ↔ heldW p M2.ws n := ⟨fun n => decide (heldW p M2.ws n), fun n => by simp⟩
  obtain ⟨m, ws', hm, hrun, hs⟩ := scan_runs hp (by omega) t0 5001 (by omega) hL2 hR2 hF2 (fun _ _ h => (by cases h)) hrn (fun n _ => hheld n) (by omega)
  obtain ⟨c, hc⟩ := runF (M := M2) (fu := 5000) (most := 100000) hrun (by omega) (by omega) (by omega)
  have hcount := scanL_count (held := held) r
  have hwl := hs.len
  unfold Len at hL2
  have hpos : 0 < (scanL held r.length r).2.length := by
    refine Nat.pos_of_ne_zero fun h0 => ?_
    refine one_free (p := p) (ws := M2.ws) hrn (by omega) (by omega) fun n hn => (hheld n).1 (scanL_held (r := r) ?_)
    have hpm := scanL_perm (held := held) r.length r (Nat.le_refl _)
    rw [List.eq_nil_of_length_eq_zero h0, List.nil_append] at hpm
    exact hpm.symm.subset hn
  rw [hc]
  simp only [Option.bind_some]
  rw [show decide (((scanL held r.length r).2.length : Int) ≥ 1) = true from by rw [decide_eq_true_eq]; omega, rlist_eq hp (M := ⟨ws', c⟩) t0 (by simp only; omega) hs.ret (by omega) (by omega)]
  simp only [cond_true, Option.bind_some]
  rw [wrap_small (x := 3 * p.threads + 1) (by omega) (by omega), wrap_small (by omega) (by omega)]
  show some _ = some true
  congr 1
  simp
  omega

end Go.Proofs.YtphnnjiaiemkcaaGreat
