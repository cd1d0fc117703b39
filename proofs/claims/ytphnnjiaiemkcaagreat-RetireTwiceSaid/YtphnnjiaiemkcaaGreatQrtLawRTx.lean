/- RetireTwice: what the walk found answers as the law says. -/
import Derived.Test.YtphnnjiaiemkcaaGreatQrtScany
import Derived.Test.YtphnnjiaiemkcaaGreatQrtLawRT
namespace Go.Proofs.YtphnnjiaiemkcaaGreat
open Go.RowKit
open Classical in
theorem pure_RetireTwice (p : Plan) (l hs : List Int) (_ : -9223372036854775808 ≤ p.nodes ∧ p.nodes ≤ 9223372036854775807) (_ : -9223372036854775808 ≤ p.threads ∧ p.threads ≤ 9223372036854775807)
    (_ : -9223372036854775808 ≤ p.retire ∧ p.retire ≤ 9223372036854775807) (_ : -9223372036854775808 ≤ p.domains ∧ p.domains ≤ 9223372036854775807) (_ : -9223372036854775808 ≤ p.buckets ∧ p.buckets ≤ 9223372036854775807)
    (_ : -9223372036854775808 ≤ p.gen ∧ p.gen ≤ 9223372036854775807) (_ : ∀ n, n ∈ l → -9223372036854775808 ≤ n ∧ n ≤ 9223372036854775807) (_ : ∀ n, n ∈ hs → -9223372036854775808 ≤ n ∧ n ≤ 9223372036854775807) : ∃ fu, Wk.D.cubiclelaw11_RetireTwice fu p l hs = some true := by
  refine ⟨5000, ?_⟩
  unfold Wk.D.cubiclelaw11_RetireTwice
  rw [awake11b]
  simp only [Option.bind_some, Bool.not_true, cond_false]
  cases hf : D.cubiclelaw11_few p
  · rfl
  cases hl : decide ((l.length : Int) > 40)
  case true => rfl
  cases hl2 : decide ((hs.length : Int) > 40)
  case true => rfl
  obtain ⟨hp, hfw⟩ := few_eq hf
  have hn1 := hp.n1
  have ht1 := hp.t1
  have ht2 := hp.t2
  rw [wrap_small (x := 3 * p.threads) (by omega) (by omega)]
  simp only [Bool.not_true, cond_false, Option.bind_some]
  have hl : (l.length : Int) ≤ 40 := by simpa using hl
  have hl2 : (hs.length : Int) ≤ 40 := by simpa using hl2
  have hr1 := hp.r1
  have hr2 := hp.r2
  have hN := nodes_le hp
  have hS := Size_eq hp
  obtain ⟨g1, g2, g3, g4⟩ := hz_in hp
  have t0 : (0 : Int) ≤ 0 ∧ (0 : Int) < p.threads := ⟨by omega, by omega⟩
  obtain ⟨p1, p2, p3⟩ := rb_in hp t0
  obtain ⟨M, hM, hP⟩ := popped_eq hp hfw ⟨0, 2, 0⟩ (fu := 5000) (by omega)
  have hF := hP.free
  rw [Nat.sub_self] at hF
  have hF : FreeAt p M.ws [] p.nodes := by rw [show p.nodes = ((p.nodes.toNat : Nat) : Int) from by omega]; exact hF
  simp only [hM, Option.bind_some, Cap_eq]
  refine loop_inv (fun o => o = some true) (fun (i : Nat) (x : List Int × Int × Mem) => x.2.1 = (i : Int) ∧ x.1.length ≤ i ∧ Len p x.2.2.ws ∧ FreeAt p x.2.2.ws [] p.nodes ∧ ∃ r : List Int, RetAt p x.2.2.ws 0 r ∧ r.Nodup ∧ (∀ n, n ∈ r → n ∈ x.1)) l.length 5000
    ⟨rfl, Nat.le_refl _, hF.len, hF, [], hP.ret hp t0, List.nodup_nil, fun _ h => (by cases h)⟩ (by omega) ?_ ?_
  · rintro i ⟨had, x, M1⟩ hi ⟨rfl, hhl, hL, hF1, r, hR, hrn, hrs⟩
    simp only at hhl hL hF1 hR hrs ⊢
    rw [show decide ((i : Int) < (l.length : Int)) = true from by rw [decide_eq_true_eq]; omega, getI_nat hi, wrap_small (show -1000000 ≤ (i : Int) + 1 by omega) (by omega)]
    simp only [cond_true, Option.bind_some]
    cases h1 : decide (l[i] ≥ 0)
    · exact ⟨_, rfl, by simp, by simp only; omega, hL, hF1, r, hR, hrn, hrs⟩
    cases h2 : decide (l[i] < p.nodes)
    · exact ⟨_, rfl, by simp, by simp only; omega, hL, hF1, r, hR, hrn, hrs⟩
    simp only [decide_eq_true_eq] at h1 h2
    simp only [cond_true, Option.bind_some]
    rw [has_eq (by omega) (by omega)]
    simp only [Option.bind_some]
    by_cases ha : l[i] ∈ had
    · rw [show decide (l[i] ∈ had) = true from by simpa using ha]
      exact ⟨_, rfl, by simp, by simp only; omega, hL, hF1, r, hR, hrn, hrs⟩
    rw [show decide (l[i] ∈ had) = false from by simpa using ha]
    have hap : appD had [l[i]] = some (had ++ [l[i]]) := by unfold appD; rw [if_pos (by simp only [Modest2, List.length_singleton]; omega)]
    simp only [Bool.not_false, cond_true, Option.bind_some, hap]
    have hn : 0 ≤ l[i] ∧ l[i] < p.nodes := ⟨h1, h2⟩
    have hroom := hR.room
    by_cases hfull : (r.length : Int) = p.retire
    · obtain ⟨c, hc⟩ := runF (M := M1) (fu := 5000) (most := 9) (put_full hp (n := l[i]) t0 hL hR hfull) (by omega) (by omega) (by omega)
      rw [hc]
      exact ⟨_, rfl, by simp, by simp; omega, hL, hF1, r, hR, hrn, fun n hn => List.mem_append_left _ (hrs n hn)⟩
    · obtain ⟨ws', hr, hl', hR2, ho⟩ := put_runs hp (n := l[i]) t0 hn (by omega) hL hR (by omega)
      obtain ⟨c, hc⟩ := runF (M := M1) (fu := 5000) (most := 9) hr (by omega) (by omega) (by omega)
      rw [hc]
      refine ⟨_, rfl, by simp, by simp; omega, by unfold Len; rw [hl']; exact hL, hF1.keep hl' (ho 0 (by omega) (by omega) (by omega)) fun _ h => (by cases h), r ++ [l[i]], hR2, ?_, fun n hn => ?_⟩
      · exact List.nodup_append.2 ⟨hrn, by simp, fun q hq z hz => by rcases List.mem_singleton.1 hz with rfl; exact fun e => ha (e ▸ hrs q hq)⟩
      · rcases List.mem_append.1 hn with hn | hn
        · exact List.mem_append_left _ (hrs n hn)
        · exact List.mem_append_right _ hn
  rintro ⟨had, x, M1⟩ ⟨rfl, hhl, hL, hF1, r, hR, hrn, hrs⟩
  simp only at hhl hL hF1 hR hrs ⊢
  rw [show decide ((l.length : Int) < (l.length : Int)) = false from by simp]
  refine ⟨_, rfl, ?_⟩
  simp only
  have hrl : r.length ≤ 40 := by have := nodup_le r had hrn hrs; omega
  have hrN : (r.length : Int) ≤ p.nodes := by have := range_le (k := p.nodes.toNat) hrn fun n hn => by have := hR.range n hn; omega
                                              omega
  obtain ⟨k0, hk0⟩ : ∃ k0 : Nat, (k0 : Int) = 3 * p.threads := ⟨(3 * p.threads).toNat, by omega⟩
  refine loop_inv (fun o => o = some true) (fun (i : Nat) (x : Int × Mem) => x.1 = (i : Int) ∧ HzOnly p M1.ws x.2.ws) (min hs.length k0) 5000 ⟨rfl, .refl⟩ (by omega) ?_ ?_
  · rintro i ⟨x, M2⟩ hi ⟨rfl, hH⟩
    simp only at hH ⊢
    have hil : i < hs.length := by omega
    rw [show decide ((i : Int) < (hs.length : Int)) = true from by rw [decide_eq_true_eq]; omega, show decide ((i : Int) < 3 * p.threads) = true from by rw [decide_eq_true_eq]; omega, getI_nat hil, wrap_small (show -1000000 ≤ (i : Int) + 1 by omega) (by omega)]
    simp only [cond_true, Option.bind_some]
    cases h1 : decide (hs[i] ≥ 0)
    · exact ⟨_, rfl, by simp, hH⟩
    cases h2 : decide (hs[i] < p.nodes)
    · exact ⟨_, rfl, by simp, hH⟩
    simp only [decide_eq_true_eq] at h1 h2
    simp only [cond_true, Option.bind_some]
    have hL2 : Len p M2.ws := by have := hH.len; unfold Len at hL ⊢; omega
    obtain ⟨c, hc⟩ := runUF (M := M2) (fu := 5000) (most := 9) (hset_at hp hL2 (i := (i : Int)) (n := hs[i]) (by omega) (by omega) (by omega)) (by omega) (by omega) (by omega)
    rw [hc]
    exact ⟨_, rfl, by simp, hH.set hp hL (by omega) (by omega)⟩
  rintro ⟨x, M2⟩ ⟨rfl, hH⟩
  simp only at hH ⊢
  refine ⟨(((min hs.length k0 : Nat) : Int), M2), ?_, ?_⟩
  · by_cases e : hs.length ≤ k0
    · rw [show decide (((min hs.length k0 : Nat) : Int) < (hs.length : Int)) = false from by rw [decide_eq_false_iff_not]; omega]; rfl
    · rw [show decide (((min hs.length k0 : Nat) : Int) < (hs.length : Int)) = true from by rw [decide_eq_true_eq]; omega, show decide (((min hs.length k0 : Nat) : Int) < 3 * p.threads) = false from by rw [decide_eq_false_iff_not]; omega]; rfl
  simp only
  have hR2 := hH.ret hp t0 hR
  have hF2 := hH.free hp hF1
  have hL2 : Len p M2.ws := by have := hH.len; unfold Len at hL ⊢; omega
  obtain ⟨held, hheld⟩ : ∃ held : Int → Bool, ∀ n, held n = true ↔ heldW p M2.ws n := ⟨fun n => decide (heldW p M2.ws n), fun n => by simp⟩
  obtain ⟨m, ws', hm, hrun, hs1⟩ := scan_runs hp (by omega) t0 5001 (by omega) hL2 hR2 hF2 (fun _ _ h => (by cases h)) hrn (fun n _ => hheld n) (by omega)
  obtain ⟨c, hc⟩ := runF (M := M2) (fu := 5000) (most := 100000) hrun (by omega) (by omega) (by omega)
  have hcount := scanL_count (held := held) r
  have hperm := scanL_perm (held := held) r.length r (Nat.le_refl _)
  have hleft : ∀ n, n ∈ (scanL held r.length r).1 → held n = true := fun n hn => scanL_held hn
  obtain ⟨r', hr'⟩ : ∃ r', r' = (scanL held r.length r).1 := ⟨_, rfl⟩
  obtain ⟨out, hout⟩ : ∃ out, out = (scanL held r.length r).2 := ⟨_, rfl⟩
  rw [← hr', ← hout] at hs1 hcount hperm
  rw [← hr'] at hleft
  rw [← hout] at hc
  have hnd : (out ++ r').Nodup := hperm.nodup_iff.2 hrn
  have hwl := hs1.len
  obtain ⟨g', hg', hF3⟩ := hs1.free
  obtain ⟨L, hLe⟩ : ∃ L, L = pushAll p M2.ws out [] := ⟨_, rfl⟩
  rw [← hLe] at hF3
  have hL3 : Len p ws' := by unfold Len at hL2 ⊢; omega
  have hR3 := hs1.ret
  have hh3 : ∀ n, n ∈ r' → (held n = true ↔ heldW p ws' n) := fun n _ => by
    rw [hheld n]
    unfold heldW
    have hz : ∀ j, 0 ≤ j → j < p.threads * 3 → rd ws' (D.plan_Plan_hazards p + j) = rd M2.ws (D.plan_Plan_hazards p + j) := fun j h0 h1 => hs1.hz hp t0 (fun n hn => (hR.range n (hperm.subset (List.mem_append_left _ hn))).1) h0 h1
    constructor
    · rintro ⟨j, h0, h1, h2⟩; exact ⟨j, h0, h1, by rw [hz j h0 h1]; exact h2⟩
    · rintro ⟨j, h0, h1, h2⟩; exact ⟨j, h0, h1, by rw [← hz j h0 h1]; exact h2⟩
  have hsep : ∀ n, n ∈ r' → n ∉ L := fun n hn hnL => by
    rw [hLe] at hnL
    rcases pushAll_sub hnL with h | h
    · exact (List.nodup_append.1 hnd).2.2 n h n hn rfl
    · cases h
  obtain ⟨m2, ws2, hm2, hrun2, hs2⟩ := scan_runs hp (by omega) t0 5001 (by omega) hL3 hR3 hF3 hsep (List.nodup_append.1 hnd).2.1 hh3 (by omega)
  rw [scanL_all r'.length r' (Nat.le_refl _) hleft] at hrun2 hs2
  obtain ⟨c2, hc2⟩ := runF (M := ⟨ws', c⟩) (fu := 5000) (most := 100000) hrun2 (by omega) (by omega) (by omega)
  obtain ⟨g2', hg2', hF4⟩ := hs2.free
  rw [pushAll_nil] at hF4
  have hwl2 := hs2.len
  have hLc := hF3.count (by omega)
  have h9 : g2' ≤ g' := by simpa using hg2'
  unfold Len at hL2 hL3
  rw [rlist_eq hp (M := M2) t0 (by omega) hR2 (by omega) (by omega)]
  simp only [Option.bind_some, hc]
  rw [rlist_eq hp (M := ⟨ws', c⟩) t0 (by simp only; omega) hR3 (by omega) (by omega), list_eq hp (M := ⟨ws', c⟩) hF3 (by omega) (by omega) (by omega) (by omega)]
  simp only [Option.bind_some, hc2, List.length_nil]
  rw [wrap_small (x := (out.length : Int) + (r'.length : Int)) (by omega) (by omega), show ((out.length : Int) + (r'.length : Int) == (r.length : Int)) = true from by rw [beq_iff_eq]; omega, show (((0 : Nat) : Int) == 0) = true from rfl]
  simp only [cond_true]
  rw [rlist_eq hp (M := ⟨ws2, c2⟩) t0 (by simp only; omega) hs2.ret (by omega) (by omega)]
  simp only [Option.bind_some]
  rw [same_refl (by omega) (by omega)]
  simp only [cond_true, Option.bind_some]
  rw [list_eq hp (M := ⟨ws2, c2⟩) hF4 (by omega) (by omega) (by omega) (by omega)]
  simp only [Option.bind_some]
  rw [same_refl (by omega) (by omega)]
  rfl

end Go.Proofs.YtphnnjiaiemkcaaGreat
