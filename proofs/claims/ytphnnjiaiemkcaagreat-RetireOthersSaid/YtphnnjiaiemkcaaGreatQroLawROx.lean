/- RetireOthers: what the walk found answers as the law says. -/
import Derived.Test.YtphnnjiaiemkcaaGreatQroScany
import Derived.Test.YtphnnjiaiemkcaaGreatQroLawRO
namespace Go.Proofs.YtphnnjiaiemkcaaGreat
open Go.RowKit
/-- What two threads retired. -/
structure TwoAt (p : Plan) (ws a b : List Int) : Prop where
  len : Len p ws
  fst : RetAt p ws 0 a
  snd : RetAt p ws 1 b
  free : FreeAt p ws [] p.nodes
  hz : ∀ j, 0 ≤ j → j < p.threads * 3 → rd ws (D.plan_Plan_hazards p + j) = 0
  nodup : a.Nodup

theorem two_keep {p : Plan} (hp : PF p) {ws ws' : List Int} {t : Int} {k : Nat} (ht : 0 ≤ t ∧ t < p.threads) (hk : (k : Int) < p.retire) (ho : ∀ j, 0 ≤ j → j ≠ rb p t → j ≠ rb p t + 1 + k → rd ws' j = rd ws j) :
    (∀ j, 0 ≤ j → (j < rb p t ∨ rb p t + 1 + p.retire ≤ j) → rd ws' j = rd ws j) := fun j h0 h1 => by
  obtain ⟨q1, q2, q3⟩ := rb_in hp ht
  exact ho j h0 (by omega) (by omega)

theorem pure_RetireOthers (p : Plan) (l : List Int) (_ : -9223372036854775808 ≤ p.nodes ∧ p.nodes ≤ 9223372036854775807) (_ : -9223372036854775808 ≤ p.threads ∧ p.threads ≤ 9223372036854775807)
    (_ : -9223372036854775808 ≤ p.retire ∧ p.retire ≤ 9223372036854775807) (_ : -9223372036854775808 ≤ p.domains ∧ p.domains ≤ 9223372036854775807) (_ : -9223372036854775808 ≤ p.buckets ∧ p.buckets ≤ 9223372036854775807)
    (_ : -9223372036854775808 ≤ p.gen ∧ p.gen ≤ 9223372036854775807) (_ : ∀ n, n ∈ l → -9223372036854775808 ≤ n ∧ n ≤ 9223372036854775807) : ∃ fu, Wk.D.cubiclelaw11_RetireOthers fu p l = some true := by
  refine ⟨5000, ?_⟩
  unfold Wk.D.cubiclelaw11_RetireOthers
  rw [awake11b]
  simp only [Option.bind_some, Bool.not_true, cond_false]
  cases hf : D.cubiclelaw11_few p
  · rfl
  cases hl : decide ((l.length : Int) > 40)
  case true => rfl
  cases ht2 : decide (p.threads < 2)
  case true => rfl
  simp only [Bool.not_true, cond_false, Option.bind_some]
  obtain ⟨hp, hfw⟩ := few_eq hf
  have hl : (l.length : Int) ≤ 40 := by simpa using hl
  have ht2 : 2 ≤ p.threads := by simp only [decide_eq_false_iff_not] at ht2; omega
  have hn1 := hp.n1
  have hr1 := hp.r1
  have hr2 := hp.r2
  have hN := nodes_le hp
  have hS := Size_eq hp
  obtain ⟨g1, g2, g3, g4⟩ := hz_in hp
  have t0 : (0 : Int) ≤ 0 ∧ (0 : Int) < p.threads := ⟨by omega, by omega⟩
  have t1 : (0 : Int) ≤ 1 ∧ (1 : Int) < p.threads := ⟨by omega, by omega⟩
  obtain ⟨p1, p2, p3⟩ := rb_in hp t0
  obtain ⟨q1, q2, q3⟩ := rb_in hp t1
  have hap := rb_apart hp t0 t1 (by omega)
  obtain ⟨M, hM, hP⟩ := popped_eq hp hfw ⟨0, 2, 0⟩ (fu := 5000) (by omega)
  have hF := hP.free
  rw [Nat.sub_self] at hF
  have hF : FreeAt p M.ws [] p.nodes := by rw [show p.nodes = ((p.nodes.toNat : Nat) : Int) from by omega]; exact hF
  simp only [hM, Option.bind_some, Cap_eq]
  refine loop_inv (fun o => o = some true) (fun (i : Nat) (x : List Int × List Int × Int × Mem) => x.2.2.1 = (i : Int) ∧ TwoAt p x.2.2.2.ws x.1 x.2.1 ∧ x.1.length + x.2.1.length ≤ i) l.length 5000
    ⟨rfl, ⟨hF.len, hP.ret hp t0, hP.ret hp t1, hF, fun j h0 h1 => hP.zero _ (by omega) (by omega), List.nodup_nil⟩, by simp⟩ (by omega) ?_ ?_
  · rintro i ⟨a, b, x, M1⟩ hi ⟨rfl, hT, hab⟩
    simp only at hT hab ⊢
    rw [show decide ((i : Int) < (l.length : Int)) = true from by simp; omega, getI_nat hi, wrap_small (show -1000000 ≤ (i : Int) + 1 by omega) (by omega)]
    simp only [cond_true, Option.bind_some]
    have skip : ∃ x', some (Lp.next (Z := Bool) (a, b, ((i : Int) + 1), M1)) = some (Lp.next x') ∧ (x'.2.2.1 = ((i + 1 : Nat) : Int) ∧ TwoAt p x'.2.2.2.ws x'.1 x'.2.1 ∧ x'.1.length + x'.2.1.length ≤ i + 1) := ⟨_, rfl, by simp, hT, by simp only; omega⟩
    cases h1 : decide (l[i] < 0)
    case true => exact skip
    cases h2 : decide (l[i] ≥ p.nodes)
    case true => exact skip
    simp only [decide_eq_false_iff_not] at h1 h2
    have hn : 0 ≤ l[i] ∧ l[i] < p.nodes := by omega
    simp only [cond_false]
    rw [has_eq (by omega) (by omega)]
    simp only [Option.bind_some]
    by_cases ha : l[i] ∈ a
    · rw [show decide (l[i] ∈ a) = true from by simpa using ha]; exact skip
    rw [show decide (l[i] ∈ a) = false from by simpa using ha]
    simp only [cond_false]
    rw [has_eq (by omega) (by omega)]
    simp only [Option.bind_some]
    by_cases hb : l[i] ∈ b
    · rw [show decide (l[i] ∈ b) = true from by simpa using hb]; exact skip
    rw [show decide (l[i] ∈ b) = false from by simpa using hb]
    simp only [cond_false]
    obtain ⟨n, hnn⟩ : ∃ n, n = l[i] := ⟨_, rfl⟩
    rw [← hnn] at hn ha hb ⊢
    rw [Int.tmod_eq_emod_of_nonneg (show (0 : Int) ≤ (i : Int) by omega)]
    have hap1 : ∀ q : List Int, q.length ≤ 100 → appD q [n] = some (q ++ [n]) := fun q hq => by unfold appD; rw [if_pos (by simp only [Modest2, List.length_singleton]; omega)]
    rcases (show (i : Int) % 2 = 0 ∨ (i : Int) % 2 = 1 by omega) with e | e
    · rw [e]
      by_cases hfull : (a.length : Int) = p.retire
      · obtain ⟨c, hc⟩ := runF (M := M1) (fu := 5000) (most := 9) (put_full hp (n := n) t0 hT.len hT.fst hfull) (by omega) (by omega) (by omega)
        rw [hc]
        exact ⟨_, rfl, by simp, ⟨hT.len, hT.fst, hT.snd, hT.free, hT.hz, hT.nodup⟩, by simp only; omega⟩
      · have hroom := hT.fst.room
        obtain ⟨ws', hr, hl', hR, ho⟩ := put_runs hp (n := n) t0 hn (by omega) hT.len hT.fst (by omega)
        obtain ⟨c, hc⟩ := runF (M := M1) (fu := 5000) (most := 9) hr (by omega) (by omega) (by omega)
        have ho2 := two_keep hp t0 (by omega) ho
        rw [hc]
        simp only [Option.bind_some]
        rw [show decide ((a.length : Int) + 1 > 0) = true from by rw [decide_eq_true_eq]; omega, show ((0 : Int) == 0) = true from rfl, show ((0 : Int) == 1) = false from rfl]
        simp only [cond_true, cond_false, Option.bind_some, hap1 a (by omega)]
        refine ⟨_, rfl, by simp, ⟨by unfold Len; rw [hl']; exact hT.len, hR, hT.snd.keep fun j h0 h1 => ho2 j (by omega) (by omega), hT.free.keep hl' (ho2 0 (by omega) (by omega)) fun _ h => (by cases h), fun j h0 h1 => ?_, ?_⟩, by simp; omega⟩
        · simp only
          rw [ho2 _ (by omega) (by omega)]; exact hT.hz j h0 h1
        · exact List.nodup_append.2 ⟨hT.nodup, by simp, fun q hq r hr => by rcases List.mem_singleton.1 hr with rfl; exact fun e => ha (e ▸ hq)⟩
    · rw [e]
      by_cases hfull : (b.length : Int) = p.retire
      · obtain ⟨c, hc⟩ := runF (M := M1) (fu := 5000) (most := 9) (put_full hp (n := n) t1 hT.len hT.snd hfull) (by omega) (by omega) (by omega)
        rw [hc]
        exact ⟨_, rfl, by simp, ⟨hT.len, hT.fst, hT.snd, hT.free, hT.hz, hT.nodup⟩, by simp only; omega⟩
      · have hroom := hT.snd.room
        obtain ⟨ws', hr, hl', hR, ho⟩ := put_runs hp (n := n) t1 hn (by omega) hT.len hT.snd (by omega)
        obtain ⟨c, hc⟩ := runF (M := M1) (fu := 5000) (most := 9) hr (by omega) (by omega) (by omega)
        have ho2 := two_keep hp t1 (by omega) ho
        rw [hc]
        simp only [Option.bind_some]
        rw [show decide ((b.length : Int) + 1 > 0) = true from by rw [decide_eq_true_eq]; omega, show ((1 : Int) == 0) = false from rfl, show ((1 : Int) == 1) = true from rfl]
        simp only [cond_true, cond_false, Option.bind_some, hap1 b (by omega)]
        refine ⟨_, rfl, by simp, ⟨by unfold Len; rw [hl']; exact hT.len, hT.fst.keep fun j h0 h1 => ho2 j (by omega) (by omega), hR, hT.free.keep hl' (ho2 0 (by omega) (by omega)) fun _ h => (by cases h), fun j h0 h1 => ?_, hT.nodup⟩, by simp; omega⟩
        simp only
        rw [ho2 _ (by omega) (by omega)]; exact hT.hz j h0 h1
  rintro ⟨a, b, x, M1⟩ ⟨rfl, hT, hab⟩
  simp only at hT hab ⊢
  rw [show decide ((l.length : Int) < (l.length : Int)) = false from by simp]
  refine ⟨_, rfl, ?_⟩
  simp only
  have hnh : ∀ n, n ∈ a → ((fun _ => false : Int → Bool) n = true ↔ heldW p M1.ws n) := fun n hn => by
    have hr := hT.fst.range n hn
    refine ⟨fun h => (by cases h), fun ⟨j, h0, h1, h2⟩ => ?_⟩
    rw [hT.hz j h0 h1] at h2
    omega
  obtain ⟨m, ws', hm, hr, hs⟩ := scan_runs hp (by omega) t0 5001 (by omega) hT.len hT.fst hT.free (fun _ _ h => (by cases h)) hT.nodup hnh (by omega)
  obtain ⟨c, hc⟩ := runF (M := M1) (fu := 5000) (most := 100000) hr (by omega) (by omega) (by omega)
  have hcount := scanL_count (held := fun _ => false) a
  have hnone := scanL_none (held := fun _ => false) a fun _ _ => rfl
  rw [hnone] at hcount hs
  have hwl := hs.len
  have hTl := hT.len
  unfold Len at hTl
  have hr0 : RetAt p ws' 0 [] := hs.ret
  have hr1' : RetAt p ws' 1 b := hT.snd.keep fun j h0 h1 => hs.others j (by omega) (fun n hn => by
    have := hT.fst.range n ((scanL_perm (held := fun _ => false) a.length a (Nat.le_refl _)).subset (List.mem_append_left _ hn))
    unfold ofNode; omega) (by omega)
  rw [hc]
  simp only [Option.bind_some]
  rw [rlist_eq hp (M := ⟨ws', c⟩) t0 (by simp only; omega) hr0 (by omega) (by omega), rlist_eq hp (M := ⟨ws', c⟩) t1 (by simp only; omega) hr1' (by omega) (by omega)]
  have e1 : (((scanL (fun _ => false) a.length a).2.length : Int) == (a.length : Int)) = true := by simp at hcount ⊢; omega
  rw [e1]
  simp only [cond_true, Option.bind_some]
  rw [show ((([] : List Int).length : Int) == 0) = true from rfl]
  simp only [cond_true]
  rw [same_refl (by omega) (by omega)]
  rfl

end Go.Proofs.YtphnnjiaiemkcaaGreat
