/- RetireScans: what the walk found answers as the law says. -/
import Derived.Test.YtphnnjiaiemkcaaGreatQrsScany
import Derived.Test.YtphnnjiaiemkcaaGreatQrsLawRS
namespace Go.Proofs.YtphnnjiaiemkcaaGreat
open Go.RowKit
/-- Is a node among those that are held? -/
def heldF (H : List Bool) (n : Int) : Bool := bif decide (n ≥ 0) then (bif decide (n < (H.length : Int)) then (H[n.toNat]?).getD false else false) else false

theorem heldF_at {H : List Bool} {i : Nat} (h : i < H.length) : heldF H (i : Int) = H[i] := by
  unfold heldF
  rw [show decide ((i : Int) ≥ 0) = true from by rw [decide_eq_true_eq]; omega, show decide ((i : Int) < (H.length : Int)) = true from by rw [decide_eq_true_eq]; omega]
  simp only [cond_true]
  rw [Int.toNat_natCast, List.getElem?_eq_getElem h]
  rfl

theorem heldF_out {H : List Bool} {n : Int} (h : (H.length : Int) ≤ n) : heldF H n = false := by
  unfold heldF
  rw [show decide (n < (H.length : Int)) = false from by rw [decide_eq_false_iff_not]; omega]
  cases decide (n ≥ 0) <;> rfl

theorem ref11_scan {fu : Nat} {r : List Int} {H : List Bool} (h : r.length ≤ 1000) (hf : 2000 ≤ fu) : D.cubicleref11_Scan fu r H = some (scanL (heldF H) r.length r) := by
  unfold D.cubicleref11_Scan
  have ha : appD ([] : List Int) r = some r := by unfold appD; rw [if_pos (by simp [Modest2]; omega)]; rfl
  rw [ha]
  simp only [Option.bind_some]
  have key : ∀ (k : Nat) (left out : List Int) (q : Nat), k ≤ left.length → left.length ≤ 1000 → out.length + k ≤ 1000 → k < q →
      (runLoop (fun (x10 : List Int × List Int × Int) => (bif (decide (x10.2.2 ≥ 0)) then ((getI x10.1 x10.2.2).bind (fun (x15 : Int) => (Option.bind (bif (decide (x15 ≥ 0)) then (bif (decide (x15 < (H.length : Int))) then ((getI H x15).bind (fun (x19 : Bool) => (some x19))) else (some false)) else (some false)) (fun (x20 : Bool) => (bif x20 then (some (Lp.next (x10.1, x10.2.1, (IntKind.i64.wrap (x10.2.2 - 1))))) else ((appD x10.2.1 ([x15])).bind (fun (x28 : List Int) => ((getI x10.1 (IntKind.i64.wrap ((x10.1.length : Int) - 1))).bind (fun (x32 : Int) => ((getI x10.1 x10.2.2).bind (fun (x33 : Int) => ((sliceD (x10.1.set x10.2.2.toNat x32) 0 (IntKind.i64.wrap (((x10.1.set x10.2.2.toNat x32).length : Int) - 1))).bind (fun (x36 : List Int) => (some (Lp.next (x36, x28, (IntKind.i64.wrap (x10.2.2 - 1)))))))))))))))))) else (some (Lp.brk (Z := List Int × List Int) (x10.1, x10.2.1, x10.2.2))))) q (left, out, (k : Int) - 1)).bind (afterLoop fun (x37 : List Int × List Int × Int) => (some (x37.1, x37.2.1))) = some ((scanL (heldF H) k left).1, out ++ (scanL (heldF H) k left).2) := by
    intro k
    induction k with
    | zero =>
      intro left out q _ _ _ hq
      obtain ⟨q, rfl⟩ : ∃ z, q = z + 1 := ⟨q - 1, by omega⟩
      simp only [runLoop]
      rw [show decide (((0 : Nat) : Int) - 1 ≥ 0) = false from rfl]
      simp [goOn, afterLoop, scanL]
    | succ k ih =>
      intro left out q hk hl ho hq
      obtain ⟨q, rfl⟩ : ∃ z, q = z + 1 := ⟨q - 1, by omega⟩
      have hk' : k < left.length := hk
      simp only [runLoop]
      rw [show ((k + 1 : Nat) : Int) - 1 = (k : Int) from by omega, show decide ((k : Int) ≥ 0) = true from by rw [decide_eq_true_eq]; omega, getI_nat hk', wrap_small (show -1000000 ≤ (k : Int) - 1 by omega) (by omega)]
      simp only [cond_true, Option.bind_some]
      have hh : (bif (decide (left[k] ≥ 0)) then (bif (decide (left[k] < (H.length : Int))) then ((getI H left[k]).bind (fun (x19 : Bool) => (some x19))) else (some false)) else (some false)) = some (heldF H left[k]) := by
        unfold heldF
        cases h1 : decide (left[k] ≥ 0)
        · rfl
        cases h2 : decide (left[k] < (H.length : Int))
        · rfl
        simp only [decide_eq_true_eq] at h1 h2
        obtain ⟨m, hm⟩ : ∃ m : Nat, left[k] = (m : Int) := ⟨left[k].toNat, by omega⟩
        have hml : m < H.length := by omega
        simp only [cond_true]
        rw [hm, getI_nat hml, Int.toNat_natCast, List.getElem?_eq_getElem hml]
        rfl
      rw [hh]
      simp only [Option.bind_some, scanL, List.getElem?_eq_getElem hk']
      cases hc : heldF H left[k]
      · have hap : appD out [left[k]] = some (out ++ [left[k]]) := by unfold appD; rw [if_pos (by simp only [Modest2, List.length_singleton]; omega)]
        have hlast : getI left (IntKind.i64.wrap ((left.length : Int) - 1)) = some ((left.getLast?).getD 0) := by
          rw [wrap_small (by omega) (by omega), show (left.length : Int) - 1 = ((left.length - 1 : Nat) : Int) from by omega, getI_nat (by omega), List.getLast?_eq_getElem?, List.getElem?_eq_getElem (by omega)]
          rfl
        have hsl : sliceD (left.set (k : Int).toNat ((left.getLast?).getD 0)) 0 (IntKind.i64.wrap (((left.set (k : Int).toNat ((left.getLast?).getD 0)).length : Int) - 1)) = some (left.set k ((left.getLast?).getD 0)).dropLast := by
          rw [Int.toNat_natCast, List.length_set, wrap_small (by omega) (by omega)]
          unfold sliceD
          rw [if_pos (by rw [List.length_set]; omega), List.dropLast_eq_take]
          simp only [List.length_set, Int.toNat_zero, List.drop_zero, Nat.sub_zero]
          congr 2
          omega
        simp only [cond_false, hap, Option.bind_some, hlast, hsl, goOn, Bool.false_eq_true, if_false]
        rw [ih _ _ q (by simp; omega) (by simp; omega) (by simp; omega) (by omega)]
        simp
      · simp only [cond_true, goOn, if_true, Option.bind_some]
        exact ih left out q (by omega) hl (by omega) (by omega)
  unfold loopThen
  have hw : IntKind.i64.wrap ((r.length : Int) - 1) = (r.length : Int) - 1 := wrap_small (by omega) (by omega)
  rw [hw]
  have := key r.length r [] fu (Nat.le_refl _) h (by simp; omega) (by omega)
  rw [List.nil_append] at this
  exact this

theorem pushAll_rev {p : Plan} {ws : List Int} : ∀ (out l : List Int), (∀ n, n ∈ out → (tof p ws n).mode ≠ 3) → pushAll p ws out l = out.reverse ++ l
  | [], l, _ => by rw [pushAll_nil]; rfl
  | n :: out, l, h => by
    rw [pushAll_cons, if_neg (h n (List.mem_cons_self ..)), pushAll_rev out (n :: l) fun m hm => h m (List.mem_cons_of_mem _ hm)]
    simp

/-- Hazards that name those that are held, below k. -/
structure HeldAt (p : Plan) (ws : List Int) (H : List Bool) (s : Nat) (k : Nat) : Prop where
  le : (s : Int) ≤ p.threads * 3
  named : ∀ j : Int, 0 ≤ j → j < s → ∃ i : Nat, i < k ∧ H[i]? = some true ∧ rd ws (D.plan_Plan_hazards p + j) = (i : Int) + 1
  none : ∀ j : Int, s ≤ j → j < p.threads * 3 → rd ws (D.plan_Plan_hazards p + j) = 0
  all : ∀ i : Nat, i < k → H[i]? = some true → ∃ j : Int, 0 ≤ j ∧ j < s ∧ rd ws (D.plan_Plan_hazards p + j) = (i : Int) + 1

theorem HeldAt.held {p : Plan} {ws : List Int} {H : List Bool} {s : Nat} (h : HeldAt p ws H s H.length) {n : Int} (hn : 0 ≤ n) : heldF H n = true ↔ heldW p ws n := by
  obtain ⟨m, rfl⟩ : ∃ m : Nat, n = (m : Int) := ⟨n.toNat, by omega⟩
  have hle := h.le
  constructor
  · intro ht
    have hm : m < H.length := by
      rcases Nat.lt_or_ge m H.length with h1 | h1
      · exact h1
      · rw [heldF_out (by omega)] at ht; cases ht
    rw [heldF_at hm] at ht
    obtain ⟨j, h0, h1, h2⟩ := h.all m hm (by rw [List.getElem?_eq_getElem hm, ht])
    exact ⟨j, h0, by omega, h2⟩
  · rintro ⟨j, h0, h1, h2⟩
    rcases Int.lt_or_le j s with h3 | h3
    · obtain ⟨i, hi, hit, hir⟩ := h.named j h0 h3
      rw [h2] at hir
      have : m = i := by omega
      subst this
      rw [heldF_at hi]
      rw [List.getElem?_eq_getElem hi] at hit
      exact Option.some.inj hit
    · rw [h.none j h3 h1] at h2
      omega

theorem pure_RetireScans (p0 : Plan) (l : List Int) (H0 : List Bool) (_ : -9223372036854775808 ≤ p0.nodes ∧ p0.nodes ≤ 9223372036854775807) (_ : -9223372036854775808 ≤ p0.threads ∧ p0.threads ≤ 9223372036854775807)
    (_ : -9223372036854775808 ≤ p0.retire ∧ p0.retire ≤ 9223372036854775807) (_ : -9223372036854775808 ≤ p0.domains ∧ p0.domains ≤ 9223372036854775807) (_ : -9223372036854775808 ≤ p0.buckets ∧ p0.buckets ≤ 9223372036854775807)
    (_ : -9223372036854775808 ≤ p0.gen ∧ p0.gen ≤ 9223372036854775807) (_ : ∀ n, n ∈ l → -9223372036854775808 ≤ n ∧ n ≤ 9223372036854775807) : ∃ fu, Wk.D.cubiclelaw11_RetireScans fu p0 l H0 = some true := by
  refine ⟨5000, ?_⟩
  unfold Wk.D.cubiclelaw11_RetireScans
  obtain ⟨p, hpe⟩ : ∃ p : Plan, p = { p0 with gen := 9 } := ⟨_, rfl⟩
  rw [← hpe, awake11b]
  simp only [Option.bind_some, Bool.not_true, cond_false]
  cases hf : D.cubiclelaw11_few p0
  · rfl
  cases hl : decide ((l.length : Int) > 40)
  case true => rfl
  cases hH : decide ((H0.length : Int) > p0.nodes)
  case true => rfl
  obtain ⟨hp0, hfw0⟩ := few_eq hf
  have hl : (l.length : Int) ≤ 40 := by simpa using hl
  have hH : (H0.length : Int) ≤ p0.nodes := by simpa using hH
  have hp : PF p := by rw [hpe]; exact { hp0 with g1 := (by decide : (1 : Int) ≤ 9), g2 := (by decide : (9 : Int) ≤ 1073741823) }
  have hfw : p.nodes ≤ 40 ∧ p.retire ≤ 40 ∧ p.domains ≤ 6 ∧ p.buckets ≤ 10 := by rw [hpe]; exact hfw0
  have hH : (H0.length : Int) ≤ p.nodes := by rw [hpe]; exact hH
  have hg9 : p.gen = 9 := by rw [hpe]
  simp only [Bool.not_true, cond_false, Option.bind_some]
  have hn1 := hp.n1
  have ht1 := hp.t1
  have ht2 := hp.t2
  have hr1 := hp.r1
  have hr2 := hp.r2
  have hN := nodes_le hp
  have hS := Size_eq hp
  obtain ⟨g1, g2, g3, g4⟩ := hz_in hp
  obtain ⟨t, ht⟩ : ∃ t, t = p.threads - 1 := ⟨_, rfl⟩
  have htr : 0 ≤ t ∧ t < p.threads := by omega
  obtain ⟨q1, q2, q3⟩ := rb_in hp htr
  have hsf : SF ⟨3, 2, 1⟩ := ⟨by decide, by decide, by decide, by decide, by decide, by decide⟩
  obtain ⟨M, hM, hP⟩ := popped_eq hp hfw ⟨3, 2, 1⟩ (fu := 5000) (by omega)
  have hF := hP.free
  rw [Nat.sub_self] at hF
  have hF : FreeAt p M.ws [] p.nodes := by rw [show p.nodes = ((p.nodes.toNat : Nat) : Int) from by omega]; exact hF
  simp only [hM, Option.bind_some, Cap_eq]
  rw [wrap_small (x := p.threads - 1) (by omega) (by omega), wrap_small (x := 3 * p.threads) (by omega) (by omega), ← ht]
  refine loop_inv (fun o => o = some true) (fun (i : Nat) (x : Bool × List Int × Int × Mem) => x.2.2.1 = (i : Int) ∧ x.2.1.length ≤ i ∧ x.2.1.Nodup ∧ RetAt p x.2.2.2.ws t x.2.1 ∧ x.2.2.2.ws.length = M.ws.length ∧ ∀ j, 0 ≤ j → (j < rb p t ∨ rb p t + 1 + p.retire ≤ j) → rd x.2.2.2.ws j = rd M.ws j) l.length 5000
    ⟨rfl, Nat.le_refl _, List.nodup_nil, hP.ret hp htr, rfl, fun _ _ _ => rfl⟩ (by omega) ?_ ?_
  · rintro i ⟨b0, w, x, M1⟩ hi ⟨rfl, hwi, hnd, hR, hlen, hk⟩
    simp only at hwi hnd hR hlen hk ⊢
    have hl1 := hF.len
    have hroom := hR.room
    rw [show decide ((i : Int) < (l.length : Int)) = true from by rw [decide_eq_true_eq]; omega, getI_nat hi, wrap_small (show -1000000 ≤ (i : Int) + 1 by omega) (by omega)]
    simp only [cond_true, Option.bind_some]
    have skip : ∃ x', some (Lp.next (Z := Bool) (b0, w, ((i : Int) + 1), M1)) = some (Lp.next x') ∧ (x'.2.2.1 = ((i + 1 : Nat) : Int) ∧ x'.2.1.length ≤ i + 1 ∧ x'.2.1.Nodup ∧ RetAt p x'.2.2.2.ws t x'.2.1 ∧ x'.2.2.2.ws.length = M.ws.length ∧ ∀ j, 0 ≤ j → (j < rb p t ∨ rb p t + 1 + p.retire ≤ j) → rd x'.2.2.2.ws j = rd M.ws j) := ⟨_, rfl, by simp, by simp only; omega, hnd, hR, hlen, hk⟩
    cases h1 : decide (l[i] < 0)
    case true => exact skip
    cases h2 : decide (l[i] ≥ p.nodes)
    case true => exact skip
    simp only [decide_eq_false_iff_not] at h1 h2
    simp only [cond_false]
    rw [has_eq (by omega) (by omega)]
    simp only [Option.bind_some]
    by_cases ha : l[i] ∈ w
    · rw [show decide (l[i] ∈ w) = true from by simpa using ha]; exact skip
    rw [show decide (l[i] ∈ w) = false from by simpa using ha]
    simp only [cond_false]
    by_cases hfull : (w.length : Int) = p.retire
    · obtain ⟨c, hc⟩ := runF (M := M1) (fu := 5000) (most := 9) (put_full hp (n := l[i]) htr (by omega) hR hfull) (by omega) (by omega) (by omega)
      rw [hc]
      simp only [Option.bind_some]
      rw [show decide ((w.length : Int) ≥ p.retire) = true from by rw [decide_eq_true_eq]; omega]
      exact ⟨_, rfl, by simp, by simp only; omega, hnd, hR, hlen, hk⟩
    · obtain ⟨ws', hr, hl', hR2, ho⟩ := put_runs hp (n := l[i]) htr (by omega) (by omega) (by omega) hR (by omega)
      obtain ⟨c, hc⟩ := runF (M := M1) (fu := 5000) (most := 9) hr (by omega) (by omega) (by omega)
      have hap : appD w [l[i]] = some (w ++ [l[i]]) := by unfold appD; rw [if_pos (by simp only [Modest2, List.length_singleton]; omega)]
      rw [hc]
      simp only [Option.bind_some]
      rw [show decide ((w.length : Int) ≥ p.retire) = false from by rw [decide_eq_false_iff_not]; omega, hap]
      simp only [cond_false, Option.bind_some]
      rw [show ((w.length : Int) + 1 != ((w ++ [l[i]]).length : Int)) = false from by simp]
      refine ⟨_, rfl, by simp, by simp; omega, ?_, hR2, by simp only; omega, fun j h0 h1' => ?_⟩
      · exact List.nodup_append.2 ⟨hnd, by simp, fun q hq z hz => by rcases List.mem_singleton.1 hz with rfl; exact fun e => ha (e ▸ hq)⟩
      · simp only
        rw [ho j h0 (by omega) (by omega)]; exact hk j h0 h1'
  rintro ⟨b0, w, x, M1⟩ ⟨rfl, hwi, hnd, hR, hlen, hk⟩
  simp only at hwi hnd hR hlen hk ⊢
  have hl1 := hF.len
  rw [show decide ((l.length : Int) < (l.length : Int)) = false from by simp]
  refine ⟨_, rfl, ?_⟩
  simp only
  have hFk : FreeAt p M1.ws [] p.nodes := hF.keep hlen (hk 0 (by omega) (by omega)) fun _ h => (by cases h)
  -- hazards
  refine loop_inv (fun o => o = some true) (fun (i : Nat) (x : List Bool × Int × Int × Mem) => x.2.2.1 = (i : Int) ∧ x.1.length = H0.length ∧ HzOnly p M1.ws x.2.2.2.ws ∧ ∃ s : Nat, x.2.1 = (s : Int) ∧ HeldAt p x.2.2.2.ws x.1 s i) H0.length 5000
    ⟨rfl, rfl, .refl, 0, rfl, by omega, fun j h0 h1 => by omega, fun j h0 h1 => by rw [hk _ (by omega) (by omega)]; exact hP.zero _ (by omega) (by omega), fun i hi => by omega⟩ (by omega) ?_ ?_
  · rintro i ⟨H, s0, x, M2⟩ hi ⟨rfl, hHl, hHz, s, rfl, hA⟩
    simp only at hHl hHz hA ⊢
    have hiH : i < H.length := by omega
    have hle := hA.le
    have hL2 : Len p M2.ws := by have := hHz.len; unfold Len; omega
    rw [show decide ((i : Int) < (H.length : Int)) = true from by rw [decide_eq_true_eq]; omega, getI_nat hiH, wrap_small (show -1000000 ≤ (i : Int) + 1 by omega) (by omega)]
    simp only [cond_true, Option.bind_some]
    by_cases hb : H[i] = true ∧ (s : Int) < 3 * p.threads
    · rw [hb.1, show decide ((s : Int) < 3 * p.threads) = true from by rw [decide_eq_true_eq]; exact hb.2]
      obtain ⟨c, hc⟩ := runUF (M := M2) (fu := 5000) (most := 9) (hset_at hp hL2 (i := (s : Int)) (n := (i : Int)) (by omega) (by omega) (by omega)) (by omega) (by omega) (by omega)
      simp only [cond_true, Option.bind_some, hc]
      rw [wrap_small (show -1000000 ≤ (s : Int) + 1 by omega) (by omega)]
      unfold Len at hL2
      have hr : ∀ j, 0 ≤ j → rd (M2.ws.set (D.plan_Plan_hazards p + s).toNat ((i : Int) + 1)) j = if j = D.plan_Plan_hazards p + s then (i : Int) + 1 else rd M2.ws j := fun j hj => rd_set (by omega) (by omega) hj
      refine ⟨_, rfl, by simp, hHl, hHz.set hp (by unfold Len; omega) (by omega) (by omega), s + 1, by simp, by omega, fun j h0 h1 => ?_, fun j h0 h1 => ?_, fun q hq hqt => ?_⟩
      · by_cases e : j = (s : Int)
        · subst e
          exact ⟨i, by omega, by rw [List.getElem?_eq_getElem hiH, hb.1], by simp only; rw [hr _ (by omega), if_pos rfl]⟩
        · obtain ⟨q, h2, h3, h4⟩ := hA.named j h0 (by omega)
          exact ⟨q, by omega, h3, by simp only; rw [hr _ (by omega), if_neg (by omega)]; exact h4⟩
      · simp only; rw [hr _ (by omega), if_neg (by omega)]; exact hA.none j (by omega) h1
      · by_cases e : q = i
        · subst e
          exact ⟨s, by omega, by omega, by simp only; rw [hr _ (by omega), if_pos rfl]⟩
        · obtain ⟨j, h0, h1, h2⟩ := hA.all q (by omega) hqt
          exact ⟨j, h0, by omega, by simp only; rw [hr _ (by omega), if_neg (by omega)]; exact h2⟩
    · have hcond : (bif H[i] then some (decide ((s : Int) < 3 * p.threads)) else some false) = some false := by
        cases hb1 : H[i]
        · rfl
        · have : ¬ (s : Int) < 3 * p.threads := fun h => hb ⟨hb1, h⟩
          rw [show decide ((s : Int) < 3 * p.threads) = false from by rw [decide_eq_false_iff_not]; exact this]; rfl
      rw [hcond]
      have e1 : sliceD H 0 (i : Int) = some (H.take i) := by
        unfold sliceD; rw [if_pos (by omega)]; simp
      have e2 : appD ([] : List Bool) (H.take i) = some (H.take i) := by unfold appD; rw [if_pos (by simp [Modest2]; omega)]; rfl
      have e3 : sliceD H ((i : Int) + 1) (H.length : Int) = some (H.drop (i + 1)) := by
        unfold sliceD
        rw [if_pos (by omega)]
        simp only [Int.toNat_natCast]
        rw [show ((i : Int) + 1).toNat = i + 1 from by omega, List.take_of_length_le (by rw [List.length_drop]; omega)]
      have e4 : appD [false] (H.drop (i + 1)) = some (false :: H.drop (i + 1)) := by unfold appD; rw [if_pos (by simp [Modest2]; omega)]; rfl
      have e5 : appD (H.take i) (false :: H.drop (i + 1)) = some (H.set i false) := by
        unfold appD
        rw [if_pos (by simp [Modest2]; omega), List.set_eq_take_append_cons_drop, if_pos hiH]
      simp only [Option.bind_some, cond_false, e1, e2, e3, e4, e5]
      have hget : ∀ q : Nat, q < i → (H.set i false)[q]? = H[q]? := fun q hq => by rw [List.getElem?_set, if_neg (by omega)]
      refine ⟨_, rfl, by simp, by simp only; rw [List.length_set]; exact hHl, hHz, s, rfl, hA.le, fun j h0 h1 => ?_, hA.none, fun q hq hqt => ?_⟩
      · obtain ⟨q, h2, h3, h4⟩ := hA.named j h0 h1
        exact ⟨q, by omega, by simp only; rw [hget q h2]; exact h3, h4⟩
      · simp only at hqt
        by_cases e : q = i
        · subst e
          rw [List.getElem?_set, if_pos rfl, if_pos hiH] at hqt
          cases hqt
        · exact hA.all q (by omega) (by rw [← hget q (by omega)]; exact hqt)
  rintro ⟨H, s0, x, M2⟩ ⟨rfl, hHl, hHz, s, rfl, hA⟩
  simp only at hHl hHz hA ⊢
  rw [← hHl] at hA ⊢
  rw [show decide ((H.length : Int) < (H.length : Int)) = false from by simp]
  refine ⟨_, rfl, ?_⟩
  simp only
  have hR2 := hHz.ret hp htr hR
  have hF2 := hHz.free hp hFk
  have hL2 : Len p M2.ws := by have := hHz.len; unfold Len; omega
  obtain ⟨m, ws', hm, hrun, hs⟩ := scan_runs hp (by omega) htr (held := heldF H) 5001 (by omega) hL2 hR2 hF2 (fun _ _ h => (by cases h)) hnd (fun n hn => hA.held (hR.range n hn).1) (by omega)
  obtain ⟨c, hc⟩ := runF (M := M2) (fu := 5000) (most := 100000) hrun (by omega) (by omega) (by omega)
  have hcount := scanL_count (held := heldF H) w
  have hperm := scanL_perm (held := heldF H) w.length w (Nat.le_refl _)
  rw [ref11_scan (by omega) (by omega), hc]
  simp only [Option.bind_some]
  obtain ⟨left, hleft⟩ : ∃ left, left = (scanL (heldF H) w.length w).1 := ⟨_, rfl⟩
  obtain ⟨out, hout⟩ : ∃ out, out = (scanL (heldF H) w.length w).2 := ⟨_, rfl⟩
  rw [← hleft, ← hout] at hs hcount hperm ⊢
  have hwl := hs.len
  unfold Len at hL2
  have hor : ∀ n, n ∈ out → 0 ≤ n ∧ n < p.nodes := fun n hn => hR.range n (hperm.subset (List.mem_append_left _ hn))
  have hst : ∀ n, n ∈ out → tof p M2.ws n = ⟨4, 0, 0⟩ := fun n hn => by
    have hr := hor n hn
    unfold tof
    rw [hHz.same _ (by omega) (by omega), hk _ (by omega) (by omega), hP.state n hr.1 (by omega), of_word hsf, hg9]
    rfl
  refine loop_inv (fun o => o = some true) (fun (i : Nat) (x : List Int × Int) => x.2 = (i : Int) ∧ x.1 = (out.take i).reverse) out.length 5000 ⟨rfl, by simp⟩ (by omega) ?_ ?_
  · rintro i ⟨v, x⟩ hi ⟨rfl, rfl⟩
    simp only
    rw [show decide ((i : Int) < (out.length : Int)) = true from by rw [decide_eq_true_eq]; omega, getI_nat hi, wrap_small (show -1000000 ≤ (i : Int) + 1 by omega) (by omega)]
    simp only [cond_true, Option.bind_some]
    rw [push_ref (by rw [List.length_reverse, List.length_take]; omega)]
    refine ⟨_, rfl, by simp, ?_⟩
    simp only
    rw [← List.take_append_getElem hi, List.reverse_append]
    rfl
  rintro ⟨v, x⟩ ⟨rfl, rfl⟩
  simp only
  rw [show decide ((out.length : Int) < (out.length : Int)) = false from by simp]
  refine ⟨_, rfl, ?_⟩
  simp only
  rw [List.take_length, show ((out.length : Int) != (out.length : Int)) = false from by simp, rlist_eq hp (M := ⟨ws', c⟩) htr (by simp only; omega) hs.ret (by omega) (by omega)]
  simp only [Bool.not_true, cond_false, Option.bind_some]
  rw [same_refl (by omega) (by omega)]
  obtain ⟨g', hg', hF3⟩ := hs.free
  rw [pushAll_rev out [] (fun n hn => by rw [hst n hn]; decide), List.append_nil] at hF3
  have hc3 := hF3.count (by omega)
  simp only [Bool.not_true, cond_false, Option.bind_some]
  rw [list_eq hp (M := ⟨ws', c⟩) hF3 (by omega) hc3 (by omega) (by omega)]
  simp only [Option.bind_some]
  rw [same_refl (by simp; omega) (by simp; omega)]
  simp only [Bool.not_true, cond_false, Option.bind_some]
  refine loop_inv (fun o => o = some true) (fun (i : Nat) (x : Bool × Int) => x.2 = (i : Int)) out.length 5000 rfl (by omega) ?_ ?_
  · rintro i ⟨b, x⟩ hi rfl
    have hm' : out[i] ∈ out := List.getElem_mem hi
    have hr := hor _ hm'
    have h1 := hs.states _ hm'
    rw [hst _ hm'] at h1
    have f0 := hs.fields _ 0 hm' (by omega) (by omega)
    have f1 := hs.fields _ 1 hm' (by omega) (by omega)
    have f2 := hs.fields _ 2 hm' (by omega) (by omega)
    simp only
    rw [show decide ((i : Int) < (out.length : Int)) = true from by rw [decide_eq_true_eq]; omega, getI_nat hi, wrap_small (show -1000000 ≤ (i : Int) + 1 by omega) (by omega)]
    simp only [cond_true, Option.bind_some]
    rw [st_at hp hr, fl_at hp hr (f := 0) (by omega), fl_at hp hr (f := 1) (by omega), fl_at hp hr (f := 2) (by omega)]
    have hpk : ∀ j : Int, 0 ≤ j → j < D.plan_Plan_Size p → D.mem_Memory_Peek 5000 ⟨ws', c⟩ 0 j = some (rd ws' j) := fun j h0 h1 => Peek_eq (M := ⟨ws', c⟩) h0 (by simp only; omega)
    rw [hpk _ (by omega) (by omega), hpk _ (by omega) (by omega), hpk _ (by omega) (by omega), hpk _ (by omega) (by omega), h1, f0, f1, f2]
    simp only [Option.bind_some]
    rw [show (D.state_State_Word ⟨4, 0, 0⟩ != D.state_State_Word ⟨4, 0, 0⟩) = false from by simp]
    exact ⟨_, rfl, by simp⟩
  · rintro ⟨b, x⟩ rfl
    simp only
    rw [show decide ((out.length : Int) < (out.length : Int)) = false from by simp]
    exact ⟨_, rfl, by simp⟩

end Go.Proofs.YtphnnjiaiemkcaaGreat
