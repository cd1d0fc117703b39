/- HazardGuards: what the walk found answers as the law says. -/
import Derived.Test.YtphnnjiaiemkcaaHgHazx
import Derived.Test.YtphnnjiaiemkcaaHgLawHG
namespace Go.Proofs.Ytphnnjiaiemkcaa
open Go.RowKit
theorem isDone_act {R : Type} {op at_ a b : Int} {k : Int → T R} : (T.act op at_ a b k).isDone = false := rfl

theorem isDone_done {R : Type} {r : R} : (T.done r).isDone = true := rfl

/-- A guard that goes on: it sets its hazard, and looks again. -/
theorem guard_act {p : Plan} (hp : PF p) {t s at_ sh w : Int} (ht : 0 ≤ t ∧ t < p.threads) (hs : 0 ≤ s ∧ s < 3) (hw0 : 0 ≤ w) (hw1 : w < 1099511627776) (hsh : 0 ≤ sh ∧ sh < 3) (hn : ¬ w / 2 ^ sh.toNat - 1 < 0) (k : Nat) :
    D.hazard_guard (k + 1) p t s at_ sh w = .act 1 (D.plan_Plan_hazards p + t * 3 + s) (w / 2 ^ sh.toNat) 0 (fun _ => .act 0 at_ 0 0 (fun x => bif x == w then .done w else D.hazard_guard k p t s at_ sh x)) := by
  obtain ⟨h2, h3, h4⟩ := shr_eq hw0 hsh
  show D.hazard_guard_body (D.hazard_guard k) p t s at_ sh w = _
  unfold D.hazard_guard_body
  rw [h2, wrap_id (x := w / 2 ^ sh.toNat) (by omega) (by omega), wrap_id (x := w / 2 ^ sh.toNat - 1) (by omega) (by omega), show decide (w / 2 ^ sh.toNat - 1 < 0) = false from by simpa using hn]
  unfold D.hazard_Set
  rw [word_eq (by omega) (by omega), Hazard_eq hp, if_pos ⟨ht, hs⟩, show w / 2 ^ sh.toNat - 1 + 1 = w / 2 ^ sh.toNat from by omega]
  rfl

theorem guard_over {p : Plan} {t s at_ sh w : Int} (hw0 : 0 ≤ w) (hw1 : w < 1099511627776) (hsh : 0 ≤ sh ∧ sh < 3) (hn : w / 2 ^ sh.toNat - 1 < 0) (k : Nat) : D.hazard_guard (k + 1) p t s at_ sh w = .done w := by
  obtain ⟨h2, h3, h4⟩ := shr_eq hw0 hsh
  show D.hazard_guard_body (D.hazard_guard k) p t s at_ sh w = _
  unfold D.hazard_guard_body
  rw [h2, wrap_id (x := w / 2 ^ sh.toNat) (by omega) (by omega), wrap_id (x := w / 2 ^ sh.toNat - 1) (by omega) (by omega), show decide (w / 2 ^ sh.toNat - 1 < 0) = true from by simpa using hn]
  rfl

/-- How many moves are to come. -/
def toCome (l : List Move) (i : Nat) : Nat := (l.filter fun m => decide ((i : Int) ≤ m.step)).length

theorem toCome_step (i : Nat) : ∀ (l : List Move), toCome l (i + 1) ≤ toCome l i ∧ ∀ m, m ∈ l → m.step = (i : Int) → toCome l (i + 1) + 1 ≤ toCome l i
  | [] => ⟨by simp [toCome], fun m h => by cases h⟩
  | m :: l => by
    obtain ⟨h1, h2⟩ := toCome_step i l
    unfold toCome at h1 h2 ⊢
    simp only [List.filter_cons]
    refine ⟨?_, fun q hq he => ?_⟩
    · by_cases a : ((i + 1 : Nat) : Int) ≤ m.step
      · rw [if_pos (by simpa using a), if_pos (by simp; omega)]
        simp only [List.length_cons]; omega
      · rw [if_neg (by simpa using a)]
        split
        · simp only [List.length_cons]; omega
        · omega
    · rcases List.mem_cons.1 hq with rfl | hq
      · rw [if_neg (by simp; omega), if_pos (by simp; omega)]
        simp only [List.length_cons]; omega
      · have h3 := h2 q hq he
        by_cases a : ((i + 1 : Nat) : Int) ≤ m.step
        · rw [if_pos (by simpa using a), if_pos (by simp; omega)]
          simp only [List.length_cons]; omega
        · rw [if_neg (by simpa using a)]
          split
          · simp only [List.length_cons]; omega
          · omega

theorem toCome_le (l : List Move) (i : Nat) : toCome l i ≤ l.length := by
  unfold toCome
  exact List.length_filter_le ..

theorem step_word {fu : Nat} {a0 : Nat × T Int} {M : Mem} {c : Cap} : D.prog_Prog_uint64_Step fu a0 M c = stepG fu a0 M c := rfl

/-- How a guard stands ahead of step i. -/
def GuardAt (p : Plan) (A s : Int) (l : List Move) (i : Nat) (ws : List Int) (t : T Int) : Prop :=
  (i = 0 ∧ t = .act 0 A 0 0 (fun x => D.hazard_guard 2001 p 0 1 A s x)) ∨
  (∃ k w, 2000 ≤ k + i ∧ t = D.hazard_guard (k + 1) p 0 1 A s w ∧ rd ws A = w ∧ ¬ w / 2 ^ s.toNat - 1 < 0 ∧ i + 2 + 2 * toCome l i ≤ 43) ∨
  (∃ k w, 2000 ≤ k + i ∧ t = .act 0 A 0 0 (fun x => bif x == w then .done w else D.hazard_guard k p 0 1 A s x) ∧ 0 ≤ w ∧ w ≤ 255 ∧ ¬ w / 2 ^ s.toNat - 1 < 0 ∧ rd ws (D.plan_Plan_hazards p + 1) = w / 2 ^ s.toNat ∧
    ((rd ws A = w ∧ i + 1 + 2 * toCome l i ≤ 43) ∨ i + 3 + 2 * toCome l i ≤ 43))

structure GuardI (p : Plan) (A s : Int) (l : List Move) (i : Nat) (x : Bool × Int × Mem × (Nat × T Int)) : Prop where
  at_ : x.2.1 = (i : Int)
  len : Len p x.2.2.1.ws
  lo : 0 ≤ rd x.2.2.1.ws A
  hi : rd x.2.2.1.ws A ≤ 255
  deep : x.2.2.2.1 + i = 2000
  tree : GuardAt p A s l i x.2.2.1.ws x.2.2.2.2

theorem pure_HazardGuards (p : Plan) (shift : Int) (l : List Move) (_ : -9223372036854775808 ≤ p.nodes ∧ p.nodes ≤ 9223372036854775807) (_ : -9223372036854775808 ≤ p.threads ∧ p.threads ≤ 9223372036854775807)
    (_ : -9223372036854775808 ≤ p.retire ∧ p.retire ≤ 9223372036854775807) (_ : -9223372036854775808 ≤ p.domains ∧ p.domains ≤ 9223372036854775807) (_ : -9223372036854775808 ≤ p.buckets ∧ p.buckets ≤ 9223372036854775807)
    (_ : -9223372036854775808 ≤ p.gen ∧ p.gen ≤ 9223372036854775807) (hsh : 0 ≤ shift ∧ shift ≤ 255) (hlw : ∀ x, x ∈ l → (0 ≤ x.step ∧ x.step ≤ 255) ∧ (0 ≤ x.w ∧ x.w ≤ 255)) : ∃ fu, Wk.D.cubiclelaw10_HazardGuards fu p shift l = some true := by
  refine ⟨2000, ?_⟩
  unfold Wk.D.cubiclelaw10_HazardGuards
  rw [awake10]
  simp only [Option.bind_some, Bool.not_true, cond_false]
  cases hl : decide ((l.length : Int) > 20)
  case true => rfl
  cases hf : D.cubiclelaw10_fits p 0 0 0
  · rfl
  simp only [Bool.not_true, cond_false]
  cases hn2 : decide (p.nodes < 2)
  case true => rfl
  simp only [cond_false, Option.bind_some]
  obtain ⟨hp, hfw, ht, hs0, _, _⟩ := fits_eq hf
  obtain ⟨g1, g2, g3, g4⟩ := hz_in hp
  have hl : (l.length : Int) ≤ 20 := by simpa using hl
  have hn1 := hp.n1
  have ht1 := hp.t1
  obtain ⟨M, hM, hL⟩ := laid_eq hp hfw (fu := 2000) (by omega)
  have hlen := hL.len
  obtain ⟨s, hs, hs2⟩ : ∃ s : Int, IntKind.i64.wrap (shift.tmod 2) = s ∧ 0 ≤ s ∧ s < 2 := by
    rw [Int.tmod_eq_emod_of_nonneg hsh.1, wrap_small (by omega) (by omega)]
    exact ⟨_, rfl, by omega, by omega⟩
  obtain ⟨A, hA⟩ : ∃ A, A = D.plan_Plan_nodes p + 2 := ⟨_, rfl⟩
  have hF : D.plan_Plan_Field p 0 0 = A := by rw [Field_eq hp, if_pos (by omega)]; omega
  have hH : D.plan_Plan_Hazard p 0 1 = D.plan_Plan_hazards p + 1 := by rw [Hazard_eq hp, if_pos (by omega)]; omega
  simp only [hM, Option.bind_some, Cap_eq, hF, hs]
  rw [show guardI (decide (0 ≤ s)) = some () from by rw [show decide (0 ≤ s) = true from by simpa using hs2.1]; rfl]
  simp only [Option.bind_some]
  refine loop_invR (fun o => o = some true) (GuardI p A s l) 60 2000 ⟨rfl, hlen, ?_, ?_, rfl, .inl ⟨rfl, rfl⟩⟩ (by omega) ?_ ?_
  · show 0 ≤ rd M.ws A
    rw [hL.zero A (by omega) fun m _ _ => by omega]; omega
  · show rd M.ws A ≤ 255
    rw [hL.zero A (by omega) fun m _ _ => by omega]; omega
  · rintro i ⟨b, x, M1, d, t⟩ hi ⟨hx, hl1, hlo, hhi, hd, ht1⟩
    simp only at hx hl1 hlo hhi hd ht1 ⊢
    subst hx
    rw [show decide ((i : Int) < 60) = true from by simp; omega]
    simp only [cond_true]
    obtain ⟨hR, hR1⟩ := toCome_step i l
    refine loop_inv (fun o => (∃ x', o = some (Lp.next x') ∧ GuardI p A s l (i + 1) x') ∨ ∃ z, o = some (Lp.ret z) ∧ some z = some true) (fun (k : Nat) (x : Int × Mem) => x.1 = (k : Int) ∧ Len p x.2.ws ∧ 0 ≤ rd x.2.ws A ∧ rd x.2.ws A ≤ 255 ∧ (∀ j, 0 ≤ j → j ≠ A → rd x.2.ws j = rd M1.ws j) ∧ (rd x.2.ws A = rd M1.ws A ∨ toCome l (i + 1) + 1 ≤ toCome l i)) l.length 2000
      ⟨rfl, hl1, hlo, hhi, fun _ _ _ => rfl, .inl rfl⟩ (by omega) ?_ ?_
    · rintro k ⟨x, M2⟩ hk ⟨rfl, hl2, hlo2, hhi2, hk2, hc2⟩
      simp only at hl2 hlo2 hhi2 hk2 hc2 ⊢
      have hm : l[k] ∈ l := List.getElem_mem hk
      obtain ⟨⟨hst0, hst1⟩, hw0, hw1⟩ := hlw _ hm
      rw [show decide ((k : Int) < (l.length : Int)) = true from by simp; omega, getI_nat hk, wrap_small (show -1000000 ≤ (k : Int) + 1 by omega) (by omega)]
      simp only [cond_true, Option.bind_some]
      rw [wrap_small (x := l[k].step) (by omega) (by omega), wrapu_id (x := l[k].w) (by omega) (by omega)]
      unfold Len at hl2
      by_cases e : l[k].step = (i : Int)
      · rw [show (l[k].step == (i : Int)) = true from by simpa using e]
        obtain ⟨c, hc⟩ := Do_ok (fu := 2000) (M := M2) (op := 1) (a := l[k].w) (b := 0) (by omega) (getI_rd (ws := M2.ws) (i := A) (by omega) (by omega))
        rw [show acted 1 A l[k].w 0 (rd M2.ws A) M2.ws = M2.ws.set A.toNat l[k].w from by simp [acted]] at hc
        simp only [cond_true, hc, Option.bind_some]
        have hr : ∀ j, 0 ≤ j → rd (M2.ws.set A.toNat l[k].w) j = if j = A then l[k].w else rd M2.ws j := fun j hj => rd_set (by omega) (by omega) hj
        refine ⟨_, rfl, by simp, by unfold Len; simpa using hl2, ?_, ?_, fun j hj hne => ?_, .inr (hR1 _ hm e)⟩
        · simp only; rw [hr A (by omega), if_pos rfl]; omega
        · simp only; rw [hr A (by omega), if_pos rfl]; omega
        · simp only; rw [hr j hj, if_neg hne]; exact hk2 j hj hne
      · rw [show (l[k].step == (i : Int)) = false from by simpa using e]
        simp only [cond_false, Option.bind_some]
        exact ⟨_, rfl, by simp, hl2, hlo2, hhi2, hk2, hc2⟩
    rintro ⟨x, M2⟩ ⟨rfl, hl2, hlo2, hhi2, hk2, hc2⟩
    simp only at hl2 hlo2 hhi2 hk2 hc2 ⊢
    rw [show decide ((l.length : Int) < (l.length : Int)) = false from by simp]
    refine ⟨_, rfl, ?_⟩
    unfold Len at hl2
    simp only
    rw [Peek_eq (by omega) (by omega), wrap_small (show -1000000 ≤ (i : Int) + 1 by omega) (by omega)]
    simp only [Option.bind_some]
    obtain ⟨d, rfl⟩ : ∃ q, d = q + 1 := ⟨d - 1, by omega⟩
    have hge : getI M2.ws A = some (rd M2.ws A) := getI_rd (by omega) (by omega)
    have hw2 : rd M2.ws A / 2 ^ s.toNat = rd M2.ws A / 2 ^ s.toNat := rfl
    have hnm := named_eq (w := rd M2.ws A) (sh := s) (by omega) (by omega) ⟨hs2.1, by omega⟩
    have over : ∀ (c : Int) (t' : T Int) (hz : rd M2.ws A / 2 ^ s.toNat - 1 < 0 ∨ rd M2.ws (D.plan_Plan_hazards p + 1) = rd M2.ws A / 2 ^ s.toNat),
        (Option.bind (bif ((0 : Int) == 0) then (bif (A == A) then (bif (rd M2.ws A == rd M2.ws A) then (bif (decide ((D.cubicleref10_Named (rd M2.ws A) s) < 0)) then (some true) else ((D.mem_Memory_Peek 2000 ⟨M2.ws, c⟩ 0 (D.plan_Plan_Hazard p 0 1)).bind (fun (x92 : Int) => (some (x92 == (IntKind.u64.wrap (IntKind.i64.wrap ((D.cubicleref10_Named (rd M2.ws A) s) + 1)))))))) else (some false)) else (some false)) else (some false)) (fun (x94 : Bool) => (some (Lp.ret (X := Bool × Int × Mem × (Nat × T Int)) x94)))) = some (Lp.ret true) := by
      intro c t' hz
      rw [hnm, hH, Peek_eq (by omega) (by simp only; omega)]
      rw [show ((0 : Int) == 0) = true from rfl, show (A == A) = true from by simp, show (rd M2.ws A == rd M2.ws A) = true from by simp]
      simp only [cond_true, Option.bind_some]
      by_cases e : rd M2.ws A / 2 ^ s.toNat - 1 < 0
      · rw [show decide (rd M2.ws A / 2 ^ s.toNat - 1 < 0) = true from by simpa using e]; rfl
      · have hz := hz.resolve_left e
        have hq : rd M2.ws A / 2 ^ s.toNat ≤ rd M2.ws A := Int.ediv_le_self _ hlo2
        rw [show decide (rd M2.ws A / 2 ^ s.toNat - 1 < 0) = false from by simpa using e, hz, show rd M2.ws A / 2 ^ s.toNat - 1 + 1 = rd M2.ws A / 2 ^ s.toNat from by omega,
          wrap_id (x := rd M2.ws A / 2 ^ s.toNat) (by omega) (by omega), wrapu_id (x := rd M2.ws A / 2 ^ s.toNat) (by omega) (by omega)]
        simp
    rcases ht1 with ⟨rfl, rfl⟩ | ⟨k, w, hkk, rfl, hw, hnw, hm⟩ | ⟨k, w, hkk, rfl, hw0, hw1, hnw, hh, hm⟩
    · -- the first look
      obtain ⟨c, hc⟩ := stepG_ok (fu := 2000) (d := d) (M := M2) (op := 0) (at_ := A) (a := 0) (b := 0) (k := fun x => D.hazard_guard 2001 p 0 1 A s x) (by omega) hge
      rw [show acted 0 A 0 0 (rd M2.ws A) M2.ws = M2.ws from by simp [acted]] at hc
      rw [step_word, hc]
      show _ ∨ _
      simp only [D.prog_Prog_uint64_Access, D.prog_Prog_uint64_Over, isDone_act, isDone_done, T.acc, cond_false, Option.bind_some, Bool.not_true]
      by_cases e : rd M2.ws A / 2 ^ s.toNat - 1 < 0
      · rw [guard_over (by omega) (by omega) ⟨hs2.1, by omega⟩ e 2000]
        simp only [isDone_done, T.res, Bool.not_true, cond_false]
        exact .inr ⟨true, over c (.done 0) (.inl e), rfl⟩
      · have hb := guard_act hp (t := 0) (s := 1) (at_ := A) (sh := s) (w := rd M2.ws A) (by omega) (by omega) (by omega) (by omega) ⟨hs2.1, by omega⟩ e 2000
        have hnd : (D.hazard_guard 2001 p 0 1 A s (rd M2.ws A)).isDone = false := by rw [hb]; rfl
        rw [hnd]
        have := toCome_le l 0
        refine .inl ⟨_, rfl, rfl, hl2, hlo2, hhi2, by simp only; omega, .inr (.inl ⟨2000, _, by omega, rfl, rfl, e, ?_⟩)⟩
        omega
    · -- the hazard is set
      subst hw
      have hb := guard_act hp (t := 0) (s := 1) (at_ := A) (sh := s) (w := rd M1.ws A) (by omega) (by omega) (by omega) (by omega) ⟨hs2.1, by omega⟩ hnw k
      rw [hb]
      rw [show D.plan_Plan_hazards p + 0 * 3 + 1 = D.plan_Plan_hazards p + 1 from by omega]
      obtain ⟨c, hc⟩ := stepG_ok (fu := 2000) (d := d) (M := M2) (op := 1) (at_ := D.plan_Plan_hazards p + 1) (a := rd M1.ws A / 2 ^ s.toNat) (b := 0) (k := fun _ => .act 0 A 0 0 (fun x => bif x == rd M1.ws A then .done (rd M1.ws A) else D.hazard_guard k p 0 1 A s x)) (by omega) (getI_rd (by omega) (by omega))
      rw [show acted 1 (D.plan_Plan_hazards p + 1) (rd M1.ws A / 2 ^ s.toNat) 0 (rd M2.ws (D.plan_Plan_hazards p + 1)) M2.ws = M2.ws.set (D.plan_Plan_hazards p + 1).toNat (rd M1.ws A / 2 ^ s.toNat) from by simp [acted]] at hc
      have hr : ∀ j, 0 ≤ j → rd (M2.ws.set (D.plan_Plan_hazards p + 1).toNat (rd M1.ws A / 2 ^ s.toNat)) j = if j = D.plan_Plan_hazards p + 1 then rd M1.ws A / 2 ^ s.toNat else rd M2.ws j := fun j hj => rd_set (by omega) (by omega) hj
      rw [step_word, hc]
      show _ ∨ _
      simp only [D.prog_Prog_uint64_Access, D.prog_Prog_uint64_Over, isDone_act, isDone_done, T.acc, cond_false, cond_true, Option.bind_some, Bool.not_true, Bool.not_false]
      refine .inl ⟨_, rfl, rfl, by unfold Len; simpa using hl2, ?_, ?_, by simp only; omega, .inr (.inr ⟨k, _, by omega, rfl, hlo, hhi, hnw, ?_, ?_⟩)⟩
      · simp only; rw [hr A (by omega), if_neg (by omega)]; exact hlo2
      · simp only; rw [hr A (by omega), if_neg (by omega)]; exact hhi2
      · simp only; rw [hr _ (by omega), if_pos rfl]
      · simp only
        rw [hr A (by omega), if_neg (by omega)]
        rcases hc2 with h | h
        · exact .inl ⟨h, by omega⟩
        · exact .inr (by omega)
    · -- the second look
      obtain ⟨c, hc⟩ := stepG_ok (fu := 2000) (d := d) (M := M2) (op := 0) (at_ := A) (a := 0) (b := 0) (k := fun x => bif x == w then .done w else D.hazard_guard k p 0 1 A s x) (by omega) hge
      rw [show acted 0 A 0 0 (rd M2.ws A) M2.ws = M2.ws from by simp [acted]] at hc
      rw [step_word, hc]
      show _ ∨ _
      simp only [D.prog_Prog_uint64_Access, D.prog_Prog_uint64_Over, isDone_act, isDone_done, T.acc, cond_false, Option.bind_some, Bool.not_true]
      by_cases ew : rd M2.ws A = w
      · rw [show (rd M2.ws A == w) = true from by simpa using ew]
        simp only [cond_true, isDone_done, T.res, Bool.not_true, cond_false]
        have hh2 : rd M2.ws (D.plan_Plan_hazards p + 1) = rd M2.ws A / 2 ^ s.toNat := by rw [hk2 _ (by omega) (by omega), hh, ew]
        have ho := over c (.done 0) (.inr hh2)
        rw [← ew]
        exact .inr ⟨true, ho, rfl⟩
      · rw [show (rd M2.ws A == w) = false from by simpa using ew]
        simp only [cond_false]
        obtain ⟨k, rfl⟩ : ∃ q, k = q + 1 := ⟨k - 1, by omega⟩
        by_cases e : rd M2.ws A / 2 ^ s.toNat - 1 < 0
        · rw [guard_over (by omega) (by omega) ⟨hs2.1, by omega⟩ e k]
          simp only [isDone_done, T.res, Bool.not_true, cond_false]
          exact .inr ⟨true, over c (.done 0) (.inl e), rfl⟩
        · have hb := guard_act hp (t := 0) (s := 1) (at_ := A) (sh := s) (w := rd M2.ws A) (by omega) (by omega) (by omega) (by omega) ⟨hs2.1, by omega⟩ e k
          have hnd : (D.hazard_guard (k + 1) p 0 1 A s (rd M2.ws A)).isDone = false := by rw [hb]; rfl
          rw [hnd]
          refine .inl ⟨_, rfl, rfl, hl2, hlo2, hhi2, by simp only; omega, .inr (.inl ⟨k, _, by omega, rfl, rfl, e, ?_⟩)⟩
          rcases hm with ⟨h1, h2⟩ | h2
          · rcases hc2 with h | h
            · exact absurd (h.trans h1) ew
            · omega
          · omega
  · rintro ⟨b, x, M1, d, t⟩ ⟨hx, hl1, hlo, hhi, hd, ht1⟩
    exfalso
    rcases ht1 with ⟨h, _⟩ | ⟨k, w, _, _, _, _, hm⟩ | ⟨k, w, _, _, _, _, _, _, hm⟩
    · omega
    · omega
    · rcases hm with ⟨_, hm⟩ | hm <;> omega

end Go.Proofs.Ytphnnjiaiemkcaa
