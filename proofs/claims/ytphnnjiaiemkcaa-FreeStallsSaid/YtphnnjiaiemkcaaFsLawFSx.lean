/- FreeStalls: what the walk found answers as the law says. -/
import Derived.Test.YtphnnjiaiemkcaaFsRef9x
import Derived.Test.YtphnnjiaiemkcaaFsLawFS
namespace Go.Proofs.Ytphnnjiaiemkcaa
open Go.RowKit
theorem Runs.inv_load {R : Type} {at_ a b : Int} {k : Int → T R} {ws ws' : List Int} {n : Nat} {r : R} (h : Runs (.act 0 at_ a b k) ws n r ws') (h0 : 0 ≤ at_) (h1 : at_ < ws.length) : ∃ m, n = m + 1 ∧ Runs (k (rd ws at_)) ws m r ws' := by
  cases h with
  | act h1' h2 h =>
    rw [getI_rd h0 h1] at h2
    cases h2
    exact ⟨_, rfl, by simpa [acted] using h⟩

theorem pop_act {p : Plan} (hp : PF p) (k : Nat) : D.free_Pop (k + 1) p = .act 0 0 0 0 (fun x => D.free_Pop_1 (D.free_Pop k) p x) := by
  show D.free_Pop_body (D.free_Pop k) p = _
  unfold D.free_Pop_body
  rw [Head_eq hp]; rfl

theorem pop1_act {p : Plan} (hp : PF p) {g n : Int} (hg : 0 ≤ g) (hg1 : g < 1000000) (hn : 0 ≤ n ∧ n < p.nodes) (hnn : p.nodes ≤ 1000000) (r : Plan → T Int) : D.free_Pop_1 r p (g * 2097152 + (n + 1)) = .act 0 (nx p n) 0 0 (fun x => D.free_Pop_1_1 r p (g * 2097152 + (n + 1)) n x) := by
  obtain ⟨q1, q2, q3⟩ := nx_in hp hn.1 hn.2
  unfold D.free_Pop_1
  rw [get_node (by omega) (by omega), show (g * 2097152 + (n + 1)) % 2097152 = n + 1 from by omega, wrap_id (x := n + 1) (by omega) (by omega), show n + 1 - 1 = n from by omega, wrap_id (x := n) (by omega) (by omega),
      show decide (n < 0) = false from by simp; omega, q3]
  rfl

theorem pop11_act {p : Plan} (hp : PF p) (h n x : Int) (r : Plan → T Int) : D.free_Pop_1_1 r p h n x = .act 2 0 h (D.free_turned h x) (fun y => bif !(y == h) then r p else .done n) := by
  unfold D.free_Pop_1_1
  rw [Head_eq hp]; rfl

def stalled (p : Plan) (x : Int) : Nat → T Int
  | 0 => D.free_Pop 2001 p
  | 1 => D.free_Pop_1 (D.free_Pop 2000) p 1
  | _ => D.free_Pop_1_1 (D.free_Pop 2000) p 1 0 x

theorem swap_fails {p : Plan} (hp : PF p) {ws : List Int} {x : Int} {m : Nat} {r : Int} {ws' : List Int} (hs : (ws.length : Int) = D.plan_Plan_Size p) (hne : rd ws 0 ≠ 1) (h : Runs (D.free_Pop 2000 p) ws m r ws') : Runs (D.free_Pop_1_1 (D.free_Pop 2000) p 1 0 x) ws (m + 1) r ws' := by
  have hN := nodes_le hp
  have hS := Size_eq hp
  have hn1 := hp.n1
  rw [pop11_act hp]
  refine .act (by omega) (getI_rd (by omega) (by omega)) ?_
  rw [show (rd ws 0 == 1) = false from by simpa using hne]
  have ha : acted 2 0 1 (D.free_turned 1 x) (rd ws 0) ws = ws := by simp [acted, hne]
  rw [ha]
  exact h

theorem stalled_runs {p : Plan} (hp : PF p) (hnn : p.nodes ≤ 1000000) {ws : List Int} {l : List Int} {g x : Int} (hF : FreeAt p ws l g) (hg : g < 1000000) (h0 : g = 0 → l = allN p ∧ rd ws (nx p 0) = x) (k : Nat) (hk : k ≤ 2) :
    ∃ (m : Nat) (ws' : List Int) (r : Int), m ≤ 6 ∧ Runs (stalled p x k) ws m r ws' ∧ (l = [] → r = -1 ∧ FreeAt p ws' [] g) ∧ ∀ n l', l = n :: l' → r = n ∧ FreeAt p ws' l' (g + 1) := by
  have hs := hF.len
  have hN := nodes_le hp
  have hS := Size_eq hp
  have hn1 := hp.n1
  have g0 := hF.g0
  obtain ⟨f1, f2⟩ := first_le hF.range (by omega)
  have base : ∀ K, ∃ (m : Nat) (ws' : List Int) (r : Int), m ≤ 3 ∧ Runs (D.free_Pop (K + 1) p) ws m r ws' ∧ (l = [] → r = -1 ∧ FreeAt p ws' [] g) ∧ ∀ n l', l = n :: l' → r = n ∧ FreeAt p ws' l' (g + 1) := by
    intro K
    cases l with
    | nil => exact ⟨1, ws, -1, by omega, pop_none hp hF hg K, fun _ => ⟨rfl, hF⟩, fun n l' h => by cases h⟩
    | cons n l =>
      obtain ⟨hr, hF2⟩ := pop_runs hp hF hnn hg K
      exact ⟨3, _, n, by omega, hr, fun h => (by cases h), fun n' l' h => by cases h; exact ⟨rfl, hF2⟩⟩
  have hz : g = 0 → rd ws 0 = 1 := fun e => by
    have hh := hF.head
    rw [(h0 e).1, e] at hh
    rw [hh]
    unfold allN
    obtain ⟨d, hd⟩ : ∃ d, p.nodes.toNat = d + 1 := ⟨p.nodes.toNat - 1, by omega⟩
    rw [hd, List.range'_succ, List.map_cons]
    simp [first]
  have hnz : g ≠ 0 → rd ws 0 ≠ 1 := fun e => by rw [hF.head]; omega
  obtain ⟨q1, q2, q3⟩ := nx_in hp (n := 0) (by omega) (by omega)
  match k, hk with
  | 0, _ =>
    obtain ⟨m, ws', r, h1, h2, h3, h4⟩ := base 2000
    exact ⟨m, ws', r, by omega, h2, h3, h4⟩
  | 1, _ =>
    have hp1 : D.free_Pop_1 (D.free_Pop 2000) p 1 = _ := pop1_act hp (g := 0) (n := 0) (by omega) (by omega) ⟨by omega, by omega⟩ hnn (D.free_Pop 2000)
    by_cases e : g = 0
    · obtain ⟨m, ws', r, h1, h2, h3, h4⟩ := base 2000
      rw [pop_act hp] at h2
      obtain ⟨m, rfl, h5⟩ := h2.inv_load (by omega) (by omega)
      rw [hz e] at h5
      exact ⟨m, ws', r, by omega, h5, h3, h4⟩
    · obtain ⟨m, ws', r, h1, h2, h3, h4⟩ := base 1999
      refine ⟨m + 2, ws', r, by omega, ?_, h3, h4⟩
      show Runs (D.free_Pop_1 (D.free_Pop 2000) p 1) ws (m + 1 + 1) r ws'
      rw [hp1]
      exact .load (by omega) (by omega) (swap_fails hp hs (hnz e) h2)
  | 2, _ =>
    have hp1 : D.free_Pop_1 (D.free_Pop 2000) p 1 = _ := pop1_act hp (g := 0) (n := 0) (by omega) (by omega) ⟨by omega, by omega⟩ hnn (D.free_Pop 2000)
    by_cases e : g = 0
    · obtain ⟨m, ws', r, h1, h2, h3, h4⟩ := base 2000
      rw [pop_act hp] at h2
      obtain ⟨m, rfl, h5⟩ := h2.inv_load (by omega) (by omega)
      rw [hz e, hp1] at h5
      obtain ⟨m, rfl, h6⟩ := h5.inv_load (by omega) (by omega)
      rw [(h0 e).2] at h6
      exact ⟨m, ws', r, by omega, h6, h3, h4⟩
    · obtain ⟨m, ws', r, h1, h2, h3, h4⟩ := base 1999
      exact ⟨m + 1, ws', r, by omega, swap_fails hp hs (hnz e) h2, h3, h4⟩

theorem step_int {fu : Nat} {a0 : Nat × T Int} {M : Mem} {c : Cap} : D.prog_Prog_int_Step fu a0 M c = stepG fu a0 M c := rfl

theorem stall_step {p : Plan} (hp : PF p) (hnn : p.nodes ≤ 1000000) {M : Mem} (hF : FreeAt p M.ws (allN p) 0) {fu : Nat} (i : Nat) (hi : i < 2) (d : Nat) : ∃ c, stepG fu (d + 1, stalled p (rd M.ws (nx p 0)) i) M cap0 = some ((d, stalled p (rd M.ws (nx p 0)) (i + 1)), true, ⟨M.ws, c⟩) := by
  have hs := hF.len
  have hN := nodes_le hp
  have hS := Size_eq hp
  have hn1 := hp.n1
  obtain ⟨q1, q2, q3⟩ := nx_in hp (n := 0) (by omega) (by omega)
  have hh : rd M.ws 0 = 1 := by
    rw [hF.head]
    unfold allN
    obtain ⟨d, hd⟩ : ∃ d, p.nodes.toNat = d + 1 := ⟨p.nodes.toNat - 1, by omega⟩
    rw [hd, List.range'_succ, List.map_cons]
    simp [first]
  match i, hi with
  | 0, _ =>
    show ∃ c, stepG fu (d + 1, D.free_Pop 2001 p) M cap0 = _
    rw [pop_act hp]
    obtain ⟨c, hc⟩ := stepG_ok (fu := fu) (d := d) (M := M) (op := 0) (at_ := 0) (a := 0) (b := 0) (k := fun x => D.free_Pop_1 (D.free_Pop 2000) p x) (by omega) (getI_rd (by omega) (by omega))
    refine ⟨c, ?_⟩
    rw [hc, hh]
    simp [acted, stalled]
  | 1, _ =>
    have hp1 : D.free_Pop_1 (D.free_Pop 2000) p 1 = _ := pop1_act hp (g := 0) (n := 0) (by omega) (by omega) ⟨by omega, by omega⟩ hnn (D.free_Pop 2000)
    show ∃ c, stepG fu (d + 1, D.free_Pop_1 (D.free_Pop 2000) p 1) M cap0 = _
    rw [hp1]
    obtain ⟨c, hc⟩ := stepG_ok (fu := fu) (d := d) (M := M) (op := 0) (at_ := nx p 0) (a := 0) (b := 0) (k := fun x => D.free_Pop_1_1 (D.free_Pop 2000) p (0 * 2097152 + (0 + 1)) 0 x) (by omega) (getI_rd (by omega) (by omega))
    refine ⟨c, ?_⟩
    rw [hc]
    simp [acted, stalled]

theorem pure_FreeStalls (p : Plan) (stop : Int) (pops : List Bool) (_ : -9223372036854775808 ≤ p.nodes ∧ p.nodes ≤ 9223372036854775807) (_ : -9223372036854775808 ≤ p.threads ∧ p.threads ≤ 9223372036854775807)
    (_ : -9223372036854775808 ≤ p.retire ∧ p.retire ≤ 9223372036854775807) (_ : -9223372036854775808 ≤ p.domains ∧ p.domains ≤ 9223372036854775807) (_ : -9223372036854775808 ≤ p.buckets ∧ p.buckets ≤ 9223372036854775807)
    (_ : -9223372036854775808 ≤ p.gen ∧ p.gen ≤ 9223372036854775807) (hst : 0 ≤ stop ∧ stop ≤ 255) : ∃ fu, Wk.D.cubiclelaw09_FreeStalls fu p stop pops = some true := by
  refine ⟨2000, ?_⟩
  unfold Wk.D.cubiclelaw09_FreeStalls
  rw [awake09]
  simp only [Option.bind_some, Bool.not_true, cond_false]
  cases hf : D.cubicleref06_Few p
  · rfl
  cases hg : D.cubicleref06_Formed p
  · rfl
  cases hl : decide ((pops.length : Int) > 40)
  case true => rfl
  simp only [Bool.not_true, cond_false, Option.bind_some]
  have hp := ref_formed hg
  have hfw := ref_few hp hf
  have hl : (pops.length : Int) ≤ 40 := by simpa using hl
  have hn1 := hp.n1
  have hN := nodes_le hp
  have hS := Size_eq hp
  obtain ⟨M, hM, hL⟩ := laid_eq hp hfw (fu := 2000) (by omega)
  have h0 := laid_free hp hL
  simp only [hM, Option.bind_some, Cap_eq]
  obtain ⟨k, hk, hk2⟩ : ∃ k : Nat, IntKind.i64.wrap (stop.tmod 3) = (k : Int) ∧ k ≤ 2 := by
    rw [Int.tmod_eq_emod_of_nonneg hst.1, wrap_small (by omega) (by omega)]
    exact ⟨(stop % 3).toNat, by omega, by omega⟩
  rw [hk]
  refine loop_inv (fun o => o = some true) (fun (i : Nat) (x : Int × Mem × (Nat × T Int)) => x.1 = (i : Int) ∧ x.2.1.ws = M.ws ∧ x.2.2.1 + i = 2000 ∧ x.2.2.2 = stalled p (rd M.ws (nx p 0)) i) k 2000 ⟨rfl, rfl, rfl, rfl⟩ (by omega) ?_ ?_
  · rintro i ⟨x, M1, d, t⟩ hi ⟨rfl, hw, hd, ht⟩
    simp only at hw hd ht ⊢
    subst ht
    rw [show decide ((i : Int) < (k : Int)) = true from by simp; omega, step_int]
    obtain ⟨d, rfl⟩ : ∃ q, d = q + 1 := ⟨d - 1, by omega⟩
    obtain ⟨c, hc⟩ := stall_step hp (by omega) (M := M1) (by rw [hw]; exact h0) (fu := 2000) i (by omega) d
    rw [hw] at hc
    rw [hc, wrap_small (show -1000000 ≤ (i : Int) + 1 by omega) (by omega)]
    exact ⟨_, rfl, by simp, rfl, by simp only; omega, rfl⟩
  rintro ⟨x, M1, d, t⟩ ⟨rfl, hw, hd, ht⟩
  simp only at hw hd ht ⊢
  subst ht
  rw [show decide ((k : Int) < (k : Int)) = false from by simp]
  refine ⟨_, rfl, ?_⟩
  simp only
  refine loop_inv (fun o => o = some true) (fun (i : Nat) (x : List Int × Int × Mem) => x.2.1 = (i : Int) ∧ ∃ (g : Int) (l : List Int), g ≤ i ∧ FreeAt p x.2.2.ws l g ∧ Parted p l x.1 ∧ (g = 0 → l = allN p ∧ rd x.2.2.ws (nx p 0) = rd M.ws (nx p 0))) pops.length 2000
    ⟨rfl, 0, allN p, by omega, by rw [hw]; exact h0, Parted.start hp h0, fun _ => ⟨rfl, by rw [hw]⟩⟩ (by omega) ?_ ?_
  · rintro i ⟨mine, x, M2⟩ hi ⟨rfl, g, l, hgi, hF, hP, hz⟩
    simp only at hgi hF hP hz ⊢
    have g0 := hF.g0
    have hlen := hP.len
    rw [show decide ((i : Int) < (pops.length : Int)) = true from by simp; omega, getI_nat hi, wrap_small (show -1000000 ≤ (i : Int) + 1 by omega) (by omega)]
    simp only [cond_true, Option.bind_some]
    cases hb : pops[i]
    · simp only [cond_false]
      cases mine with
      | nil => exact ⟨_, rfl, by simp, g, l, by omega, hF, hP, hz⟩
      | cons m ms =>
        rw [show decide (((m :: ms).length : Int) > 0) = true from by simp, show getI (m :: ms) 0 = some m from rfl]
        simp only [cond_true, Option.bind_some]
        have hm := hP.range m (List.mem_cons_self ..)
        obtain ⟨hP2, hno⟩ := hP.push
        obtain ⟨ws', hr, hF2, _⟩ := push_runs hp hF (by omega) (by omega) hm hno 2000
        obtain ⟨c, hc⟩ := runI (most := 9) hr (by omega) (by omega) (by omega)
        rw [hc]
        have hsl : sliceD (m :: ms) 1 ((m :: ms).length : Int) = some ms := by
          unfold sliceD
          rw [if_pos (by simp only [List.length_cons]; omega)]
          simp
        simp only [Option.bind_some, hsl]
        exact ⟨_, rfl, by simp, g + 1, m :: l, by omega, hF2, hP2, fun h => by omega⟩
    · simp only [cond_true]
      cases l with
      | nil =>
        obtain ⟨c, hc⟩ := runI (most := 9) (pop_none hp hF (by omega) 2000) (by omega) (by omega) (by omega)
        rw [hc]
        exact ⟨_, rfl, by simp, g, [], by omega, hF, hP, hz⟩
      | cons n l =>
        have hn := hF.range n (List.mem_cons_self ..)
        obtain ⟨hr, hF2⟩ := pop_runs hp hF (by omega) (by omega) 2000
        obtain ⟨c, hc⟩ := runI (most := 9) hr (by omega) (by omega) (by omega)
        rw [hc]
        simp only [Option.bind_some]
        have ha : appD mine [n] = some (mine ++ [n]) := by unfold appD; rw [if_pos (by simp only [Modest2, List.length_singleton]; simp at hlen; omega)]
        rw [show decide (n ≥ 0) = true from by simp; omega, ha]
        exact ⟨_, rfl, by simp, g + 1, l, by omega, hF2, hP.pop hn, fun h => by omega⟩
  rintro ⟨mine, x, M2⟩ ⟨rfl, g, l, hgi, hF, hP, hz⟩
  simp only at hgi hF hP hz ⊢
  rw [show decide ((pops.length : Int) < (pops.length : Int)) = false from by simp]
  refine ⟨_, rfl, ?_⟩
  simp only
  have g0 := hF.g0
  have hlen := hP.len
  obtain ⟨m, ws', r, hm, hr, hr1, hr2⟩ := stalled_runs hp (by omega) hF (by omega) hz k hk2
  obtain ⟨c, hc⟩ := runG_eq (z := 0) (fu := 2000) (d := d) (most := 9) (M := M2) hr (by omega) (by omega) (by omega) (by omega)
  have hc : D.prog_Run_int 2000 (d, stalled p (rd M.ws (nx p 0)) k) M2 cap0 9 = some (r, (m : Int), true, ⟨ws', c⟩) := hc
  rw [hc]
  simp only [Option.bind_some]
  cases l with
  | nil =>
    obtain ⟨rfl, hF2⟩ := hr1 rfl
    rw [list_eq hp (M := ⟨ws', c⟩) hF2 (by omega) (by simp; omega) (by omega) (by omega)]
    have : ((mine.length : Int) == p.nodes) = true := by simp at hlen ⊢; omega
    rw [this]
    rfl
  | cons n l =>
    obtain ⟨rfl, hF2⟩ := hr2 n l rfl
    have hn := hF.range r (List.mem_cons_self ..)
    have hP2 := hP.pop hn
    have hnd := List.nodup_append.1 hP.nodup
    have h1 : r ∉ l := (List.nodup_cons.1 hnd.1).1
    have h2 : r ∉ mine := fun h => hnd.2.2 r (List.mem_cons_self ..) r h rfl
    rw [list_eq hp (M := ⟨ws', c⟩) hF2 (by omega) (by simp at hlen; omega) (by omega) (by omega), show decide (r < 0) = false from by simp; omega]
    simp only [cond_true, cond_false, Option.bind_some]
    rw [has_eq (by simp at hlen; omega) (by simp at hlen; omega), show decide (r ∈ mine) = false from by simpa using h2]
    simp only [Bool.not_false, cond_true, Option.bind_some]
    rw [has_eq (by simp at hlen; omega) (by simp at hlen; omega), show decide (r ∈ l) = false from by simpa using h1]
    simp only [Bool.not_false, cond_true, Option.bind_some]
    simp at hlen
    rw [wrap_small (x := (l.length : Int) + (mine.length : Int)) (by omega) (by omega), wrap_small (by omega) (by omega)]
    show some _ = some true
    congr 1
    simp
    omega

end Go.Proofs.Ytphnnjiaiemkcaa
