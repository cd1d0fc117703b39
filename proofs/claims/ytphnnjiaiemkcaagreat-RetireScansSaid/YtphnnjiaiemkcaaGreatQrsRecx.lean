/- Nodes that are popped, and reclaimed: what the programs come to, without the code. -/
import Derived.Test.YtphnnjiaiemkcaaGreatQrsL11
import Derived.Test.YtphnnjiaiemkcaaGreatQrsStatev
namespace Go.Proofs.YtphnnjiaiemkcaaGreat
open Go.RowKit

theorem runF {t : T Int} {M : Mem} {ws' : List Int} {n : Nat} {most : Int} {r : Int} {fu : Nat} (h : Runs t M.ws n r ws') (hm : (n : Int) ≤ most) (hm2 : most ≤ 1000000) (hn : n < fu) : ∃ c, D.prog_Run_int fu (fu, t) M cap0 most = some (r, (n : Int), true, ⟨ws', c⟩) :=
  runG_eq (z := 0) h hm hm2 (by omega) hn

theorem load_runs {at_ : Int} {f : Int → T Int} {ws ws' : List Int} {n : Nat} {r : Int} (h0 : 0 ≤ at_) (h1 : at_ < ws.length) (h : Runs (f (rd ws at_)) ws n r ws') : Runs (D.prog_Load_int at_ f) ws (n + 1) r ws' := Runs.load h0 h1 h

theorem store_runs {at_ w : Int} {f : Unit → T Int} {ws ws' : List Int} {n : Nat} {r : Int} (h0 : 0 ≤ at_) (h1 : at_ < ws.length) (h : Runs (f ()) (ws.set at_.toNat w) n r ws') : Runs (D.prog_Store_int at_ w f) ws (n + 1) r ws' := Runs.store h0 h1 h

section
variable {p : Plan} (hp : PF p) {n : Int} (hn : 0 ≤ n ∧ n < p.nodes)
include hp hn
theorem st_at : D.plan_Plan_State p n = D.plan_Plan_nodes p + n * 5 := by rw [State_eq hp, if_pos hn]

theorem fl_at {f : Int} (hf : 0 ≤ f ∧ f < 3) : D.plan_Plan_Field p n f = D.plan_Plan_nodes p + n * 5 + 2 + f := by rw [Field_eq hp, if_pos ⟨hn, hf⟩]

end
/-- The words of node n. -/
def ofNode (p : Plan) (n j : Int) : Prop := D.plan_Plan_nodes p + n * 5 ≤ j ∧ j < D.plan_Plan_nodes p + n * 5 + 5

/-- Nodes' fields are zero; then it goes on. -/
theorem zero_runs {p : Plan} (hp : PF p) {ws ws' : List Int} {n : Int} (hn : 0 ≤ n ∧ n < p.nodes) (hl : (ws.length : Int) = D.plan_Plan_Size p) {next : Unit → T Int} {m : Nat} {r : Int} (k : Nat)
    (h : Runs (next ()) (((ws.set (D.plan_Plan_nodes p + n * 5 + 2 + 0).toNat 0).set (D.plan_Plan_nodes p + n * 5 + 2 + 1).toNat 0).set (D.plan_Plan_nodes p + n * 5 + 2 + 2).toNat 0) m r ws') :
    Runs (D.retire_zero (k + 4) p n 0 next) ws (m + 3) r ws' := by
  have hS := Size_eq hp
  have hN := nodes_le hp
  have w1 : IntKind.i64.wrap ((0 : Int) + 1) = 1 := rfl
  have w2 : IntKind.i64.wrap ((1 : Int) + 1) = 2 := rfl
  have w3 : IntKind.i64.wrap ((2 : Int) + 1) = 3 := rfl
  show Runs (D.retire_zero_body (D.retire_zero (k + 3)) p n 0 next) _ _ _ _
  unfold D.retire_zero_body
  rw [fl_at hp hn (f := 0) (by omega)]
  refine store_runs (by omega) (by omega) ?_
  show Runs (D.retire_zero (k + 3) p n (IntKind.i64.wrap (0 + 1)) next) _ _ _ _
  rw [w1]
  show Runs (D.retire_zero_body (D.retire_zero (k + 2)) p n 1 next) _ _ _ _
  unfold D.retire_zero_body
  rw [fl_at hp hn (f := 1) (by omega)]
  refine store_runs (by omega) (by rw [List.length_set]; omega) ?_
  show Runs (D.retire_zero (k + 2) p n (IntKind.i64.wrap (1 + 1)) next) _ _ _ _
  rw [w2]
  show Runs (D.retire_zero_body (D.retire_zero (k + 1)) p n 2 next) _ _ _ _
  unfold D.retire_zero_body
  rw [fl_at hp hn (f := 2) (by omega)]
  refine store_runs (by omega) (by rw [List.length_set, List.length_set]; omega) ?_
  show Runs (D.retire_zero (k + 1) p n (IntKind.i64.wrap (2 + 1)) next) _ _ _ _
  rw [w3]
  exact h

/-- A list of free nodes stays, where neither the head nor its nodes' links are changed. -/
theorem FreeAt.keep {p : Plan} {ws ws' : List Int} {l : List Int} {g : Int} (h : FreeAt p ws l g) (hl : ws'.length = ws.length) (h0 : rd ws' 0 = rd ws 0) (hk : ∀ n, n ∈ l → rd ws' (nx p n) = rd ws (nx p n)) : FreeAt p ws' l g :=
  ⟨by rw [hl]; exact h.len, h0.trans h.head, h.g0, h.range, h.nodup, h.linked.keep hk⟩

/-- What a node that is reclaimed comes to. -/
structure Reclaimed (p : Plan) (n : Int) (t : State) (ws ws' : List Int) (l : List Int) (g : Int) : Prop where
  len : ws'.length = ws.length
  state : rd ws' (D.plan_Plan_nodes p + n * 5) = D.state_State_Word t
  fields : ∀ f, 0 ≤ f → f < 3 → rd ws' (D.plan_Plan_nodes p + n * 5 + 2 + f) = 0
  gone : t.mode = 3 → FreeAt p ws' l g
  free : t.mode ≠ 3 → FreeAt p ws' (n :: l) (g + 1)
  others : ∀ j, 0 < j → ¬ ofNode p n j → rd ws' j = rd ws j

theorem reclaim_runs {p : Plan} (hp : PF p) {ws : List Int} {n : Int} {l : List Int} {g : Int} (hn : 0 ≤ n ∧ n < p.nodes) (hnn : p.nodes ≤ 1000000) (hg : g < 1000000) (h : FreeAt p ws l g) (hno : n ∉ l) {t : State}
    (ht : t = D.state_State_Freed (D.state_Of (rd ws (D.plan_Plan_nodes p + n * 5))).1 p.gen) (k : Nat) :
    ∃ ws', Runs (D.retire_Reclaim (k + 4) p n) ws (if t.mode = 3 then 5 else 8) (if t.mode = 3 then -1 else n) ws' ∧ Reclaimed p n t ws ws' l g := by
  have hs := h.len
  have hS := Size_eq hp
  have hN := nodes_le hp
  obtain ⟨v, hv⟩ : ∃ v, v = ((ws.set (D.plan_Plan_nodes p + n * 5 + 2 + 0).toNat 0).set (D.plan_Plan_nodes p + n * 5 + 2 + 1).toNat 0).set (D.plan_Plan_nodes p + n * 5 + 2 + 2).toNat 0 := ⟨_, rfl⟩
  have hvl : v.length = ws.length := by rw [hv]; simp
  have hvr : ∀ j, 0 ≤ j → rd v j = if j = D.plan_Plan_nodes p + n * 5 + 2 + 2 ∨ j = D.plan_Plan_nodes p + n * 5 + 2 + 1 ∨ j = D.plan_Plan_nodes p + n * 5 + 2 + 0 then 0 else rd ws j := by
    intro j hj
    rw [hv, rd_set (by omega) (by simp; omega) hj]
    split
    · rw [if_pos (.inl ‹_›)]
    rw [rd_set (by omega) (by simp; omega) hj]
    split
    · rw [if_pos (.inr (.inl ‹_›))]
    rw [rd_set (by omega) (by omega) hj]
    split
    · rw [if_pos (.inr (.inr ‹_›))]
    rw [if_neg (by omega)]
  obtain ⟨u, hu⟩ : ∃ u, u = v.set (D.plan_Plan_nodes p + n * 5).toNat (D.state_State_Word t) := ⟨_, rfl⟩
  have hul : u.length = ws.length := by rw [hu, List.length_set, hvl]
  have hur : ∀ j, 0 ≤ j → rd u j = if j = D.plan_Plan_nodes p + n * 5 then D.state_State_Word t else rd v j := fun j hj => by rw [hu]; exact rd_set (by omega) (by omega) hj
  have huo : ∀ j, 0 ≤ j → (¬ ofNode p n j ∨ j = nx p n) → rd u j = rd ws j := by
    intro j hj hno
    unfold ofNode nx at hno
    rw [hur j hj, if_neg (by omega), hvr j hj, if_neg (by omega)]
  have hF : FreeAt p u l g := h.keep hul (huo 0 (by omega) (by unfold ofNode; omega)) fun m hm => by
    have hmr := h.range m hm
    have hne : m ≠ n := fun e => hno (e ▸ hm)
    exact huo _ (by unfold nx; omega) (.inl (by unfold ofNode nx; omega))
  have hfl : ∀ f, 0 ≤ f → f < 3 → rd u (D.plan_Plan_nodes p + n * 5 + 2 + f) = 0 := by
    intro f h0 h1
    rw [hur _ (by omega), if_neg (by omega), hvr _ (by omega), if_pos (by omega)]
  have hst : rd u (D.plan_Plan_nodes p + n * 5) = D.state_State_Word t := by rw [hur _ (by omega), if_pos rfl]
  have main : ∀ {m : Nat} {r : Int} {ws'' : List Int}, Runs (D.retire_Reclaim_1_1_1 (k + 4) t p n) u m r ws'' → Runs (D.retire_Reclaim (k + 4) p n) ws (m + 5) r ws'' := by
    intro m r ws'' hr
    show Runs (D.retire_zero (k + 4) p n 0 (fun _ => D.retire_Reclaim_1 (k + 4) p n)) ws (m + 2 + 3) r ws''
    refine zero_runs hp hn hs k ?_
    rw [← hv]
    show Runs (D.prog_Load_int (D.plan_Plan_State p n) (fun x => D.retire_Reclaim_1_1 (k + 4) p n x)) v (m + 1 + 1) r ws''
    rw [st_at hp hn]
    refine load_runs (by omega) (by omega) ?_
    show Runs (D.prog_Store_int (D.plan_Plan_State p n) (D.state_State_Word (D.state_State_Freed (D.state_Of (rd v (D.plan_Plan_nodes p + n * 5))).1 p.gen)) (fun _ => D.retire_Reclaim_1_1_1 (k + 4) (D.state_State_Freed (D.state_Of (rd v (D.plan_Plan_nodes p + n * 5))).1 p.gen) p n)) v (m + 1) r ws''
    rw [st_at hp hn, hvr _ (by omega), if_neg (by omega), ← ht]
    refine store_runs (by omega) (by omega) ?_
    rw [← hu]
    exact hr
  by_cases hm : t.mode = 3
  · refine ⟨u, ?_, ⟨hul, hst, hfl, fun _ => hF, fun h => absurd hm h, fun j hj hno => huo j (by omega) (.inl hno)⟩⟩
    rw [if_pos hm, if_pos hm]
    refine main (m := 0) ?_
    unfold D.retire_Reclaim_1_1_1
    rw [hm]
    exact .done _ _
  · obtain ⟨ws', h1, h2, h3⟩ := push_runs hp hF hnn hg hn hno (k + 3)
    have hl' : ws'.length = ws.length := by have := h2.len; omega
    refine ⟨ws', ?_, ⟨hl', ?_, fun f h0 h1 => ?_, fun h => absurd h hm, fun _ => h2, fun j hj hno => ?_⟩⟩
    · rw [if_neg hm, if_neg hm]
      refine main (m := 3) ?_
      unfold D.retire_Reclaim_1_1_1
      rw [show (t.mode == 3) = false from by simpa using hm]
      exact h1
    · rw [h3 _ (by omega) (by unfold nx; omega), hst]
    · rw [h3 _ (by omega) (by unfold nx; omega), hfl f h0 h1]
    · rw [h3 j hj (by intro e; apply hno; unfold ofNode; unfold nx at e; omega), huo j (by omega) (.inl hno)]

/-! ### All nodes are popped -/
/-- All nodes below i are popped, and have a state's word, and sevens. -/
structure Popped (p : Plan) (ws : List Int) (w : Int) (i : Nat) : Prop where
  free : FreeAt p ws ((List.range' i (p.nodes.toNat - i)).map fun (q : Nat) => (q : Int)) i
  state : ∀ n : Int, 0 ≤ n → n < i → rd ws (D.plan_Plan_nodes p + n * 5) = w
  field : ∀ n f : Int, 0 ≤ n → n < i → 0 ≤ f → f < 3 → rd ws (D.plan_Plan_nodes p + n * 5 + 2 + f) = 7
  zero : ∀ j, 0 < j → j < D.plan_Plan_nodes p → rd ws j = 0

theorem do_store {ws : List Int} {c at_ a : Int} {fu : Nat} (h0 : 0 ≤ at_) (h1 : at_ < ws.length) : ∃ x c', D.mem_Memory_Do fu ⟨ws, c⟩ cap0 ⟨1, at_, a, 0⟩ = some (x, true, ⟨ws.set at_.toNat a, c'⟩) := by
  obtain ⟨c', h⟩ := Do_ok (fu := fu) (M := ⟨ws, c⟩) (op := 1) (a := a) (b := 0) (by omega) (getI_rd h0 h1)
  exact ⟨rd ws at_, c', by rw [h]; simp [acted]⟩

theorem popped_eq {p : Plan} (hp : PF p) (hfw : p.nodes ≤ 40 ∧ p.retire ≤ 40 ∧ p.domains ≤ 6 ∧ p.buckets ≤ 10) (s : State) {fu : Nat} (hfu : 1000 ≤ fu) : ∃ M, D.cubiclelaw11_popped fu p s = some M ∧ Popped p M.ws (D.state_State_Word s) p.nodes.toNat := by
  have hn1 := hp.n1
  have hN := nodes_le hp
  have hS := Size_eq hp
  obtain ⟨M, hM, hL⟩ := laid_eq hp hfw (fu := fu) (by omega)
  have h0 := laid_free hp hL
  unfold D.cubiclelaw11_popped
  rw [hM]
  simp only [Option.bind_some, Cap_eq]
  refine loop_inv (fun o => ∃ M : Mem, o = some M ∧ Popped p M.ws (D.state_State_Word s) p.nodes.toNat) (fun (i : Nat) (x : Int × Mem) => x.1 = (i : Int) ∧ Popped p x.2.ws (D.state_State_Word s) i) p.nodes.toNat fu
    ⟨rfl, ⟨h0, fun n h1 h2 => by omega, fun n f h1 h2 => by omega, fun j h1 h2 => hL.zero j h1 fun m h3 h4 => by omega⟩⟩ (by omega) ?_ ?_
  · rintro i ⟨x, M⟩ hi ⟨rfl, hP⟩
    simp only at hP ⊢
    rw [show decide ((i : Int) < p.nodes) = true from by simp; omega]
    simp only [cond_true]
    have hF := hP.free
    obtain ⟨d, hd⟩ : ∃ d, p.nodes.toNat - i = d + 1 := ⟨p.nodes.toNat - i - 1, by omega⟩
    rw [hd, List.range'_succ, List.map_cons] at hF
    obtain ⟨hr, hF2⟩ := pop_runs hp hF (by omega) (by omega) fu
    obtain ⟨c, hc⟩ := runF (fu := fu) (most := 9) hr (by omega) (by omega) (by omega)
    have hp1 : (M.ws.length : Int) = D.plan_Plan_Size p := hF.len
    rw [hc]
    simp only [Option.bind_some]
    generalize hu : M.ws.set (0 : Int).toNat (((i : Int) + 1) * 2097152 + first ((List.range' (i + 1) d).map fun (q : Nat) => (q : Int))) = u at hF2
    have hul : u.length = M.ws.length := by rw [← hu, List.length_set]
    have hur : ∀ j, 0 < j → rd u j = rd M.ws j := fun j hj => by rw [← hu, rd_set (by omega) (by omega) (by omega), if_neg (by omega)]
    rw [st_at hp (n := (i : Int)) (by omega)]
    obtain ⟨x1, c1, hdo⟩ := do_store (fu := fu) (ws := u) (c := c) (at_ := D.plan_Plan_nodes p + (i : Int) * 5) (a := D.state_State_Word s) (by omega) (by omega)
    rw [hdo]
    simp only [Option.bind_some]
    generalize hv : u.set (D.plan_Plan_nodes p + (i : Int) * 5).toNat (D.state_State_Word s) = v
    have hvl : v.length = u.length := by rw [← hv, List.length_set]
    have hvr : ∀ j, 0 ≤ j → rd v j = if j = D.plan_Plan_nodes p + (i : Int) * 5 then D.state_State_Word s else rd u j := fun j hj => by rw [← hv]; exact rd_set (by omega) (by omega) hj
    refine loop_inv (fun o => ∃ x', o = some (Lp.next x') ∧ (fun (i : Nat) (x : Int × Mem) => x.1 = (i : Int) ∧ Popped p x.2.ws (D.state_State_Word s) i) (i + 1) x') (fun (f : Nat) (x : Int × Mem) => x.1 = (f : Int) ∧ x.2.ws.length = v.length ∧ (∀ j, 0 ≤ j → (∀ f', 0 ≤ f' → f' < 3 → j ≠ D.plan_Plan_nodes p + (i : Int) * 5 + 2 + f') → rd x.2.ws j = rd v j) ∧ ∀ f', 0 ≤ f' → f' < (f : Int) → rd x.2.ws (D.plan_Plan_nodes p + (i : Int) * 5 + 2 + f') = 7) 3 fu
      ⟨rfl, rfl, fun _ _ _ => rfl, fun f' h1 h2 => by omega⟩ (by omega) ?_ ?_
    · rintro f ⟨y, M3⟩ hf ⟨rfl, hl3, hk3, h73⟩
      simp only at hl3 hk3 h73 ⊢
      rw [show decide ((f : Int) < 3) = true from by simp; omega, fl_at hp (n := (i : Int)) (by omega) (by omega)]
      simp only [cond_true]
      obtain ⟨ws3, c3⟩ := M3
      obtain ⟨x2, c2, hdo2⟩ := do_store (fu := fu) (ws := ws3) (c := c3) (at_ := D.plan_Plan_nodes p + (i : Int) * 5 + 2 + (f : Int)) (a := 7) (by omega) (by simp only at hl3; omega)
      rw [hdo2, wrap_small (show -1000000 ≤ (f : Int) + 1 by omega) (by omega)]
      refine ⟨_, rfl, by simp, by simpa using hl3, fun j hj hno => ?_, fun f' h1 h2 => ?_⟩
      · simp only
        rw [rd_set (by omega) (by simp only at hl3; omega) hj, if_neg (hno f (by omega) (by omega))]
        exact hk3 j hj hno
      · simp only
        rw [rd_set (by omega) (by simp only at hl3; omega) (by omega)]
        split
        · rfl
        · exact h73 f' h1 (by omega)
    · rintro ⟨y, M3⟩ ⟨rfl, hl3, hk3, h73⟩
      simp only at hl3 hk3 h73 ⊢
      rw [show decide (((3 : Nat) : Int) < 3) = false from by simp, wrap_small (show -1000000 ≤ (i : Int) + 1 by omega) (by omega)]
      refine ⟨_, rfl, _, rfl, by simp, ⟨?_, fun n h1 h2 => ?_, fun n f h1 h2 h3 h4 => ?_, fun j h1 h2 => ?_⟩⟩
      · rw [show p.nodes.toNat - (i + 1) = d from by omega]
        refine hF2.keep (by simp only; omega) ?_ fun m hm => ?_
        · rw [hk3 0 (by omega) (fun _ _ _ => by omega), hvr 0 (by omega), if_neg (by omega)]
        · have hmr := hF2.range m hm
          unfold nx
          rw [hk3 _ (by omega) (fun _ _ _ => by omega), hvr _ (by omega), if_neg (by omega)]
      · simp only
        rw [hk3 _ (by omega) (fun _ _ _ => by omega), hvr _ (by omega)]
        split
        · rfl
        · rw [hur _ (by omega)]
          exact hP.state n h1 (by omega)
      · simp only
        by_cases hni : n = i
        · subst hni
          exact h73 f h3 h4
        · rw [hk3 _ (by omega) (fun _ _ _ => by omega), hvr _ (by omega), if_neg (by omega), hur _ (by omega)]
          exact hP.field n f h1 (by omega) h3 h4
      · simp only
        rw [hk3 _ (by omega) (fun _ _ _ => by omega), hvr _ (by omega), if_neg (by omega), hur _ h1]
        exact hP.zero j h1 h2
  · rintro ⟨x, M⟩ ⟨rfl, hP⟩
    simp only at hP ⊢
    rw [show decide ((p.nodes.toNat : Int) < p.nodes) = false from by simp; omega]
    exact ⟨_, rfl, _, rfl, hP⟩

theorem awake11b : D.cubiclelaw11_awake 5000 = some true := by decide +kernel

theorem few_eq {p : Plan} (h : D.cubiclelaw11_few p = true) : PF p ∧ p.nodes ≤ 40 ∧ p.retire ≤ 40 ∧ p.domains ≤ 6 ∧ p.buckets ≤ 10 := by
  unfold D.cubiclelaw11_few at h
  cases h1 : D.cubicleref06_Few p <;> rw [h1] at h
  · cases h
  have hp := ref_formed h
  exact ⟨hp, ref_few hp h1⟩

end Go.Proofs.YtphnnjiaiemkcaaGreat
