/- Nodes granted and retired, alone: what the programs come to, without the code. -/
import Derived.Test.YtphnnjiaiemkcaaGreatQakScany
import Derived.Test.YtphnnjiaiemkcaaGreatQakL12
namespace Go.Proofs.YtphnnjiaiemkcaaGreat
open Go.RowKit
theorem runGr {t : T Grant} {M : Mem} {ws' : List Int} {n : Nat} {most : Int} {r : Grant} {fu : Nat} (h : Runs t M.ws n r ws') (hm : (n : Int) ≤ most) (hm2 : most ≤ 1000000) (hn : n < fu) : ∃ c, D.prog_Run_Grant fu (fu, t) M cap0 most = some (r, (n : Int), true, ⟨ws', c⟩) := by
  have h2 := runG_eq (z := (⟨0, 0, 0⟩ : Grant)) (fu := fu) (d := fu) (most := most) h hm hm2 (Nat.le_of_lt hn) hn
  exact h2

theorem load_runsG {at_ : Int} {f : Int → T Grant} {ws ws' : List Int} {n : Nat} {r : Grant} (h0 : 0 ≤ at_) (h1 : at_ < ws.length) (h : Runs (f (rd ws at_)) ws n r ws') : Runs (D.prog_Load_Grant at_ f) ws (n + 1) r ws' := Runs.load h0 h1 h

theorem store_runsG {at_ w : Int} {f : Unit → T Grant} {ws ws' : List Int} {n : Nat} {r : Grant} (h0 : 0 ≤ at_) (h1 : at_ < ws.length) (h : Runs (f ()) (ws.set at_.toNat w) n r ws') : Runs (D.prog_Store_Grant at_ w f) ws (n + 1) r ws' := Runs.store h0 h1 h

/-- The place of a node's state. -/
def sp (p : Plan) (n : Int) : Int := D.plan_Plan_nodes p + n * 5

section
variable {p : Plan} (hp : PF p) {n : Int} (hn : 0 ≤ n ∧ n < p.nodes)
include hp hn
theorem sp_in : 0 < sp p n ∧ sp p n + 5 ≤ D.plan_Plan_Size p ∧ D.plan_Plan_State p n = sp p n := by
  have hN := nodes_le hp
  have hS := Size_eq hp
  refine ⟨by unfold sp; omega, by unfold sp; omega, by rw [st_at hp hn]; rfl⟩

end
theorem SF.live {s : State} (h : SF s) {k : Int} (hk : 0 ≤ k ∧ k ≤ 2) : SF (D.state_State_Live s k) := ⟨h.g0, h.g1, by show (0 : Int) ≤ 1; omega, by show (1 : Int) ≤ 3; omega, hk.1, hk.2⟩

theorem SF.retire {s : State} (h : SF s) : SF (D.state_State_Retire s) := ⟨h.g0, h.g1, by show (0 : Int) ≤ 2; omega, by show (2 : Int) ≤ 3; omega, h.k0, h.k1⟩

/-- What a node's state is. -/
def StAt (p : Plan) (ws : List Int) (n : Int) (s : State) : Prop := rd ws (sp p n) = D.state_State_Word s ∧ SF s

theorem StAt.of {p : Plan} {ws : List Int} {n : Int} {s : State} (h : StAt p ws n s) : D.state_Of (rd ws (sp p n)) = (s, true) := by rw [h.1]; exact of_word h.2

theorem grant_runs {p : Plan} (hp : PF p) {ws : List Int} {n k : Int} {s : State} (hn : 0 ≤ n ∧ n < p.nodes) (hl : Len p ws) (hs : StAt p ws n s) :
    Runs (D.alloc_grant p n k) ws 2 ⟨n, s.gen, 0⟩ (ws.set (sp p n).toNat (D.state_State_Word (D.state_State_Live s k))) := by
  obtain ⟨q1, q2, q3⟩ := sp_in hp hn
  unfold Len at hl
  unfold D.alloc_grant
  rw [q3]
  refine load_runsG (by omega) (by omega) ?_
  unfold D.alloc_grant_1
  rw [hs.of, q3]
  exact store_runsG (by omega) (by omega) (.done _ _)

/-- A node is popped, and granted. -/
theorem pop_grant {p : Plan} (hp : PF p) {ws : List Int} {n k : Int} {l : List Int} {g : Int} {s : State} (hF : FreeAt p ws (n :: l) g) (hnn : p.nodes ≤ 1000000) (hg : g < 1000000) (hs : StAt p ws n s) (hk : 0 ≤ k ∧ k ≤ 2) (J : Nat) {G : Int → T Grant} (hG : G n = D.alloc_grant p n k) :
    ∃ ws', Runs (T.bind (D.free_Pop (J + 1) p) G) ws 5 ⟨n, s.gen, 0⟩ ws' ∧ ws'.length = ws.length ∧ FreeAt p ws' l (g + 1) ∧ StAt p ws' n (D.state_State_Live s k) ∧ ∀ j, 0 < j → j ≠ sp p n → rd ws' j = rd ws j := by
  have hn := hF.range n (List.mem_cons_self ..)
  obtain ⟨q1, q2, q3⟩ := sp_in hp hn
  obtain ⟨hr, hF2⟩ := pop_runs hp hF hnn hg J
  have hN := nodes_le hp
  have hl := hF.len
  have hl2 := hF2.len
  have hs0 := hs.1
  generalize hu : ws.set (0 : Int).toNat ((g + 1) * 2097152 + first l) = u at hr hF2 hl2
  have hul : u.length = ws.length := by rw [← hu, List.length_set]
  have hur : ∀ j, 0 < j → rd u j = rd ws j := fun j hj => by rw [← hu, rd_set (by omega) (by omega) (by omega), if_neg (by omega)]
  have hsu : StAt p u n s := ⟨by rw [hur _ q1]; exact hs0, hs.2⟩
  have hg2 := grant_runs hp (k := k) hn hl2 hsu
  refine ⟨u.set (sp p n).toNat (D.state_State_Word (D.state_State_Live s k)), ?_, by rw [List.length_set, hul], ?_, ⟨?_, hs.2.live hk⟩, fun j hj hne => ?_⟩
  · exact (Runs.bind (g := G) hr (by rw [hG]; exact hg2)).cast (show 3 + 2 = 5 from rfl)
  · refine hF2.keep (by rw [List.length_set]) ?_ fun m hm => ?_
    · rw [rd_set (by omega) (by omega) (by omega), if_neg (by omega)]
    · have hmr := hF2.range m hm
      have : nx p m ≠ sp p n := by unfold nx sp; omega
      rw [rd_set (by omega) (by omega) (by unfold nx; omega), if_neg this]
  · rw [rd_set (by omega) (by omega) (by omega), if_pos rfl]
  · rw [rd_set (by omega) (by omega) (by omega), if_neg hne, hur j hj]

/-- A node is granted out of the list. -/
theorem new_pop {p : Plan} (hp : PF p) {ws : List Int} {n k t : Int} {l : List Int} {g : Int} {s : State} (hF : FreeAt p ws (n :: l) g) (hnn : p.nodes ≤ 1000000) (hg : g < 1000000) (hs : StAt p ws n s) (hk : 0 ≤ k ∧ k ≤ 2) (J : Nat) :
    ∃ ws', Runs (D.alloc_New (J + 1) p t k) ws 5 ⟨n, s.gen, 0⟩ ws' ∧ ws'.length = ws.length ∧ FreeAt p ws' l (g + 1) ∧ StAt p ws' n (D.state_State_Live s k) ∧ ∀ j, 0 < j → j ≠ sp p n → rd ws' j = rd ws j := by
  have hn := hF.range n (List.mem_cons_self ..)
  refine pop_grant hp hF hnn hg hs hk J (G := fun x => D.alloc_New_2 (J + 1) p k t (fun x => D.alloc_New_1 p k x) x) ?_
  unfold D.alloc_New_2
  rw [show (n != -1) = true from by simp; omega]
  rfl

/-- A node is retired, where there is room. -/
theorem stash_room {p : Plan} (hp : PF p) {ws : List Int} {t n : Int} {r : List Int} (ht : 0 ≤ t ∧ t < p.threads) (hn : 0 ≤ n ∧ n < p.nodes) (hnn : p.nodes ≤ 1000000) (hl : Len p ws) (h : RetAt p ws t r) (hf : (r.length : Int) < p.retire) (J : Nat) :
    ∃ ws', Runs (D.alloc_Stash J p t n) ws 3 n ws' ∧ ws'.length = ws.length ∧ RetAt p ws' t (r ++ [n]) ∧ ∀ j, 0 ≤ j → j ≠ rb p t → j ≠ rb p t + 1 + r.length → rd ws' j = rd ws j := by
  obtain ⟨ws', hr, hl', hR, ho⟩ := put_runs hp ht hn hnn hl h hf
  refine ⟨ws', ?_, hl', hR, ho⟩
  refine (Runs.bind (g := fun x => D.alloc_Stash_2 J n p t (fun x => D.alloc_Stash_1 n x) x) hr ?_).cast (show 3 + 0 = 3 from rfl)
  unfold D.alloc_Stash_2
  rw [show ((r.length : Int) + 1 != -1) = true from by simp; omega]
  exact .done _ _

theorem retire_room {p : Plan} (hp : PF p) {ws : List Int} {t n : Int} {r : List Int} {s : State} (ht : 0 ≤ t ∧ t < p.threads) (hn : 0 ≤ n ∧ n < p.nodes) (hnn : p.nodes ≤ 1000000) (hl : Len p ws) (h : RetAt p ws t r) (hf : (r.length : Int) < p.retire) (hs : StAt p ws n s) (J : Nat) :
    ∃ ws', Runs (D.alloc_Retire J p t n) ws 5 n ws' ∧ ws'.length = ws.length ∧ RetAt p ws' t (r ++ [n]) ∧ StAt p ws' n (D.state_State_Retire s) ∧ ∀ j, 0 ≤ j → j ≠ sp p n → j ≠ rb p t → j ≠ rb p t + 1 + r.length → rd ws' j = rd ws j := by
  obtain ⟨q1, q2, q3⟩ := sp_in hp hn
  obtain ⟨p1, p2, p3⟩ := rb_in hp ht
  have hN := nodes_le hp
  have hroom := h.room
  unfold Len at hl
  have hsp : D.plan_Plan_nodes p ≤ sp p n := by unfold sp; omega
  generalize hu : ws.set (sp p n).toNat (D.state_State_Word (D.state_State_Retire s)) = u
  have hul : u.length = ws.length := by rw [← hu, List.length_set]
  have hur : ∀ j, 0 ≤ j → rd u j = if j = sp p n then D.state_State_Word (D.state_State_Retire s) else rd ws j := fun j hj => by rw [← hu]; exact rd_set (by omega) (by omega) hj
  have hRu : RetAt p u t r := h.keep fun j h0 h1 => by rw [hur j (by omega), if_neg (by omega)]
  obtain ⟨ws', hr, hl', hR, ho⟩ := stash_room hp ht hn hnn (ws := u) (by unfold Len; omega) hRu hf J
  refine ⟨ws', ?_, by omega, hR, ⟨?_, hs.2.retire⟩, fun j h0 h1 h2 h3 => ?_⟩
  · unfold D.alloc_Retire
    rw [q3]
    refine load_runs (by omega) (by omega) ?_
    unfold D.alloc_Retire_1
    rw [hs.of, q3]
    refine store_runs (by omega) (by omega) ?_
    rw [hu]
    exact hr
  · rw [ho _ (by omega) (by omega) (by omega), hur _ (by omega), if_pos rfl]
  · rw [ho j h0 h2 h3, hur j h0, if_neg h1]

theorem few12_eq {p : Plan} (h : D.cubiclelaw12_few p = true) : PF p ∧ p.nodes ≤ 40 ∧ p.retire ≤ 40 ∧ p.domains ≤ 6 ∧ p.buckets ≤ 10 := by
  unfold D.cubiclelaw12_few at h
  cases h1 : D.cubicleref06_Few p <;> rw [h1] at h
  · cases h
  have hp := ref_formed h
  exact ⟨hp, ref_few hp h1⟩

theorem s0_word : D.state_State_Word ⟨0, 0, 0⟩ = 0 := by rw [word_val ⟨by decide, by decide, by decide, by decide, by decide, by decide⟩]; rfl

theorem laid_state {p : Plan} (hp : PF p) {ws : List Int} (h : LaidAt p ws) {n : Int} (hn : 0 ≤ n ∧ n < p.nodes) : StAt p ws n ⟨0, 0, 0⟩ := by
  obtain ⟨q1, q2, q3⟩ := sp_in hp hn
  refine ⟨?_, by decide, by decide, by decide, by decide, by decide, by decide⟩
  rw [s0_word]
  exact h.zero _ q1 fun m _ _ => by unfold sp; omega

theorem laid_ret {p : Plan} (hp : PF p) {ws : List Int} (h : LaidAt p ws) {t : Int} (ht : 0 ≤ t ∧ t < p.threads) : RetAt p ws t [] := by
  obtain ⟨q1, q2, q3⟩ := rb_in hp ht
  have hr1 := hp.r1
  have ht1 := hp.t1
  exact ⟨h.zero _ q3 fun m _ _ => by omega, by simp; omega, fun i hi => (by cases hi), fun _ h => (by cases h)⟩

/-- The nodes below i are granted. -/
structure GrantI (p : Plan) (k : Int) (i : Nat) (ws : List Int) : Prop where
  free : FreeAt p ws ((List.range' i (p.nodes.toNat - i)).map fun (q : Nat) => (q : Int)) i
  ret : RetAt p ws 0 []
  live : ∀ n : Int, 0 ≤ n → n < i → StAt p ws n ⟨0, 1, k⟩
  rest : ∀ n : Int, i ≤ n → n < p.nodes → StAt p ws n ⟨0, 0, 0⟩

theorem GrantI.start {p : Plan} (hp : PF p) {ws : List Int} (h : LaidAt p ws) (k : Int) : GrantI p k 0 ws := by
  have hn1 := hp.n1
  have ht1 := hp.t1
  exact ⟨laid_free hp h, laid_ret hp h ⟨by omega, by omega⟩, fun n h0 h1 => by omega, fun n h0 h1 => laid_state hp h ⟨by omega, h1⟩⟩

theorem GrantI.step {p : Plan} (hp : PF p) (hnn : p.nodes ≤ 40) {k : Int} (hk : 0 ≤ k ∧ k ≤ 2) {i : Nat} {ws : List Int} (h : GrantI p k i ws) (hi : (i : Int) < p.nodes) (J : Nat) :
    ∃ ws', Runs (D.alloc_New (J + 1) p 0 k) ws 5 ⟨i, 0, 0⟩ ws' ∧ GrantI p k (i + 1) ws' ∧ ∀ j, 0 < j → j < D.plan_Plan_nodes p → rd ws' j = rd ws j := by
  have hN := nodes_le hp
  have ht1 := hp.t1
  obtain ⟨d, hd⟩ : ∃ d, p.nodes.toNat - i = d + 1 := ⟨p.nodes.toNat - i - 1, by omega⟩
  have hF := h.free
  rw [hd, List.range'_succ, List.map_cons] at hF
  have hs := h.rest i (by omega) hi
  obtain ⟨ws', hr, hl, hF2, hst, ho⟩ := new_pop hp (t := 0) hF (by omega) (by omega) hs hk J
  obtain ⟨p1, p2, p3⟩ := rb_in hp (t := 0) ⟨by omega, by omega⟩
  refine ⟨ws', hr, ⟨?_, h.ret.keep fun j h0 h1 => ho j (by omega) (by unfold sp; omega), fun n h0 h1 => ?_, fun n h0 h1 => ?_⟩, fun j h0 h1 => ho j h0 (by unfold sp; omega)⟩
  · rw [show p.nodes.toNat - (i + 1) = d from by omega]
    exact hF2
  · by_cases e : n = (i : Int)
    · subst e; exact hst
    · have hv := h.live n h0 (by omega)
      exact ⟨by rw [ho _ (by unfold sp; omega) (by unfold sp; omega)]; exact hv.1, hv.2⟩
  · have hv := h.rest n (by omega) h1
    exact ⟨by rw [ho _ (by unfold sp; omega) (by unfold sp; omega)]; exact hv.1, hv.2⟩

end Go.Proofs.YtphnnjiaiemkcaaGreat
