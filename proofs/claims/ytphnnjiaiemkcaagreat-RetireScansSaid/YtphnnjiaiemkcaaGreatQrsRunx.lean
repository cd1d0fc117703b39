/- Programs' trees run on words: what a run of a program comes to, without the code. -/
import Derived.Test.YtphnnjiaiemkcaaGreatQrsLaids
import Derived.Test.YtphnnjiaiemkcaaGreatQrsTools
namespace Go.Proofs.YtphnnjiaiemkcaaGreat
open Go.RowKit

/-- The words behind an access that is done. -/
def acted (op at_ a b x : Int) (ws : List Int) : List Int :=
  if op = 1 then ws.set at_.toNat a else if op = 2 then (if x = a then ws.set at_.toNat b else ws) else if op = 3 then ws.set at_.toNat (IntKind.u64.wrap (x + a)) else ws

/-- A tree comes to its end, in so many steps. -/
inductive Runs {R : Type} : T R → List Int → Nat → R → List Int → Prop
  | done (r : R) (ws : List Int) : Runs (.done r) ws 0 r ws
  | act {op at_ a b x : Int} {k : Int → T R} {ws ws' : List Int} {n : Nat} {r : R} (h1 : 0 ≤ op ∧ op ≤ 3) (h2 : getI ws at_ = some x) (h : Runs (k x) (acted op at_ a b x ws) n r ws') : Runs (.act op at_ a b k) ws (n + 1) r ws'

theorem Runs.bind {A B : Type} {t : T A} {g : A → T B} {ws ws' ws'' : List Int} {n m : Nat} {a : A} {b : B} (h : Runs t ws n a ws') (h2 : Runs (g a) ws' m b ws'') : Runs (t.bind g) ws (n + m) b ws'' := by
  induction h with
  | done r ws => simpa [T.bind] using h2
  | @act op at_ a b x k ws ws' n r h1 h3 _ ih =>
    have := Runs.act (k := fun x => (k x).bind g) h1 h3 (ih h2)
    rw [show n + 1 + m = n + m + 1 from by omega]
    exact this

/-- The good capability. -/
def cap0 : Cap := ⟨0, 1⟩

theorem Cap_eq (fu : Nat) (M : Mem) : D.mem_Memory_Cap fu M 0 = some cap0 := rfl

theorem Do_ok {fu : Nat} {M : Mem} {op at_ a b x : Int} (h1 : 0 ≤ op ∧ op ≤ 3) (h2 : getI M.ws at_ = some x) : ∃ c, D.mem_Memory_Do fu M cap0 ⟨op, at_, a, b⟩ = some (x, true, ⟨acted op at_ a b x M.ws, c⟩) := by
  obtain ⟨h3, h4, _, _⟩ := getI_lt h2
  refine ⟨IntKind.i64.wrap (M.cnt + 1), ?_⟩
  unfold D.mem_Memory_Do
  have hG : D.mem_Memory_Good fu M cap0 = some true := rfl
  have hS : D.mem_Memory_Size fu M cap0.region = some (M.ws.length : Int) := rfl
  simp only [hG, hS, Option.bind_some, Bool.not_true, cond_false]
  rw [show decide (at_ < 0) = false from by simp; omega, show decide (at_ ≥ (M.ws.length : Int)) = false from by simp; omega, show decide (op < 0) = false from by simp; omega, show decide (op > 3) = false from by simp; omega]
  simp only [cond_false, Option.bind_some]
  rw [show zeroI cap0.region = some () from rfl, h2]
  simp only [Option.bind_some]
  by_cases e1 : op = 1
  · subst e1
    simp [acted, Mem.put]
  rw [show (op == 1) = false from by simpa using e1]
  by_cases e2 : op = 2
  · subst e2
    by_cases e3 : x = a
    · subst e3; simp [acted, Mem.put]
    · rw [show (x == a) = false from by simpa using e3]
      simp [acted, e3]
  rw [show (op == 2) = false from by simpa using e2]
  by_cases e3 : op = 3
  · subst e3; simp [acted, Mem.put]
  rw [show (op == 3) = false from by simpa using e3]
  simp [acted, e1, e2, e3]

section
variable {R : Type}
/-- A step, for whatever comes out. -/
def stepG (fu : Nat) (a0 : Nat × T R) (a1 : Mem) (a2 : Cap) : Option ((Nat × T R) × Bool × Mem) := (bif a0.2.isDone then (some (a0, false, a1)) else ((D.mem_Memory_Do fu a1 a2 (T.acc a0.2)).bind (fun (x16 : Int × Bool × Mem) => (bif (!x16.2.1) then (some (a0, false, x16.2.2)) else ((depthI a0.1).bind (fun (x26 : Nat) => (some ((x26, T.next a0.2 x16.1), true, x16.2.2))))))))

def runG (z : R) (fu : Nat) (a0 : Nat × T R) (a1 : Mem) (a2 : Cap) (a3 : Int) : Option (R × Int × Bool × Mem) := (loopThen (fun (x13 : Int × Mem × (Nat × T R)) => (Option.bind (bif (decide (x13.1 < a3)) then (some (!x13.2.2.2.isDone)) else (some false)) (fun (x19 : Bool) => (bif x19 then ((stepG fu x13.2.2 x13.2.1 a2).bind (fun (x23 : (Nat × T R) × Bool × Mem) => (bif (!x23.2.1) then (some (Lp.brk (x13.1, x23.2.2, x13.2.2))) else (some (Lp.next ((IntKind.i64.wrap (x13.1 + 1)), x23.2.2, x23.1)))))) else (some (Lp.brk (x13.1, x13.2.1, x13.2.2))))))) fu (0, a1, a0) (fun (x37 : Int × Mem × (Nat × T R)) => (some (T.res z x37.2.2.2, x37.1, x37.2.2.2.isDone, x37.2.1))))

theorem stepG_ok {fu d : Nat} {M : Mem} {op at_ a b x : Int} {k : Int → T R} (h1 : 0 ≤ op ∧ op ≤ 3) (h2 : getI M.ws at_ = some x) : ∃ c, stepG fu (d + 1, .act op at_ a b k) M cap0 = some ((d, k x), true, ⟨acted op at_ a b x M.ws, c⟩) := by
  obtain ⟨c, hc⟩ := Do_ok (fu := fu) (a := a) (b := b) h1 h2
  refine ⟨c, ?_⟩
  unfold stepG
  show ((D.mem_Memory_Do fu M cap0 ⟨op, at_, a, b⟩).bind _) = _
  rw [hc]
  rfl

theorem runG_loop {z r : R} {fu : Nat} {most : Int} {ws' : List Int} {t : T R} {ws : List Int} {n : Nat} (h : Runs t ws n r ws') : ∀ (i : Int) (c : Int) (d q : Nat), 0 ≤ i → i + n ≤ most → most ≤ 1000000 → n ≤ d → n < q →
    ∃ c', loopThen (fun (x13 : Int × Mem × (Nat × T R)) => (Option.bind (bif (decide (x13.1 < most)) then (some (!x13.2.2.2.isDone)) else (some false)) (fun (x19 : Bool) => (bif x19 then ((stepG fu x13.2.2 x13.2.1 cap0).bind (fun (x23 : (Nat × T R) × Bool × Mem) => (bif (!x23.2.1) then (some (Lp.brk (x13.1, x23.2.2, x13.2.2))) else (some (Lp.next ((IntKind.i64.wrap (x13.1 + 1)), x23.2.2, x23.1)))))) else (some (Lp.brk (x13.1, x13.2.1, x13.2.2))))))) q (i, ⟨ws, c⟩, (d, t))
      (fun (x37 : Int × Mem × (Nat × T R)) => (some (T.res z x37.2.2.2, x37.1, x37.2.2.2.isDone, x37.2.1))) = some (r, i + n, true, ⟨ws', c'⟩) := by
  induction h with
  | done r ws =>
    intro i c d q _ _ _ _ hq
    obtain ⟨q, rfl⟩ : ∃ p, q = p + 1 := ⟨q - 1, by omega⟩
    refine ⟨c, ?_⟩
    have hb : ∀ b : Bool, ((bif b then some (!(T.done r).isDone) else some false) : Option Bool) = some false := fun b => by cases b <;> rfl
    simp only [loopThen, runLoop, hb, Option.bind_some, cond_false, goOn, afterLoop]
    simp [T.res, T.isDone]
  | @act op at_ a b x k ws ws' n r h1 h2 h ih =>
    intro i c d q hi hm hm2 hd hq
    obtain ⟨q, rfl⟩ : ∃ p, q = p + 1 := ⟨q - 1, by omega⟩
    obtain ⟨d, rfl⟩ : ∃ p, d = p + 1 := ⟨d - 1, by omega⟩
    obtain ⟨c1, hc1⟩ := stepG_ok (fu := fu) (d := d) (M := ⟨ws, c⟩) (a := a) (b := b) (k := k) h1 h2
    obtain ⟨c2, hc2⟩ := ih (i + 1) c1 d q (by omega) (by omega) hm2 (by omega) (by omega)
    refine ⟨c2, ?_⟩
    rw [show (i + ((n + 1 : Nat) : Int)) = i + 1 + n from by omega, ← hc2]
    simp only [loopThen, runLoop]
    rw [show decide (i < most) = true from by simp; omega]
    rw [show (!(T.act op at_ a b k).isDone) = true from rfl]
    simp only [cond_true, Option.bind_some, hc1, Bool.not_true, cond_false, goOn, wrap_small (show -1000000 ≤ i + 1 by omega) (by omega)]

theorem runG_eq {z r : R} {fu d : Nat} {most : Int} {t : T R} {M : Mem} {ws' : List Int} {n : Nat} (h : Runs t M.ws n r ws') (hm : (n : Int) ≤ most) (hm2 : most ≤ 1000000) (hd : n ≤ d) (hf : n < fu) : ∃ c', runG z fu (d, t) M cap0 most = some (r, (n : Int), true, ⟨ws', c'⟩) := by
  obtain ⟨c', hc⟩ := runG_loop (z := z) (fu := fu) (most := most) h 0 M.cnt d fu (by omega) (by omega) hm2 hd hf
  refine ⟨c', ?_⟩
  rw [Int.zero_add] at hc
  exact hc

end
theorem run_None {fu : Nat} {a0 : Nat × T Unit} {M : Mem} {c : Cap} {m : Int} : D.prog_Run_None fu a0 M c m = runG () fu a0 M c m := rfl

/-! ### Words by their places -/
/-- The word at a place. -/
def rd (ws : List Int) (i : Int) : Int := ws.getD i.toNat 0

theorem getI_rd {ws : List Int} {i : Int} (h0 : 0 ≤ i) (h1 : i < ws.length) : getI ws i = some (rd ws i) := by
  unfold getI rd
  rw [if_pos h0, List.getD_eq_getElem?_getD, List.getElem?_eq_getElem (by omega)]
  rfl

theorem rd_set {ws : List Int} {i j v : Int} (h0 : 0 ≤ i) (h1 : i < ws.length) (hj : 0 ≤ j) : rd (ws.set i.toNat v) j = if j = i then v else rd ws j := by
  unfold rd
  simp only [List.getD_eq_getElem?_getD, List.getElem?_set]
  by_cases h : j = i
  · subst h
    simp [show j.toNat < ws.length from by omega]
  · rw [if_neg (by omega), if_neg h]

theorem Runs.load {R : Type} {at_ : Int} {k : Int → T R} {ws ws' : List Int} {n : Nat} {r : R} (h0 : 0 ≤ at_) (h1 : at_ < ws.length) (h : Runs (k (rd ws at_)) ws n r ws') : Runs (.act 0 at_ 0 0 k) ws (n + 1) r ws' :=
  .act (by omega) (getI_rd h0 h1) (by simpa [acted] using h)

theorem Runs.store {R : Type} {at_ w : Int} {k : Int → T R} {ws ws' : List Int} {n : Nat} {r : R} (h0 : 0 ≤ at_) (h1 : at_ < ws.length) (h : Runs (k (rd ws at_)) (ws.set at_.toNat w) n r ws') : Runs (.act 1 at_ w 0 k) ws (n + 1) r ws' :=
  .act (by omega) (getI_rd h0 h1) (by simpa [acted] using h)

theorem wrapu_id {x : Int} (h0 : 0 ≤ x) (h1 : x < 18446744073709551616) : IntKind.u64.wrap x = x := by
  simp only [IntKind.wrap]
  simp [IntKind.signed, IntKind.bits]
  omega

theorem set_runs {at_ w : Int} {ws : List Int} (h0 : 0 ≤ at_) (h1 : at_ < ws.length) : Runs (D.prog_Set at_ w) ws 1 () (ws.set at_.toNat w) := .store h0 h1 (.done _ _)

/-! ### A memory that is laid out -/
theorem Size_le {p : Plan} (hp : PF p) (hfw : p.nodes ≤ 40 ∧ p.retire ≤ 40 ∧ p.domains ≤ 6 ∧ p.buckets ≤ 10) : D.plan_Plan_Size p ≤ 5000 ∧ 1 ≤ D.plan_Plan_nodes p := by
  have hc := cells_le hp
  have hcells : D.plan_Plan_cells p ≤ 10 := by
    unfold D.plan_Plan_cells maxI
    split <;> omega
  have hdm : p.domains * (1 + D.plan_Plan_cells p) ≤ 6 * 11 := Int.mul_le_mul hfw.2.2.1 (by omega) (by omega) (by omega)
  have htr : p.threads * (1 + p.retire) ≤ 16 * 41 := Int.mul_le_mul hp.t2 (by omega) (by have := hp.r1; have := hp.t1; omega) (by omega)
  have := hp.t2
  have hN := nodes_le hp
  rw [Size_eq hp]
  have := nodes_eq hp
  exact ⟨by omega, hN.1⟩

theorem fresh_runs {p : Plan} (hp : PF p) (hfw : p.nodes ≤ 40) : ∀ (d : Nat) (n : Int) (k : Nat) (ws : List Int), n + d = p.nodes → 0 ≤ n → d < k → (ws.length : Int) = D.plan_Plan_Size p →
    ∃ ws', Runs (D.free_fresh k p n) ws (d + 1) () ws' ∧ ws'.length = ws.length ∧ rd ws' 0 = 1 ∧
      (∀ m, n ≤ m → m < p.nodes → rd ws' (D.plan_Plan_nodes p + m * 5 + 1) = if m + 1 = p.nodes then 0 else m + 2) ∧
      ∀ j, 0 < j → (∀ m, n ≤ m → m < p.nodes → j ≠ D.plan_Plan_nodes p + m * 5 + 1) → rd ws' j = rd ws j := by
  have hN := nodes_le hp
  have hS := Size_eq hp
  have hn1 := hp.n1
  intro d
  induction d with
  | zero =>
    intro n k ws hnd hn hk hl
    obtain ⟨k, rfl⟩ : ∃ q, k = q + 1 := ⟨k - 1, by omega⟩
    have hnn : n = p.nodes := by omega
    subst hnn
    refine ⟨ws.set (0 : Int).toNat 1, ?_, by simp, ?_, fun m h1 h2 => by omega, fun j hj _ => ?_⟩
    · show Runs (D.free_fresh_body (D.free_fresh k) p p.nodes) ws 1 () _
      unfold D.free_fresh_body
      rw [show (p.nodes == p.nodes) = true from by simp]
      simp only [cond_true]
      rw [Head_eq hp]
      exact set_runs (by omega) (by omega)
    · rw [rd_set (by omega) (by omega) (by omega), if_pos rfl]
    · rw [rd_set (by omega) (by omega) (by omega), if_neg (by omega)]
  | succ d ih =>
    intro n k ws hnd hn hk hl
    obtain ⟨k, rfl⟩ : ∃ q, k = q + 1 := ⟨k - 1, by omega⟩
    have hnx : D.plan_Plan_Next p n = D.plan_Plan_nodes p + n * 5 + 1 := by rw [Next_eq hp, if_pos (by omega)]
    obtain ⟨v, hv⟩ : ∃ v, v = (if n + 1 = p.nodes then (0 : Int) else n + 2) := ⟨_, rfl⟩
    obtain ⟨ws', h1, h2, h3, h4, h5⟩ := ih (n + 1) k (ws.set (D.plan_Plan_nodes p + n * 5 + 1).toNat v) (by omega) (by omega) (by omega) (by simpa using hl)
    refine ⟨ws', ?_, by simpa using h2, h3, fun m hm1 hm2 => ?_, fun j hj hno => ?_⟩
    · show Runs (D.free_fresh_body (D.free_fresh k) p n) ws (d + 1 + 1) () _
      unfold D.free_fresh_body
      rw [show (n == p.nodes) = false from by simp; omega, wrap_small (show -1000000 ≤ n + 1 by omega) (by omega), hnx]
      simp only [cond_false]
      have hx : (bif n + 1 == p.nodes then 0 else D.free_link (n + 1)) = v := by
        rw [hv]
        by_cases e : n + 1 = p.nodes
        · rw [if_pos e, show (n + 1 == p.nodes) = true from by simpa using e]; rfl
        · rw [if_neg e, show (n + 1 == p.nodes) = false from by simpa using e]
          show D.free_link (n + 1) = n + 2
          unfold D.free_link
          rw [wrap_small (by omega) (by omega), wrapu_id (by omega) (by omega)]
          omega
      rw [hx]
      show Runs (.act 1 (D.plan_Plan_nodes p + n * 5 + 1) v 0 _) ws (d + 1 + 1) () _
      refine Runs.store (by omega) (by omega) ?_
      show Runs (D.free_fresh k p (IntKind.i64.wrap (n + 1))) _ _ _ _
      rw [wrap_small (by omega) (by omega)]
      exact h1
    · by_cases hmn : m = n
      · subst hmn
        rw [h5 _ (by omega) (fun q hq1 hq2 => by omega), rd_set (by omega) (by omega) (by omega), if_pos rfl, hv]
      · exact h4 m (by omega) hm2
    · rw [h5 j hj (fun m hm1 hm2 => hno m (by omega) hm2), rd_set (by omega) (by omega) (by omega), if_neg]
      exact hno n (by omega) (by omega)

/-- What is laid out: the list of free nodes; all else is 0. -/
structure LaidAt (p : Plan) (ws : List Int) : Prop where
  len : (ws.length : Int) = D.plan_Plan_Size p
  head : rd ws 0 = 1
  next : ∀ m, 0 ≤ m → m < p.nodes → rd ws (D.plan_Plan_nodes p + m * 5 + 1) = if m + 1 = p.nodes then 0 else m + 2
  zero : ∀ j, 0 < j → (∀ m, 0 ≤ m → m < p.nodes → j ≠ D.plan_Plan_nodes p + m * 5 + 1) → rd ws j = 0

theorem New_eq {fu : Nat} {n : Int} (hf : 3 ≤ fu) (h0 : 0 ≤ n) (h1 : n ≤ 16777216) : D.mem_New fu [n] = some (⟨zerosI n, 0⟩, 0) := by
  obtain ⟨k, rfl⟩ : ∃ k, fu = k + 3 := ⟨fu - 3, by omega⟩
  unfold D.mem_New
  have e0 : oneI [n] = some n := by
    show (if 0 ≤ n ∧ n ≤ 16777216 then some n else none) = some n
    rw [if_pos ⟨h0, h1⟩]
  simp only [loopThen, runLoop, e0]
  simp only [List.length_singleton, Int.natCast_one, Int.reduceLT, decide_true, decide_false, cond_true, cond_false, getI, List.getElem?_cons_zero, Option.bind_some, Int.toNat_zero, Int.le_refl, if_true, Int.reduceGT]
  rw [show decide (n < 0) = false from by simp; omega, show decide (n > 16777216) = false from by simp; omega]
  rfl

theorem laid_eq {p : Plan} (hp : PF p) (hfw : p.nodes ≤ 40 ∧ p.retire ≤ 40 ∧ p.domains ≤ 6 ∧ p.buckets ≤ 10) {fu : Nat} (hfu : 100 < fu) : ∃ M, D.cubiclelaw09_Laid fu p = some M ∧ LaidAt p M.ws := by
  obtain ⟨hs1, hs2⟩ := Size_le hp hfw
  have hn1 := hp.n1
  have hS := Size_eq hp
  have hl : ((zerosI (D.plan_Plan_Size p)).length : Int) = D.plan_Plan_Size p := by simp [zerosI]; omega
  obtain ⟨ws', h1, h2, h3, h4, h5⟩ := fresh_runs hp hfw.1 p.nodes.toNat 0 (fu + 1) (zerosI (D.plan_Plan_Size p)) (by omega) (by omega) (by omega) hl
  obtain ⟨c, hc⟩ := runG_eq (z := ()) (fu := fu) (d := fu) (most := p.nodes + 1) (M := ⟨zerosI (D.plan_Plan_Size p), 0⟩) h1 (by omega) (by omega) (by omega) (by omega)
  refine ⟨⟨ws', c⟩, ?_, by rw [← hl, ← h2], h3, h4, fun j hj hno => ?_⟩
  · unfold D.cubiclelaw09_Laid
    rw [New_eq (by omega) (by omega) (by omega)]
    simp only [Option.bind_some]
    rw [show ((0 : Int) != 0) = false from rfl]
    simp only [cond_false, Option.bind_some, Cap_eq, wrap_small (show -1000000 ≤ p.nodes + 1 by omega) (by omega)]
    rw [run_None]
    show (runG () fu (fu, D.free_fresh (fu + 1) p 0) _ _ _).bind _ = _
    rw [hc]
    rfl
  · rw [h5 j hj hno]
    unfold rd zerosI
    rw [List.getD_eq_getElem?_getD, List.getElem?_replicate]
    split <;> rfl

end Go.Proofs.YtphnnjiaiemkcaaGreat
