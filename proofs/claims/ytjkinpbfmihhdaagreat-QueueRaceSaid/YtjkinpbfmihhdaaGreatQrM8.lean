/- Some of our texts, one behind the other. -/
import Derived.Test.YtjkinpbfmihhdaaGreatQrM7
import Derived.Test.YtjkinpbfmihhdaaGreatQrM4
import Derived.Test.YtjkinpbfmihhdaaGreatQrM2
import Derived.Test.YtjkinpbfmihhdaaGreatQrMems
set_option linter.all false
/- Programs' trees run on words: what a run of a program comes to, without the code. -/
namespace Go.Proofs.YtjkinpbfmihhdaaGreat
open Go.RowKit

/-- The words behind an access that is done. -/
def acted (op at_ a b x : Int) (ws : List Int) : List Int :=
  if op = 1 then ws.set at_.toNat a else if op = 2 then (if x = a then ws.set at_.toNat b else ws) else if op = 3 then ws.set at_.toNat (IntKind.u64.wrap (x + a)) else ws

/-- A tree comes to its end, in so many steps. -/
inductive Runs {R : Type} : T R → List Int → Nat → R → List Int → Prop
  | done (r : R) (ws : List Int) : Runs (.done r) ws 0 r ws
  | act {op at_ a b x : Int} {k : Int → T R} {ws ws' : List Int} {n : Nat} {r : R} (h1 : 0 ≤ op ∧ op ≤ 3) (h2 : getI ws at_ = some x) (h : Runs (k x) (acted op at_ a b x ws) n r ws') : Runs (.act op at_ a b k) ws (n + 1) r ws'

theorem Runs.bind {A B : Type} {t : T A} {g : A → T B} {ws ws' ws'' : List Int} {n m : Nat} {a : A} {b : B} (h : Runs t ws n a ws') (h2 : Runs (g a) ws' m b ws'') : Runs (t.bind g) ws (n + m) b ws'' := by
  induction h with
  | done r ws => simpa [T.bind] using h2
  | @act op at_ a b x k ws ws' n r h1 h3 _ ih =>
    have := Runs.act (k := fun x => (k x).bind g) h1 h3 (ih h2)
    rw [show n + 1 + m = n + m + 1 from by omega]
    exact this

/-- The good capability. -/
def cap0 : Cap := ⟨0, 1⟩

theorem Cap_eq (fu : Nat) (M : Mem) : D.zz1a fu M 0 = some cap0 := rfl

theorem Do_ok {fu : Nat} {M : Mem} {op at_ a b x : Int} (h1 : 0 ≤ op ∧ op ≤ 3) (h2 : getI M.ws at_ = some x) : ∃ c, D.zz2m fu M cap0 ⟨op, at_, a, b⟩ = some (x, true, ⟨acted op at_ a b x M.ws, c⟩) := by
  obtain ⟨h3, h4, _, _⟩ := getI_lt h2
  refine ⟨IntKind.i64.wrap (M.cnt + 1), ?_⟩
  unfold D.zz2m
  have hG : D.zz4v fu M cap0 = some true := rfl
  have hS : D.zz3h fu M cap0.region = some (M.ws.length : Int) := rfl
  simp only [hG, hS, Option.bind_some, Bool.not_true, cond_false]
  rw [show decide (at_ < 0) = false from by simp; omega, show decide (at_ ≥ (M.ws.length : Int)) = false from by simp; omega, show decide (op < 0) = false from by simp; omega, show decide (op > 3) = false from by simp; omega]
  simp only [cond_false, Option.bind_some]
  rw [show zeroI cap0.region = some () from rfl, h2]
  simp only [Option.bind_some]
  by_cases e1 : op = 1
  · subst e1
    simp [acted, Mem.put]
  rw [show (op == 1) = false from by simpa using e1]
  by_cases e2 : op = 2
  · subst e2
    by_cases e3 : x = a
    · subst e3; simp [acted, Mem.put]
    · rw [show (x == a) = false from by simpa using e3]
      simp [acted, e3]
  rw [show (op == 2) = false from by simpa using e2]
  by_cases e3 : op = 3
  · subst e3; simp [acted, Mem.put]
  rw [show (op == 3) = false from by simpa using e3]
  simp [acted, e1, e2, e3]

section
variable {R : Type}
/-- A step, for whatever comes out. -/
def stepG (fu : Nat) (a0 : Nat × T R) (a1 : Mem) (a2 : Cap) : Option ((Nat × T R) × Bool × Mem) := (bif a0.2.isDone then (some (a0, false, a1)) else ((D.zz2m fu a1 a2 (T.acc a0.2)).bind (fun (x16 : Int × Bool × Mem) => (bif (!x16.2.1) then (some (a0, false, x16.2.2)) else ((depthI a0.1).bind (fun (x26 : Nat) => (some ((x26, T.next a0.2 x16.1), true, x16.2.2))))))))

def runG (z : R) (fu : Nat) (a0 : Nat × T R) (a1 : Mem) (a2 : Cap) (a3 : Int) : Option (R × Int × Bool × Mem) := (loopThen (fun (x13 : Int × Mem × (Nat × T R)) => (Option.bind (bif (decide (x13.1 < a3)) then (some (!x13.2.2.2.isDone)) else (some false)) (fun (x19 : Bool) => (bif x19 then ((stepG fu x13.2.2 x13.2.1 a2).bind (fun (x23 : (Nat × T R) × Bool × Mem) => (bif (!x23.2.1) then (some (Lp.brk (x13.1, x23.2.2, x13.2.2))) else (some (Lp.next ((IntKind.i64.wrap (x13.1 + 1)), x23.2.2, x23.1)))))) else (some (Lp.brk (x13.1, x13.2.1, x13.2.2))))))) fu (0, a1, a0) (fun (x37 : Int × Mem × (Nat × T R)) => (some (T.res z x37.2.2.2, x37.1, x37.2.2.2.isDone, x37.2.1))))

theorem zzfh {fu d : Nat} {M : Mem} {op at_ a b x : Int} {k : Int → T R} (h1 : 0 ≤ op ∧ op ≤ 3) (h2 : getI M.ws at_ = some x) : ∃ c, stepG fu (d + 1, .act op at_ a b k) M cap0 = some ((d, k x), true, ⟨acted op at_ a b x M.ws, c⟩) := by
  obtain ⟨c, hc⟩ := Do_ok (fu := fu) (a := a) (b := b) h1 h2
  refine ⟨c, ?_⟩
  unfold stepG
  show ((D.zz2m fu M cap0 ⟨op, at_, a, b⟩).bind _) = _
  rw [hc]
  rfl

theorem zzfx {z r : R} {fu : Nat} {most : Int} {ws' : List Int} {t : T R} {ws : List Int} {n : Nat} (h : Runs t ws n r ws') : ∀ (i : Int) (c : Int) (d q : Nat), 0 ≤ i → i + n ≤ most → most ≤ 1000000 → n ≤ d → n < q →
    ∃ c', loopThen (fun (x13 : Int × Mem × (Nat × T R)) => (Option.bind (bif (decide (x13.1 < most)) then (some (!x13.2.2.2.isDone)) else (some false)) (fun (x19 : Bool) => (bif x19 then ((stepG fu x13.2.2 x13.2.1 cap0).bind (fun (x23 : (Nat × T R) × Bool × Mem) => (bif (!x23.2.1) then (some (Lp.brk (x13.1, x23.2.2, x13.2.2))) else (some (Lp.next ((IntKind.i64.wrap (x13.1 + 1)), x23.2.2, x23.1)))))) else (some (Lp.brk (x13.1, x13.2.1, x13.2.2))))))) q (i, ⟨ws, c⟩, (d, t))
      (fun (x37 : Int × Mem × (Nat × T R)) => (some (T.res z x37.2.2.2, x37.1, x37.2.2.2.isDone, x37.2.1))) = some (r, i + n, true, ⟨ws', c'⟩) := by
  induction h with
  | done r ws =>
    intro i c d q _ _ _ _ hq
    obtain ⟨q, rfl⟩ : ∃ p, q = p + 1 := ⟨q - 1, by omega⟩
    refine ⟨c, ?_⟩
    have hb : ∀ b : Bool, ((bif b then some (!(T.done r).isDone) else some false) : Option Bool) = some false := fun b => by cases b <;> rfl
    simp only [loopThen, runLoop, hb, Option.bind_some, cond_false, goOn, afterLoop]
    simp [T.res, T.isDone]
  | @act op at_ a b x k ws ws' n r h1 h2 h ih =>
    intro i c d q hi hm hm2 hd hq
    obtain ⟨q, rfl⟩ : ∃ p, q = p + 1 := ⟨q - 1, by omega⟩
    obtain ⟨d, rfl⟩ : ∃ p, d = p + 1 := ⟨d - 1, by omega⟩
    obtain ⟨c1, hc1⟩ := zzfh (fu := fu) (d := d) (M := ⟨ws, c⟩) (a := a) (b := b) (k := k) h1 h2
    obtain ⟨c2, hc2⟩ := ih (i + 1) c1 d q (by omega) (by omega) hm2 (by omega) (by omega)
    refine ⟨c2, ?_⟩
    rw [show (i + ((n + 1 : Nat) : Int)) = i + 1 + n from by omega, ← hc2]
    simp only [loopThen, runLoop]
    rw [show decide (i < most) = true from by simp; omega]
    rw [show (!(T.act op at_ a b k).isDone) = true from rfl]
    simp only [cond_true, Option.bind_some, hc1, Bool.not_true, cond_false, goOn, zzdl (show -1000000 ≤ i + 1 by omega) (by omega)]

theorem runG_eq {z r : R} {fu d : Nat} {most : Int} {t : T R} {M : Mem} {ws' : List Int} {n : Nat} (h : Runs t M.ws n r ws') (hm : (n : Int) ≤ most) (hm2 : most ≤ 1000000) (hd : n ≤ d) (hf : n < fu) : ∃ c', runG z fu (d, t) M cap0 most = some (r, (n : Int), true, ⟨ws', c'⟩) := by
  obtain ⟨c', hc⟩ := zzfx (z := z) (fu := fu) (most := most) h 0 M.cnt d fu (by omega) (by omega) hm2 hd hf
  refine ⟨c', ?_⟩
  rw [Int.zero_add] at hc
  exact hc

end
/-! ### Words by their places -/
/-- The word at a place. -/
def rd (ws : List Int) (i : Int) : Int := ws.getD i.toNat 0

theorem getI_rd {ws : List Int} {i : Int} (h0 : 0 ≤ i) (h1 : i < ws.length) : getI ws i = some (rd ws i) := by
  unfold getI rd
  rw [if_pos h0, List.getD_eq_getElem?_getD, List.getElem?_eq_getElem (by omega)]
  rfl

theorem Runs.load {R : Type} {at_ : Int} {k : Int → T R} {ws ws' : List Int} {n : Nat} {r : R} (h0 : 0 ≤ at_) (h1 : at_ < ws.length) (h : Runs (k (rd ws at_)) ws n r ws') : Runs (.act 0 at_ 0 0 k) ws (n + 1) r ws' :=
  .act (by omega) (getI_rd h0 h1) (by simpa [acted] using h)

theorem Runs.store {R : Type} {at_ w : Int} {k : Int → T R} {ws ws' : List Int} {n : Nat} {r : R} (h0 : 0 ≤ at_) (h1 : at_ < ws.length) (h : Runs (k (rd ws at_)) (ws.set at_.toNat w) n r ws') : Runs (.act 1 at_ w 0 k) ws (n + 1) r ws' :=
  .act (by omega) (getI_rd h0 h1) (by simpa [acted] using h)

/-! ### A memory that is laid out -/
/-- What is laid out: the list of free nodes; all else is 0. -/
structure LaidAt (p : Plan) (ws : List Int) : Prop where
  len : (ws.length : Int) = D.zz1y p
  head : rd ws 0 = 1
  next : ∀ m, 0 ≤ m → m < p.nodes → rd ws (D.zz0g p + m * 5 + 1) = if m + 1 = p.nodes then 0 else m + 2
  zero : ∀ j, 0 < j → (∀ m, 0 ≤ m → m < p.nodes → j ≠ D.zz0g p + m * 5 + 1) → rd ws j = 0

end Go.Proofs.YtjkinpbfmihhdaaGreat

/- Two programs, however their steps stand in one another: all states that are reached are looked at, each once. -/
namespace Go.Proofs.YtjkinpbfmihhdaaGreat
open Go.RowKit

/-- What a step of a tree comes to. -/
inductive Went (R : Type) where
  | over (r : R)
  | bad
  | went (x : Int) (ws : List Int)

section
variable {A B R : Type}
def went (t : T R) (ws : List Int) : Went R := match t with
  | .done r => .over r
  | .cut => .bad
  | .act op at_ a b _ => if 0 ≤ op ∧ op ≤ 3 then (match getI ws at_ with
    | some x => .went x (acted op at_ a b x ws)
    | none => .bad) else .bad

theorem zz63 {t : T R} {ws : List Int} {r : R} (h : went t ws = .over r) : t = .done r := by
  cases t with
  | done r' => simp only [went, Went.over.injEq] at h; rw [h]
  | cut => cases h
  | act op at_ a b k =>
    simp only [went] at h
    split at h
    · split at h <;> cases h
    · cases h

theorem zzf1 {t : T R} {ws ws' : List Int} {x : Int} (h : went t ws = .went x ws') : ∃ op at_ a b k, t = .act op at_ a b k ∧ (0 ≤ op ∧ op ≤ 3) ∧ getI ws at_ = some x ∧ ws' = acted op at_ a b x ws := by
  cases t with
  | done r' => cases h
  | cut => cases h
  | act op at_ a b k =>
    simp only [went] at h
    split at h
    · rename_i h1
      split at h
      · rename_i y h2
        simp only [Went.went.injEq] at h
        obtain ⟨rfl, rfl⟩ := h
        exact ⟨op, at_, a, b, k, rfl, h1, h2, rfl⟩
      · cases h
    · cases h

/-- However two programs' steps stand in one another: each is done, and in the end Q holds; in at most so many steps. -/
inductive Safe (Q : A → B → List Int → Prop) : Nat → T A → T B → List Int → Prop
  | over {n : Nat} {ra : A} {rb : B} {ws : List Int} (h : Q ra rb ws) : Safe Q n (.done ra) (.done rb) ws
  | left {n : Nat} {ta : T A} {rb : B} {ws ws' : List Int} {x : Int} (h1 : went ta ws = .went x ws') (h : Safe Q n (ta.next x) (.done rb) ws') : Safe Q (n + 1) ta (.done rb) ws
  | right {n : Nat} {ra : A} {tb : T B} {ws ws' : List Int} {x : Int} (h1 : went tb ws = .went x ws') (h : Safe Q n (.done ra) (tb.next x) ws') : Safe Q (n + 1) (.done ra) tb ws
  | both {n : Nat} {ta : T A} {tb : T B} {ws wa wb : List Int} {x y : Int} (h1 : went ta ws = .went x wa) (h2 : went tb ws = .went y wb) (h : Safe Q n (ta.next x) tb wa) (h' : Safe Q n ta (tb.next y) wb) : Safe Q (n + 1) ta tb ws

theorem Safe.mono {Q Q' : A → B → List Int → Prop} (hQ : ∀ a b w, Q a b w → Q' a b w) {n : Nat} {ta : T A} {tb : T B} {ws : List Int} (h : Safe Q n ta tb ws) : Safe Q' n ta tb ws := by
  induction h with
  | over h => exact .over (hQ _ _ _ h)
  | left h1 _ ih => exact .left h1 ih
  | right h1 _ ih => exact .right h1 ih
  | both h1 h2 _ _ ih ih' => exact .both h1 h2 ih ih'

theorem Runs.of_went {t : T R} {ws ws' ws'' : List Int} {x : Int} {n : Nat} {r : R} (h : went t ws = .went x ws') (h2 : Runs (t.next x) ws' n r ws'') : Runs t ws (n + 1) r ws'' := by
  obtain ⟨op, at_, a, b, k, rfl, h1, h3, rfl⟩ := zzf1 h
  exact .act h1 h3 h2

/-- The first one to its end, and then the other one. -/
theorem Safe.runs {Q : A → B → List Int → Prop} {n : Nat} {ta : T A} {tb : T B} {ws : List Int} (h : Safe Q n ta tb ws) : ∃ (m : Nat) (ra : A) (w1 : List Int) (m2 : Nat) (rb : B) (w2 : List Int), Runs ta ws m ra w1 ∧ Runs tb w1 m2 rb w2 ∧ m + m2 ≤ n ∧ Q ra rb w2 := by
  induction h with
  | over h => exact ⟨0, _, _, 0, _, _, .done _ _, .done _ _, by omega, h⟩
  | left h1 _ ih =>
    obtain ⟨m, ra, w1, m2, rb, w2, r1, r2, hm, hq⟩ := ih
    exact ⟨m + 1, ra, w1, m2, rb, w2, .of_went h1 r1, r2, by omega, hq⟩
  | right h1 _ ih =>
    obtain ⟨m, ra, w1, m2, rb, w2, r1, r2, hm, hq⟩ := ih
    cases r1 with
    | done => exact ⟨0, _, _, m2 + 1, rb, w2, .done _ _, .of_went h1 r2, by omega, hq⟩
  | both h1 h2 _ _ ih _ =>
    obtain ⟨m, ra, w1, m2, rb, w2, r1, r2, hm, hq⟩ := ih
    exact ⟨m + 1, ra, w1, m2, rb, w2, .of_went h1 r1, r2, by omega, hq⟩

theorem Safe.stepL {Q : A → B → List Int → Prop} {n : Nat} {ta : T A} {tb : T B} {ws : List Int} (h : Safe Q n ta tb ws) : ta.isDone = true ∨ ∃ m x ws', n = m + 1 ∧ went ta ws = .went x ws' ∧ Safe Q m (ta.next x) tb ws' := by
  cases h with
  | over h => exact .inl rfl
  | left h1 h => exact .inr ⟨_, _, _, rfl, h1, h⟩
  | right h1 h => exact .inl rfl
  | both h1 h2 h h' => exact .inr ⟨_, _, _, rfl, h1, h⟩

theorem Safe.stepR {Q : A → B → List Int → Prop} {n : Nat} {ta : T A} {tb : T B} {ws : List Int} (h : Safe Q n ta tb ws) : tb.isDone = true ∨ ∃ m x ws', n = m + 1 ∧ went tb ws = .went x ws' ∧ Safe Q m ta (tb.next x) ws' := by
  cases h with
  | over h => exact .inl rfl
  | left h1 h => exact .inl rfl
  | right h1 h => exact .inr ⟨_, _, _, rfl, h1, h⟩
  | both h1 h2 h h' => exact .inr ⟨_, _, _, rfl, h2, h'⟩

/-! ### States looked at, each once -/
def played (t : T R) : List Int → T R
  | [] => t
  | x :: h => (played t h).next x

/-- A state: what each was told (the last first), and the words. -/
structure RSt where
  ha : List Int
  hb : List Int
  ws : List Int
  deriving DecidableEq

/-- The next ones; none: something is wrong. -/
def succs (a : T A) (b : T B) (fin : A → B → List Int → Bool) (s : RSt) : Option (List RSt) :=
  match went (played a s.ha) s.ws, went (played b s.hb) s.ws with
  | .over ra, .over rb => if fin ra rb s.ws then some [] else none
  | .over _, .went y w => some [⟨s.ha, y :: s.hb, w⟩]
  | .went x w, .over _ => some [⟨x :: s.ha, s.hb, w⟩]
  | .went x w, .went y w' => some [⟨x :: s.ha, s.hb, w⟩, ⟨s.ha, y :: s.hb, w'⟩]
  | _, _ => none

def insR (l : List RSt) (s : RSt) : List RSt := if l.elem s then l else s :: l

def levelR (a : T A) (b : T B) (fin : A → B → List Int → Bool) : List RSt → List RSt → Option (List RSt)
  | [], acc => some acc
  | s :: l, acc => match succs a b fin s with
    | none => none
    | some ns => levelR a b fin l (ns.foldl insR acc)

def exploreR (a : T A) (b : T B) (fin : A → B → List Int → Bool) : Nat → List RSt → Bool
  | _, [] => true
  | 0, _ :: _ => false
  | n + 1, s :: l => match levelR a b fin (s :: l) [] with
    | none => false
    | some l' => exploreR a b fin n l'

theorem ins_old {l : List RSt} {s t : RSt} (h : t ∈ l) : t ∈ insR l s := by
  unfold insR
  split
  · exact h
  · exact List.mem_cons_of_mem _ h

theorem ins_new {l : List RSt} {s : RSt} : s ∈ insR l s := by
  unfold insR
  split
  · rename_i h; simpa using h
  · exact List.mem_cons_self ..

theorem zzeh : ∀ {ns l : List RSt} {t : RSt}, t ∈ l → t ∈ ns.foldl insR l
  | [], _, _, h => h
  | s :: ns, l, t, h => zzeh (ns := ns) (l := insR l s) (ins_old h)

theorem zzff : ∀ {ns l : List RSt} {t : RSt}, t ∈ ns → t ∈ ns.foldl insR l
  | s :: ns, l, t, h => by
    rcases List.mem_cons.1 h with rfl | h
    · exact zzeh (ns := ns) (l := insR l t) ins_new
    · exact zzff (ns := ns) (l := insR l s) h

theorem zzfj {a : T A} {b : T B} {fin : A → B → List Int → Bool} : ∀ {l acc l' : List RSt}, levelR a b fin l acc = some l' → (∀ t, t ∈ acc → t ∈ l') ∧ ∀ s, s ∈ l → ∃ ns, succs a b fin s = some ns ∧ ∀ t, t ∈ ns → t ∈ l'
  | [], acc, l', h => by
    obtain rfl := Option.some.inj h
    exact ⟨fun _ h => h, fun s hs => by cases hs⟩
  | s :: l, acc, l', h => by
    unfold levelR at h
    split at h
    · cases h
    · rename_i ns hns
      obtain ⟨h1, h2⟩ := zzfj h
      refine ⟨fun t ht => h1 t (zzeh ht), fun t ht => ?_⟩
      rcases List.mem_cons.1 ht with rfl | ht
      · exact ⟨ns, hns, fun t ht => h1 t (zzff ht)⟩
      · exact h2 t ht

theorem zzdt {a : T A} {b : T B} {fin : A → B → List Int → Bool} {Q : A → B → List Int → Prop} (hQ : ∀ ra rb ws, fin ra rb ws = true → Q ra rb ws) :
    ∀ {n : Nat} {l : List RSt}, exploreR a b fin n l = true → ∀ s, s ∈ l → Safe Q n (played a s.ha) (played b s.hb) s.ws
  | _, [], _, s, hs => by cases hs
  | 0, _ :: _, h, _, _ => by cases h
  | n + 1, s0 :: l, h, s, hs => by
    unfold exploreR at h
    split at h
    · cases h
    · rename_i l' hl
      obtain ⟨_, h2⟩ := zzfj hl
      obtain ⟨ns, hns, hin⟩ := h2 s hs
      have ih : ∀ t, t ∈ ns → Safe Q n (played a t.ha) (played b t.hb) t.ws := fun t ht => zzdt hQ h t (hin t ht)
      unfold succs at hns
      split at hns
      · rename_i ra rb e1 e2
        split at hns
        · rename_i hf
          rw [zz63 e1, zz63 e2]
          exact .over (hQ _ _ _ hf)
        · cases hns
      · rename_i ra y w e1 e2
        obtain rfl := Option.some.inj hns
        have := ih _ (List.mem_cons_self ..)
        rw [zz63 e1] at this ⊢
        exact .right e2 this
      · rename_i x w rb e1 e2
        obtain rfl := Option.some.inj hns
        have := ih _ (List.mem_cons_self ..)
        rw [zz63 e2] at this ⊢
        exact .left e1 this
      · rename_i x w y w' e1 e2
        obtain rfl := Option.some.inj hns
        exact .both e1 e2 (ih _ (List.mem_cons_self ..)) (ih _ (List.mem_cons_of_mem _ (List.mem_cons_self ..)))
      · cases hns

end
end Go.Proofs.YtjkinpbfmihhdaaGreat

/- Two programs in a race: what the laws' race comes to; words left open; words behind a race, gathered. -/
set_option linter.unusedVariables false
namespace Go.Proofs.YtjkinpbfmihhdaaGreat
open Go.RowKit

/-- The laws' race, for whatever results. -/
def raceG {R : Type} (z : R) (fu : Nat) (a0 : Nat × T R) (a1 : Nat × T R) (a2 : Mem) (a3 : List Bool) : Option (R × R × Bool × Mem) := (loopThen (fun (x17 : Int × (Nat × T R) × (Nat × T R) × Mem) => (bif (decide (x17.1 < (a3.length : Int))) then ((getI a3 x17.1).bind (fun (x22 : Bool) => (Option.bind (bif x22 then ((D.zz1a fu x17.2.2.2 0).bind (fun (x25 : Cap) => ((stepG fu x17.2.1 x17.2.2.2 x25).bind (fun (x26 : (Nat × T R) × Bool × Mem) => (some (x26.2.2, x26.1, x17.2.2.1)))))) else ((D.zz1a fu x17.2.2.2 0).bind (fun (x34 : Cap) => ((stepG fu x17.2.2.1 x17.2.2.2 x34).bind (fun (x35 : (Nat × T R) × Bool × Mem) => (some (x35.2.2, x17.2.1, x35.1))))))) (fun (x43 : Mem × (Nat × T R) × (Nat × T R)) => (some (Lp.next ((IntKind.i64.wrap (x17.1 + 1)), x43.2.1, x43.2.2, x43.1))))))) else (some (Lp.brk (x17.1, x17.2.1, x17.2.2.1, x17.2.2.2))))) fu (0, a0, a1, a2) (fun (x46 : Int × (Nat × T R) × (Nat × T R) × Mem) => ((D.zz1a fu x46.2.2.2 0).bind (fun (x49 : Cap) => ((runG z fu x46.2.1 x46.2.2.2 x49 600).bind (fun (x50 : R × Int × Bool × Mem) => ((D.zz1a fu x50.2.2.2 0).bind (fun (x53 : Cap) => ((runG z fu x46.2.2.1 x50.2.2.2 x53 600).bind (fun (x54 : R × Int × Bool × Mem) => (Option.bind (bif x50.2.2.1 then (some (x50.1, x54.1, x54.2.2.1)) else (some (x50.1, x54.1, false))) (fun (x61 : R × R × Bool) => (some (x61.1, x61.2.1, x61.2.2, x54.2.2.2))))))))))))))

section
variable {R : Type}
theorem zzdr {fu d : Nat} {t : T R} {M : Mem} {c : Cap} (h : t.isDone = true) : stepG fu (d, t) M c = some ((d, t), false, M) := by
  unfold stepG
  simp only [h, cond_true]

theorem zze5 {fu d : Nat} {t : T R} {M : Mem} {x : Int} {ws' : List Int} (h : went t M.ws = .went x ws') : ∃ c, stepG fu (d + 1, t) M cap0 = some ((d, t.next x), true, ⟨ws', c⟩) := by
  obtain ⟨op, at_, a, b, k, rfl, h1, h2, rfl⟩ := zzf1 h
  exact zzfh h1 h2

theorem zzfn {z : R} {Q : R → R → List Int → Prop} {n : Nat} {ta tb : T R} {M : Mem} {picks : List Bool} {fu : Nat} (h : Safe Q n ta tb M.ws) (hn : n ≤ 300) (hf : 700 ≤ fu) (hp : picks.length ≤ 60) :
    ∃ ra rb M', raceG z fu (fu, ta) (fu, tb) M picks = some (ra, rb, true, M') ∧ Q ra rb M'.ws := by
  unfold raceG
  simp only [Cap_eq, Option.bind_some]
  refine zzg5 (fun (o : Option (R × R × Bool × Mem)) => ∃ (ra rb : R) (M' : Mem), o = some (ra, rb, true, M') ∧ Q ra rb M'.ws) (fun (i : Nat) (x : Int × (Nat × T R) × (Nat × T R) × Mem) => x.1 = (i : Int) ∧ ∃ m, Safe Q m x.2.1.2 x.2.2.1.2 x.2.2.2.ws ∧ m ≤ n ∧ m ≤ x.2.1.1 ∧ m ≤ x.2.2.1.1) picks.length fu ⟨rfl, n, h, Nat.le_refl _, (show n ≤ fu by omega), (show n ≤ fu by omega)⟩ (by omega) ?_ ?_
  · rintro i ⟨x, ⟨da, ta⟩, ⟨db, tb⟩, M⟩ hi ⟨rfl, m, hs, hm, hda, hdb⟩
    simp only at hs hda hdb ⊢
    rw [show decide ((i : Int) < (picks.length : Int)) = true from by simp; omega, zzgd hi, zzdl (show -1000000 ≤ (i : Int) + 1 by omega) (by omega)]
    simp only [cond_true, Option.bind_some]
    cases picks[i]
    · simp only [cond_false]
      rcases hs.stepR with hd | ⟨m', y, ws', rfl, hw, hs'⟩
      · rw [zzdr hd]
        exact ⟨_, rfl, by simp, m, hs, hm, hda, hdb⟩
      · obtain ⟨db, rfl⟩ : ∃ q, db = q + 1 := ⟨db - 1, by omega⟩
        obtain ⟨c, hc⟩ := zze5 (fu := fu) (d := db) hw
        rw [hc]
        exact ⟨_, rfl, by simp, m', hs', by omega, by simp only; omega, by simp only; omega⟩
    · simp only [cond_true]
      rcases hs.stepL with hd | ⟨m', y, ws', rfl, hw, hs'⟩
      · rw [zzdr hd]
        exact ⟨_, rfl, by simp, m, hs, hm, hda, hdb⟩
      · obtain ⟨da, rfl⟩ : ∃ q, da = q + 1 := ⟨da - 1, by omega⟩
        obtain ⟨c, hc⟩ := zze5 (fu := fu) (d := da) hw
        rw [hc]
        exact ⟨_, rfl, by simp, m', hs', by omega, by simp only; omega, by simp only; omega⟩
  · rintro ⟨x, ⟨da, ta⟩, ⟨db, tb⟩, M⟩ ⟨rfl, m, hs, hm, hda, hdb⟩
    simp only at hs hda hdb ⊢
    rw [show decide ((picks.length : Int) < (picks.length : Int)) = false from by simp]
    refine ⟨_, rfl, ?_⟩
    simp only
    obtain ⟨m1, ra, w1, m2, rb, w2, r1, r2, hmm, hq⟩ := hs.runs
    obtain ⟨c1, h1⟩ := runG_eq (z := z) (fu := fu) (d := da) (most := 600) r1 (by omega) (by omega) (by omega) (by omega)
    rw [h1]
    simp only [Option.bind_some, cond_true]
    obtain ⟨c2, h2⟩ := runG_eq (z := z) (fu := fu) (d := db) (most := 600) (M := ⟨w1, c1⟩) r2 (by omega) (by omega) (by omega) (by omega)
    rw [h2]
    exact ⟨ra, rb, ⟨w2, c2⟩, rfl, hq⟩

end
/-! ### The words behind a race, gathered -/
section
variable {A B R : Type}
def insW (l : List (List Int)) (s : List Int) : List (List Int) := if l.elem s then l else s :: l

inductive Succ where
  | bad
  | fin (ws : List Int)
  | one (s : RSt)
  | two (s t : RSt)

def succT (a : T A) (b : T B) (fin : A → B → List Int → Bool) (s : RSt) : Succ :=
  match went (played a s.ha) s.ws, went (played b s.hb) s.ws with
  | .over ra, .over rb => if fin ra rb s.ws then .fin s.ws else .bad
  | .over _, .went y w => .one ⟨s.ha, y :: s.hb, w⟩
  | .went x w, .over _ => .one ⟨x :: s.ha, s.hb, w⟩
  | .went x w, .went y w' => .two ⟨x :: s.ha, s.hb, w⟩ ⟨s.ha, y :: s.hb, w'⟩
  | _, _ => .bad

/-- A level: the next states, and the words of those that are over. -/
def levelT (a : T A) (b : T B) (fin : A → B → List Int → Bool) : List RSt → List RSt → List (List Int) → Option (List RSt × List (List Int))
  | [], acc, W => some (acc, W)
  | s :: l, acc, W => match succT a b fin s with
    | .bad => none
    | .fin ws => levelT a b fin l acc (insW W ws)
    | .one t => levelT a b fin l (insR acc t) W
    | .two t u => levelT a b fin l (insR (insR acc t) u) W

def exploreT (a : T A) (b : T B) (fin : A → B → List Int → Bool) : Nat → List RSt → List (List Int) → Option (List (List Int))
  | _, [], W => some W
  | 0, _ :: _, _ => none
  | n + 1, s :: l, W => match levelT a b fin (s :: l) [] W with
    | none => none
    | some (l', W') => exploreT a b fin n l' W'

theorem zzg4 {l : List (List Int)} {s t : List Int} (h : t ∈ l) : t ∈ insW l s := by
  unfold insW
  split
  · exact h
  · exact List.mem_cons_of_mem _ h

theorem zzgb {l : List (List Int)} {s : List Int} : s ∈ insW l s := by
  unfold insW
  split
  · rename_i h; simpa using h
  · exact List.mem_cons_self ..

def SuccIn (l' : List RSt) (W' : List (List Int)) : Succ → Prop
  | .bad => False
  | .fin ws => ws ∈ W'
  | .one t => t ∈ l'
  | .two t u => t ∈ l' ∧ u ∈ l'

theorem zzad {a : T A} {b : T B} {fin : A → B → List Int → Bool} : ∀ {l acc l' : List RSt} {W W' : List (List Int)}, levelT a b fin l acc W = some (l', W') → (∀ t, t ∈ acc → t ∈ l') ∧ (∀ t, t ∈ W → t ∈ W') ∧ ∀ s, s ∈ l → SuccIn l' W' (succT a b fin s)
  | [], acc, l', W, W', h => by
    simp only [levelT, Option.some.injEq, Prod.mk.injEq] at h
    obtain ⟨rfl, rfl⟩ := h
    exact ⟨fun _ h => h, fun _ h => h, fun s hs => by cases hs⟩
  | s :: l, acc, l', W, W', h => by
    unfold levelT at h
    split at h
    · cases h
    · rename_i ws e
      obtain ⟨h1, h2, h3⟩ := zzad h
      refine ⟨h1, fun t ht => h2 t (zzg4 ht), fun t ht => ?_⟩
      rcases List.mem_cons.1 ht with rfl | ht
      · rw [e]; exact h2 ws zzgb
      · exact h3 t ht
    · rename_i u e
      obtain ⟨h1, h2, h3⟩ := zzad h
      refine ⟨fun t ht => h1 t (ins_old ht), h2, fun t ht => ?_⟩
      rcases List.mem_cons.1 ht with rfl | ht
      · rw [e]; exact h1 u ins_new
      · exact h3 t ht
    · rename_i u v e
      obtain ⟨h1, h2, h3⟩ := zzad h
      refine ⟨fun t ht => h1 t (ins_old (ins_old ht)), h2, fun t ht => ?_⟩
      rcases List.mem_cons.1 ht with rfl | ht
      · rw [e]; exact ⟨h1 u (ins_old ins_new), h1 v ins_new⟩
      · exact h3 t ht

theorem zzbz {a : T A} {b : T B} {fin : A → B → List Int → Bool} : ∀ {n : Nat} {l : List RSt} {W W' : List (List Int)}, exploreT a b fin n l W = some W' → ∀ t, t ∈ W → t ∈ W'
  | _, [], W, W', h, t, ht => by
    simp only [exploreT, Option.some.injEq] at h
    exact h ▸ ht
  | 0, _ :: _, _, _, h, _, _ => by cases h
  | n + 1, s0 :: l, W, W', h, t, ht => by
    unfold exploreT at h
    split at h
    · cases h
    · rename_i l' W2 hl
      exact zzbz h t ((zzad hl).2.1 t ht)

theorem zzcz {a : T A} {b : T B} {fin : A → B → List Int → Bool} : ∀ {n : Nat} {l : List RSt} {W W' : List (List Int)}, exploreT a b fin n l W = some W' → ∀ s, s ∈ l → Safe (fun ra rb ws => fin ra rb ws = true ∧ ws ∈ W') n (played a s.ha) (played b s.hb) s.ws
  | _, [], _, _, _, s, hs => by cases hs
  | 0, _ :: _, _, _, h, _, _ => by cases h
  | n + 1, s0 :: l, W, W', h, s, hs => by
    unfold exploreT at h
    split at h
    · cases h
    · rename_i l' W2 hl
      obtain ⟨_, _, h2⟩ := zzad hl
      have hin := h2 s hs
      have ih : ∀ t, t ∈ l' → Safe (fun ra rb ws => fin ra rb ws = true ∧ ws ∈ W') n (played a t.ha) (played b t.hb) t.ws := fun t ht => zzcz h t ht
      have hw : ∀ t, t ∈ W2 → t ∈ W' := zzbz h
      unfold succT at hin
      split at hin
      · rename_i ra rb e1 e2
        split at hin
        · rename_i hf
          rw [zz63 e1, zz63 e2]
          exact .over ⟨hf, hw _ hin⟩
        · exact hin.elim
      · rename_i ra y w e1 e2
        have := ih _ hin
        rw [zz63 e1] at this ⊢
        exact .right e2 this
      · rename_i x w rb e1 e2
        have := ih _ hin
        rw [zz63 e2] at this ⊢
        exact .left e1 this
      · rename_i x w y w' e1 e2
        exact .both e1 e2 (ih _ hin.1) (ih _ hin.2)
      · exact hin.elim

/-! ### All paths, with a word left open -/
end
end Go.Proofs.YtjkinpbfmihhdaaGreat

/- Written by a program of ours (wip/gen.py): states -/
set_option linter.unusedVariables false
set_option maxRecDepth 20000
set_option maxHeartbeats 2000000
namespace Go.Proofs.YtjkinpbfmihhdaaGreat
open Go.RowKit
theorem fo118_0 : fieldOff Tryz.prog 118 0 0 = true := by kernel_rfl

theorem fo118_1 : fieldOff Tryz.prog 118 1 1 = true := by kernel_rfl

theorem fo118_2 : fieldOff Tryz.prog 118 2 2 = true := by kernel_rfl

theorem ta118 : tyA Tryz.prog 118 3 = true := by kernel_rfl

theorem ts118 : sized Tryz.prog 118 3 = true := by kernel_rfl

theorem tz118 : zeroOf Tryz.prog 118 = some (.agg (stateC (⟨0, 0, 0⟩ : State)).toArray) := by kernel_rfl

def D.zz23 (a0 : State) (a1 : Int) : State := (⟨a0.gen, 1, a1⟩ : State)

theorem zzav (w0 : World) 
    (a0 : State) (a1 : Int) :
    Calls Tryz.prog 284 #[.agg (stateC a0).toArray, .int .i64 a1] w0 (PureRes (.agg (stateC (D.zz23 a0 a1)).toArray) w0) := by
 refine enter Tryz.func284 rfl 9 rfl rfl fun fr r => ?_
 have hB := Below.refl w0.heap.size w0
 refine wsr ?_
 refine seq_new (.cells ((stateC a0)).toArray 118 (0, 0)) r (fun R => y_box r (v := (.agg (stateC a0).toArray)) rfl) rfl fun fr b1 w2 n3 r => ?_
 obtain ⟨e_b1, z_w2, h_b1, hB, zB⟩ := n3.all hB
 refine seq_new (.cells ((stateC (⟨0, 0, 0⟩ : State))).toArray 118 (0, 0)) r (fun R => y_alloc tz118) rfl fun fr b4 w5 n6 r => ?_
 have h_b1 := keep n6.below h_b1
 obtain ⟨e_b4, z_w5, h_b4, hB, zB⟩ := n6.all hB
 refine wn ?_
 refine wsr ?_
 refine seq_val _ r (fun R => zz02 r (o := 0) rfl fo118_0) rfl fun fr r => ?_
 refine seq_val (I a0.gen) r (fun R => zz01 r rfl h_b1 to3 rfl) rfl fun fr r => ?_
 refine seq_val (I a1) r (fun R => y_move r rfl) rfl fun fr r => ?_
 refine seq_val (.agg (stateC (⟨a0.gen, 1, a1⟩ : State)).toArray) r (fun R => y_build r (by kernel_rfl)) rfl fun fr r => ?_
 refine seq_upd (.cells ((stateC (⟨a0.gen, 1, a1⟩ : State))).toArray 118 (0, 0)) r (fun R => y_store r (o := 0) (v := (.agg (stateC (⟨a0.gen, 1, a1⟩ : State)).toArray)) rfl rfl h_b4 ts118 (Nat.le_of_ble_eq_true rfl) rfl rfl) rfl fun fr w7 u8 r => ?_
 have z_w7 := u8.size
 have h_b1 := u8.keep h_b1 (by omega)
 have h_b4 := u8.at_
 obtain ⟨hB, zB⟩ := u8.on hB (by omega)
 refine wn ?_
 refine wp_ret ?_
 refine zz06 r rfl rfl h_b4 (k := 3) rfl ta118 ?_
 exact ⟨rfl, hB⟩

def D.zz11 (a0 : State) (a1 : Int) : State := (bif (decide (a0.gen ≥ a1)) then (⟨a0.gen, 3, 0⟩ : State) else (⟨(IntKind.i64.wrap (a0.gen + 1)), 0, 0⟩ : State))

theorem zz9x (w0 : World) 
    (a0 : State) (a1 : Int) :
    Calls Tryz.prog 341 #[.agg (stateC a0).toArray, .int .i64 a1] w0 (PureRes (.agg (stateC (D.zz11 a0 a1)).toArray) w0) := by
 refine enter Tryz.func341 rfl 16 rfl rfl fun fr r => ?_
 have hB := Below.refl w0.heap.size w0
 refine wsr ?_
 refine seq_new (.cells ((stateC a0)).toArray 118 (0, 0)) r (fun R => y_box r (v := (.agg (stateC a0).toArray)) rfl) rfl fun fr b1 w2 n3 r => ?_
 obtain ⟨e_b1, z_w2, h_b1, hB, zB⟩ := n3.all hB
 refine seq_new (.cells ((stateC (⟨0, 0, 0⟩ : State))).toArray 118 (0, 0)) r (fun R => y_alloc tz118) rfl fun fr b4 w5 n6 r => ?_
 have h_b1 := keep n6.below h_b1
 obtain ⟨e_b4, z_w5, h_b4, hB, zB⟩ := n6.all hB
 refine wn ?_
 refine wp_seq ?_
 refine wsr ?_
 refine seq_val _ r (fun R => zz02 r (o := 0) rfl fo118_0) rfl fun fr r => ?_
 refine seq_val (I a0.gen) r (fun R => zz01 r rfl h_b1 to3 rfl) rfl fun fr r => ?_
 refine seq_val (I a1) r (fun R => y_move r rfl) rfl fun fr r => ?_
 refine seq_val _ r (fun R => y_bin r rfl rfl rfl rfl) rfl fun fr r => ?_
 refine wn ?_
 refine wp_cond_split (t := (decide (a0.gen ≥ a1))) (r.ev rfl) (fun h7 => ?_) (fun h7 => ?_)
 ·
  refine wsr ?_
  refine seq_val _ r (fun R => zz02 r (o := 0) rfl fo118_0) rfl fun fr r => ?_
  refine seq_val (I a0.gen) r (fun R => zz01 r rfl h_b1 to3 rfl) rfl fun fr r => ?_
  refine seq_val (.agg (stateC (⟨a0.gen, 3, 0⟩ : State)).toArray) r (fun R => y_build r (by kernel_rfl)) rfl fun fr r => ?_
  refine seq_upd (.cells ((stateC (⟨a0.gen, 3, 0⟩ : State))).toArray 118 (0, 0)) r (fun R => y_store r (o := 0) (v := (.agg (stateC (⟨a0.gen, 3, 0⟩ : State)).toArray)) rfl rfl h_b4 ts118 (Nat.le_of_ble_eq_true rfl) rfl rfl) rfl fun fr w8 u9 r => ?_
  have z_w8 := u9.size
  have h_b1 := u9.keep h_b1 (by omega)
  have h_b4 := u9.at_
  obtain ⟨hB, zB⟩ := u9.on hB (by omega)
  refine wn ?_
  refine wp_ret ?_
  have hd : D.zz11 a0 a1 = (⟨a0.gen, 3, 0⟩ : State) := (cond_t h7).trans (rfl)
  refine zz06 r rfl rfl h_b4 (k := 3) rfl ta118 ?_
  rw [hd]
  exact ⟨rfl, hB⟩
 ·
  refine wp_skip ?_
  refine wsr ?_
  refine seq_val _ r (fun R => zz02 r (o := 0) rfl fo118_0) rfl fun fr r => ?_
  refine seq_val (I a0.gen) r (fun R => zz01 r rfl h_b1 to3 rfl) rfl fun fr r => ?_
  refine seq_val _ r (fun R => y_bin r rfl rfl rfl rfl) rfl fun fr r => ?_
  refine seq_val (.agg (stateC (⟨(W (a0.gen + 1)), 0, 0⟩ : State)).toArray) r (fun R => y_build r (by kernel_rfl)) rfl fun fr r => ?_
  refine seq_upd (.cells ((stateC (⟨(W (a0.gen + 1)), 0, 0⟩ : State))).toArray 118 (0, 0)) r (fun R => y_store r (o := 0) (v := (.agg (stateC (⟨(W (a0.gen + 1)), 0, 0⟩ : State)).toArray)) rfl rfl h_b4 ts118 (Nat.le_of_ble_eq_true rfl) rfl rfl) rfl fun fr w10 u11 r => ?_
  have z_w10 := u11.size
  have h_b1 := u11.keep h_b1 (by omega)
  have h_b4 := u11.at_
  obtain ⟨hB, zB⟩ := u11.on hB (by omega)
  refine wn ?_
  refine wp_ret ?_
  have hd : D.zz11 a0 a1 = (⟨(W (a0.gen + 1)), 0, 0⟩ : State) := (cond_f h7).trans (rfl)
  refine zz06 r rfl rfl h_b4 (k := 3) rfl ta118 ?_
  rw [hd]
  exact ⟨rfl, hB⟩

def D.zz1p (a0 : State) : State := ({ a0 with mode := 2 })

theorem zz9m (w0 : World) 
    (a0 : State) :
    Calls Tryz.prog 130 #[.agg (stateC a0).toArray] w0 (PureRes (.agg (stateC (D.zz1p a0)).toArray) w0) := by
 refine enter Tryz.func130 rfl 5 rfl rfl fun fr r => ?_
 have hB := Below.refl w0.heap.size w0
 refine wsr ?_
 refine seq_new (.cells ((stateC a0)).toArray 118 (0, 0)) r (fun R => y_box r (v := (.agg (stateC a0).toArray)) rfl) rfl fun fr b1 w2 n3 r => ?_
 obtain ⟨e_b1, z_w2, h_b1, hB, zB⟩ := n3.all hB
 refine seq_new (.cells ((stateC (⟨0, 0, 0⟩ : State))).toArray 118 (0, 0)) r (fun R => y_alloc tz118) rfl fun fr b4 w5 n6 r => ?_
 have h_b1 := keep n6.below h_b1
 obtain ⟨e_b4, z_w5, h_b4, hB, zB⟩ := n6.all hB
 refine wn ?_
 refine wsr ?_
 refine seq_val _ r (fun R => zz02 r (o := 0) rfl fo118_1) rfl fun fr r => ?_
 refine seq_upd (.cells ((stateC ({ a0 with mode := 2 }))).toArray 118 (0, 0)) r (fun R => y_store r (o := 1) (v := (I 2)) rfl rfl h_b1 ts3 (Nat.le_of_ble_eq_true rfl) rfl rfl) rfl fun fr w7 u8 r => ?_
 have z_w7 := u8.size
 have h_b4 := u8.keep h_b4 (by omega)
 have h_b1 := u8.at_
 obtain ⟨hB, zB⟩ := u8.on hB (by omega)
 refine wn ?_
 refine wsr ?_
 refine seq_val (.agg (stateC ({ a0 with mode := 2 })).toArray) r (fun R => zz03 r (cs := (stateC ({ a0 with mode := 2 }))) (n := 3) rfl h_b1 ta118 rfl) rfl fun fr r => ?_
 refine seq_upd (.cells ((stateC ({ a0 with mode := 2 }))).toArray 118 (0, 0)) r (fun R => y_store r (o := 0) (v := (.agg (stateC ({ a0 with mode := 2 })).toArray)) rfl rfl h_b4 ts118 (Nat.le_of_ble_eq_true rfl) rfl rfl) rfl fun fr w9 u10 r => ?_
 have z_w9 := u10.size
 have h_b1 := u10.keep h_b1 (by omega)
 have h_b4 := u10.at_
 obtain ⟨hB, zB⟩ := u10.on hB (by omega)
 refine wn ?_
 refine wp_ret ?_
 refine zz06 r rfl rfl h_b4 (k := 3) rfl ta118 ?_
 exact ⟨rfl, hB⟩

def D.zz0q (a0 : State) : Bool := (bif (decide (a0.gen ≥ 0)) then (bif (decide (a0.gen ≤ 1073741823)) then (bif (decide (a0.mode ≥ 0)) then (bif (decide (a0.mode ≤ 3)) then (bif (decide (a0.kind ≥ 0)) then (decide (a0.kind ≤ 2)) else false) else false) else false) else false) else false)

theorem zz5p (w0 : World) 
    (a0 : State) :
    Calls Tryz.prog 157 #[.agg (stateC a0).toArray] w0 (PureRes (.bool (D.zz0q a0)) w0) := by
 refine enter Tryz.func157 rfl 31 rfl rfl fun fr r => ?_
 have hB := Below.refl w0.heap.size w0
 refine wsr ?_
 refine seq_new (.cells ((stateC a0)).toArray 118 (0, 0)) r (fun R => y_box r (v := (.agg (stateC a0).toArray)) rfl) rfl fun fr b1 w2 n3 r => ?_
 obtain ⟨e_b1, z_w2, h_b1, hB, zB⟩ := n3.all hB
 refine seq_val (.bool false) r (fun R => zz05 r rfl) rfl fun fr r => ?_
 refine wn ?_
 refine wsr ?_
 refine seq_val _ r (fun R => zz02 r (o := 0) rfl fo118_0) rfl fun fr r => ?_
 refine seq_val (I a0.gen) r (fun R => zz01 r rfl h_b1 to3 rfl) rfl fun fr r => ?_
 refine seq_val _ r (fun R => y_bin r rfl rfl rfl rfl) rfl fun fr r => ?_
 refine seq_val (.bool (decide (a0.gen ≥ 0))) r (fun R => y_move r rfl) rfl fun fr r => ?_
 refine zz0x (decide (a0.gen ≥ 0)) (fun h4 => ?_) (fun h4 => ?_)
 ·
  refine s1 r h4 ?_
  refine seq_val _ r (fun R => zz02 r (o := 0) rfl fo118_0) rfl fun fr r => ?_
  refine s1 r h4 ?_
  refine seq_val (I a0.gen) r (fun R => zz01 r rfl h_b1 to3 rfl) rfl fun fr r => ?_
  refine s1 r h4 ?_
  refine seq_val _ r (fun R => y_bin r rfl rfl rfl rfl) rfl fun fr r => ?_
  refine seq_val (.bool (decide (a0.gen ≤ 1073741823))) r (fun R => y_pick r (b := true) (congrArg Value.bool h4) rfl) rfl fun fr r => ?_
  refine seq_val (.bool (decide (a0.gen ≤ 1073741823))) r (fun R => y_move r rfl) rfl fun fr r => ?_
  refine zz0x (decide (a0.gen ≤ 1073741823)) (fun h5 => ?_) (fun h5 => ?_)
  ·
   refine s1 r h5 ?_
   refine seq_val _ r (fun R => zz02 r (o := 0) rfl fo118_1) rfl fun fr r => ?_
   refine s1 r h5 ?_
   refine seq_val (I a0.mode) r (fun R => zz01 r rfl h_b1 to3 rfl) rfl fun fr r => ?_
   refine s1 r h5 ?_
   refine seq_val _ r (fun R => y_bin r rfl rfl rfl rfl) rfl fun fr r => ?_
   refine seq_val (.bool (decide (a0.mode ≥ 0))) r (fun R => y_pick r (b := true) (congrArg Value.bool h5) rfl) rfl fun fr r => ?_
   refine seq_val (.bool (decide (a0.mode ≥ 0))) r (fun R => y_move r rfl) rfl fun fr r => ?_
   refine zz0x (decide (a0.mode ≥ 0)) (fun h6 => ?_) (fun h6 => ?_)
   ·
    refine s1 r h6 ?_
    refine seq_val _ r (fun R => zz02 r (o := 0) rfl fo118_1) rfl fun fr r => ?_
    refine s1 r h6 ?_
    refine seq_val (I a0.mode) r (fun R => zz01 r rfl h_b1 to3 rfl) rfl fun fr r => ?_
    refine s1 r h6 ?_
    refine seq_val _ r (fun R => y_bin r rfl rfl rfl rfl) rfl fun fr r => ?_
    refine seq_val (.bool (decide (a0.mode ≤ 3))) r (fun R => y_pick r (b := true) (congrArg Value.bool h6) rfl) rfl fun fr r => ?_
    refine seq_val (.bool (decide (a0.mode ≤ 3))) r (fun R => y_move r rfl) rfl fun fr r => ?_
    refine zz0x (decide (a0.mode ≤ 3)) (fun h7 => ?_) (fun h7 => ?_)
    ·
     refine s1 r h7 ?_
     refine seq_val _ r (fun R => zz02 r (o := 0) rfl fo118_2) rfl fun fr r => ?_
     refine s1 r h7 ?_
     refine seq_val (I a0.kind) r (fun R => zz01 r rfl h_b1 to3 rfl) rfl fun fr r => ?_
     refine s1 r h7 ?_
     refine seq_val _ r (fun R => y_bin r rfl rfl rfl rfl) rfl fun fr r => ?_
     refine seq_val (.bool (decide (a0.kind ≥ 0))) r (fun R => y_pick r (b := true) (congrArg Value.bool h7) rfl) rfl fun fr r => ?_
     refine seq_val (.bool (decide (a0.kind ≥ 0))) r (fun R => y_move r rfl) rfl fun fr r => ?_
     refine zz0x (decide (a0.kind ≥ 0)) (fun h8 => ?_) (fun h8 => ?_)
     ·
      refine s1 r h8 ?_
      refine seq_val _ r (fun R => zz02 r (o := 0) rfl fo118_2) rfl fun fr r => ?_
      refine s1 r h8 ?_
      refine seq_val (I a0.kind) r (fun R => zz01 r rfl h_b1 to3 rfl) rfl fun fr r => ?_
      refine s1 r h8 ?_
      refine seq_val _ r (fun R => y_bin r rfl rfl rfl rfl) rfl fun fr r => ?_
      refine seq_val (.bool (decide (a0.kind ≤ 2))) r (fun R => y_pick r (b := true) (congrArg Value.bool h8) rfl) rfl fun fr r => ?_
      refine seq_val (.bool (decide (a0.kind ≤ 2))) r (fun R => zz05 r rfl) rfl fun fr r => ?_
      refine wn ?_
      refine wp_ret ?_
      have hd : D.zz0q a0 = (decide (a0.kind ≤ 2)) := (cond_t h4).trans ((cond_t h5).trans ((cond_t h6).trans ((cond_t h7).trans ((cond_t h8).trans (rfl)))))
      refine ret_tmp r rfl rfl ?_
      rw [hd]
      exact ⟨rfl, hB⟩
     ·
      refine s0 r h8 fun fr r => ?_
      refine s0 r h8 fun fr r => ?_
      refine s0 r h8 fun fr r => ?_
      refine seq_val (.bool false) r (fun R => y_pick r (b := false) (congrArg Value.bool h8) rfl) rfl fun fr r => ?_
      refine seq_val (.bool false) r (fun R => zz05 r rfl) rfl fun fr r => ?_
      refine wn ?_
      refine wp_ret ?_
      have hd : D.zz0q a0 = false := (cond_t h4).trans ((cond_t h5).trans ((cond_t h6).trans ((cond_t h7).trans ((cond_f h8).trans (rfl)))))
      refine ret_tmp r rfl rfl ?_
      rw [hd]
      exact ⟨rfl, hB⟩
    ·
     refine s0 r h7 fun fr r => ?_
     refine s0 r h7 fun fr r => ?_
     refine s0 r h7 fun fr r => ?_
     refine seq_val (.bool false) r (fun R => y_pick r (b := false) (congrArg Value.bool h7) rfl) rfl fun fr r => ?_
     refine seq_val (.bool false) r (fun R => y_move r rfl) rfl fun fr r => ?_
     refine s0 r (rfl : false = _) fun fr r => ?_
     refine s0 r (rfl : false = _) fun fr r => ?_
     refine s0 r (rfl : false = _) fun fr r => ?_
     refine seq_val (.bool false) r (fun R => y_pick r (b := false) (congrArg Value.bool (rfl : false = _)) rfl) rfl fun fr r => ?_
     refine seq_val (.bool false) r (fun R => zz05 r rfl) rfl fun fr r => ?_
     refine wn ?_
     refine wp_ret ?_
     have hd : D.zz0q a0 = false := (cond_t h4).trans ((cond_t h5).trans ((cond_t h6).trans ((cond_f h7).trans (rfl))))
     refine ret_tmp r rfl rfl ?_
     rw [hd]
     exact ⟨rfl, hB⟩
   ·
    refine s0 r h6 fun fr r => ?_
    refine s0 r h6 fun fr r => ?_
    refine s0 r h6 fun fr r => ?_
    refine seq_val (.bool false) r (fun R => y_pick r (b := false) (congrArg Value.bool h6) rfl) rfl fun fr r => ?_
    refine seq_val (.bool false) r (fun R => y_move r rfl) rfl fun fr r => ?_
    refine s0 r (rfl : false = _) fun fr r => ?_
    refine s0 r (rfl : false = _) fun fr r => ?_
    refine s0 r (rfl : false = _) fun fr r => ?_
    refine seq_val (.bool false) r (fun R => y_pick r (b := false) (congrArg Value.bool (rfl : false = _)) rfl) rfl fun fr r => ?_
    refine seq_val (.bool false) r (fun R => y_move r rfl) rfl fun fr r => ?_
    refine s0 r (rfl : false = _) fun fr r => ?_
    refine s0 r (rfl : false = _) fun fr r => ?_
    refine s0 r (rfl : false = _) fun fr r => ?_
    refine seq_val (.bool false) r (fun R => y_pick r (b := false) (congrArg Value.bool (rfl : false = _)) rfl) rfl fun fr r => ?_
    refine seq_val (.bool false) r (fun R => zz05 r rfl) rfl fun fr r => ?_
    refine wn ?_
    refine wp_ret ?_
    have hd : D.zz0q a0 = false := (cond_t h4).trans ((cond_t h5).trans ((cond_f h6).trans (rfl)))
    refine ret_tmp r rfl rfl ?_
    rw [hd]
    exact ⟨rfl, hB⟩
  ·
   refine s0 r h5 fun fr r => ?_
   refine s0 r h5 fun fr r => ?_
   refine s0 r h5 fun fr r => ?_
   refine seq_val (.bool false) r (fun R => y_pick r (b := false) (congrArg Value.bool h5) rfl) rfl fun fr r => ?_
   refine seq_val (.bool false) r (fun R => y_move r rfl) rfl fun fr r => ?_
   refine s0 r (rfl : false = _) fun fr r => ?_
   refine s0 r (rfl : false = _) fun fr r => ?_
   refine s0 r (rfl : false = _) fun fr r => ?_
   refine seq_val (.bool false) r (fun R => y_pick r (b := false) (congrArg Value.bool (rfl : false = _)) rfl) rfl fun fr r => ?_
   refine seq_val (.bool false) r (fun R => y_move r rfl) rfl fun fr r => ?_
   refine s0 r (rfl : false = _) fun fr r => ?_
   refine s0 r (rfl : false = _) fun fr r => ?_
   refine s0 r (rfl : false = _) fun fr r => ?_
   refine seq_val (.bool false) r (fun R => y_pick r (b := false) (congrArg Value.bool (rfl : false = _)) rfl) rfl fun fr r => ?_
   refine seq_val (.bool false) r (fun R => y_move r rfl) rfl fun fr r => ?_
   refine s0 r (rfl : false = _) fun fr r => ?_
   refine s0 r (rfl : false = _) fun fr r => ?_
   refine s0 r (rfl : false = _) fun fr r => ?_
   refine seq_val (.bool false) r (fun R => y_pick r (b := false) (congrArg Value.bool (rfl : false = _)) rfl) rfl fun fr r => ?_
   refine seq_val (.bool false) r (fun R => zz05 r rfl) rfl fun fr r => ?_
   refine wn ?_
   refine wp_ret ?_
   have hd : D.zz0q a0 = false := (cond_t h4).trans ((cond_f h5).trans (rfl))
   refine ret_tmp r rfl rfl ?_
   rw [hd]
   exact ⟨rfl, hB⟩
 ·
  refine s0 r h4 fun fr r => ?_
  refine s0 r h4 fun fr r => ?_
  refine s0 r h4 fun fr r => ?_
  refine seq_val (.bool false) r (fun R => y_pick r (b := false) (congrArg Value.bool h4) rfl) rfl fun fr r => ?_
  refine seq_val (.bool false) r (fun R => y_move r rfl) rfl fun fr r => ?_
  refine s0 r (rfl : false = _) fun fr r => ?_
  refine s0 r (rfl : false = _) fun fr r => ?_
  refine s0 r (rfl : false = _) fun fr r => ?_
  refine seq_val (.bool false) r (fun R => y_pick r (b := false) (congrArg Value.bool (rfl : false = _)) rfl) rfl fun fr r => ?_
  refine seq_val (.bool false) r (fun R => y_move r rfl) rfl fun fr r => ?_
  refine s0 r (rfl : false = _) fun fr r => ?_
  refine s0 r (rfl : false = _) fun fr r => ?_
  refine s0 r (rfl : false = _) fun fr r => ?_
  refine seq_val (.bool false) r (fun R => y_pick r (b := false) (congrArg Value.bool (rfl : false = _)) rfl) rfl fun fr r => ?_
  refine seq_val (.bool false) r (fun R => y_move r rfl) rfl fun fr r => ?_
  refine s0 r (rfl : false = _) fun fr r => ?_
  refine s0 r (rfl : false = _) fun fr r => ?_
  refine s0 r (rfl : false = _) fun fr r => ?_
  refine seq_val (.bool false) r (fun R => y_pick r (b := false) (congrArg Value.bool (rfl : false = _)) rfl) rfl fun fr r => ?_
  refine seq_val (.bool false) r (fun R => y_move r rfl) rfl fun fr r => ?_
  refine s0 r (rfl : false = _) fun fr r => ?_
  refine s0 r (rfl : false = _) fun fr r => ?_
  refine s0 r (rfl : false = _) fun fr r => ?_
  refine seq_val (.bool false) r (fun R => y_pick r (b := false) (congrArg Value.bool (rfl : false = _)) rfl) rfl fun fr r => ?_
  refine seq_val (.bool false) r (fun R => zz05 r rfl) rfl fun fr r => ?_
  refine wn ?_
  refine wp_ret ?_
  have hd : D.zz0q a0 = false := (cond_f h4).trans (rfl)
  refine ret_tmp r rfl rfl ?_
  rw [hd]
  exact ⟨rfl, hB⟩

end Go.Proofs.YtjkinpbfmihhdaaGreat

/- Written by a program of ours (wip/gen.py): states and their words -/
set_option linter.unusedVariables false
set_option maxRecDepth 20000
set_option maxHeartbeats 2000000
namespace Go.Proofs.YtjkinpbfmihhdaaGreat.St
open Go.RowKit
theorem ar224 : arrTy Tryz.prog 224 3 2 = true := by kernel_rfl

theorem cl155 : callable Tryz.prog 155 = true := by kernel_rfl

theorem cl156 : callable Tryz.prog 156 = true := by kernel_rfl

theorem cl157 : callable Tryz.prog 157 = true := by kernel_rfl

theorem cl161 : callable Tryz.prog 161 = true := by kernel_rfl

theorem cl196 : callable Tryz.prog 196 = true := by kernel_rfl

theorem cl259 : callable Tryz.prog 259 = true := by kernel_rfl

theorem cl296 : callable Tryz.prog 296 = true := by kernel_rfl

theorem is228 : isSlice Tryz.prog 228 = true := by kernel_rfl

theorem is49 : isSlice Tryz.prog 49 = true := by kernel_rfl

theorem rt49 : rowTy Tryz.prog 49 22 1 = true := by kernel_rfl

theorem sl228 : sliceTy Tryz.prog 228 2 = true := by kernel_rfl

theorem sl49 : sliceTy Tryz.prog 49 1 = true := by kernel_rfl

theorem ta224 : tyA Tryz.prog 224 6 = true := by kernel_rfl

theorem ti22 : intTy Tryz.prog 22 .u64 = true := by kernel_rfl

theorem ti3 : intTy Tryz.prog 3 .i64 = true := by kernel_rfl

theorem to22 : tyO Tryz.prog 22 = true := by kernel_rfl

theorem ts223 : sized Tryz.prog 223 2 = true := by kernel_rfl

theorem ts224 : sized Tryz.prog 224 6 = true := by kernel_rfl

theorem tz223 : zeroOf Tryz.prog 223 = some (.agg (fieldC (⟨0, 0⟩ : Field)).toArray) := by kernel_rfl

theorem tz224 : zeroOf Tryz.prog 224 = some (.agg (arr3FC (⟨(⟨0, 0⟩ : Field), (⟨0, 0⟩ : Field), (⟨0, 0⟩ : Field)⟩ : Arr3F)).toArray) := by kernel_rfl

def D.zz75 (fu : Nat)  : Option (Arr3F) := (some (⟨(⟨0, 30⟩ : Field), (⟨30, 2⟩ : Field), (⟨32, 2⟩ : Field)⟩ : Arr3F))

theorem zza0 {fu : Nat} (w0 : World) {res : Arr3F} (hD : D.zz75 fu  = some res) :
    Calls Tryz.prog 155 #[] w0 (PureRes (.agg (arr3FC res).toArray) w0) := by
 refine enter Tryz.func155 rfl 5 rfl rfl fun fr r => ?_
 have hP : Post No [] w0 w0 := Post.nil w0
 unfold D.zz75 at hD
 refine wsr ?_
 refine seq_new (.cells ((arr3FC (⟨(⟨0, 0⟩ : Field), (⟨0, 0⟩ : Field), (⟨0, 0⟩ : Field)⟩ : Arr3F))).toArray 224 (0, 0)) r (fun R => y_alloc tz224) rfl fun fr b1 w2 n3 r => ?_
 have hP : Post No [cellC b1 ((arr3FC (⟨(⟨0, 0⟩ : Field), (⟨0, 0⟩ : Field), (⟨0, 0⟩ : Field)⟩ : Arr3F))).toArray 224] w0 w2 := hP.new n3
 refine wn ?_
 refine wsr ?_
 refine seq_val (.agg (fieldC (⟨0, 30⟩ : Field)).toArray) r (fun R => y_build r (by kernel_rfl)) rfl fun fr r => ?_
 refine seq_val (.agg (fieldC (⟨30, 2⟩ : Field)).toArray) r (fun R => y_build r (by kernel_rfl)) rfl fun fr r => ?_
 refine seq_val (.agg (fieldC (⟨32, 2⟩ : Field)).toArray) r (fun R => y_build r (by kernel_rfl)) rfl fun fr r => ?_
 refine seq_val (.agg (arr3FC (⟨(⟨0, 30⟩ : Field), (⟨30, 2⟩ : Field), (⟨32, 2⟩ : Field)⟩ : Arr3F)).toArray) r (fun R => y_build r (by kernel_rfl)) rfl fun fr r => ?_
 refine seq_upd (.cells ((arr3FC (⟨(⟨0, 30⟩ : Field), (⟨30, 2⟩ : Field), (⟨32, 2⟩ : Field)⟩ : Arr3F))).toArray 224 (0, 0)) r (fun R => y_store r (o := 0) (v := (.agg (arr3FC (⟨(⟨0, 30⟩ : Field), (⟨30, 2⟩ : Field), (⟨32, 2⟩ : Field)⟩ : Arr3F)).toArray)) rfl rfl (hP.cell (i := 0) rfl) ts224 (Nat.le_of_ble_eq_true rfl) rfl rfl) rfl fun fr w5 u6 r => ?_
 have hP : Post No [cellC b1 ((arr3FC (⟨(⟨0, 30⟩ : Field), (⟨30, 2⟩ : Field), (⟨32, 2⟩ : Field)⟩ : Arr3F))).toArray 224] w0 w5 := hP.upd (i := 0) rfl u6
 refine wn ?_
 refine wp_ret ?_
 have hv : (⟨(⟨0, 30⟩ : Field), (⟨30, 2⟩ : Field), (⟨32, 2⟩ : Field)⟩ : Arr3F) = res := Option.some.inj hD
 try dsimp only [Exit.then, Exit.inBlock]
 refine zz06 r rfl rfl (hP.cell (i := 0) rfl) (k := 6) rfl ta224 ?_
 subst hv
 exact ⟨rfl, hP.chg.below⟩

def D.zz5q (fu : Nat) (a0 : List Field) : Option (Bool) := (loopThen (fun (x1 : Bool × Int × Int) => (bif (decide (x1.2.2 < (a0.length : Int))) then ((getI a0 x1.2.2).bind (fun (x6 : Field) => (Option.bind (bif (!(D.zz0b x6)) then (some true) else (some ((zz4p .u64 x1.2.1 (D.zz0l x6)) != 0))) (fun (x17 : Bool) => (bif x17 then (some (Lp.ret false)) else (some (Lp.next (x1.1, (bits_or .u64 x1.2.1 (D.zz0l x6)), (IntKind.i64.wrap (x1.2.2 + 1)))))))))) else (some (Lp.brk (x1.1, x1.2.1, x1.2.2))))) fu (false, 0, 0) (fun (x22 : Bool × Int × Int) => (some true)))

theorem zzac {fu : Nat} (w0 : World) {a0_v : Value} (a0 : List Field) (a0_h : RoAt 223 2 fieldC a0_v a0 w0) {res : Bool} (hD : D.zz5q fu a0 = some res) :
    Calls Tryz.prog 259 #[a0_v] w0 (PureRes (.bool res) w0) := by
 refine enter Tryz.func259 rfl 27 rfl rfl fun fr r => ?_
 have hP : Post No [] w0 w0 := Post.nil w0
 have hP : Post No [roK 223 2 fieldC a0_v a0] w0 w0 := hP.addRo zz4m a0_h rfl a0_h.lt
 unfold D.zz5q at hD
 refine wsr ?_
 refine seq_val (.bool false) r (fun R => zz05 r rfl) rfl fun fr r => ?_
 refine wn ?_
 refine wsr ?_
 refine seq_val (U 0) r (fun R => zz05 r rfl) rfl fun fr r => ?_
 refine wn ?_
 refine wp_seq ?_
 refine wsr ?_
 refine seq_val a0_v r (fun R => y_move r rfl) rfl fun fr r => ?_
 refine seq_val (I (a0.length : Int)) r (fun R => zz3f r (hP.ro (i := 0) rfl) is228 rfl) rfl fun fr r => ?_
 refine seq_val (I 0) r (fun R => y_move r rfl) rfl fun fr r => ?_
 refine wn ?_
 refine zz7g (X := Bool × Int × Int) (G := Unit) (x0 := (false, 0, 0)) (fun x γ => [(0, a0_v), (6, a0_v), (7, (I (a0.length : Int))), (2, (.bool x.1)), (3, (U x.2.1)), (8, (I x.2.2))]) (fun x γ w => Post No [roK 223 2 fieldC a0_v a0] w0 w) () r (hs_cons rfl (hs_cons rfl (hs_cons rfl (hs_cons rfl (hs_cons rfl (hs_cons rfl hs_nil)))))) hP hD ?_ ?_
 ·
  rintro x1 γ2 fr w4 g y3 RPy3 nxy3 bky3 rty3 r hP hD
  have hP : Post No [roK 223 2 fieldC a0_v a0] w0 w4 := hP
  refine wsr ?_
  refine seq_val _ r (fun R => y_bin r rfl rfl rfl rfl) rfl fun fr r => ?_
  refine wn ?_
  refine wp_seq ?_
  refine wp_cond_split (t := (decide (x1.2.2 < (a0.length : Int)))) (r.ev rfl) (fun h5 => ?_) (fun h5 => ?_)
  ·
   have hD := (cond_t h5).symm.trans hD
   refine wp_skip ?_
   refine wp_seq ?_
   refine wp_block ?_
   refine wsr ?_
   obtain ⟨x6, hx6, hD⟩ := zz0f hD
   refine seq_val (.pointer (some ⟨rowB a0_v, rowO a0_v + x1.2.2.toNat * 2, none⟩)) r (fun R => zz3b r (hP.ro (i := 0) rfl) hx6 sl228 rfl rfl) rfl fun fr r => ?_
   refine seq_val (.agg (fieldC x6).toArray) r (fun R => zzb4 r (cs := (fieldC x6)) (RoAt.at_ (f := fieldC) (x := x6) (hP.ro (i := 0) rfl) (fun _ => rfl) hx6) rfl ta223) rfl fun fr r => ?_
   refine seq_new (.cells ((fieldC (⟨0, 0⟩ : Field))).toArray 223 (0, 0)) r (fun R => y_alloc tz223) rfl fun fr b7 w8 n9 r => ?_
   have hP : Post No [roK 223 2 fieldC a0_v a0, cellC b7 ((fieldC (⟨0, 0⟩ : Field))).toArray 223] w0 w8 := hP.new n9
   refine seq_upd (.cells ((fieldC x6)).toArray 223 (0, 0)) r (fun R => y_store r (o := 0) (v := (.agg (fieldC x6).toArray)) rfl rfl (hP.cell (i := 1) rfl) ts223 (Nat.le_of_ble_eq_true rfl) rfl rfl) rfl fun fr w11 u12 r => ?_
   have hP : Post No [roK 223 2 fieldC a0_v a0, cellC b7 ((fieldC x6)).toArray 223] w0 w11 := hP.upd (i := 1) rfl u12
   refine wn ?_
   refine wp_seq ?_
   refine wp_seq ?_
   refine zz2f (N := 27) (Y := Bool) (G := Unit) (fun x γ => [(0, a0_v), (6, a0_v), (7, (I (a0.length : Int))), (2, (.bool x1.1)), (3, (U x1.2.1)), (8, (I x1.2.2)), (9, (.bool (decide (x1.2.2 < (a0.length : Int))))), (5, (.pointer (some ⟨b7, 0, none⟩))), (21, (.bool x))]) (fun x γ w => Post No [roK 223 2 fieldC a0_v a0, cellC b7 ((fieldC x6)).toArray 223] w0 w) hD ?_ ?_
   ·
    rintro y13 RPy13 nxy13 hD
    refine wp_region_lit ?_
    refine seq_val (.agg (fieldC x6).toArray) r (fun R => zz03 r (cs := (fieldC x6)) (n := 2) rfl (hP.cell (i := 1) rfl) ta223 rfl) rfl fun fr r => ?_
    refine zz04 r (zz21 w11 x6) (fun R hc => y_call r rfl cl262 hc) rfl ?_
    rintro _ w14 ⟨rfl, hb⟩
    refine ⟨_, rfl, fun fr r => ?_⟩
    have hP : Post No [roK 223 2 fieldC a0_v a0, cellC b7 ((fieldC x6)).toArray 223] w0 w14 := hP.below hb
    refine seq_val (.bool (!(D.zz0b x6))) r (fun R => y_un r (u := (.bool (D.zz0b x6))) rfl rfl) rfl fun fr r => ?_
    refine seq_val (.bool (!(D.zz0b x6))) r (fun R => y_move r rfl) rfl fun fr r => ?_
    refine zz0x (!(D.zz0b x6)) (fun h15 => ?_) (fun h15 => ?_)
    ·
     have hD := (cond_t h15).symm.trans hD
     refine s0 r h15 fun fr r => ?_
     refine s0 r h15 fun fr r => ?_
     refine s0 r h15 fun fr r => ?_
     refine s0 r h15 fun fr r => ?_
     refine s0 r h15 fun fr r => ?_
     refine seq_val (.bool true) r (fun R => y_pick r (b := true) (congrArg Value.bool h15) rfl) rfl fun fr r => ?_
     refine wn ?_
     exact nxy13 true () _ _ _ hD r (hs_cons rfl (hs_cons rfl (hs_cons rfl (hs_cons rfl (hs_cons rfl (hs_cons rfl (hs_cons rfl (hs_cons rfl (hs_cons rfl hs_nil))))))))) (hP.pick [0, 1] rfl rfl)
    ·
     have hD := (cond_f h15).symm.trans hD
     refine s1 r h15 ?_
     refine seq_val (U x1.2.1) r (fun R => y_move r rfl) rfl fun fr r => ?_
     refine s1 r h15 ?_
     refine seq_val (.agg (fieldC x6).toArray) r (fun R => zz03 r (cs := (fieldC x6)) (n := 2) rfl (hP.cell (i := 1) rfl) ta223 rfl) rfl fun fr r => ?_
     refine s1 r h15 ?_
     refine zz04 r (zz3c w14 x6) (fun R hc => y_call r rfl cl260 hc) rfl ?_
     rintro _ w16 ⟨rfl, hb⟩
     refine ⟨_, rfl, fun fr r => ?_⟩
     have hP : Post No [roK 223 2 fieldC a0_v a0, cellC b7 ((fieldC x6)).toArray 223] w0 w16 := hP.below hb
     refine s1 r h15 ?_
     refine seq_val _ r (fun R => y_bin r rfl rfl rfl rfl) rfl fun fr r => ?_
     refine s1 r h15 ?_
     refine seq_val _ r (fun R => y_bin r rfl rfl rfl rfl) rfl fun fr r => ?_
     refine seq_val (.bool ((zz4p .u64 x1.2.1 (D.zz0l x6)) != 0)) r (fun R => y_pick r (b := false) (congrArg Value.bool h15) rfl) rfl fun fr r => ?_
     refine wn ?_
     exact nxy13 ((zz4p .u64 x1.2.1 (D.zz0l x6)) != 0) () _ _ _ hD r (hs_cons rfl (hs_cons rfl (hs_cons rfl (hs_cons rfl (hs_cons rfl (hs_cons rfl (hs_cons rfl (hs_cons rfl (hs_cons rfl hs_nil))))))))) (hP.pick [0, 1] rfl rfl)
   ·
    rintro x17 γ18 fr w19 g r hP hD
    have hP : Post No [roK 223 2 fieldC a0_v a0, cellC b7 ((fieldC x6)).toArray 223] w0 w19 := hP
    refine wp_cond_split (t := x17) (r.ev rfl) (fun h20 => ?_) (fun h20 => ?_)
    ·
     have hD := (cond_t h20).symm.trans hD
     refine wsr ?_
     refine seq_val (.bool false) r (fun R => zz05 r rfl) rfl fun fr r => ?_
     refine wn ?_
     refine wp_ret ?_
     refine rty3 false _ _ hD fun hD => ?_
     have hv : false = res := Option.some.inj hD
     try dsimp only [Exit.then, Exit.inBlock]
     refine ret_tmp (fn := Tryz.f259) r (t := 2) rfl (v := (.bool false)) rfl ?_
     subst hv
     exact ⟨rfl, hP.chg.below⟩
    ·
     have hD := (cond_f h20).symm.trans hD
     refine wp_skip ?_
     refine wp_region_lit ?_
     refine seq_val (U x1.2.1) r (fun R => y_move r rfl) rfl fun fr r => ?_
     refine seq_val (.agg (fieldC x6).toArray) r (fun R => zz03 r (cs := (fieldC x6)) (n := 2) rfl (hP.cell (i := 1) rfl) ta223 rfl) rfl fun fr r => ?_
     refine zz04 r (zz3c w19 x6) (fun R hc => y_call r rfl cl260 hc) rfl ?_
     rintro _ w21 ⟨rfl, hb⟩
     refine ⟨_, rfl, fun fr r => ?_⟩
     have hP : Post No [roK 223 2 fieldC a0_v a0, cellC b7 ((fieldC x6)).toArray 223] w0 w21 := hP.below hb
     refine seq_val _ r (fun R => y_bin r rfl rfl rfl rfl) rfl fun fr r => ?_
     refine seq_val (U (bits_or .u64 x1.2.1 (D.zz0l x6))) r (fun R => zz05 r rfl) rfl fun fr r => ?_
     refine wn ?_
     refine wp_region_lit ?_
     refine seq_val _ r (fun R => y_bin r rfl rfl rfl rfl) rfl fun fr r => ?_
     refine seq_val (I (W (x1.2.2 + 1))) r (fun R => y_move r rfl) rfl fun fr r => ?_
     refine wn ?_
     exact nxy3 (x1.1, (bits_or .u64 x1.2.1 (D.zz0l x6)), (W (x1.2.2 + 1))) () _ _ _ hD r (hs_cons rfl (hs_cons rfl (hs_cons rfl (hs_cons rfl (hs_cons rfl (hs_cons rfl hs_nil)))))) (hP.pick [0] rfl rfl)
  ·
   have hD := (cond_f h5).symm.trans hD
   refine wp_exit ?_
   exact bky3 (x1.1, x1.2.1, x1.2.2) () _ _ _ hD r (hs_cons rfl (hs_cons rfl (hs_cons rfl (hs_cons rfl (hs_cons rfl (hs_cons rfl hs_nil)))))) (hP.pick [0] rfl rfl)
 ·
  rintro x22 γ23 fr w24 g r hP hD
  have hP : Post No [roK 223 2 fieldC a0_v a0] w0 w24 := hP
  refine wsr ?_
  refine seq_val (.bool true) r (fun R => zz05 r rfl) rfl fun fr r => ?_
  refine wn ?_
  refine wp_ret ?_
  have hv : true = res := Option.some.inj hD
  try dsimp only [Exit.then, Exit.inBlock]
  refine ret_tmp (fn := Tryz.f259) r (t := 2) rfl (v := (.bool true)) rfl ?_
  subst hv
  exact ⟨rfl, hP.chg.below⟩

def D.zz5j (fu : Nat) (a0 : List Field) (a1 : Int) : Option (List Int × Int) := ((D.zz5q fu a0).bind (fun (x1 : Bool) => (bif (!x1) then (some ([], 1)) else (loopThen (fun (x6 : List Int × Int × Int) => (bif (decide (x6.2.2 < (a0.length : Int))) then ((getI a0 x6.2.2).bind (fun (x11 : Field) => ((appD x6.1 ([(D.zz0c x11 a1)])).bind (fun (x23 : List Int) => (some (Lp.next (x23, (zz1u .u64 x6.2.1 (D.zz0l x11)), (IntKind.i64.wrap (x6.2.2 + 1))))))))) else (some (Lp.brk (x6.1, x6.2.1, x6.2.2))))) fu ([], a1, 0) (fun (x28 : List Int × Int × Int) => (bif (x28.2.1 != 0) then (some ([], 10)) else (some (x28.1, 0))))))))

theorem zzds {fu : Nat} (w0 : World) {a0_v : Value} (a0 : List Field) (a0_h : RoAt 223 2 fieldC a0_v a0 w0) (a1 : Int) {res : List Int × Int} (hD : D.zz5j fu a0 a1 = some res) :
    Calls Tryz.prog 156 #[a0_v, .int .u64 a1] w0 (fun e w' => ∃ (v0 : Value), e = .returned (.tuple #[v0, (.int .i64 res.2)]) ∧ Done No No [rowK 22 1 u64 v0 res.1] w0 w') := by
 refine enter Tryz.func156 rfl 34 rfl rfl fun fr r => ?_
 have hP : Post No [] w0 w0 := Post.nil w0
 have hP : Post No [roK 223 2 fieldC a0_v a0] w0 w0 := hP.addRo zz4m a0_h rfl a0_h.lt
 unfold D.zz5j at hD
 refine wsr ?_
 refine seq_val (Value.slice none 0 0) r (fun R => zz05 r rfl) rfl fun fr r => ?_
 refine seq_val (I 0) r (fun R => zz05 r rfl) rfl fun fr r => ?_
 refine wn ?_
 refine wp_seq ?_
 refine wsr ?_
 refine seq_val a0_v r (fun R => y_move r rfl) rfl fun fr r => ?_
 obtain ⟨x1, hx1, hD⟩ := zz0f hD
 refine zz04 r (zzac w0 a0 (hP.ro (i := 0) rfl) hx1) (fun R hc => y_call r rfl cl259 hc) rfl ?_
 rintro _ w2 ⟨rfl, hb⟩
 refine ⟨_, rfl, fun fr r => ?_⟩
 have hP : Post No [roK 223 2 fieldC a0_v a0] w0 w2 := hP.below hb
 refine seq_val (.bool (!x1)) r (fun R => y_un r (u := (.bool x1)) rfl rfl) rfl fun fr r => ?_
 refine wn ?_
 refine wp_cond_split (t := (!x1)) (r.ev rfl) (fun h3 => ?_) (fun h3 => ?_)
 ·
  have hD := (cond_t h3).symm.trans hD
  refine wsr ?_
  refine seq_val (Value.slice none 0 0) r (fun R => zz05 r rfl) rfl fun fr r => ?_
  refine seq_val (I 1) r (fun R => zz05 r rfl) rfl fun fr r => ?_
  refine wn ?_
  refine wp_ret ?_
  have hP : Post No [roK 223 2 fieldC a0_v a0, rowK 22 1 u64 (Value.slice none 0 0) ([])] w0 w2 := hP.nilRow 22 1 u64
  have hv : ([], 1) = res := Option.some.inj hD
  try dsimp only [Exit.then, Exit.inBlock]
  refine zz79 (fn := Tryz.f156) r (t := 4) (t' := 5) rfl (v := (Value.slice none 0 0)) (v' := (I 1)) rfl rfl ?_
  subst hv
  exact ⟨(Value.slice none 0 0), rfl, (hP.pick [1] rfl rfl).done (zz25 rfl zz2z)⟩
 ·
  have hD := (cond_f h3).symm.trans hD
  refine wp_skip ?_
  refine wsr ?_
  refine seq_val (Value.slice none 0 0) r (fun R => zz05 r rfl) rfl fun fr r => ?_
  refine wn ?_
  refine wsr ?_
  refine seq_val (U a1) r (fun R => y_move r rfl) rfl fun fr r => ?_
  refine seq_val (U a1) r (fun R => zz05 r rfl) rfl fun fr r => ?_
  refine wn ?_
  refine wp_seq ?_
  refine wsr ?_
  refine seq_val a0_v r (fun R => y_move r rfl) rfl fun fr r => ?_
  refine seq_val (I (a0.length : Int)) r (fun R => zz3f r (hP.ro (i := 0) rfl) is228 rfl) rfl fun fr r => ?_
  refine seq_val (I 0) r (fun R => y_move r rfl) rfl fun fr r => ?_
  refine wn ?_
  have hP : Post No [roK 223 2 fieldC a0_v a0, rowK 22 1 u64 (Value.slice none 0 0) ([])] w0 w2 := hP.nilRow 22 1 u64
  refine zz7g (X := List Int × Int × Int) (G := Value) (x0 := ([], a1, 0)) (fun x γ => [(0, a0_v), (1, (U a1)), (4, (Value.slice none 0 0)), (5, (I 0)), (12, (.bool (!x1))), (14, a0_v), (15, (I (a0.length : Int))), (6, γ), (7, (U x.2.1)), (16, (I x.2.2))]) (fun x γ w => Post No [roK 223 2 fieldC a0_v a0, rowK 22 1 u64 γ x.1] w0 w) (Value.slice none 0 0) r (hs_cons rfl (hs_cons rfl (hs_cons rfl (hs_cons rfl (hs_cons rfl (hs_cons rfl (hs_cons rfl (hs_cons rfl (hs_cons rfl (hs_cons rfl hs_nil)))))))))) hP hD ?_ ?_
  ·
   rintro x6 γ7 fr w9 g y8 RPy8 nxy8 bky8 rty8 r hP hD
   have hP : Post No [roK 223 2 fieldC a0_v a0, rowK 22 1 u64 γ7 x6.1] w0 w9 := hP
   refine wsr ?_
   refine seq_val _ r (fun R => y_bin r rfl rfl rfl rfl) rfl fun fr r => ?_
   refine wn ?_
   refine wp_seq ?_
   refine wp_cond_split (t := (decide (x6.2.2 < (a0.length : Int)))) (r.ev rfl) (fun h10 => ?_) (fun h10 => ?_)
   ·
    have hD := (cond_t h10).symm.trans hD
    refine wp_skip ?_
    refine wp_seq ?_
    refine wp_block ?_
    refine wsr ?_
    obtain ⟨x11, hx11, hD⟩ := zz0f hD
    refine seq_val (.pointer (some ⟨rowB a0_v, rowO a0_v + x6.2.2.toNat * 2, none⟩)) r (fun R => zz3b r (hP.ro (i := 0) rfl) hx11 sl228 rfl rfl) rfl fun fr r => ?_
    refine seq_val (.agg (fieldC x11).toArray) r (fun R => zzb4 r (cs := (fieldC x11)) (RoAt.at_ (f := fieldC) (x := x11) (hP.ro (i := 0) rfl) (fun _ => rfl) hx11) rfl ta223) rfl fun fr r => ?_
    refine seq_new (.cells ((fieldC (⟨0, 0⟩ : Field))).toArray 223 (0, 0)) r (fun R => y_alloc tz223) rfl fun fr b12 w13 n14 r => ?_
    have hP : Post No [roK 223 2 fieldC a0_v a0, rowK 22 1 u64 γ7 x6.1, cellC b12 ((fieldC (⟨0, 0⟩ : Field))).toArray 223] w0 w13 := hP.new n14
    refine seq_upd (.cells ((fieldC x11)).toArray 223 (0, 0)) r (fun R => y_store r (o := 0) (v := (.agg (fieldC x11).toArray)) rfl rfl (hP.cell (i := 2) rfl) ts223 (Nat.le_of_ble_eq_true rfl) rfl rfl) rfl fun fr w16 u17 r => ?_
    have hP : Post No [roK 223 2 fieldC a0_v a0, rowK 22 1 u64 γ7 x6.1, cellC b12 ((fieldC x11)).toArray 223] w0 w16 := hP.upd (i := 2) rfl u17
    refine wn ?_
    refine wsr ?_
    refine seq_val γ7 r (fun R => y_move r rfl) rfl fun fr r => ?_
    refine seq_val (.agg (fieldC x11).toArray) r (fun R => zz03 r (cs := (fieldC x11)) (n := 2) rfl (hP.cell (i := 2) rfl) ta223 rfl) rfl fun fr r => ?_
    refine seq_val (U a1) r (fun R => y_move r rfl) rfl fun fr r => ?_
    refine zz04 r (zz3r w16 x11 a1) (fun R hc => y_call r rfl cl161 hc) rfl ?_
    rintro _ w18 ⟨rfl, hb⟩
    refine ⟨_, rfl, fun fr r => ?_⟩
    have hP : Post No [roK 223 2 fieldC a0_v a0, rowK 22 1 u64 γ7 x6.1, cellC b12 ((fieldC x11)).toArray 223] w0 w18 := hP.below hb
    refine zzdj (.cells (([(D.zz0c x11 a1)]).flatMap u64).toArray 22 (0, 0)) 1 r (fun R => zz44 r (by kernel_rfl)) rfl fun fr b19 w20 n21 r => ?_
    have hP : Post No [roK 223 2 fieldC a0_v a0, rowK 22 1 u64 γ7 x6.1, cellC b12 ((fieldC x11)).toArray 223, rowK 22 1 u64 (.slice (some ⟨b19, 0, none⟩) 1 1) ([(D.zz0c x11 a1)])] w0 w20 := hP.newRow n21 (fun _ => rfl) rfl
    obtain ⟨x23, hx23, hD⟩ := zz0f hD
    refine seq_app 22 1 u64 γ7 r (fun R => zzfr r rt49 (fun _ => rfl) (fun _ => rfl) (hP.row (i := 1) rfl) (hP.row (i := 3) rfl).ro hx23 rfl rfl) rfl fun fr v24 w25 ha26 r => ?_
    have hP : Post No [roK 223 2 fieldC a0_v a0, rowK 22 1 u64 v24 x23, cellC b12 ((fieldC x11)).toArray 223, rowK 22 1 u64 (.slice (some ⟨b19, 0, none⟩) 1 1) ([(D.zz0c x11 a1)])] w0 w25 := hP.append (i := 1) rfl ha26
    refine seq_val v24 r (fun R => zz05 r rfl) rfl fun fr r => ?_
    refine wn ?_
    refine wp_region_lit ?_
    refine seq_val (U x6.2.1) r (fun R => y_move r rfl) rfl fun fr r => ?_
    refine seq_val (.agg (fieldC x11).toArray) r (fun R => zz03 r (cs := (fieldC x11)) (n := 2) rfl (hP.cell (i := 2) rfl) ta223 rfl) rfl fun fr r => ?_
    refine zz04 r (zz3c w25 x11) (fun R hc => y_call r rfl cl260 hc) rfl ?_
    rintro _ w27 ⟨rfl, hb⟩
    refine ⟨_, rfl, fun fr r => ?_⟩
    have hP : Post No [roK 223 2 fieldC a0_v a0, rowK 22 1 u64 v24 x23, cellC b12 ((fieldC x11)).toArray 223, rowK 22 1 u64 (.slice (some ⟨b19, 0, none⟩) 1 1) ([(D.zz0c x11 a1)])] w0 w27 := hP.below hb
    refine seq_val _ r (fun R => y_bin r rfl rfl rfl rfl) rfl fun fr r => ?_
    refine seq_val (U (zz1u .u64 x6.2.1 (D.zz0l x11))) r (fun R => zz05 r rfl) rfl fun fr r => ?_
    refine wn ?_
    refine wp_region_lit ?_
    refine seq_val _ r (fun R => y_bin r rfl rfl rfl rfl) rfl fun fr r => ?_
    refine seq_val (I (W (x6.2.2 + 1))) r (fun R => y_move r rfl) rfl fun fr r => ?_
    refine wn ?_
    exact nxy8 (x23, (zz1u .u64 x6.2.1 (D.zz0l x11)), (W (x6.2.2 + 1))) v24 _ _ _ hD r (hs_cons rfl (hs_cons rfl (hs_cons rfl (hs_cons rfl (hs_cons rfl (hs_cons rfl (hs_cons rfl (hs_cons rfl (hs_cons rfl (hs_cons rfl hs_nil)))))))))) (hP.pick [0, 1] rfl rfl)
   ·
    have hD := (cond_f h10).symm.trans hD
    refine wp_exit ?_
    exact bky8 (x6.1, x6.2.1, x6.2.2) γ7 _ _ _ hD r (hs_cons rfl (hs_cons rfl (hs_cons rfl (hs_cons rfl (hs_cons rfl (hs_cons rfl (hs_cons rfl (hs_cons rfl (hs_cons rfl (hs_cons rfl hs_nil)))))))))) (hP.pick [0, 1] rfl rfl)
  ·
   rintro x28 γ29 fr w30 g r hP hD
   have hP : Post No [roK 223 2 fieldC a0_v a0, rowK 22 1 u64 γ29 x28.1] w0 w30 := hP
   refine wp_seq ?_
   refine wsr ?_
   refine seq_val (U x28.2.1) r (fun R => y_move r rfl) rfl fun fr r => ?_
   refine seq_val _ r (fun R => y_bin r rfl rfl rfl rfl) rfl fun fr r => ?_
   refine wn ?_
   refine wp_cond_split (t := (x28.2.1 != 0)) (r.ev rfl) (fun h31 => ?_) (fun h31 => ?_)
   ·
    have hD := (cond_t h31).symm.trans hD
    refine wsr ?_
    refine seq_val (Value.slice none 0 0) r (fun R => zz05 r rfl) rfl fun fr r => ?_
    refine seq_val (I 10) r (fun R => zz05 r rfl) rfl fun fr r => ?_
    refine wn ?_
    refine wp_ret ?_
    have hP : Post No [roK 223 2 fieldC a0_v a0, rowK 22 1 u64 γ29 x28.1, rowK 22 1 u64 (Value.slice none 0 0) ([])] w0 w30 := hP.nilRow 22 1 u64
    have hv : ([], 10) = res := Option.some.inj hD
    try dsimp only [Exit.then, Exit.inBlock]
    refine zz79 (fn := Tryz.f156) r (t := 4) (t' := 5) rfl (v := (Value.slice none 0 0)) (v' := (I 10)) rfl rfl ?_
    subst hv
    exact ⟨(Value.slice none 0 0), rfl, (hP.pick [2] rfl rfl).done (zz25 rfl zz2z)⟩
   ·
    have hD := (cond_f h31).symm.trans hD
    refine wp_skip ?_
    refine wsr ?_
    refine seq_val γ29 r (fun R => y_move r rfl) rfl fun fr r => ?_
    refine seq_val γ29 r (fun R => zz05 r rfl) rfl fun fr r => ?_
    refine seq_val (I 0) r (fun R => zz05 r rfl) rfl fun fr r => ?_
    refine wn ?_
    refine wp_ret ?_
    have hv : (x28.1, 0) = res := Option.some.inj hD
    try dsimp only [Exit.then, Exit.inBlock]
    refine zz79 (fn := Tryz.f156) r (t := 4) (t' := 5) rfl (v := γ29) (v' := (I 0)) rfl rfl ?_
    subst hv
    exact ⟨γ29, rfl, (hP.pick [1] rfl rfl).done (zz25 rfl zz2z)⟩

def D.zz0j (fu : Nat) (a0 : Int) : Option (State × Bool) := ((D.zz75 fu ).bind (fun (x5 : Arr3F) => ((D.zz5j fu ([x5.f0, x5.f1, x5.f2]) a0).bind (fun (x13 : List Int × Int) => (bif (x13.2 != 0) then (some ((⟨0, 0, 0⟩ : State), false)) else ((getI x13.1 0).bind (fun (x20 : Int) => ((getI x13.1 1).bind (fun (x21 : Int) => ((getI x13.1 2).bind (fun (x22 : Int) => (bif (!(D.zz0q (⟨(IntKind.i64.wrap x20), (IntKind.i64.wrap x21), (IntKind.i64.wrap x22)⟩ : State))) then (some ((⟨0, 0, 0⟩ : State), false)) else (some ((⟨(IntKind.i64.wrap x20), (IntKind.i64.wrap x21), (IntKind.i64.wrap x22)⟩ : State), true))))))))))))))

theorem zz8k {fu : Nat} (w0 : World) (a0 : Int) {res : State × Bool} (hD : D.zz0j fu a0 = some res) :
    Calls Tryz.prog 67 #[.int .u64 a0] w0 (PureRes (.tuple #[(.agg (stateC res.1).toArray), (.bool res.2)]) w0) := by
 refine enter Tryz.func67 rfl 36 rfl rfl fun fr r => ?_
 have hP : Post No [] w0 w0 := Post.nil w0
 unfold D.zz0j at hD
 refine wsr ?_
 refine seq_new (.cells ((stateC (⟨0, 0, 0⟩ : State))).toArray 118 (0, 0)) r (fun R => y_alloc tz118) rfl fun fr b1 w2 n3 r => ?_
 have hP : Post No [cellC b1 ((stateC (⟨0, 0, 0⟩ : State))).toArray 118] w0 w2 := hP.new n3
 refine seq_val (.bool false) r (fun R => zz05 r rfl) rfl fun fr r => ?_
 refine wn ?_
 refine wsr ?_
 obtain ⟨x5, hx5, hD⟩ := zz0f hD
 refine zz04 r (zza0 w2  hx5) (fun R hc => y_call r rfl cl155 hc) rfl ?_
 rintro _ w6 ⟨rfl, hb⟩
 refine ⟨_, rfl, fun fr r => ?_⟩
 have hP : Post No [cellC b1 ((stateC (⟨0, 0, 0⟩ : State))).toArray 118] w0 w6 := hP.below hb
 refine seq_new (.cells ((arr3FC (⟨(⟨0, 0⟩ : Field), (⟨0, 0⟩ : Field), (⟨0, 0⟩ : Field)⟩ : Arr3F))).toArray 224 (0, 0)) r (fun R => y_alloc tz224) rfl fun fr b7 w8 n9 r => ?_
 have hP : Post No [cellC b1 ((stateC (⟨0, 0, 0⟩ : State))).toArray 118, cellC b7 ((arr3FC (⟨(⟨0, 0⟩ : Field), (⟨0, 0⟩ : Field), (⟨0, 0⟩ : Field)⟩ : Arr3F))).toArray 224] w0 w8 := hP.new n9
 refine seq_upd (.cells ((arr3FC x5)).toArray 224 (0, 0)) r (fun R => y_store r (o := 0) (v := (.agg (arr3FC x5).toArray)) rfl rfl (hP.cell (i := 1) rfl) ts224 (Nat.le_of_ble_eq_true rfl) rfl rfl) rfl fun fr w11 u12 r => ?_
 have hP : Post No [cellC b1 ((stateC (⟨0, 0, 0⟩ : State))).toArray 118, cellC b7 ((arr3FC x5)).toArray 224] w0 w11 := hP.upd (i := 1) rfl u12
 refine wn ?_
 refine wsr ?_
 refine seq_val (.slice (some ⟨b7, 0, none⟩) 3 3) r (fun R => y_arr r ar224 rfl) rfl fun fr r => ?_
 refine seq_val (U a0) r (fun R => y_move r rfl) rfl fun fr r => ?_
 obtain ⟨x13, hx13, hD⟩ := zz0f hD
 refine zz04 r (zzds w11 ([x5.f0, x5.f1, x5.f2]) (RoAt.ofCell (hP.cell (i := 1) rfl) rfl (List.cons_ne_nil _ _) rfl) a0 hx13) (fun R hc => y_call r rfl cl156 hc) rfl ?_
 rintro _ w14 ⟨v15, rfl, hq⟩
 refine ⟨_, rfl, fun fr r => ?_⟩
 have hP : Post No [cellC b1 ((stateC (⟨0, 0, 0⟩ : State))).toArray 118, cellC b7 ((arr3FC x5)).toArray 224, rowK 22 1 u64 v15 x13.1] w0 w14 := hP.add hq
 refine seq_val (.tuple #[v15, (I x13.2)]) r (fun R => y_move r rfl) rfl fun fr r => ?_
 refine seq_val v15 r (fun R => zz0t r (vs := #[v15, (I x13.2)]) rfl rfl) rfl fun fr r => ?_
 refine seq_val (I x13.2) r (fun R => zz0t r (vs := #[v15, (I x13.2)]) rfl rfl) rfl fun fr r => ?_
 refine seq_val v15 r (fun R => zz05 r rfl) rfl fun fr r => ?_
 refine seq_val (I x13.2) r (fun R => zz05 r rfl) rfl fun fr r => ?_
 refine wn ?_
 refine wp_seq ?_
 refine wsr ?_
 refine seq_val (I x13.2) r (fun R => y_move r rfl) rfl fun fr r => ?_
 refine seq_val _ r (fun R => y_bin r rfl rfl rfl rfl) rfl fun fr r => ?_
 refine wn ?_
 refine wp_cond_split (t := (x13.2 != 0)) (r.ev rfl) (fun h17 => ?_) (fun h17 => ?_)
 ·
  have hD := (cond_t h17).symm.trans hD
  refine wsr ?_
  refine seq_val (.agg (stateC (⟨0, 0, 0⟩ : State)).toArray) r (fun R => y_build r (by kernel_rfl)) rfl fun fr r => ?_
  refine seq_upd (.cells ((stateC (⟨0, 0, 0⟩ : State))).toArray 118 (0, 0)) r (fun R => y_store r (o := 0) (v := (.agg (stateC (⟨0, 0, 0⟩ : State)).toArray)) rfl rfl (hP.cell (i := 0) rfl) ts118 (Nat.le_of_ble_eq_true rfl) rfl rfl) rfl fun fr w18 u19 r => ?_
  have hP : Post No [cellC b1 ((stateC (⟨0, 0, 0⟩ : State))).toArray 118, cellC b7 ((arr3FC x5)).toArray 224, rowK 22 1 u64 v15 x13.1] w0 w18 := hP.upd (i := 0) rfl u19
  refine seq_val (.bool false) r (fun R => zz05 r rfl) rfl fun fr r => ?_
  refine wn ?_
  refine wp_ret ?_
  have hv : ((⟨0, 0, 0⟩ : State), false) = res := Option.some.inj hD
  try dsimp only [Exit.then, Exit.inBlock]
  refine zz2r (fn := Tryz.f67) r rfl rfl (v' := (.bool false)) rfl (hP.cell (i := 0) rfl) (k := 3) rfl ta118 ?_
  subst hv
  exact ⟨rfl, hP.chg.below⟩
 ·
  have hD := (cond_f h17).symm.trans hD
  refine wp_skip ?_
  refine wp_seq ?_
  obtain ⟨x20, hx20, hD⟩ := zz0f hD
  obtain ⟨x21, hx21, hD⟩ := zz0f hD
  obtain ⟨x22, hx22, hD⟩ := zz0f hD
  refine zz3e [.val v15, .val (.pointer (some ⟨rowB v15, rowO v15 + (0 : Int).toNat * 1, none⟩)), .val (U x20), .val (I (W x20)), .val v15, .val (.pointer (some ⟨rowB v15, rowO v15 + (1 : Int).toNat * 1, none⟩)), .val (U x21), .val (I (W x21)), .val v15, .val (.pointer (some ⟨rowB v15, rowO v15 + (2 : Int).toNat * 1, none⟩)), .val (U x22), .val (I (W x22)), .val (.agg (stateC (⟨(W x20), (W x21), (W x22)⟩ : State)).toArray), .cell 118 3, .stored 13 ((stateC (⟨(W x20), (W x21), (W x22)⟩ : State))).toArray 118 3 rfl] mixed r (by kernel_rfl) ?_ ?_
  ·
   refine fc r (fun fr1 g w' hb' hd r' => y_move r' rfl bz) ?_
   refine fc r (fun fr1 g w' hb' hd r' => zz3b r' ((hP.below (dr hb')).row (i := 2) rfl).ro hx20 sl49 (hd 0 rfl).1 rfl bz) ?_
   refine fc r (fun fr1 g w' hb' hd r' => zz2y r' (u := (U x20)) (RoAt.at_ (f := u64) (x := x20) ((hP.below (dr hb')).row (i := 2) rfl).ro (fun _ => rfl) hx20) (hd 1 rfl).1 to22 bz) ?_
   refine fc r (fun fr1 g w' hb' hd r' => zz1m r' (n := x20) (hd 2 rfl).1 ti22 ti3 bz) ?_
   refine fc r (fun fr1 g w' hb' hd r' => y_move r' rfl bz) ?_
   refine fc r (fun fr1 g w' hb' hd r' => zz3b r' ((hP.below (dr hb')).row (i := 2) rfl).ro hx21 sl49 (hd 4 rfl).1 rfl bz) ?_
   refine fc r (fun fr1 g w' hb' hd r' => zz2y r' (u := (U x21)) (RoAt.at_ (f := u64) (x := x21) ((hP.below (dr hb')).row (i := 2) rfl).ro (fun _ => rfl) hx21) (hd 5 rfl).1 to22 bz) ?_
   refine fc r (fun fr1 g w' hb' hd r' => zz1m r' (n := x21) (hd 6 rfl).1 ti22 ti3 bz) ?_
   refine fc r (fun fr1 g w' hb' hd r' => y_move r' rfl bz) ?_
   refine fc r (fun fr1 g w' hb' hd r' => zz3b r' ((hP.below (dr hb')).row (i := 2) rfl).ro hx22 sl49 (hd 8 rfl).1 rfl bz) ?_
   refine fc r (fun fr1 g w' hb' hd r' => zz2y r' (u := (U x22)) (RoAt.at_ (f := u64) (x := x22) ((hP.below (dr hb')).row (i := 2) rfl).ro (fun _ => rfl) hx22) (hd 9 rfl).1 to22 bz) ?_
   refine fc r (fun fr1 g w' hb' hd r' => zz1m r' (n := x22) (hd 10 rfl).1 ti22 ti3 bz) ?_
   refine fc r (fun fr1 g w' hb' hd r' => y_build r' (v := (.agg (stateC (⟨(W x20), (W x21), (W x22)⟩ : State)).toArray)) (bs3 (congrArg (fun z => (0, z)) (hd 3 rfl).1) (congrArg (fun z => (1, z)) (hd 7 rfl).1) (congrArg (fun z => (2, z)) (hd 11 rfl).1) (by kernel_rfl)) bz) ?_
   refine fc r (fun fr1 g w' hb' hd r' => y_alloc tz118 (fun b w2 n2 => ⟨n2.below, b, rfl, n2.eq, _, n2.at_, rfl⟩)) ?_
   refine zz9t r rfl (fun fr1 g w' hb' hd r' => ?_) ?_
   · obtain ⟨hp, _, c, hc, hn⟩ := (hd 13 rfl).1; exact y_store r' (o := 0) (c := c) (v := (.agg (stateC (⟨(W x20), (W x21), (W x22)⟩ : State)).toArray)) hp (hd 12 rfl).1 hc ts118 (by rw [hn]; exact Nat.le_of_ble_eq_true rfl) rfl (zz3k (hn.trans rfl)) (fun w2 u2 => ⟨u2, rfl⟩)
   exact zz1c
  ·
   intro fr gg w24 hb hΦ hap r
   obtain ⟨b23, ee_b23⟩ : ∃ b, b = (gg 13).lo := ⟨_, rfl⟩
   have g13 : (gg 13).v = (.pointer (some ⟨b23, 0, none⟩)) := by rw [ee_b23]; exact (hΦ 13 rfl).1.1
   have h_b23 : w24.heap[b23]? = some (.cells ((stateC (⟨(W x20), (W x21), (W x22)⟩ : State))).toArray 118 (0, 0)) := by rw [ee_b23]; exact (hΦ 14 rfl).1.2
   have hs13 : Fresh [cellC b23 ((stateC (⟨(W x20), (W x21), (W x22)⟩ : State))).toArray 118] (gg 13).lo (gg 13).hi w24 := by subst ee_b23; exact Fresh.cell (hΦ 13 rfl).1.2.1 h_b23
   have r := r.congr (sc g13 (sc ((hΦ 12 rfl).1) (sc ((hΦ 11 rfl).1) (sc ((hΦ 10 rfl).1) (sc ((hΦ 9 rfl).1) (sc ((hΦ 8 rfl).1) (sc ((hΦ 7 rfl).1) (sc ((hΦ 6 rfl).1) (sc ((hΦ 5 rfl).1) (sc ((hΦ 4 rfl).1) (sc ((hΦ 3 rfl).1) (sc ((hΦ 2 rfl).1) (sc ((hΦ 1 rfl).1) (sc ((hΦ 0 rfl).1) rfl))))))))))))))
   have hP : Post No [cellC b1 ((stateC (⟨0, 0, 0⟩ : State))).toArray 118, cellC b7 ((arr3FC x5)).toArray 224, rowK 22 1 u64 v15 x13.1, cellC b23 ((stateC (⟨(W x20), (W x21), (W x22)⟩ : State))).toArray 118] w0 w24 := hP.addL (l := [([cellC b23 ((stateC (⟨(W x20), (W x21), (W x22)⟩ : State))).toArray 118], (gg 13).lo, (gg 13).hi)]) hb ⟨hs13, (hΦ 13 rfl).2.1, zz26, trivial⟩
   refine wp_seq ?_
   refine wsr ?_
   refine seq_val (.agg (stateC (⟨(W x20), (W x21), (W x22)⟩ : State)).toArray) r (fun R => zz03 r (cs := (stateC (⟨(W x20), (W x21), (W x22)⟩ : State))) (n := 3) rfl (hP.cell (i := 3) rfl) ta118 rfl) rfl fun fr r => ?_
   refine zz04 r (zz5p w24 (⟨(W x20), (W x21), (W x22)⟩ : State)) (fun R hc => y_call r rfl cl157 hc) rfl ?_
   rintro _ w25 ⟨rfl, hb⟩
   refine ⟨_, rfl, fun fr r => ?_⟩
   have hP : Post No [cellC b1 ((stateC (⟨0, 0, 0⟩ : State))).toArray 118, cellC b7 ((arr3FC x5)).toArray 224, rowK 22 1 u64 v15 x13.1, cellC b23 ((stateC (⟨(W x20), (W x21), (W x22)⟩ : State))).toArray 118] w0 w25 := hP.below hb
   refine seq_val (.bool (!(D.zz0q (⟨(W x20), (W x21), (W x22)⟩ : State)))) r (fun R => y_un r (u := (.bool (D.zz0q (⟨(W x20), (W x21), (W x22)⟩ : State)))) rfl rfl) rfl fun fr r => ?_
   refine wn ?_
   refine wp_cond_split (t := (!(D.zz0q (⟨(W x20), (W x21), (W x22)⟩ : State)))) (r.ev rfl) (fun h26 => ?_) (fun h26 => ?_)
   ·
    have hD := (cond_t h26).symm.trans hD
    refine wsr ?_
    refine seq_val (.agg (stateC (⟨0, 0, 0⟩ : State)).toArray) r (fun R => y_build r (by kernel_rfl)) rfl fun fr r => ?_
    refine seq_upd (.cells ((stateC (⟨0, 0, 0⟩ : State))).toArray 118 (0, 0)) r (fun R => y_store r (o := 0) (v := (.agg (stateC (⟨0, 0, 0⟩ : State)).toArray)) rfl rfl (hP.cell (i := 0) rfl) ts118 (Nat.le_of_ble_eq_true rfl) rfl rfl) rfl fun fr w27 u28 r => ?_
    have hP : Post No [cellC b1 ((stateC (⟨0, 0, 0⟩ : State))).toArray 118, cellC b7 ((arr3FC x5)).toArray 224, rowK 22 1 u64 v15 x13.1, cellC b23 ((stateC (⟨(W x20), (W x21), (W x22)⟩ : State))).toArray 118] w0 w27 := hP.upd (i := 0) rfl u28
    refine seq_val (.bool false) r (fun R => zz05 r rfl) rfl fun fr r => ?_
    refine wn ?_
    refine wp_ret ?_
    have hv : ((⟨0, 0, 0⟩ : State), false) = res := Option.some.inj hD
    try dsimp only [Exit.then, Exit.inBlock]
    refine zz2r (fn := Tryz.f67) r rfl rfl (v' := (.bool false)) rfl (hP.cell (i := 0) rfl) (k := 3) rfl ta118 ?_
    subst hv
    exact ⟨rfl, hP.chg.below⟩
   ·
    have hD := (cond_f h26).symm.trans hD
    refine wp_skip ?_
    refine wsr ?_
    refine seq_val (.agg (stateC (⟨(W x20), (W x21), (W x22)⟩ : State)).toArray) r (fun R => zz03 r (cs := (stateC (⟨(W x20), (W x21), (W x22)⟩ : State))) (n := 3) rfl (hP.cell (i := 3) rfl) ta118 rfl) rfl fun fr r => ?_
    refine seq_upd (.cells ((stateC (⟨(W x20), (W x21), (W x22)⟩ : State))).toArray 118 (0, 0)) r (fun R => y_store r (o := 0) (v := (.agg (stateC (⟨(W x20), (W x21), (W x22)⟩ : State)).toArray)) rfl rfl (hP.cell (i := 0) rfl) ts118 (Nat.le_of_ble_eq_true rfl) rfl rfl) rfl fun fr w29 u30 r => ?_
    have hP : Post No [cellC b1 ((stateC (⟨(W x20), (W x21), (W x22)⟩ : State))).toArray 118, cellC b7 ((arr3FC x5)).toArray 224, rowK 22 1 u64 v15 x13.1, cellC b23 ((stateC (⟨(W x20), (W x21), (W x22)⟩ : State))).toArray 118] w0 w29 := hP.upd (i := 0) rfl u30
    refine seq_val (.bool true) r (fun R => zz05 r rfl) rfl fun fr r => ?_
    refine wn ?_
    refine wp_ret ?_
    have hv : ((⟨(W x20), (W x21), (W x22)⟩ : State), true) = res := Option.some.inj hD
    try dsimp only [Exit.then, Exit.inBlock]
    refine zz2r (fn := Tryz.f67) r rfl rfl (v' := (.bool true)) rfl (hP.cell (i := 0) rfl) (k := 3) rfl ta118 ?_
    subst hv
    exact ⟨rfl, hP.chg.below⟩

def D.zz6z (fu : Nat) (a0 : List Field) (a1 : List Int) : Option (Int × Int) := (Option.bind ((D.zz5q fu a0).bind (fun (x2 : Bool) => (bif (!x2) then (some true) else (some ((a0.length : Int) != (a1.length : Int)))))) (fun (x5 : Bool) => (bif x5 then (some (0, 1)) else (loopThen (fun (x9 : Int × Int × Int × Int) => (bif (decide (x9.2.2.2 < (a0.length : Int))) then ((getI a0 x9.2.2.2).bind (fun (x14 : Field) => ((getI a1 x9.2.2.2).bind (fun (x21 : Int) => (bif (decide (x21 > (D.zz0e x14))) then (some (Lp.ret (0, 1))) else ((getI a1 x9.2.2.2).bind (fun (x24 : Int) => (some (Lp.next (x9.1, x9.2.1, (D.zz16 x14 x9.2.2.1 x24), (IntKind.i64.wrap (x9.2.2.2 + 1)))))))))))) else (some (Lp.brk (x9.1, x9.2.1, x9.2.2.1, x9.2.2.2))))) fu (0, 0, 0, 0) (fun (x26 : Int × Int × Int × Int) => (some (x26.2.2.1, 0)))))))

theorem zzej {fu : Nat} (w0 : World) {a0_v : Value} (a0 : List Field) (a0_h : RoAt 223 2 fieldC a0_v a0 w0) {a1_v : Value} (a1 : List Int) (a1_h : RoAt 22 1 u64 a1_v a1 w0) {res : Int × Int} (hD : D.zz6z fu a0 a1 = some res) :
    Calls Tryz.prog 196 #[a0_v, a1_v] w0 (PureRes (.tuple #[(.int .u64 res.1), (.int .i64 res.2)]) w0) := by
 refine enter Tryz.func196 rfl 42 rfl rfl fun fr r => ?_
 have hP : Post No [] w0 w0 := Post.nil w0
 have hP : Post No [roK 223 2 fieldC a0_v a0] w0 w0 := hP.addRo zz4m a0_h rfl a0_h.lt
 have hP : Post No [roK 223 2 fieldC a0_v a0, roK 22 1 u64 a1_v a1] w0 w0 := hP.addRo (zzet rfl zz4m) a1_h rfl a1_h.lt
 unfold D.zz6z at hD
 refine wsr ?_
 refine seq_val (U 0) r (fun R => zz05 r rfl) rfl fun fr r => ?_
 refine seq_val (I 0) r (fun R => zz05 r rfl) rfl fun fr r => ?_
 refine wn ?_
 refine wp_seq ?_
 refine wp_seq ?_
 refine zz2f (N := 42) (Y := Bool) (G := Unit) (fun x γ => [(0, a0_v), (1, a1_v), (4, (U 0)), (5, (I 0)), (18, (.bool x))]) (fun x γ w => Post No [roK 223 2 fieldC a0_v a0, roK 22 1 u64 a1_v a1] w0 w) hD ?_ ?_
 ·
  rintro y1 RPy1 nxy1 hD
  refine wp_region_lit ?_
  refine seq_val a0_v r (fun R => y_move r rfl) rfl fun fr r => ?_
  obtain ⟨x2, hx2, hD⟩ := zz0f hD
  refine zz04 r (zzac w0 a0 (hP.ro (i := 0) rfl) hx2) (fun R hc => y_call r rfl cl259 hc) rfl ?_
  rintro _ w3 ⟨rfl, hb⟩
  refine ⟨_, rfl, fun fr r => ?_⟩
  have hP : Post No [roK 223 2 fieldC a0_v a0, roK 22 1 u64 a1_v a1] w0 w3 := hP.below hb
  refine seq_val (.bool (!x2)) r (fun R => y_un r (u := (.bool x2)) rfl rfl) rfl fun fr r => ?_
  refine seq_val (.bool (!x2)) r (fun R => y_move r rfl) rfl fun fr r => ?_
  refine zz0x (!x2) (fun h4 => ?_) (fun h4 => ?_)
  ·
   have hD := (cond_t h4).symm.trans hD
   refine s0 r h4 fun fr r => ?_
   refine s0 r h4 fun fr r => ?_
   refine s0 r h4 fun fr r => ?_
   refine s0 r h4 fun fr r => ?_
   refine s0 r h4 fun fr r => ?_
   refine seq_val (.bool true) r (fun R => y_pick r (b := true) (congrArg Value.bool h4) rfl) rfl fun fr r => ?_
   refine wn ?_
   exact nxy1 true () _ _ _ hD r (hs_cons rfl (hs_cons rfl (hs_cons rfl (hs_cons rfl (hs_cons rfl hs_nil))))) (hP.pick [0, 1] rfl rfl)
  ·
   have hD := (cond_f h4).symm.trans hD
   refine s1 r h4 ?_
   refine seq_val a0_v r (fun R => y_move r rfl) rfl fun fr r => ?_
   refine s1 r h4 ?_
   refine seq_val (I (a0.length : Int)) r (fun R => zz3f r (hP.ro (i := 0) rfl) is228 rfl) rfl fun fr r => ?_
   refine s1 r h4 ?_
   refine seq_val a1_v r (fun R => y_move r rfl) rfl fun fr r => ?_
   refine s1 r h4 ?_
   refine seq_val (I (a1.length : Int)) r (fun R => zz3f r (hP.ro (i := 1) rfl) is49 rfl) rfl fun fr r => ?_
   refine s1 r h4 ?_
   refine seq_val _ r (fun R => y_bin r rfl rfl rfl rfl) rfl fun fr r => ?_
   refine seq_val (.bool ((a0.length : Int) != (a1.length : Int))) r (fun R => y_pick r (b := false) (congrArg Value.bool h4) rfl) rfl fun fr r => ?_
   refine wn ?_
   exact nxy1 ((a0.length : Int) != (a1.length : Int)) () _ _ _ hD r (hs_cons rfl (hs_cons rfl (hs_cons rfl (hs_cons rfl (hs_cons rfl hs_nil))))) (hP.pick [0, 1] rfl rfl)
 ·
  rintro x5 γ6 fr w7 g r hP hD
  have hP : Post No [roK 223 2 fieldC a0_v a0, roK 22 1 u64 a1_v a1] w0 w7 := hP
  refine wp_cond_split (t := x5) (r.ev rfl) (fun h8 => ?_) (fun h8 => ?_)
  ·
   have hD := (cond_t h8).symm.trans hD
   refine wsr ?_
   refine seq_val (U 0) r (fun R => zz05 r rfl) rfl fun fr r => ?_
   refine seq_val (I 1) r (fun R => zz05 r rfl) rfl fun fr r => ?_
   refine wn ?_
   refine wp_ret ?_
   have hv : (0, 1) = res := Option.some.inj hD
   try dsimp only [Exit.then, Exit.inBlock]
   refine zz79 (fn := Tryz.f196) r (t := 4) (t' := 5) rfl (v := (U 0)) (v' := (I 1)) rfl rfl ?_
   subst hv
   exact ⟨rfl, hP.chg.below⟩
  ·
   have hD := (cond_f h8).symm.trans hD
   refine wp_skip ?_
   refine wsr ?_
   refine seq_val (U 0) r (fun R => zz05 r rfl) rfl fun fr r => ?_
   refine wn ?_
   refine wp_seq ?_
   refine wsr ?_
   refine seq_val a0_v r (fun R => y_move r rfl) rfl fun fr r => ?_
   refine seq_val (I (a0.length : Int)) r (fun R => zz3f r (hP.ro (i := 0) rfl) is228 rfl) rfl fun fr r => ?_
   refine seq_val (I 0) r (fun R => y_move r rfl) rfl fun fr r => ?_
   refine wn ?_
   refine zz7g (X := Int × Int × Int × Int) (G := Unit) (x0 := (0, 0, 0, 0)) (fun x γ => [(0, a0_v), (1, a1_v), (18, (.bool x5)), (19, a0_v), (20, (I (a0.length : Int))), (4, (U x.1)), (5, (I x.2.1)), (6, (U x.2.2.1)), (21, (I x.2.2.2))]) (fun x γ w => Post No [roK 223 2 fieldC a0_v a0, roK 22 1 u64 a1_v a1] w0 w) () r (hs_cons rfl (hs_cons rfl (hs_cons rfl (hs_cons rfl (hs_cons rfl (hs_cons rfl (hs_cons rfl (hs_cons rfl (hs_cons rfl hs_nil))))))))) hP hD ?_ ?_
   ·
    rintro x9 γ10 fr w12 g y11 RPy11 nxy11 bky11 rty11 r hP hD
    have hP : Post No [roK 223 2 fieldC a0_v a0, roK 22 1 u64 a1_v a1] w0 w12 := hP
    refine wsr ?_
    refine seq_val _ r (fun R => y_bin r rfl rfl rfl rfl) rfl fun fr r => ?_
    refine wn ?_
    refine wp_seq ?_
    refine wp_cond_split (t := (decide (x9.2.2.2 < (a0.length : Int)))) (r.ev rfl) (fun h13 => ?_) (fun h13 => ?_)
    ·
     have hD := (cond_t h13).symm.trans hD
     refine wp_skip ?_
     refine wp_seq ?_
     refine wp_block ?_
     refine wsr ?_
     refine seq_val (I x9.2.2.2) r (fun R => y_move r rfl) rfl fun fr r => ?_
     obtain ⟨x14, hx14, hD⟩ := zz0f hD
     refine seq_val (.pointer (some ⟨rowB a0_v, rowO a0_v + x9.2.2.2.toNat * 2, none⟩)) r (fun R => zz3b r (hP.ro (i := 0) rfl) hx14 sl228 rfl rfl) rfl fun fr r => ?_
     refine seq_val (.agg (fieldC x14).toArray) r (fun R => zzb4 r (cs := (fieldC x14)) (RoAt.at_ (f := fieldC) (x := x14) (hP.ro (i := 0) rfl) (fun _ => rfl) hx14) rfl ta223) rfl fun fr r => ?_
     refine seq_new (.cells ((fieldC (⟨0, 0⟩ : Field))).toArray 223 (0, 0)) r (fun R => y_alloc tz223) rfl fun fr b15 w16 n17 r => ?_
     have hP : Post No [roK 223 2 fieldC a0_v a0, roK 22 1 u64 a1_v a1, cellC b15 ((fieldC (⟨0, 0⟩ : Field))).toArray 223] w0 w16 := hP.new n17
     refine seq_val (I x9.2.2.2) r (fun R => zz05 r rfl) rfl fun fr r => ?_
     refine seq_upd (.cells ((fieldC x14)).toArray 223 (0, 0)) r (fun R => y_store r (o := 0) (v := (.agg (fieldC x14).toArray)) rfl rfl (hP.cell (i := 2) rfl) ts223 (Nat.le_of_ble_eq_true rfl) rfl rfl) rfl fun fr w19 u20 r => ?_
     have hP : Post No [roK 223 2 fieldC a0_v a0, roK 22 1 u64 a1_v a1, cellC b15 ((fieldC x14)).toArray 223] w0 w19 := hP.upd (i := 2) rfl u20
     refine wn ?_
     refine wp_seq ?_
     refine wp_seq ?_
     obtain ⟨x21, hx21, hD⟩ := zz0f hD
     refine zz3e [.val a1_v, .val (I x9.2.2.2), .val (.pointer (some ⟨rowB a1_v, rowO a1_v + x9.2.2.2.toNat * 1, none⟩)), .val (U x21), .val (.agg (fieldC x14).toArray), .val (U (D.zz0e x14)), .val (.bool (decide (x21 > (D.zz0e x14))))] mixed r (by kernel_rfl) ?_ ?_
     ·
      refine fc r (fun fr1 g w' hb' hd r' => y_move r' rfl bz) ?_
      refine fc r (fun fr1 g w' hb' hd r' => y_move r' rfl bz) ?_
      refine fc r (fun fr1 g w' hb' hd r' => zz3b r' ((hP.below (dr hb')).ro (i := 1) rfl) hx21 sl49 (hd 0 rfl).1 (hd 1 rfl).1 bz) ?_
      refine fc r (fun fr1 g w' hb' hd r' => zz2y r' (u := (U x21)) (RoAt.at_ (f := u64) (x := x21) ((hP.below (dr hb')).ro (i := 1) rfl) (fun _ => rfl) hx21) (hd 2 rfl).1 to22 bz) ?_
      refine fc r (fun fr1 g w' hb' hd r' => zz03 r' (cs := (fieldC x14)) (n := 2) rfl ((hP.below (dr hb')).cell (i := 2) rfl) ta223 rfl bz) ?_
      refine fc r (fun fr1 g w' hb' hd r' => y_call r' (args := [(.agg (fieldC x14).toArray)]) (lc (hd 4 rfl).1 l0) cl263 ((zz3a _ x14).mono (by rintro _ w2 ⟨rfl, hb2⟩; exact ⟨_, rfl, hb2, rfl⟩))) ?_
      refine fc r (fun fr1 g w' hb' hd r' => y_bin r' (hd 3 rfl).1 (hd 5 rfl).1 rfl rfl bz) ?_
      exact zz1c
     ·
      intro fr gg w22 hb hΦ hap r
      have r := r.congr (sc ((hΦ 6 rfl).1) (sc ((hΦ 5 rfl).1) (sc ((hΦ 4 rfl).1) (sc ((hΦ 3 rfl).1) (sc ((hΦ 2 rfl).1) (sc ((hΦ 1 rfl).1) (sc ((hΦ 0 rfl).1) rfl)))))))
      have hP : Post No [roK 223 2 fieldC a0_v a0, roK 22 1 u64 a1_v a1, cellC b15 ((fieldC x14)).toArray 223] w0 w22 := hP.below hb
      refine wp_cond_split (t := (decide (x21 > (D.zz0e x14)))) (r.ev rfl) (fun h23 => ?_) (fun h23 => ?_)
      ·
       have hD := (cond_t h23).symm.trans hD
       refine wsr ?_
       refine seq_val (U 0) r (fun R => zz05 r rfl) rfl fun fr r => ?_
       refine seq_val (I 1) r (fun R => zz05 r rfl) rfl fun fr r => ?_
       refine wn ?_
       refine wp_ret ?_
       refine rty11 (0, 1) _ _ hD fun hD => ?_
       have hv : (0, 1) = res := Option.some.inj hD
       try dsimp only [Exit.then, Exit.inBlock]
       refine zz79 (fn := Tryz.f196) r (t := 4) (t' := 5) rfl (v := (U 0)) (v' := (I 1)) rfl rfl ?_
       subst hv
       exact ⟨rfl, hP.chg.below⟩
      ·
       have hD := (cond_f h23).symm.trans hD
       refine wp_skip ?_
       obtain ⟨x24, hx24, hD⟩ := zz0f hD
       refine zz0s 7 [.val (.agg (fieldC x14).toArray), .val (U x9.2.2.1), .val a1_v, .val (I x9.2.2.2), .val (.pointer (some ⟨rowB a1_v, rowO a1_v + x9.2.2.2.toNat * 1, none⟩)), .val (U x24), .val (U (D.zz16 x14 x9.2.2.1 x24))] mixed r (by kernel_rfl) (zz00 (by exact trivial) (zz00 (by exact trivial) (zz00 (by exact trivial) (zz00 (by exact trivial) (zz00 (by exact trivial) (zz00 (by exact trivial) (zz00 (by exact trivial) zz0m))))))) ?_ ?_
       ·
        refine ec r (fun _ u _ b d s => zz03 s (cs := (fieldC x14)) (n := 2) rfl ((hP.below (dr b)).cell (i := 2) rfl) ta223 rfl bz) ?_
        refine ec r (fun _ u _ b d s => y_move s rfl bz) ?_
        refine ec r (fun _ u _ b d s => y_move s rfl bz) ?_
        refine ec r (fun _ u _ b d s => y_move s rfl bz) ?_
        refine ec r (fun _ u _ b d s => zz3b s ((hP.below (dr b)).ro (i := 1) rfl) hx24 sl49 d.1 d.2.1 bz) ?_
        refine ec r (fun fr1 u w' hb' hd r' => zz2y r' (u := (U x24)) (RoAt.at_ (f := u64) (x := x24) ((hP.below (dr hb')).ro (i := 1) rfl) (fun _ => rfl) hx24) hd.1 to22 bz) ?_
        refine ec r (fun fr1 u w' hb' hd r' => y_call r' (args := [(.agg (fieldC x14).toArray), (U x9.2.2.1), (U x24)]) (lc hd.1 (lc hd.2.1 (lc hd.2.2.1 l0))) cl296 ((zz58 _ x14 x9.2.2.1 x24).mono (by rintro _ w2 ⟨rfl, hb2⟩; exact ⟨_, rfl, hb2, rfl⟩))) ?_
        exact zz10
       ·
        intro fr u w25 hb hΦ hne r
        have r := r.congr (sc (hΦ 6 (by decide)) (sc (hΦ 5 (by decide)) (sc (hΦ 4 (by decide)) (sc (hΦ 3 (by decide)) (sc (hΦ 2 (by decide)) (sc (hΦ 1 (by decide)) (sc (hΦ 0 (by decide)) rfl)))))))
        have hP : Post No [roK 223 2 fieldC a0_v a0, roK 22 1 u64 a1_v a1, cellC b15 ((fieldC x14)).toArray 223] w0 w25 := hP.below hb
        refine seq_val (U (D.zz16 x14 x9.2.2.1 x24)) r (fun R => zz05 r rfl) rfl fun fr r => ?_
        refine wn ?_
        refine wp_region_lit ?_
        refine seq_val _ r (fun R => y_bin r rfl rfl rfl rfl) rfl fun fr r => ?_
        refine seq_val (I (W (x9.2.2.2 + 1))) r (fun R => y_move r rfl) rfl fun fr r => ?_
        refine wn ?_
        exact nxy11 (x9.1, x9.2.1, (D.zz16 x14 x9.2.2.1 x24), (W (x9.2.2.2 + 1))) () _ _ _ hD r (hs_cons rfl (hs_cons rfl (hs_cons rfl (hs_cons rfl (hs_cons rfl (hs_cons rfl (hs_cons rfl (hs_cons rfl (hs_cons rfl hs_nil))))))))) (hP.pick [0, 1] rfl rfl)
    ·
     have hD := (cond_f h13).symm.trans hD
     refine wp_exit ?_
     exact bky11 (x9.1, x9.2.1, x9.2.2.1, x9.2.2.2) () _ _ _ hD r (hs_cons rfl (hs_cons rfl (hs_cons rfl (hs_cons rfl (hs_cons rfl (hs_cons rfl (hs_cons rfl (hs_cons rfl (hs_cons rfl hs_nil))))))))) (hP.pick [0, 1] rfl rfl)
   ·
    rintro x26 γ27 fr w28 g r hP hD
    have hP : Post No [roK 223 2 fieldC a0_v a0, roK 22 1 u64 a1_v a1] w0 w28 := hP
    refine wsr ?_
    refine seq_val (U x26.2.2.1) r (fun R => y_move r rfl) rfl fun fr r => ?_
    refine seq_val (U x26.2.2.1) r (fun R => zz05 r rfl) rfl fun fr r => ?_
    refine seq_val (I 0) r (fun R => zz05 r rfl) rfl fun fr r => ?_
    refine wn ?_
    refine wp_ret ?_
    have hv : (x26.2.2.1, 0) = res := Option.some.inj hD
    try dsimp only [Exit.then, Exit.inBlock]
    refine zz79 (fn := Tryz.f196) r (t := 4) (t' := 5) rfl (v := (U x26.2.2.1)) (v' := (I 0)) rfl rfl ?_
    subst hv
    exact ⟨rfl, hP.chg.below⟩

def D.zz0v (fu : Nat) (a0 : State) : Option (Int) := (bif (!(D.zz0q a0)) then (some 0) else ((D.zz75 fu ).bind (fun (x7 : Arr3F) => ((D.zz6z fu ([x7.f0, x7.f1, x7.f2]) ([(IntKind.u64.wrap a0.gen), (IntKind.u64.wrap a0.mode), (IntKind.u64.wrap a0.kind)])).bind (fun (x17 : Int × Int) => (some x17.1))))))

theorem zz2e {fu : Nat} (w0 : World) (a0 : State) {res : Int} (hD : D.zz0v fu a0 = some res) :
    Calls Tryz.prog 91 #[.agg (stateC a0).toArray] w0 (PureRes (.int .u64 res) w0) := by
 refine enter Tryz.func91 rfl 26 rfl rfl fun fr r => ?_
 have hP : Post No [] w0 w0 := Post.nil w0
 unfold D.zz0v at hD
 refine wsr ?_
 refine seq_new (.cells ((stateC a0)).toArray 118 (0, 0)) r (fun R => y_box r (v := (.agg (stateC a0).toArray)) rfl) rfl fun fr b1 w2 n3 r => ?_
 have hP : Post No [cellC b1 ((stateC a0)).toArray 118] w0 w2 := hP.new n3
 refine seq_val (U 0) r (fun R => zz05 r rfl) rfl fun fr r => ?_
 refine wn ?_
 refine wp_seq ?_
 refine wsr ?_
 refine seq_val (.agg (stateC a0).toArray) r (fun R => zz03 r (cs := (stateC a0)) (n := 3) rfl (hP.cell (i := 0) rfl) ta118 rfl) rfl fun fr r => ?_
 refine zz04 r (zz5p w2 a0) (fun R hc => y_call r rfl cl157 hc) rfl ?_
 rintro _ w5 ⟨rfl, hb⟩
 refine ⟨_, rfl, fun fr r => ?_⟩
 have hP : Post No [cellC b1 ((stateC a0)).toArray 118] w0 w5 := hP.below hb
 refine seq_val (.bool (!(D.zz0q a0))) r (fun R => y_un r (u := (.bool (D.zz0q a0))) rfl rfl) rfl fun fr r => ?_
 refine wn ?_
 refine wp_cond_split (t := (!(D.zz0q a0))) (r.ev rfl) (fun h6 => ?_) (fun h6 => ?_)
 ·
  have hD := (cond_t h6).symm.trans hD
  refine wsr ?_
  refine seq_val (U 0) r (fun R => zz05 r rfl) rfl fun fr r => ?_
  refine wn ?_
  refine wp_ret ?_
  have hv : 0 = res := Option.some.inj hD
  try dsimp only [Exit.then, Exit.inBlock]
  refine ret_tmp (fn := Tryz.f91) r (t := 2) rfl (v := (U 0)) rfl ?_
  subst hv
  exact ⟨rfl, hP.chg.below⟩
 ·
  have hD := (cond_f h6).symm.trans hD
  refine wp_skip ?_
  refine wsr ?_
  obtain ⟨x7, hx7, hD⟩ := zz0f hD
  refine zz04 r (zza0 w5  hx7) (fun R hc => y_call r rfl cl155 hc) rfl ?_
  rintro _ w8 ⟨rfl, hb⟩
  refine ⟨_, rfl, fun fr r => ?_⟩
  have hP : Post No [cellC b1 ((stateC a0)).toArray 118] w0 w8 := hP.below hb
  refine seq_new (.cells ((arr3FC (⟨(⟨0, 0⟩ : Field), (⟨0, 0⟩ : Field), (⟨0, 0⟩ : Field)⟩ : Arr3F))).toArray 224 (0, 0)) r (fun R => y_alloc tz224) rfl fun fr b9 w10 n11 r => ?_
  have hP : Post No [cellC b1 ((stateC a0)).toArray 118, cellC b9 ((arr3FC (⟨(⟨0, 0⟩ : Field), (⟨0, 0⟩ : Field), (⟨0, 0⟩ : Field)⟩ : Arr3F))).toArray 224] w0 w10 := hP.new n11
  refine seq_upd (.cells ((arr3FC x7)).toArray 224 (0, 0)) r (fun R => y_store r (o := 0) (v := (.agg (arr3FC x7).toArray)) rfl rfl (hP.cell (i := 1) rfl) ts224 (Nat.le_of_ble_eq_true rfl) rfl rfl) rfl fun fr w13 u14 r => ?_
  have hP : Post No [cellC b1 ((stateC a0)).toArray 118, cellC b9 ((arr3FC x7)).toArray 224] w0 w13 := hP.upd (i := 1) rfl u14
  refine wn ?_
  refine wp_seq ?_
  obtain ⟨x17, hx17, hD⟩ := zz0f hD
  refine zz3e [.val (.slice (some ⟨b9, 0, none⟩) 3 3), .val (.pointer (some ⟨b1, 0, none⟩)), .val (I a0.gen), .val (U (V a0.gen)), .val (.pointer (some ⟨b1, 1, none⟩)), .val (I a0.mode), .val (U (V a0.mode)), .val (.pointer (some ⟨b1, 2, none⟩)), .val (I a0.kind), .val (U (V a0.kind)), .pred (MkP (fun v : Value => v) (fun v : Value => [rowK 22 1 u64 v ([(V a0.gen), (V a0.mode), (V a0.kind)])])) (MkP.st _ _), .val (.tuple #[(U x17.1), (I x17.2)]), .val (.tuple #[(U x17.1), (I x17.2)]), .val (U x17.1), .val (I x17.2), .val (U x17.1), .val (I x17.2)] mixed r (by kernel_rfl) ?_ ?_
  ·
   refine fc r (fun fr1 g w' hb' hd r' => y_arr r' ar224 rfl bz) ?_
   refine fc r (fun fr1 g w' hb' hd r' => zz02 r' (b := b1) (o := 0) rfl fo118_0 bz) ?_
   refine fc r (fun fr1 g w' hb' hd r' => zz01 r' (hd 1 rfl).1 ((hP.below (dr hb')).cell (i := 0) rfl) to3 rfl bz) ?_
   refine fc r (fun fr1 g w' hb' hd r' => zz1m r' (n := a0.gen) (hd 2 rfl).1 ti3 ti22 bz) ?_
   refine fc r (fun fr1 g w' hb' hd r' => zz02 r' (b := b1) (o := 0) rfl fo118_1 bz) ?_
   refine fc r (fun fr1 g w' hb' hd r' => zz01 r' (hd 4 rfl).1 ((hP.below (dr hb')).cell (i := 0) rfl) to3 rfl bz) ?_
   refine fc r (fun fr1 g w' hb' hd r' => zz1m r' (n := a0.mode) (hd 5 rfl).1 ti3 ti22 bz) ?_
   refine fc r (fun fr1 g w' hb' hd r' => zz02 r' (b := b1) (o := 0) rfl fo118_2 bz) ?_
   refine fc r (fun fr1 g w' hb' hd r' => zz01 r' (hd 7 rfl).1 ((hP.below (dr hb')).cell (i := 0) rfl) to3 rfl bz) ?_
   refine fc r (fun fr1 g w' hb' hd r' => zz1m r' (n := a0.kind) (hd 8 rfl).1 ti3 ti22 bz) ?_
   refine fc r (fun fr1 g w' hb' hd r' => zz44 r' (c := (([(V a0.gen), (V a0.mode), (V a0.kind)]).flatMap u64).toArray) (E := 22) (bs3 (congrArg (fun z => (0, z)) (hd 3 rfl).1) (congrArg (fun z => (1, z)) (hd 6 rfl).1) (congrArg (fun z => (2, z)) (hd 9 rfl).1) (by kernel_rfl)) (fun b w2 n2 => ⟨n2.below, MkP.newRow n2 (fun _ => rfl) rfl⟩)) ?_
   refine fc r (fun fr1 g w' hb' hd r' => y_call r' (args := [(.slice (some ⟨b9, 0, none⟩) 3 3), (g 10).v]) (lc (hd 0 rfl).1 (lc rfl l0)) cl196 ((zzej _ ([x7.f0, x7.f1, x7.f2]) (RoAt.ofCell ((hP.below (dr hb')).cell (i := 1) rfl) rfl (List.cons_ne_nil _ _) rfl) ([(V a0.gen), (V a0.mode), (V a0.kind)]) (MkP.row (hd 10 rfl).1) hx17).mono (by rintro _ w2 ⟨rfl, hb2⟩; exact ⟨_, rfl, hb2, rfl⟩))) ?_
   refine fc r (fun fr1 g w' hb' hd r' => y_move r' (hd 11 rfl).1 bz) ?_
   refine fc r (fun fr1 g w' hb' hd r' => zz0t r' (vs := #[(U x17.1), (I x17.2)]) (hd 12 rfl).1 rfl bz) ?_
   refine fc r (fun fr1 g w' hb' hd r' => zz0t r' (vs := #[(U x17.1), (I x17.2)]) (hd 12 rfl).1 rfl bz) ?_
   refine fc r (fun fr1 g w' hb' hd r' => zz05 r' (hd 13 rfl).1 bz) ?_
   refine fc r (fun fr1 g w' hb' hd r' => zz05 r' (hd 14 rfl).1 bz) ?_
   exact zz1c
  ·
   intro fr gg w18 hb hΦ hap r
   obtain ⟨v15, g10, hs10⟩ := (hΦ 10 rfl).1
   have r := r.congr (sc ((hΦ 16 rfl).1) (sc ((hΦ 15 rfl).1) (sc ((hΦ 14 rfl).1) (sc ((hΦ 13 rfl).1) (sc ((hΦ 12 rfl).1) (sc ((hΦ 11 rfl).1) (sc g10 (sc ((hΦ 9 rfl).1) (sc ((hΦ 8 rfl).1) (sc ((hΦ 7 rfl).1) (sc ((hΦ 6 rfl).1) (sc ((hΦ 5 rfl).1) (sc ((hΦ 4 rfl).1) (sc ((hΦ 3 rfl).1) (sc ((hΦ 2 rfl).1) (sc ((hΦ 1 rfl).1) (sc ((hΦ 0 rfl).1) rfl)))))))))))))))))
   have hP : Post No [cellC b1 ((stateC a0)).toArray 118, cellC b9 ((arr3FC x7)).toArray 224, rowK 22 1 u64 v15 ([(V a0.gen), (V a0.mode), (V a0.kind)])] w0 w18 := hP.addL (l := [([rowK 22 1 u64 v15 ([(V a0.gen), (V a0.mode), (V a0.kind)])], (gg 10).lo, (gg 10).hi)]) hb ⟨hs10, (hΦ 10 rfl).2.1, zz26, trivial⟩
   refine wsr ?_
   refine seq_val (U x17.1) r (fun R => y_move r rfl) rfl fun fr r => ?_
   refine seq_val (U x17.1) r (fun R => zz05 r rfl) rfl fun fr r => ?_
   refine wn ?_
   refine wp_ret ?_
   have hv : x17.1 = res := Option.some.inj hD
   try dsimp only [Exit.then, Exit.inBlock]
   refine ret_tmp (fn := Tryz.f91) r (t := 2) rfl (v := (U x17.1)) rfl ?_
   subst hv
   exact ⟨rfl, hP.chg.below⟩

end Go.Proofs.YtjkinpbfmihhdaaGreat.St

/- States' words: the code's answers by closed forms. -/
namespace Go.Proofs.YtjkinpbfmihhdaaGreat
open Go.RowKit

def fGen : Field := ⟨0, 30⟩

def fMode : Field := ⟨30, 2⟩

def fKind : Field := ⟨32, 2⟩

theorem zze2 : St.D.zz5q 10 [fGen, fMode, fKind] = some true := by decide +kernel

theorem zzg0 (w : Int) : St.D.zz5j 10 [fGen, fMode, fKind] w = bif (zz1u .u64 (zz1u .u64 (zz1u .u64 w (D.zz0l fGen)) (D.zz0l fMode)) (D.zz0l fKind) != 0) then some ([], 10)
    else some ([D.zz0c fGen w, D.zz0c fMode w, D.zz0c fKind w], 0) := by
  unfold St.D.zz5j
  rw [zze2]
  rfl

theorem zzg8 (a b c : Int) : St.D.zz6z 10 [fGen, fMode, fKind] [a, b, c] = bif (decide (a > D.zz0e fGen)) then some (0, 1) else bif (decide (b > D.zz0e fMode)) then some (0, 1) else bif (decide (c > D.zz0e fKind)) then some (0, 1)
    else some (D.zz16 fKind (D.zz16 fMode (D.zz16 fGen 0 a) b) c, 0) := by
  unfold St.D.zz6z
  rw [zze2]
  have w1 : IntKind.i64.wrap ((0 : Int) + 1) = 1 := rfl
  have w2 : IntKind.i64.wrap ((1 : Int) + 1) = 2 := rfl
  have w3 : IntKind.i64.wrap ((2 : Int) + 1) = 3 := rfl
  have g0 : ∀ {α : Type} (x y z : α), getI [x, y, z] 0 = some x := fun _ _ _ => rfl
  have g1 : ∀ {α : Type} (x y z : α), getI [x, y, z] 1 = some y := fun _ _ _ => rfl
  have g2 : ∀ {α : Type} (x y z : α), getI [x, y, z] 2 = some z := fun _ _ _ => rfl
  have l3 : ∀ {α : Type} (x y z : α), (([x, y, z] : List α).length : Int) = 3 := fun _ _ _ => rfl
  cases h1 : decide (a > D.zz0e fGen) <;> cases h2 : decide (b > D.zz0e fMode) <;> cases h3 : decide (c > D.zz0e fKind) <;>
    simp only [loopThen, runLoop, goOn, afterLoop, w1, w2, w3, g0, g1, g2, l3, h1, h2, h3, Option.bind_some, cond_true, cond_false, Bool.not_true, bne_self_eq_false, show decide ((0 : Int) < 3) = true from rfl, show decide ((1 : Int) < 3) = true from rfl, show decide ((2 : Int) < 3) = true from rfl, show decide ((3 : Int) < 3) = false from rfl]

/-- A state's word. -/
def D.zz0v (s : State) : Int := (St.D.zz0v 10 s).getD 0

/-- A word's state, and if it is one. -/
def D.zz0j (w : Int) : State × Bool := (St.D.zz0j 10 w).getD (⟨0, 0, 0⟩, false)

theorem zzfv (s : State) : ∃ r, St.D.zz0v 10 s = some r := by
  unfold St.D.zz0v
  cases (!(D.zz0q s))
  · show ∃ r, (((St.D.zz6z 10 [fGen, fMode, fKind] [IntKind.u64.wrap s.gen, IntKind.u64.wrap s.mode, IntKind.u64.wrap s.kind]).bind (fun (x17 : Int × Int) => (some x17.1)))) = some r
    rw [zzg8]
    generalize decide (IntKind.u64.wrap s.gen > D.zz0e fGen) = b1
    generalize decide (IntKind.u64.wrap s.mode > D.zz0e fMode) = b2
    generalize decide (IntKind.u64.wrap s.kind > D.zz0e fKind) = b3
    cases b1 <;> cases b2 <;> cases b3 <;> exact ⟨_, rfl⟩
  · exact ⟨_, rfl⟩

theorem of_some (w : Int) : ∃ r, St.D.zz0j 10 w = some r := by
  unfold St.D.zz0j
  show ∃ r, (St.D.zz5j 10 [fGen, fMode, fKind] w).bind _ = some r
  rw [zzg0]
  generalize (zz1u .u64 (zz1u .u64 (zz1u .u64 w (D.zz0l fGen)) (D.zz0l fMode)) (D.zz0l fKind) != 0) = b
  cases b
  · show ∃ r, (bif (!(D.zz0q (⟨(IntKind.i64.wrap (D.zz0c fGen w)), (IntKind.i64.wrap (D.zz0c fMode w)), (IntKind.i64.wrap (D.zz0c fKind w))⟩ : State))) then _ else _) = some r
    generalize (!(D.zz0q (⟨(IntKind.i64.wrap (D.zz0c fGen w)), (IntKind.i64.wrap (D.zz0c fMode w)), (IntKind.i64.wrap (D.zz0c fKind w))⟩ : State))) = b
    cases b <;> exact ⟨_, rfl⟩
  · exact ⟨_, rfl⟩

theorem zz2e (w0 : World) (a0 : State) : Calls Tryz.prog 91 #[.agg (stateC a0).toArray] w0 (PureRes (.int .u64 (D.zz0v a0)) w0) := by
  obtain ⟨r, hr⟩ := zzfv a0
  unfold D.zz0v
  rw [hr]
  exact St.zz2e w0 a0 hr

theorem zz8k (w0 : World) (a0 : Int) : Calls Tryz.prog 67 #[.int .u64 a0] w0 (PureRes (.tuple #[(.agg (stateC (D.zz0j a0).1).toArray), (.bool (D.zz0j a0).2)]) w0) := by
  obtain ⟨r, hr⟩ := of_some a0
  unfold D.zz0j
  rw [hr]
  exact St.zz8k w0 a0 hr

end Go.Proofs.YtjkinpbfmihhdaaGreat

/- Written by a program of ours (wip/gen.py): lists of nodes -/
set_option linter.unusedVariables false
set_option maxRecDepth 20000
set_option maxHeartbeats 2000000
namespace Go.Proofs.YtjkinpbfmihhdaaGreat
open Go.RowKit
theorem cl51 : callable Tryz.prog 51 = true := by kernel_rfl

end Go.Proofs.YtjkinpbfmihhdaaGreat
