/- Some of our texts, one behind the other. -/
import Derived.Test.YtfpgnmhcfkikkaaGreatAaM2
import Derived.Test.YtfpgnmhcfkikkaaGreatAaM3
import Derived.Test.YtfpgnmhcfkikkaaGreatAaM8
import Derived.Test.YtfpgnmhcfkikkaaGreatAaM4
import Derived.Test.YtfpgnmhcfkikkaaGreatAaRetires
import Derived.Test.YtfpgnmhcfkikkaaGreatAaM0
set_option linter.all false
/- Ours. -/
namespace Go.Proofs.YtfpgnmhcfkikkaaGreat
open Go.RowKit
theorem zaZ {x : Int} (h0 : -9223372036854775808 ≤ x) (h1 : x ≤ 9223372036854775807) : IntKind.i64.wrap x = x := by
  simp only [IntKind.wrap]
  simp [IntKind.signed, IntKind.bits]
  omega
structure PF (p : Plan) : Prop where
  n1 : 1 ≤ p.nodes
  n2 : p.nodes ≤ 1048576
  t1 : 1 ≤ p.threads
  t2 : p.threads ≤ 16
  d1 : 0 ≤ p.domains
  d2 : p.domains ≤ 64
  b1 : 1 ≤ p.buckets
  b2 : p.buckets ≤ 256
  g1 : 1 ≤ p.gen
  g2 : p.gen ≤ 1073741823
  r1 : 3 * p.threads + 1 ≤ p.retire
  r2 : p.retire ≤ 1024
theorem all_nil {α : Type} {P : α → Prop} : (∀ b, b ∈ ([] : List α) → P b) ↔ True := ⟨fun _ => trivial, fun _ _ hb => nomatch hb⟩
theorem all_cons {α : Type} {P : α → Prop} {x : α} {l : List α} : (∀ b, b ∈ x :: l → P b) ↔ P x ∧ ∀ b, b ∈ l → P b := List.forall_mem_cons
theorem within_iff {l : List Bound} : D.zaP l = true ↔ ∀ b, b ∈ l → b.least ≤ b.n ∧ b.n ≤ b.most := by
  unfold D.zaP
  rw [List.all_eq_true]
  constructor
  · intro h b hb
    have := h b hb
    simp only [Bool.and_eq_true, Bool.not_eq_true', decide_eq_false_iff_not] at this
    omega
  · intro h b hb
    have := h b hb
    simp only [Bool.and_eq_true, Bool.not_eq_true', decide_eq_false_iff_not]
    omega
theorem zfv {p : Plan} : D.zaR p = true ↔ PF p := by
  unfold D.zaR
  constructor
  · intro h
    cases h1 : D.zaP [(⟨p.nodes, 1, 1048576⟩ : Bound), ⟨p.threads, 1, 16⟩, ⟨p.domains, 0, 64⟩, ⟨p.buckets, 1, 256⟩, ⟨p.gen, 1, 1073741823⟩]
    · rw [h1] at h; cases h
    · rw [h1] at h
      simp only [cond_true] at h
      have h1 := within_iff.1 h1
      have h := within_iff.1 h
      simp only [all_cons, all_nil, and_true] at h1 h
      have hw : IntKind.i64.wrap (IntKind.i64.wrap (3 * p.threads) + 1) = 3 * p.threads + 1 := by
        rw [zaZ (x := 3 * p.threads) (by omega) (by omega), zaZ (by omega) (by omega)]
      rw [hw] at h
      constructor <;> omega
  · intro h
    obtain ⟨n1, n2, t1, t2, d1, d2, b1, b2, g1, g2, r1, r2⟩ := h
    have h1 : D.zaP [(⟨p.nodes, 1, 1048576⟩ : Bound), ⟨p.threads, 1, 16⟩, ⟨p.domains, 0, 64⟩, ⟨p.buckets, 1, 256⟩, ⟨p.gen, 1, 1073741823⟩] = true := by
      rw [within_iff]
      simp only [all_cons, all_nil, and_true]
      omega
    rw [h1]
    simp only [cond_true]
    have hw : IntKind.i64.wrap (IntKind.i64.wrap (3 * p.threads) + 1) = 3 * p.threads + 1 := by
      rw [zaZ (x := 3 * p.threads) (by omega) (by omega), zaZ (by omega) (by omega)]
    rw [hw, within_iff]
    simp only [all_cons, all_nil, and_true]
    omega
theorem zhq {p : Plan} (h : D.zav p = true) : PF p := by
  unfold D.zav at h
  simp only [cond_eq_ite, decide_eq_true_eq, Bool.if_false_left, Bool.if_false_right, Bool.and_eq_true, Bool.not_eq_true', decide_eq_false_iff_not] at h
  obtain ⟨h1, h2, h3, h4, h5, h6, h7, h8, h9, h10, h11, h12⟩ := h
  rw [zaZ (by omega) (by omega)] at h11
  constructor <;> omega
theorem zha {p : Plan} : D.zav p = true ↔ PF p := by
  refine ⟨zhq, fun h => ?_⟩
  obtain ⟨n1, n2, t1, t2, d1, d2, b1, b2, g1, g2, r1, r2⟩ := h
  unfold D.zav
  simp only [cond_eq_ite, decide_eq_true_eq, Bool.if_false_left, Bool.if_false_right, Bool.and_eq_true, Bool.not_eq_true', decide_eq_false_iff_not]
  rw [zaZ (by omega) (by omega)]
  omega
theorem zl8 {p : Plan} (hp : PF p) (h : D.zb8 p = true) : p.nodes ≤ 40 ∧ p.retire ≤ 40 ∧ p.domains ≤ 6 ∧ p.buckets ≤ 10 := by
  unfold D.zb8 at h
  rw [zha.2 hp, Bool.not_true, cond_false] at h
  simpa only [cond_eq_ite, decide_eq_true_eq, Bool.if_false_left, Bool.if_false_right, Bool.and_eq_true] using h
section
variable {p : Plan} (hp : PF p)
include hp
theorem zhB : 2 ≤ D.zaU p ∧ D.zaU p ≤ 256 := by
  obtain ⟨n1, n2, t1, t2, d1, d2, b1, b2, g1, g2, r1, r2⟩ := hp
  unfold D.zaU maxI
  split <;> omega
theorem zlU : 0 ≤ p.domains * (1 + D.zaU p) ∧ p.domains * (1 + D.zaU p) ≤ 64 * 257 := by
  have h := zhB hp
  obtain ⟨n1, n2, t1, t2, d1, d2, b1, b2, g1, g2, r1, r2⟩ := hp
  exact ⟨Int.mul_nonneg d1 (by omega), Int.mul_le_mul d2 (by omega) (by omega) (by omega)⟩
theorem zmL : 0 ≤ p.threads * (1 + p.retire) ∧ p.threads * (1 + p.retire) ≤ 16 * 1025 := by
  obtain ⟨n1, n2, t1, t2, d1, d2, b1, b2, g1, g2, r1, r2⟩ := hp
  exact ⟨Int.mul_nonneg (by omega) (by omega), Int.mul_le_mul t2 (by omega) (by omega) (by omega)⟩
theorem zf9 : D.zam p = 1 + p.domains * (1 + D.zaU p) := by
  have h := zlU hp
  have hc := zhB hp
  unfold D.zam
  rw [zaZ (x := 1 + D.zaU p) (by omega) (by omega), zaZ (x := p.domains * _) (by omega) (by omega), zaZ (by omega) (by omega)]
theorem zeQ : D.zax p = 1 + p.domains * (1 + D.zaU p) + p.threads * 3 := by
  have h := zlU hp
  have t1 := hp.t1
  have t2 := hp.t2
  unfold D.zax
  rw [zf9 hp, zaZ (x := p.threads * 3) (by omega) (by omega), zaZ (by omega) (by omega)]
theorem zgD : D.za8 p = 1 + p.domains * (1 + D.zaU p) + p.threads * 3 + p.threads * (1 + p.retire) := by
  have h := zlU hp
  have h2 := zmL hp
  have t1 := hp.t1
  have t2 := hp.t2
  have r1 := hp.r1
  have r2 := hp.r2
  unfold D.za8
  rw [zeQ hp, zaZ (x := 1 + p.retire) (by omega) (by omega), zaZ (x := p.threads * (1 + p.retire)) (by omega) (by omega), zaZ (by omega) (by omega)]
theorem zbA : 1 ≤ D.za8 p ∧ D.za8 p ≤ 40000 := by
  have h := zlU hp
  have h2 := zmL hp
  have t1 := hp.t1
  have t2 := hp.t2
  rw [zgD hp]
  omega
theorem ziT {x : Int} {l : List Bound} (h : ∀ b, b ∈ l → b.least ≤ b.n ∧ b.n ≤ b.most) : D.zaw p x l = x := by
  unfold D.zaw
  rw [zfv.2 hp, within_iff.2 h]
  rfl
theorem zjB {x : Int} {l : List Bound} (h : ¬ ∀ b, b ∈ l → b.least ≤ b.n ∧ b.n ≤ b.most) : D.zaw p x l = -1 := by
  unfold D.zaw
  have hw : D.zaP l = false := by
    cases hw : D.zaP l
    · rfl
    · exact absurd (within_iff.1 hw) h
  rw [zfv.2 hp, hw]
  rfl
theorem zcN : D.zaD p = D.za8 p + p.nodes * 5 := by
  have h := zbA hp
  have n1 := hp.n1
  have n2 := hp.n2
  unfold D.zaD
  rw [zfv.2 hp]
  simp only [Bool.not_true, cond_false]
  rw [zaZ (x := p.nodes * 5) (by omega) (by omega), zaZ (by omega) (by omega)]
theorem zfp : D.zaT p = 0 := by
  unfold D.zaT
  exact ziT hp (by simp)
theorem zf6 {x y : Int} {l : List Bound} {c : Prop} [Decidable c] (h : (∀ b, b ∈ l → b.least ≤ b.n ∧ b.n ≤ b.most) ↔ c) (hx : c → x = y) : D.zaw p x l = if c then y else -1 := by
  by_cases hc : c
  · rw [if_pos hc, ziT hp (h.2 hc), hx hc]
  · rw [if_neg hc, zjB hp (fun q => hc (h.1 q))]
theorem zki (n : Int) : D.zaI p n = if 0 ≤ n ∧ n < p.nodes then D.za8 p + n * 5 else -1 := by
  have h := zbA hp
  have n1 := hp.n1
  have n2 := hp.n2
  unfold D.zaI D.zaJ
  refine zf6 hp ?_ ?_
  · simp only [all_cons, all_nil, and_true]
    rw [zaZ (by omega) (by omega)]
    omega
  · intro hc
    rw [zaZ (x := n * 5) (by omega) (by omega), zaZ (by omega) (by omega)]
theorem zjZ (n : Int) : D.zaY p n = if 0 ≤ n ∧ n < p.nodes then D.za8 p + n * 5 + 1 else -1 := by
  have h := zbA hp
  have n1 := hp.n1
  have n2 := hp.n2
  unfold D.zaY D.zaJ
  refine zf6 hp ?_ ?_
  · simp only [all_cons, all_nil, and_true]
    rw [zaZ (by omega) (by omega)]
    omega
  · intro hc
    rw [zaZ (x := n * 5) (by omega) (by omega), zaZ (x := D.za8 p + n * 5) (by omega) (by omega), zaZ (by omega) (by omega)]
theorem zkr (n f : Int) : D.zc9 p n f = if (0 ≤ n ∧ n < p.nodes) ∧ 0 ≤ f ∧ f < 3 then D.za8 p + n * 5 + 2 + f else -1 := by
  have h := zbA hp
  have n1 := hp.n1
  have n2 := hp.n2
  unfold D.zc9 D.zaJ
  refine zf6 hp ?_ ?_
  · simp only [all_cons, all_nil, and_true]
    rw [zaZ (by omega) (by omega)]
    omega
  · intro hc
    rw [zaZ (x := n * 5) (by omega) (by omega), zaZ (x := D.za8 p + n * 5) (by omega) (by omega), zaZ (x := D.za8 p + n * 5 + 2) (by omega) (by omega), zaZ (by omega) (by omega)]
theorem zk9 (t i : Int) : D.zbY p t i = if (0 ≤ t ∧ t < p.threads) ∧ 0 ≤ i ∧ i < 3 then D.zam p + t * 3 + i else -1 := by
  have h := zlU hp
  have h1 := zf9 hp
  have t1 := hp.t1
  have t2 := hp.t2
  unfold D.zbY D.zaB
  refine zf6 hp ?_ ?_
  · simp only [all_cons, all_nil, and_true]
    rw [zaZ (by omega) (by omega)]
    omega
  · intro hc
    rw [zaZ (x := t * 3) (by omega) (by omega), zaZ (x := D.zam p + t * 3) (by omega) (by omega), zaZ (by omega) (by omega)]
theorem zmQ {t : Int} (h0 : 0 ≤ t) (h1 : t < p.threads) : 0 ≤ t * (1 + p.retire) ∧ t * (1 + p.retire) ≤ 16 * 1025 := by
  obtain ⟨n1, n2, t1, t2, d1, d2, b1, b2, g1, g2, r1, r2⟩ := hp
  exact ⟨Int.mul_nonneg (by omega) (by omega), Int.mul_le_mul (by omega) (by omega) (by omega) (by omega)⟩
theorem zkl (t : Int) : D.zaX p t = if 0 ≤ t ∧ t < p.threads then D.zax p + t * (1 + p.retire) else -1 := by
  have h := zlU hp
  have h1 := zeQ hp
  have t1 := hp.t1
  have t2 := hp.t2
  have r1 := hp.r1
  have r2 := hp.r2
  unfold D.zaX D.zaB
  refine zf6 hp ?_ ?_
  · simp only [all_cons, all_nil, and_true]
    rw [zaZ (by omega) (by omega)]
    omega
  · intro hc
    have h2 := zmQ hp hc.1 hc.2
    rw [zaZ (x := 1 + p.retire) (by omega) (by omega), zaZ (x := t * (1 + p.retire)) (by omega) (by omega), zaZ (by omega) (by omega)]
theorem zjg (t i : Int) : D.zaK p t i = if (0 ≤ t ∧ t < p.threads) ∧ 0 ≤ i ∧ i < p.retire then D.zax p + t * (1 + p.retire) + 1 + i else -1 := by
  have h := zlU hp
  have h1 := zeQ hp
  have t1 := hp.t1
  have t2 := hp.t2
  have r1 := hp.r1
  have r2 := hp.r2
  unfold D.zaK D.zaB
  refine zf6 hp ?_ ?_
  · simp only [all_cons, all_nil, and_true]
    rw [zaZ (x := p.threads - 1) (by omega) (by omega), zaZ (x := p.retire - 1) (by omega) (by omega)]
    omega
  · intro hc
    have h2 := zmQ hp hc.1.1 hc.1.2
    rw [zaZ (x := 1 + p.retire) (by omega) (by omega), zaZ (x := t * (1 + p.retire)) (by omega) (by omega), zaZ (x := D.zax p + t * (1 + p.retire)) (by omega) (by omega),
      zaZ (x := D.zax p + t * (1 + p.retire) + 1) (by omega) (by omega), zaZ (by omega) (by omega)]
end
end Go.Proofs.YtfpgnmhcfkikkaaGreat

/- Ours. -/
namespace Go.Proofs.YtfpgnmhcfkikkaaGreat
open Go.RowKit
theorem zfN {X Z : Type} {body : X → Option (Lp X Z)} {f : X → Option Z} {x0 : X} (Q : Option Z → Prop) (I : Nat → X → Prop) (n k : Nat) (h0 : I 0 x0) (hk : n < k)
    (hs : ∀ i x, i < n → I i x → ∃ x', body x = some (.next x') ∧ I (i + 1) x') (he : ∀ x, I n x → ∃ x', body x = some (.brk x') ∧ Q (f x')) : Q (loopThen body k x0 f) := by
  have h : ∀ d i x, i + d = n → I i x → ∀ k, d < k → Q ((runLoop body k x).bind (afterLoop f)) := by
    intro d
    induction d with
    | zero =>
      intro i x hi hI k hk
      obtain ⟨k, rfl⟩ : ∃ q, k = q + 1 := ⟨k - 1, by omega⟩
      obtain rfl : i = n := by omega
      obtain ⟨x', hb, hf⟩ := he x hI
      simp only [runLoop, hb, Option.bind_some, goOn, afterLoop]
      exact hf
    | succ d ih =>
      intro i x hi hI k hk
      obtain ⟨k, rfl⟩ : ∃ q, k = q + 1 := ⟨k - 1, by omega⟩
      obtain ⟨x', hb, hI'⟩ := hs i x (by omega) hI
      simp only [runLoop, hb, Option.bind_some, goOn]
      exact ih (i + 1) x' (by omega) hI' k (by omega)
  exact h n 0 x0 (by omega) h0 k hk
theorem zeD {α : Type} {l : List α} {i : Nat} (h : i < l.length) : getI l i = some l[i] := by
  unfold getI
  rw [if_pos (by omega), Int.toNat_natCast, List.getElem?_eq_getElem h]
theorem zaM {x : Int} (h0 : -1000000 ≤ x) (h1 : x ≤ 1000000) : IntKind.i64.wrap x = x := zaZ (by omega) (by omega)
end Go.Proofs.YtfpgnmhcfkikkaaGreat

/- Ours. -/
namespace Go.Proofs.YtfpgnmhcfkikkaaGreat
open Go.RowKit
def acted (op at_ a b x : Int) (ws : List Int) : List Int :=
  if op = 1 then ws.set at_.toNat a else if op = 2 then (if x = a then ws.set at_.toNat b else ws) else if op = 3 then ws.set at_.toNat (IntKind.u64.wrap (x + a)) else ws
inductive Runs {R : Type} : T R → List Int → Nat → R → List Int → Prop
  | done (r : R) (ws : List Int) : Runs (.done r) ws 0 r ws
  | act {op at_ a b x : Int} {k : Int → T R} {ws ws' : List Int} {n : Nat} {r : R} (h1 : 0 ≤ op ∧ op ≤ 3) (h2 : getI ws at_ = some x) (h : Runs (k x) (acted op at_ a b x ws) n r ws') : Runs (.act op at_ a b k) ws (n + 1) r ws'
theorem Runs.bind {A B : Type} {t : T A} {g : A → T B} {ws ws' ws'' : List Int} {n m : Nat} {a : A} {b : B} (h : Runs t ws n a ws') (h2 : Runs (g a) ws' m b ws'') : Runs (t.bind g) ws (n + m) b ws'' := by
  induction h with
  | done r ws => simpa [T.bind] using h2
  | @act op at_ a b x k ws ws' n r h1 h3 _ ih =>
    have := Runs.act (k := fun x => (k x).bind g) h1 h3 (ih h2)
    rw [show n + 1 + m = n + m + 1 from by omega]
    exact this
theorem Runs.cast {R : Type} {t : T R} {ws ws' : List Int} {n m : Nat} {r : R} (h : Runs t ws n r ws') (e : n = m) : Runs t ws m r ws' := e ▸ h
def cap0 : Cap := ⟨0, 1⟩
theorem zjr (fu : Nat) (M : Mem) : D.zcf fu M 0 = some cap0 := rfl
theorem znS {fu : Nat} {M : Mem} {op at_ a b x : Int} (h1 : 0 ≤ op ∧ op ≤ 3) (h2 : getI M.ws at_ = some x) : ∃ c, D.zc3 fu M cap0 ⟨op, at_, a, b⟩ = some (x, true, ⟨acted op at_ a b x M.ws, c⟩) := by
  obtain ⟨h3, h4, _, _⟩ := zei h2
  refine ⟨IntKind.i64.wrap (M.cnt + 1), ?_⟩
  unfold D.zc3
  have hG : D.zdh fu M cap0 = some true := rfl
  have hS : D.zca fu M cap0.region = some (M.ws.length : Int) := rfl
  simp only [hG, hS, Option.bind_some, Bool.not_true, cond_false]
  rw [show decide (at_ < 0) = false from by simp; omega, show decide (at_ ≥ (M.ws.length : Int)) = false from by simp; omega, show decide (op < 0) = false from by simp; omega, show decide (op > 3) = false from by simp; omega]
  simp only [cond_false, Option.bind_some]
  rw [show zeroI cap0.region = some () from rfl, h2]
  simp only [Option.bind_some]
  by_cases e1 : op = 1
  · subst e1
    simp [acted, Mem.put]
  rw [show (op == 1) = false from by simpa using e1]
  by_cases e2 : op = 2
  · subst e2
    by_cases e3 : x = a
    · subst e3; simp [acted, Mem.put]
    · rw [show (x == a) = false from by simpa using e3]
      simp [acted, e3]
  rw [show (op == 2) = false from by simpa using e2]
  by_cases e3 : op = 3
  · subst e3; simp [acted, Mem.put]
  rw [show (op == 3) = false from by simpa using e3]
  simp [acted, e1, e2, e3]
section
variable {R : Type}
def stepG (fu : Nat) (a0 : Nat × T R) (a1 : Mem) (a2 : Cap) : Option ((Nat × T R) × Bool × Mem) := (bif a0.2.zlF then (some (a0, false, a1)) else ((D.zc3 fu a1 a2 (T.acc a0.2)).bind (fun (x16 : Int × Bool × Mem) => (bif (!x16.2.1) then (some (a0, false, x16.2.2)) else ((depthI a0.1).bind (fun (x26 : Nat) => (some ((x26, T.next a0.2 x16.1), true, x16.2.2))))))))
def runG (z : R) (fu : Nat) (a0 : Nat × T R) (a1 : Mem) (a2 : Cap) (a3 : Int) : Option (R × Int × Bool × Mem) := (loopThen (fun (x13 : Int × Mem × (Nat × T R)) => (Option.bind (bif (decide (x13.1 < a3)) then (some (!x13.2.2.2.zlF)) else (some false)) (fun (x19 : Bool) => (bif x19 then ((stepG fu x13.2.2 x13.2.1 a2).bind (fun (x23 : (Nat × T R) × Bool × Mem) => (bif (!x23.2.1) then (some (Lp.brk (x13.1, x23.2.2, x13.2.2))) else (some (Lp.next ((IntKind.i64.wrap (x13.1 + 1)), x23.2.2, x23.1)))))) else (some (Lp.brk (x13.1, x13.2.1, x13.2.2))))))) fu (0, a1, a0) (fun (x37 : Int × Mem × (Nat × T R)) => (some (T.res z x37.2.2.2, x37.1, x37.2.2.2.zlF, x37.2.1))))
theorem zkc {fu d : Nat} {M : Mem} {op at_ a b x : Int} {k : Int → T R} (h1 : 0 ≤ op ∧ op ≤ 3) (h2 : getI M.ws at_ = some x) : ∃ c, stepG fu (d + 1, .act op at_ a b k) M cap0 = some ((d, k x), true, ⟨acted op at_ a b x M.ws, c⟩) := by
  obtain ⟨c, hc⟩ := znS (fu := fu) (a := a) (b := b) h1 h2
  refine ⟨c, ?_⟩
  unfold stepG
  show ((D.zc3 fu M cap0 ⟨op, at_, a, b⟩).bind _) = _
  rw [hc]
  rfl
theorem zjl {z r : R} {fu : Nat} {most : Int} {ws' : List Int} {t : T R} {ws : List Int} {n : Nat} (h : Runs t ws n r ws') : ∀ (i : Int) (c : Int) (d q : Nat), 0 ≤ i → i + n ≤ most → most ≤ 1000000 → n ≤ d → n < q →
    ∃ c', loopThen (fun (x13 : Int × Mem × (Nat × T R)) => (Option.bind (bif (decide (x13.1 < most)) then (some (!x13.2.2.2.zlF)) else (some false)) (fun (x19 : Bool) => (bif x19 then ((stepG fu x13.2.2 x13.2.1 cap0).bind (fun (x23 : (Nat × T R) × Bool × Mem) => (bif (!x23.2.1) then (some (Lp.brk (x13.1, x23.2.2, x13.2.2))) else (some (Lp.next ((IntKind.i64.wrap (x13.1 + 1)), x23.2.2, x23.1)))))) else (some (Lp.brk (x13.1, x13.2.1, x13.2.2))))))) q (i, ⟨ws, c⟩, (d, t))
      (fun (x37 : Int × Mem × (Nat × T R)) => (some (T.res z x37.2.2.2, x37.1, x37.2.2.2.zlF, x37.2.1))) = some (r, i + n, true, ⟨ws', c'⟩) := by
  induction h with
  | done r ws =>
    intro i c d q _ _ _ _ hq
    obtain ⟨q, rfl⟩ : ∃ p, q = p + 1 := ⟨q - 1, by omega⟩
    refine ⟨c, ?_⟩
    have hb : ∀ b : Bool, ((bif b then some (!(T.done r).zlF) else some false) : Option Bool) = some false := fun b => by cases b <;> rfl
    simp only [loopThen, runLoop, hb, Option.bind_some, cond_false, goOn, afterLoop]
    simp [T.res, T.zlF]
  | @act op at_ a b x k ws ws' n r h1 h2 h ih =>
    intro i c d q hi hm hm2 hd hq
    obtain ⟨q, rfl⟩ : ∃ p, q = p + 1 := ⟨q - 1, by omega⟩
    obtain ⟨d, rfl⟩ : ∃ p, d = p + 1 := ⟨d - 1, by omega⟩
    obtain ⟨c1, hc1⟩ := zkc (fu := fu) (d := d) (M := ⟨ws, c⟩) (a := a) (b := b) (k := k) h1 h2
    obtain ⟨c2, hc2⟩ := ih (i + 1) c1 d q (by omega) (by omega) hm2 (by omega) (by omega)
    refine ⟨c2, ?_⟩
    rw [show (i + ((n + 1 : Nat) : Int)) = i + 1 + n from by omega, ← hc2]
    simp only [loopThen, runLoop]
    rw [show decide (i < most) = true from by simp; omega]
    rw [show (!(T.act op at_ a b k).zlF) = true from rfl]
    simp only [cond_true, Option.bind_some, hc1, Bool.not_true, cond_false, goOn, zaM (show -1000000 ≤ i + 1 by omega) (by omega)]
theorem ziB {z r : R} {fu d : Nat} {most : Int} {t : T R} {M : Mem} {ws' : List Int} {n : Nat} (h : Runs t M.ws n r ws') (hm : (n : Int) ≤ most) (hm2 : most ≤ 1000000) (hd : n ≤ d) (hf : n < fu) : ∃ c', runG z fu (d, t) M cap0 most = some (r, (n : Int), true, ⟨ws', c'⟩) := by
  obtain ⟨c', hc⟩ := zjl (z := z) (fu := fu) (most := most) h 0 M.cnt d fu (by omega) (by omega) hm2 hd hf
  refine ⟨c', ?_⟩
  rw [Int.zero_add] at hc
  exact hc
end
theorem zkj {fu : Nat} {a0 : Nat × T Unit} {M : Mem} {c : Cap} {m : Int} : D.zdP fu a0 M c m = runG () fu a0 M c m := rfl
/-! ### Words by their places -/
def rd (ws : List Int) (i : Int) : Int := ws.getD i.toNat 0
theorem zeS {ws : List Int} {i : Int} (h0 : 0 ≤ i) (h1 : i < ws.length) : getI ws i = some (rd ws i) := by
  unfold getI rd
  rw [if_pos h0, List.getD_eq_getElem?_getD, List.getElem?_eq_getElem (by omega)]
  rfl
theorem zcr {ws : List Int} {i j v : Int} (h0 : 0 ≤ i) (h1 : i < ws.length) (hj : 0 ≤ j) : rd (ws.set i.toNat v) j = if j = i then v else rd ws j := by
  unfold rd
  simp only [List.getD_eq_getElem?_getD, List.getElem?_set]
  by_cases h : j = i
  · subst h
    simp [show j.toNat < ws.length from by omega]
  · rw [if_neg (by omega), if_neg h]
theorem Runs.load {R : Type} {at_ : Int} {k : Int → T R} {ws ws' : List Int} {n : Nat} {r : R} (h0 : 0 ≤ at_) (h1 : at_ < ws.length) (h : Runs (k (rd ws at_)) ws n r ws') : Runs (.act 0 at_ 0 0 k) ws (n + 1) r ws' :=
  .act (by omega) (zeS h0 h1) (by simpa [acted] using h)
theorem Runs.store {R : Type} {at_ w : Int} {k : Int → T R} {ws ws' : List Int} {n : Nat} {r : R} (h0 : 0 ≤ at_) (h1 : at_ < ws.length) (h : Runs (k (rd ws at_)) (ws.set at_.toNat w) n r ws') : Runs (.act 1 at_ w 0 k) ws (n + 1) r ws' :=
  .act (by omega) (zeS h0 h1) (by simpa [acted] using h)
theorem zbI {x : Int} (h0 : 0 ≤ x) (h1 : x < 18446744073709551616) : IntKind.u64.wrap x = x := by
  simp only [IntKind.wrap]
  simp [IntKind.signed, IntKind.bits]
  omega
theorem zkp {at_ w : Int} {ws : List Int} (h0 : 0 ≤ at_) (h1 : at_ < ws.length) : Runs (D.zgF at_ w) ws 1 () (ws.set at_.toNat w) := .store h0 h1 (.done _ _)
/-! ### A memory that is laid out -/
theorem zkU {p : Plan} (hp : PF p) (hfw : p.nodes ≤ 40 ∧ p.retire ≤ 40 ∧ p.domains ≤ 6 ∧ p.buckets ≤ 10) : D.zaD p ≤ 5000 ∧ 1 ≤ D.za8 p := by
  have hc := zhB hp
  have hcells : D.zaU p ≤ 10 := by
    unfold D.zaU maxI
    split <;> omega
  have hdm : p.domains * (1 + D.zaU p) ≤ 6 * 11 := Int.mul_le_mul hfw.2.2.1 (by omega) (by omega) (by omega)
  have htr : p.threads * (1 + p.retire) ≤ 16 * 41 := Int.mul_le_mul hp.t2 (by omega) (by have := hp.r1; have := hp.t1; omega) (by omega)
  have := hp.t2
  have hN := zbA hp
  rw [zcN hp]
  have := zgD hp
  exact ⟨by omega, hN.1⟩
theorem zje {p : Plan} (hp : PF p) (hfw : p.nodes ≤ 40) : ∀ (d : Nat) (n : Int) (k : Nat) (ws : List Int), n + d = p.nodes → 0 ≤ n → d < k → (ws.length : Int) = D.zaD p →
    ∃ ws', Runs (D.zcS k p n) ws (d + 1) () ws' ∧ ws'.length = ws.length ∧ rd ws' 0 = 1 ∧
      (∀ m, n ≤ m → m < p.nodes → rd ws' (D.za8 p + m * 5 + 1) = if m + 1 = p.nodes then 0 else m + 2) ∧
      ∀ j, 0 < j → (∀ m, n ≤ m → m < p.nodes → j ≠ D.za8 p + m * 5 + 1) → rd ws' j = rd ws j := by
  have hN := zbA hp
  have hS := zcN hp
  have hn1 := hp.n1
  intro d
  induction d with
  | zero =>
    intro n k ws hnd hn hk hl
    obtain ⟨k, rfl⟩ : ∃ q, k = q + 1 := ⟨k - 1, by omega⟩
    have hnn : n = p.nodes := by omega
    subst hnn
    refine ⟨ws.set (0 : Int).toNat 1, ?_, by simp, ?_, fun m h1 h2 => by omega, fun j hj _ => ?_⟩
    · show Runs (D.zbU (D.zcS k) p p.nodes) ws 1 () _
      unfold D.zbU
      rw [show (p.nodes == p.nodes) = true from by simp]
      simp only [cond_true]
      rw [zfp hp]
      exact zkp (by omega) (by omega)
    · rw [zcr (by omega) (by omega) (by omega), if_pos rfl]
    · rw [zcr (by omega) (by omega) (by omega), if_neg (by omega)]
  | succ d ih =>
    intro n k ws hnd hn hk hl
    obtain ⟨k, rfl⟩ : ∃ q, k = q + 1 := ⟨k - 1, by omega⟩
    have hnx : D.zaY p n = D.za8 p + n * 5 + 1 := by rw [zjZ hp, if_pos (by omega)]
    obtain ⟨v, hv⟩ : ∃ v, v = (if n + 1 = p.nodes then (0 : Int) else n + 2) := ⟨_, rfl⟩
    obtain ⟨ws', h1, h2, h3, h4, h5⟩ := ih (n + 1) k (ws.set (D.za8 p + n * 5 + 1).toNat v) (by omega) (by omega) (by omega) (by simpa using hl)
    refine ⟨ws', ?_, by simpa using h2, h3, fun m hm1 hm2 => ?_, fun j hj hno => ?_⟩
    · show Runs (D.zbU (D.zcS k) p n) ws (d + 1 + 1) () _
      unfold D.zbU
      rw [show (n == p.nodes) = false from by simp; omega, zaM (show -1000000 ≤ n + 1 by omega) (by omega), hnx]
      simp only [cond_false]
      have hx : (bif n + 1 == p.nodes then 0 else D.zbO (n + 1)) = v := by
        rw [hv]
        by_cases e : n + 1 = p.nodes
        · rw [if_pos e, show (n + 1 == p.nodes) = true from by simpa using e]; rfl
        · rw [if_neg e, show (n + 1 == p.nodes) = false from by simpa using e]
          show D.zbO (n + 1) = n + 2
          unfold D.zbO
          rw [zaM (by omega) (by omega), zbI (by omega) (by omega)]
          omega
      rw [hx]
      show Runs (.act 1 (D.za8 p + n * 5 + 1) v 0 _) ws (d + 1 + 1) () _
      refine Runs.store (by omega) (by omega) ?_
      show Runs (D.zcS k p (IntKind.i64.wrap (n + 1))) _ _ _ _
      rw [zaM (by omega) (by omega)]
      exact h1
    · by_cases hmn : m = n
      · subst hmn
        rw [h5 _ (by omega) (fun q hq1 hq2 => by omega), zcr (by omega) (by omega) (by omega), if_pos rfl, hv]
      · exact h4 m (by omega) hm2
    · rw [h5 j hj (fun m hm1 hm2 => hno m (by omega) hm2), zcr (by omega) (by omega) (by omega), if_neg]
      exact hno n (by omega) (by omega)
structure LaidAt (p : Plan) (ws : List Int) : Prop where
  len : (ws.length : Int) = D.zaD p
  head : rd ws 0 = 1
  next : ∀ m, 0 ≤ m → m < p.nodes → rd ws (D.za8 p + m * 5 + 1) = if m + 1 = p.nodes then 0 else m + 2
  zero : ∀ j, 0 < j → (∀ m, 0 ≤ m → m < p.nodes → j ≠ D.za8 p + m * 5 + 1) → rd ws j = 0
theorem zle {fu : Nat} {n : Int} (hf : 3 ≤ fu) (h0 : 0 ≤ n) (h1 : n ≤ 16777216) : D.zgM fu [n] = some (⟨zerosI n, 0⟩, 0) := by
  obtain ⟨k, rfl⟩ : ∃ k, fu = k + 3 := ⟨fu - 3, by omega⟩
  unfold D.zgM
  have e0 : oneI [n] = some n := by
    show (if 0 ≤ n ∧ n ≤ 16777216 then some n else none) = some n
    rw [if_pos ⟨h0, h1⟩]
  simp only [loopThen, runLoop, e0]
  simp only [List.length_singleton, Int.natCast_one, Int.reduceLT, decide_true, decide_false, cond_true, cond_false, getI, List.getElem?_cons_zero, Option.bind_some, Int.toNat_zero, Int.le_refl, if_true, Int.reduceGT]
  rw [show decide (n < 0) = false from by simp; omega, show decide (n > 16777216) = false from by simp; omega]
  rfl
theorem zl5 {p : Plan} (hp : PF p) (hfw : p.nodes ≤ 40 ∧ p.retire ≤ 40 ∧ p.domains ≤ 6 ∧ p.buckets ≤ 10) {fu : Nat} (hfu : 100 < fu) : ∃ M, D.zc7 fu p = some M ∧ LaidAt p M.ws := by
  obtain ⟨hs1, hs2⟩ := zkU hp hfw
  have hn1 := hp.n1
  have hS := zcN hp
  have hl : ((zerosI (D.zaD p)).length : Int) = D.zaD p := by simp [zerosI]; omega
  obtain ⟨ws', h1, h2, h3, h4, h5⟩ := zje hp hfw.1 p.nodes.toNat 0 (fu + 1) (zerosI (D.zaD p)) (by omega) (by omega) (by omega) hl
  obtain ⟨c, hc⟩ := ziB (z := ()) (fu := fu) (d := fu) (most := p.nodes + 1) (M := ⟨zerosI (D.zaD p), 0⟩) h1 (by omega) (by omega) (by omega) (by omega)
  refine ⟨⟨ws', c⟩, ?_, by rw [← hl, ← h2], h3, h4, fun j hj hno => ?_⟩
  · unfold D.zc7
    rw [zle (by omega) (by omega) (by omega)]
    simp only [Option.bind_some]
    rw [show ((0 : Int) != 0) = false from rfl]
    simp only [cond_false, Option.bind_some, zjr, zaM (show -1000000 ≤ p.nodes + 1 by omega) (by omega)]
    rw [zkj]
    show (runG () fu (fu, D.zcS (fu + 1) p 0) _ _ _).bind _ = _
    rw [hc]
    rfl
  · rw [h5 j hj hno]
    unfold rd zerosI
    rw [List.getD_eq_getElem?_getD, List.getElem?_replicate]
    split <;> rfl
end Go.Proofs.YtfpgnmhcfkikkaaGreat

/- Ours. -/
namespace Go.Proofs.YtfpgnmhcfkikkaaGreat
open Go.RowKit
/-! ### The head's word -/
theorem zeu {x : Int} (h0 : 0 ≤ x) (h1 : x < 18446744073709551616) : (BitVec.ofInt 64 x).toNat = x.toNat := by
  rw [BitVec.toNat_ofInt]
  congr 1
  exact Int.emod_eq_of_lt h0 (by simpa using h1)
theorem and_eq {x y : Int} (h0 : 0 ≤ x) (h1 : x < 18446744073709551616) (h2 : 0 ≤ y) (h3 : y < 18446744073709551616) : zbV .u64 x y = ((x.toNat &&& y.toNat : Nat) : Int) := by
  have h : ((BitVec.ofInt 64 x &&& BitVec.ofInt 64 y).toNat : Int) = ((x.toNat &&& y.toNat : Nat) : Int) := by
    rw [BitVec.toNat_and, zeu h0 h1, zeu h2 h3]
  show IntKind.u64.wrap ((BitVec.ofInt 64 x &&& BitVec.ofInt 64 y).toNat : Int) = _
  rw [h]
  have : x.toNat &&& y.toNat < 2 ^ 64 := Nat.and_lt_two_pow _ (by omega)
  exact zbI (by omega) (by omega)
theorem or_eq {x y : Int} (h0 : 0 ≤ x) (h1 : x < 18446744073709551616) (h2 : 0 ≤ y) (h3 : y < 18446744073709551616) : ze1 .u64 x y = ((x.toNat ||| y.toNat : Nat) : Int) := by
  have h : ((BitVec.ofInt 64 x ||| BitVec.ofInt 64 y).toNat : Int) = ((x.toNat ||| y.toNat : Nat) : Int) := by
    rw [BitVec.toNat_or, zeu h0 h1, zeu h2 h3]
  show IntKind.u64.wrap ((BitVec.ofInt 64 x ||| BitVec.ofInt 64 y).toNat : Int) = _
  rw [h]
  have : x.toNat ||| y.toNat < 2 ^ 64 := Nat.or_lt_two_pow (by omega) (by omega)
  exact zbI (by omega) (by omega)
theorem zet {x y : Int} (h0 : 0 ≤ x) (h1 : x < 18446744073709551616) (h2 : 0 ≤ y) (h3 : y < 18446744073709551616) : zb6 .u64 x y = ((x.toNat &&& (18446744073709551615 - y.toNat) : Nat) : Int) := by
  have h : ((BitVec.ofInt 64 x &&& ~~~(BitVec.ofInt 64 y)).toNat : Int) = ((x.toNat &&& (18446744073709551615 - y.toNat) : Nat) : Int) := by
    rw [BitVec.toNat_and, BitVec.toNat_not, zeu h0 h1, zeu h2 h3]
  show IntKind.u64.wrap ((BitVec.ofInt 64 x &&& ~~~(BitVec.ofInt 64 y)).toNat : Int) = _
  rw [h]
  have : x.toNat &&& (18446744073709551615 - y.toNat) < 2 ^ 64 := Nat.and_lt_two_pow _ (by omega)
  exact zbI (by omega) (by omega)
theorem zkz : D.zaj D.zaO = true := by decide
theorem znl : D.zaj D.zcO = true := by decide
theorem zky : D.zap D.zaO = 2097151 := by decide +kernel
theorem zni : D.zap D.zcO = 8796093022207 := by decide +kernel
theorem zll : D.zat D.zaO = 2097151 := by decide +kernel
theorem zo6 : D.zat D.zcO = 18446744073707454464 := by decide +kernel
theorem shr0 (w : Int) : shrI .u64 w 0 = w := by
  show w.fdiv (2 ^ (min 0 64)) = w
  simp
theorem zoQ {w : Int} (_ : 0 ≤ w) : shrI .u64 w 21 = w / 2097152 := by
  show w.fdiv 2097152 = _
  exact Int.fdiv_eq_ediv_of_nonneg _ (by omega)
theorem zgH {w : Int} (h0 : 0 ≤ w) (h1 : w < 18446744073709551616) : D.zag D.zaO w = w % 2097152 := by
  unfold D.zag
  rw [zkz, zky]
  show zbV .u64 (shrI .u64 w 0) 2097151 = _
  rw [shr0, and_eq h0 h1 (by omega) (by omega)]
  have : w.toNat &&& 2097151 = w.toNat % 2097152 := Nat.and_two_pow_sub_one_eq_mod w.toNat 21
  rw [show (2097151 : Int).toNat = 2097151 from rfl, this]
  omega
theorem zkJ {w : Int} (h0 : 0 ≤ w) (h1 : w < 18446744073709551616) : D.zag D.zcO w = w / 2097152 := by
  unfold D.zag
  rw [znl, zni]
  show zbV .u64 (shrI .u64 w 21) 8796093022207 = _
  rw [zoQ h0, and_eq (by omega) (by omega) (by omega) (by omega)]
  have : (w / 2097152).toNat &&& 8796093022207 = (w / 2097152).toNat % 8796093022208 := Nat.and_two_pow_sub_one_eq_mod _ 43
  rw [show (8796093022207 : Int).toNat = 8796093022207 from rfl, this]
  omega
theorem zks {n : Int} (h0 : 0 ≤ n) (h1 : n < 18446744073709551616) : D.zaH D.zaO 0 n = n % 2097152 := by
  unfold D.zaH
  rw [zkz, zky, zll]
  show ze1 .u64 (zb6 .u64 0 2097151) (shlI .u64 (zbV .u64 n 2097151) 0) = _
  have e : n.toNat &&& 2097151 = n.toNat % 2097152 := Nat.and_two_pow_sub_one_eq_mod n.toNat 21
  rw [zet (by omega) (by omega) (by omega) (by omega), and_eq h0 h1 (by omega) (by omega), show (2097151 : Int).toNat = 2097151 from rfl, e]
  have h2 : shlI .u64 ((n.toNat % 2097152 : Nat) : Int) 0 = ((n.toNat % 2097152 : Nat) : Int) := by
    show IntKind.u64.wrap (((n.toNat % 2097152 : Nat) : Int) * 2 ^ (min 0 64)) = _
    rw [show ((n.toNat % 2097152 : Nat) : Int) * 2 ^ (min 0 64) = ((n.toNat % 2097152 : Nat) : Int) from by simp]
    exact zbI (by omega) (by omega)
  rw [h2, or_eq (by simp) (by simp) (by omega) (by omega)]
  simp
  omega
theorem zl9 {u t : Int} (h0 : 0 ≤ u) (h1 : u < 2097152) (h2 : 0 ≤ t) (h3 : t < 18446744073709551616) : D.zaH D.zcO u t = (t % 8796093022208) * 2097152 + u := by
  unfold D.zaH
  rw [znl, zni, zo6]
  show ze1 .u64 (zb6 .u64 u 18446744073707454464) (shlI .u64 (zbV .u64 t 8796093022207) 21) = _
  have e : t.toNat &&& 8796093022207 = t.toNat % 8796093022208 := Nat.and_two_pow_sub_one_eq_mod t.toNat 43
  have e2 : u.toNat &&& 2097151 = u.toNat % 2097152 := Nat.and_two_pow_sub_one_eq_mod u.toNat 21
  rw [zet h0 (by omega) (by omega) (by omega), and_eq h2 h3 (by omega) (by omega), show (8796093022207 : Int).toNat = 8796093022207 from rfl, e,
    show 18446744073709551615 - (18446744073707454464 : Int).toNat = 2097151 from rfl, e2]
  have h4 : shlI .u64 ((t.toNat % 8796093022208 : Nat) : Int) 21 = ((t.toNat % 8796093022208 * 2097152 : Nat) : Int) := by
    show IntKind.u64.wrap (((t.toNat % 8796093022208 : Nat) : Int) * 2 ^ (min 21 64)) = _
    rw [show ((t.toNat % 8796093022208 : Nat) : Int) * 2 ^ (min 21 64) = ((t.toNat % 8796093022208 * 2097152 : Nat) : Int) from by simp]
    exact zbI (by omega) (by omega)
  rw [h4, or_eq (by omega) (by omega) (by omega) (by omega)]
  have h5 : u.toNat % 2097152 ||| t.toNat % 8796093022208 * 2097152 = 2097152 * (t.toNat % 8796093022208) + u.toNat % 2097152 := by
    rw [Nat.or_comm, Nat.mul_comm]
    exact (Nat.two_pow_add_eq_or_of_lt (i := 21) (Nat.mod_lt _ (by omega)) _).symm
  rw [show ((u.toNat % 2097152 : Nat) : Int).toNat = u.toNat % 2097152 from rfl, show ((t.toNat % 8796093022208 * 2097152 : Nat) : Int).toNat = t.toNat % 8796093022208 * 2097152 from rfl, h5]
  omega
theorem zi2 {g n m : Int} (hg : 0 ≤ g) (hg1 : g < 1000000) (hn : 0 ≤ n) (hn1 : n < 2097152) (hm : 0 ≤ m) (hm1 : m < 2097152) : D.zcw (g * 2097152 + n) m = (g + 1) * 2097152 + m := by
  unfold D.zcw
  rw [zkJ (by omega) (by omega), zks hm (by omega), zbI (x := (g * 2097152 + n) / 2097152 + 1) (by omega) (by omega), zl9 (by omega) (by omega) (by omega) (by omega)]
  omega
theorem zl2 {n : Int} (h0 : 0 ≤ n) (h1 : n ≤ 1000000) : D.zbO n = n + 1 := by
  unfold D.zbO
  rw [zaZ (x := n + 1) (by omega) (by omega), zbI (by omega) (by omega)]
theorem zhK {fu : Nat} {M : Mem} {i : Int} (h0 : 0 ≤ i) (h1 : i < M.ws.length) : D.zbg fu M 0 i = some (rd M.ws i) := by
  unfold D.zbg
  have hS : D.zca fu M 0 = some (M.ws.length : Int) := rfl
  rw [show decide (i < 0) = false from by simp; omega]
  simp only [cond_false, hS, Option.bind_some]
  rw [show decide (i ≥ (M.ws.length : Int)) = false from by simp; omega, show zeroI 0 = some () from rfl, zeS h0 h1]
  rfl
/-! ### The list -/
def nx (p : Plan) (n : Int) : Int := D.za8 p + n * 5 + 1
def first : List Int → Int
  | [] => 0
  | n :: _ => n + 1
def Linked (p : Plan) (ws : List Int) : List Int → Prop
  | [] => True
  | n :: l => rd ws (nx p n) = first l ∧ Linked p ws l
structure FreeAt (p : Plan) (ws : List Int) (l : List Int) (g : Int) : Prop where
  len : (ws.length : Int) = D.zaD p
  head : rd ws 0 = g * 2097152 + first l
  g0 : 0 ≤ g
  range : ∀ n, n ∈ l → 0 ≤ n ∧ n < p.nodes
  nodup : l.Nodup
  linked : Linked p ws l
theorem Linked.keep {p : Plan} {ws ws' : List Int} : ∀ {l : List Int}, Linked p ws l → (∀ n, n ∈ l → rd ws' (nx p n) = rd ws (nx p n)) → Linked p ws' l
  | [], _, _ => trivial
  | n :: _, h, hk => ⟨(hk n (List.mem_cons_self ..)).trans h.1, Linked.keep h.2 fun m hm => hk m (List.mem_cons_of_mem _ hm)⟩
theorem zm6 {p : Plan} (hp : PF p) {n : Int} (h0 : 0 ≤ n) (h1 : n < p.nodes) : 0 < nx p n ∧ nx p n < D.zaD p ∧ D.zaY p n = nx p n := by
  have hN := zbA hp
  have hS := zcN hp
  unfold nx
  exact ⟨by omega, by omega, by rw [zjZ hp, if_pos ⟨h0, h1⟩]⟩
theorem znx {p : Plan} {n m : Int} (h : n ≠ m) : nx p n ≠ nx p m := by unfold nx; omega
theorem zhD {l : List Int} {k : Int} (h : ∀ n, n ∈ l → 0 ≤ n ∧ n < k) (hk : 0 ≤ k) : 0 ≤ first l ∧ first l ≤ k := by
  cases l with
  | nil => exact ⟨Int.le_refl _, hk⟩
  | cons n l => have := h n (List.mem_cons_self ..); simp only [first]; omega
theorem ziO {p : Plan} (hp : PF p) {ws : List Int} {g : Int} (h : FreeAt p ws [] g) (hg : g < 1000000) (k : Nat) : Runs (D.zbW (k + 1) p) ws 1 (-1) ws := by
  have hs := h.len
  have hN := zbA hp
  have hS := zcN hp
  have hn1 := hp.n1
  have hh := h.head
  have g0 := h.g0
  simp only [first] at hh
  have hb : D.zbW (k + 1) p = .act 0 0 0 0 (fun x => D.zda (D.zbW k) p x) := by
    show D.zcT (D.zbW k) p = _
    unfold D.zcT
    rw [zfp hp]; rfl
  rw [hb]
  refine .load (by omega) (by omega) ?_
  unfold D.zda
  rw [hh, zgH (by omega) (by omega), show (g * 2097152 + 0) % 2097152 = 0 from by omega]
  exact .done _ _
theorem zkq {p : Plan} (hp : PF p) {ws : List Int} {n : Int} {l : List Int} {g : Int} (h : FreeAt p ws (n :: l) g) (hnn : p.nodes ≤ 1000000) (hg : g < 1000000) (k : Nat) :
    Runs (D.zbW (k + 1) p) ws 3 n (ws.set (0 : Int).toNat ((g + 1) * 2097152 + first l)) ∧ FreeAt p (ws.set (0 : Int).toNat ((g + 1) * 2097152 + first l)) l (g + 1) := by
  have hs := h.len
  have hN := zbA hp
  have hS := zcN hp
  have hn1 := hp.n1
  have hh := h.head
  have g0 := h.g0
  have hr := h.range n (List.mem_cons_self ..)
  have hrl : ∀ m, m ∈ l → 0 ≤ m ∧ m < p.nodes := fun m hm => h.range m (List.mem_cons_of_mem _ hm)
  obtain ⟨q1, q2, q3⟩ := zm6 hp hr.1 hr.2
  obtain ⟨f1, f2⟩ := zhD hrl (by omega)
  simp only [first] at hh
  refine ⟨?_, ?_⟩
  · have hb : D.zbW (k + 1) p = .act 0 0 0 0 (fun x => D.zda (D.zbW k) p x) := by
      show D.zcT (D.zbW k) p = _
      unfold D.zcT
      rw [zfp hp]; rfl
    rw [hb]
    refine .load (by omega) (by omega) ?_
    unfold D.zda
    rw [hh, zgH (by omega) (by omega), show (g * 2097152 + (n + 1)) % 2097152 = n + 1 from by omega, zaZ (x := n + 1) (by omega) (by omega), show n + 1 - 1 = n from by omega, zaZ (x := n) (by omega) (by omega),
      show decide (n < 0) = false from by simp; omega, q3]
    refine Runs.load (k := fun x => D.zdB (D.zbW k) p (g * 2097152 + (n + 1)) n x) (by dsimp only; omega) (by dsimp only; omega) ?_
    unfold D.zdB
    rw [h.linked.1, zfp hp, zi2 g0 hg (by omega) (by omega) f1 (by omega)]
    refine Runs.act (k := fun x => D.zcj (fun x => D.zcC (D.zbW k) p n x) (g * 2097152 + (n + 1)) x) (by dsimp only; omega) (zeS (ws := ws) (by dsimp only; omega) (by dsimp only; omega)) ?_
    rw [hh]
    have ha : acted 2 0 (g * 2097152 + (n + 1)) ((g + 1) * 2097152 + first l) (g * 2097152 + (n + 1)) ws = ws.set (0 : Int).toNat ((g + 1) * 2097152 + first l) := by simp [acted]
    rw [ha]
    unfold D.zcj D.zcC
    rw [show (g * 2097152 + (n + 1) == g * 2097152 + (n + 1)) = true from by simp]
    exact .done _ _
  · refine ⟨by simpa using hs, ?_, by omega, hrl, (List.nodup_cons.1 h.nodup).2, h.linked.2.keep fun m hm => ?_⟩
    · rw [zcr (by omega) (by omega) (by omega), if_pos rfl]
    · obtain ⟨p1, _, _⟩ := zm6 hp (hrl m hm).1 (hrl m hm).2
      rw [zcr (by omega) (by omega) (by omega), if_neg (by omega)]
theorem zjC {p : Plan} (hp : PF p) {ws : List Int} {n : Int} {l : List Int} {g : Int} (h : FreeAt p ws l g) (hnn : p.nodes ≤ 1000000) (hg : g < 1000000) (hr : 0 ≤ n ∧ n < p.nodes) (hno : n ∉ l) (k : Nat) :
    ∃ ws', Runs (D.zcM (k + 1) p n) ws 3 n ws' ∧ FreeAt p ws' (n :: l) (g + 1) ∧ ∀ j, 0 < j → j ≠ nx p n → rd ws' j = rd ws j := by
  have hs := h.len
  have hN := zbA hp
  have hS := zcN hp
  have hn1 := hp.n1
  have hh := h.head
  have g0 := h.g0
  obtain ⟨q1, q2, q3⟩ := zm6 hp hr.1 hr.2
  obtain ⟨f1, f2⟩ := zhD h.range (by omega)
  obtain ⟨w1, hw1⟩ : ∃ w1, w1 = ws.set (nx p n).toNat (first l) := ⟨_, rfl⟩
  have hl1 : (w1.length : Int) = D.zaD p := by rw [hw1]; simpa using hs
  have hr1 : ∀ j, 0 ≤ j → rd w1 j = if j = nx p n then first l else rd ws j := fun j hj => by rw [hw1]; exact zcr (by omega) (by omega) hj
  refine ⟨w1.set (0 : Int).toNat ((g + 1) * 2097152 + (n + 1)), ?_, ⟨by simpa using hl1, ?_, by omega, ?_, List.nodup_cons.2 ⟨hno, h.nodup⟩, ?_, ?_⟩, fun j h0 h1 => ?_⟩
  · have hb : D.zcM (k + 1) p n = .act 0 0 0 0 (fun x => D.ze4 (D.zcM k) p n x) := by
      show D.zcD (D.zcM k) p n = _
      unfold D.zcD
      rw [q3, show (nx p n == -1) = false from by simp; omega, zfp hp]; rfl
    rw [hb]
    refine .load (by omega) (by omega) ?_
    unfold D.ze4
    rw [hh, zgH (by omega) (by omega), show (g * 2097152 + first l) % 2097152 = first l from by omega, q3]
    refine Runs.store (k := fun x => D.zd1 (fun _ => D.zdT (D.zcM k) p (g * 2097152 + first l) n) x) (by dsimp only; omega) (by dsimp only; omega) ?_
    unfold D.zd1 D.zdT
    rw [zl2 hr.1 (by omega), zfp hp, zi2 g0 hg f1 (by omega) (by omega) (by omega), ← hw1]
    have hx : rd w1 0 = g * 2097152 + first l := by rw [hr1 0 (by omega), if_neg (by omega), hh]
    refine Runs.act (k := fun x => D.zcj (fun x => D.zcm (D.zcM k) p n x) (g * 2097152 + first l) x) (by dsimp only; omega) (zeS (ws := w1) (by dsimp only; omega) (by dsimp only; omega)) ?_
    rw [hx]
    have ha : acted 2 0 (g * 2097152 + first l) ((g + 1) * 2097152 + (n + 1)) (g * 2097152 + first l) w1 = w1.set (0 : Int).toNat ((g + 1) * 2097152 + (n + 1)) := by simp [acted]
    rw [ha]
    unfold D.zcj D.zcm
    rw [show (g * 2097152 + first l == g * 2097152 + first l) = true from by simp]
    exact .done _ _
  · rw [zcr (by omega) (by omega) (by omega), if_pos rfl]; rfl
  · intro m hm
    rcases List.mem_cons.1 hm with rfl | hm
    · exact hr
    · exact h.range m hm
  · rw [zcr (by omega) (by omega) (by omega), if_neg (by omega), hr1 _ (by omega), if_pos rfl]
  · refine h.linked.keep fun m hm => ?_
    have hmr := h.range m hm
    obtain ⟨p1, _, _⟩ := zm6 hp hmr.1 hmr.2
    have hne : m ≠ n := fun e => hno (e ▸ hm)
    rw [zcr (by omega) (by omega) (by omega), if_neg (by omega), hr1 _ (by omega), if_neg (znx hne)]
  · rw [zcr (by omega) (by omega) (by omega), if_neg (by omega), hr1 _ (by omega), if_neg h1]
theorem zgs {p : Plan} {ws : List Int} (hn : ∀ m, 0 ≤ m → m < p.nodes → rd ws (D.za8 p + m * 5 + 1) = if m + 1 = p.nodes then 0 else m + 2) : ∀ (d : Nat) (i : Nat), (i : Int) + d = p.nodes → Linked p ws ((List.range' i d).map fun (q : Nat) => (q : Int))
  | 0, _, _ => trivial
  | d + 1, i, h => by
    rw [List.range'_succ, List.map_cons]
    refine ⟨?_, zgs hn d (i + 1) (by omega)⟩
    unfold nx
    rw [hn i (by omega) (by omega)]
    cases d with
    | zero => rw [if_pos (by omega)]; rfl
    | succ d => rw [if_neg (by omega), List.range'_succ, List.map_cons]; simp only [first]; omega
def allN (p : Plan) : List Int := (List.range' 0 p.nodes.toNat).map fun (q : Nat) => (q : Int)
theorem zhV {p : Plan} (hp : PF p) {ws : List Int} (h : LaidAt p ws) : FreeAt p ws (allN p) 0 := by
  have hn1 := hp.n1
  refine ⟨h.len, ?_, Int.le_refl _, fun n hn => ?_, ?_, zgs h.next p.nodes.toNat 0 (by omega)⟩
  · rw [h.head]
    unfold allN
    obtain ⟨d, hd⟩ : ∃ d, p.nodes.toNat = d + 1 := ⟨p.nodes.toNat - 1, by omega⟩
    rw [hd, List.range'_succ, List.map_cons]
    simp [first]
  · obtain ⟨q, hq, rfl⟩ := List.mem_map.1 hn
    have := (List.mem_range'_1.1 hq).2
    omega
  · unfold allN
    exact List.Pairwise.map _ (fun a b h => by omega) (List.nodup_range' (s := 0) (n := p.nodes.toNat))
theorem zl7 {p : Plan} (hp : PF p) {M : Mem} {l : List Int} {g : Int} (h : FreeAt p M.ws l g) (hnn : p.nodes ≤ 1000) (hl : (l.length : Int) ≤ p.nodes) (hg : g < 1000000) {fu : Nat} (hfu : 1000 < fu) : D.zcV fu p M 0 = some l := by
  have hs := h.len
  have hN := zbA hp
  have hS := zcN hp
  have hn1 := hp.n1
  have g0 := h.g0
  obtain ⟨f1, f2⟩ := zhD h.range (by omega)
  have hh := h.head
  unfold D.zcV
  rw [zfp hp, zhK (by omega) (by omega), hh]
  simp only [Option.bind_some]
  rw [zgH (by omega) (by omega), show (g * 2097152 + first l) % 2097152 = first l from by omega]
  have key : ∀ (r done : List Int) (k : Nat), done ++ r = l → Linked p M.ws r → r.length < k →
      (runLoop (fun (x8 : List Int × Int) => (Option.bind (bif (decide ((x8.1.length : Int) < p.nodes)) then (bif (decide (x8.2 > 0)) then (some (decide (x8.2 ≤ (IntKind.u64.wrap p.nodes)))) else (some false)) else (some false)) (fun (x15 : Bool) => (bif x15 then ((appD x8.1 ([(IntKind.i64.wrap ((IntKind.i64.wrap x8.2) - 1))])).bind (fun (x23 : List Int) => ((D.zbg fu M 0 (D.zaY p (IntKind.i64.wrap ((IntKind.i64.wrap x8.2) - 1)))).bind (fun (x28 : Int) => (some (Lp.next (x23, x28))))))) else (some (Lp.brk (x8.1, x8.2))))))) k (done, first r)).bind (afterLoop fun (x30 : List Int × Int) => some x30.1) = some l := by
    intro r
    induction r with
    | nil =>
      intro done k hd _ hk
      obtain ⟨k, rfl⟩ : ∃ q, k = q + 1 := ⟨k - 1, by omega⟩
      rw [List.append_nil] at hd
      subst hd
      have hc : (Option.bind (bif (decide ((done.length : Int) < p.nodes)) then (bif (decide (first [] > 0)) then (some (decide (first [] ≤ (IntKind.u64.wrap p.nodes)))) else (some false)) else (some false)) (fun b => some b)) = some false := by
        cases decide ((done.length : Int) < p.nodes) <;> rfl
      have hc2 : (bif (decide ((done.length : Int) < p.nodes)) then (bif (decide (first [] > 0)) then (some (decide (first [] ≤ (IntKind.u64.wrap p.nodes)))) else (some false)) else (some false)) = some false := by
        cases decide ((done.length : Int) < p.nodes) <;> rfl
      simp only [runLoop, hc2, Option.bind_some, cond_false, goOn, afterLoop]
    | cons n r ih =>
      intro done k hd hlk hk
      simp only [List.length_cons] at hk
      obtain ⟨k, rfl⟩ : ∃ q, k = q + 1 := ⟨k - 1, by omega⟩
      have hm : n ∈ l := by rw [← hd]; simp
      have hr := h.range n hm
      have hlen : done.length + (r.length + 1) = l.length := by rw [← hd]; simp
      obtain ⟨q1, q2, q3⟩ := zm6 hp hr.1 hr.2
      simp only [runLoop]
      have hfst : first (n :: r) = n + 1 := rfl
      rw [show decide ((done.length : Int) < p.nodes) = true from by simp; omega, show decide (first (n :: r) > 0) = true from by rw [hfst]; simp; omega, show decide (first (n :: r) ≤ IntKind.u64.wrap p.nodes) = true from by rw [hfst, zbI (x := p.nodes) (by omega) (by omega)]; simp; omega, hfst]
      rw [zaZ (x := n + 1) (by omega) (by omega), show n + 1 - 1 = n from by omega, zaZ (x := n) (by omega) (by omega), q3, zhK (by omega) (by omega), hlk.1]
      have ha : appD done [n] = some (done ++ [n]) := by unfold appD; rw [if_pos (by simp only [zgb, List.length_singleton]; omega)]
      simp only [cond_true, Option.bind_some, ha, goOn]
      exact ih (done ++ [n]) k (by rw [List.append_assoc]; exact hd) hlk.2 (by omega)
  have := key l [] fu rfl h.linked (by omega)
  unfold loopThen
  exact this
end Go.Proofs.YtfpgnmhcfkikkaaGreat

/- Ours. -/
namespace Go.Proofs.YtfpgnmhcfkikkaaGreat
open Go.RowKit
structure SF (s : State) : Prop where
  g0 : 0 ≤ s.gen
  g1 : s.gen ≤ 1073741823
  m0 : 0 ≤ s.mode
  m1 : s.mode ≤ 3
  k0 : 0 ≤ s.kind
  k1 : s.kind ≤ 2
theorem zgr {s : State} : D.zaE s = true ↔ SF s := by
  unfold D.zaE
  constructor
  · intro h
    cases h1 : decide (s.gen ≥ 0) <;> rw [h1] at h
    · cases h
    cases h2 : decide (s.gen ≤ 1073741823) <;> rw [h2] at h
    · cases h
    cases h3 : decide (s.mode ≥ 0) <;> rw [h3] at h
    · cases h
    cases h4 : decide (s.mode ≤ 3) <;> rw [h4] at h
    · cases h
    cases h5 : decide (s.kind ≥ 0) <;> rw [h5] at h
    · cases h
    simp only [decide_eq_true_eq] at h1 h2 h3 h4 h5
    have h6 : s.kind ≤ 2 := by simpa using h
    exact ⟨h1, h2, h3, h4, h5, h6⟩
  · rintro ⟨h1, h2, h3, h4, h5, h6⟩
    simp only [ge_iff_le, h1, h2, h3, h4, h5, h6, decide_true, cond_true]
def swd (s : State) : Int := s.gen + s.mode * 1073741824 + s.kind * 4294967296
theorem zn8 : D.zaj fGen = true := by decide
theorem zkA : D.zaj fMode = true := by decide
theorem zkG : D.zaj fKind = true := by decide
theorem zmG : D.zap fGen = 1073741823 := by decide +kernel
theorem zk6 : D.zap fMode = 3 := by decide +kernel
theorem zjE : D.zap fKind = 3 := by decide +kernel
theorem zna : D.zat fGen = 1073741823 := by decide +kernel
theorem zkB : D.zat fMode = 3221225472 := by decide +kernel
theorem zkC : D.zat fKind = 12884901888 := by decide +kernel
theorem shrN {w : Int} (k : Nat) (hk : k ≤ 64) : shrI .u64 w k = w / 2 ^ k := by
  unfold shrI
  rw [Int.toNat_natCast, show min k IntKind.u64.bits = k from Nat.min_eq_left hk]
  exact Int.fdiv_eq_ediv_of_nonneg _ (Int.le_of_lt (Int.pow_pos (by omega)))
theorem zhR {x : Int} (h0 : 0 ≤ x) (h1 : x < 18446744073709551616) (k : Nat) (hk : k < 64) : zbV .u64 x ((2 ^ k - 1 : Nat) : Int) = x % ((2 ^ k : Nat) : Int) := by
  have hp : (2 : Nat) ^ k < 2 ^ 64 := Nat.pow_lt_pow_right (by omega) hk
  have hp1 : 0 < (2 : Nat) ^ k := Nat.pow_pos (by omega)
  rw [and_eq h0 h1 (by omega) (by omega), Int.toNat_natCast, Nat.and_two_pow_sub_one_eq_mod]
  obtain ⟨y, rfl⟩ : ∃ y : Nat, x = (y : Int) := ⟨x.toNat, by omega⟩
  rw [Int.toNat_natCast]
  exact Int.natCast_emod _ _
theorem zjL {u v : Int} (a b : Nat) (hu0 : 0 ≤ u) (hu : u < ((2 ^ a : Nat) : Int)) (hv0 : 0 ≤ v) (hv : v < ((2 ^ b : Nat) : Int)) (hab : a + b < 64) (hF : D.zaj ⟨a, b⟩ = true) (hM : D.zap ⟨a, b⟩ = ((2 ^ b - 1 : Nat) : Int)) (hK : D.zat ⟨a, b⟩ = (((2 ^ b - 1) * 2 ^ a : Nat) : Int)) :
    D.zaH ⟨a, b⟩ u v = v * ((2 ^ a : Nat) : Int) + u := by
  have pa : 0 < (2 : Nat) ^ a := Nat.pow_pos (by omega)
  have pb : 0 < (2 : Nat) ^ b := Nat.pow_pos (by omega)
  have hpab : (2 : Nat) ^ a * 2 ^ b = 2 ^ (a + b) := (Nat.pow_add 2 a b).symm
  have hlt : (2 : Nat) ^ (a + b) < 2 ^ 64 := Nat.pow_lt_pow_right (by omega) hab
  have hlt2 : (2 : Nat) ^ b ≤ 2 ^ (a + b) := Nat.pow_le_pow_right (by omega) (by omega)
  have hlt3 : (2 : Nat) ^ a ≤ 2 ^ (a + b) := Nat.pow_le_pow_right (by omega) (by omega)
  unfold D.zaH
  rw [hF, hM, hK]
  show ze1 .u64 (zb6 .u64 u _) (shlI .u64 (zbV .u64 v _) (a : Int)) = _
  have hmk : (2 ^ b - 1) * 2 ^ a ≤ 2 ^ (a + b) := by
    rw [← hpab, Nat.mul_comm]
    exact Nat.mul_le_mul_left _ (by omega)
  rw [zhR hv0 (by omega) b (by omega), Int.emod_eq_of_lt hv0 hv, zet hu0 (by omega) (by omega) (by omega)]
  obtain ⟨x, rfl⟩ : ∃ x : Nat, u = (x : Int) := ⟨u.toNat, by omega⟩
  obtain ⟨y, rfl⟩ : ∃ y : Nat, v = (y : Int) := ⟨v.toNat, by omega⟩
  have hx : x < 2 ^ a := by omega
  have hy : y < 2 ^ b := by omega
  have hyx : y * 2 ^ a + x < 2 ^ (a + b) := by
    rw [← hpab]
    have := Nat.mul_le_mul_left (2 ^ a) (show y + 1 ≤ 2 ^ b from hy)
    rw [Nat.mul_add, Nat.mul_comm] at this
    omega
  have h1 : x &&& (18446744073709551615 - (2 ^ b - 1) * 2 ^ a) = x := by
    apply Nat.eq_of_testBit_eq
    intro i
    rw [Nat.testBit_and]
    by_cases hi : i < a
    · have : (18446744073709551615 - (2 ^ b - 1) * 2 ^ a).testBit i = true := by
        rw [show (18446744073709551615 : Nat) - (2 ^ b - 1) * 2 ^ a = 2 ^ 64 - ((2 ^ b - 1) * 2 ^ a + 1) from by omega, Nat.testBit_two_pow_sub_succ (by omega)]
        rw [Nat.testBit_mul_two_pow]
        simp [show i < 64 from by omega, show ¬ a ≤ i from by omega]
      rw [this, Bool.and_true]
    · rw [Nat.testBit_lt_two_pow (Nat.lt_of_lt_of_le hx (Nat.pow_le_pow_right (by omega) (by omega))), Bool.false_and]
  have h2 : shlI .u64 (y : Int) (a : Int) = ((y * 2 ^ a : Nat) : Int) := by
    unfold shlI
    rw [Int.toNat_natCast, show min a IntKind.u64.bits = a from Nat.min_eq_left (show a ≤ 64 by omega)]
    rw [show (y : Int) * 2 ^ a = ((y * 2 ^ a : Nat) : Int) from by push_cast; rfl]
    exact zbI (by omega) (by omega)
  rw [Int.toNat_natCast, Int.toNat_natCast, h1, h2, or_eq (by omega) (by omega) (by omega) (by omega), Int.toNat_natCast, Int.toNat_natCast]
  have h5 : x ||| y * 2 ^ a = 2 ^ a * y + x := by
    rw [Nat.or_comm, Nat.mul_comm]
    exact (Nat.two_pow_add_eq_or_of_lt hx _).symm
  rw [h5, Nat.mul_comm]
  push_cast
  rfl
theorem ziS {s : State} (h : SF s) : D.zan s = swd s := by
  obtain ⟨g0, g1, m0, m1, k0, k1⟩ := h
  have hw : St.D.zan 10 s = some (swd s) := by
    unfold St.D.zan
    rw [zgr.2 ⟨g0, g1, m0, m1, k0, k1⟩]
    show (((St.D.zdr 10 [fGen, fMode, fKind] [IntKind.u64.wrap s.gen, IntKind.u64.wrap s.mode, IntKind.u64.wrap s.kind]).bind (fun (x17 : Int × Int) => (some x17.1)))) = _
    rw [ziX, zbI g0 (by omega), zbI m0 (by omega), zbI k0 (by omega), zmG, zk6, zjE, show decide (s.gen > 1073741823) = false from by simp; omega, show decide (s.mode > 3) = false from by simp; omega, show decide (s.kind > 3) = false from by simp; omega]
    simp only [cond_false, Option.bind_some]
    rw [show D.zaH fGen 0 s.gen = s.gen * ((2 ^ 0 : Nat) : Int) + 0 from zjL 0 30 (by omega) (by decide) g0 (by omega) (by omega) zn8 zmG zna]
    rw [show D.zaH fMode (s.gen * ((2 ^ 0 : Nat) : Int) + 0) s.mode = s.mode * ((2 ^ 30 : Nat) : Int) + (s.gen * ((2 ^ 0 : Nat) : Int) + 0) from zjL 30 2 (by omega) (by omega) m0 (by omega) (by omega) zkA zk6 zkB]
    rw [show D.zaH fKind (s.mode * ((2 ^ 30 : Nat) : Int) + (s.gen * ((2 ^ 0 : Nat) : Int) + 0)) s.kind = s.kind * ((2 ^ 32 : Nat) : Int) + (s.mode * ((2 ^ 30 : Nat) : Int) + (s.gen * ((2 ^ 0 : Nat) : Int) + 0)) from zjL 32 2 (by omega) (by omega) k0 (by omega) (by omega) zkG zjE zkC]
    congr 1
    unfold swd
    omega
  unfold D.zan
  rw [hw]; rfl
theorem zjK {w : Int} (h0 : 0 ≤ w) (h1 : w < 17179869184) : zb6 .u64 (zb6 .u64 (zb6 .u64 w (D.zat fGen)) (D.zat fMode)) (D.zat fKind) = 0 := by
  rw [zna, zkB, zkC]
  have l1 : w.toNat &&& (18446744073709551615 - (1073741823 : Int).toNat) ≤ w.toNat := Nat.and_le_left
  have l2 : (w.toNat &&& (18446744073709551615 - (1073741823 : Int).toNat)) &&& (18446744073709551615 - (3221225472 : Int).toNat) ≤ w.toNat &&& (18446744073709551615 - (1073741823 : Int).toNat) := Nat.and_le_left
  have e1 : zb6 .u64 w 1073741823 = _ := zet h0 (by omega) (by omega) (by omega)
  have e2 := zet (x := ((w.toNat &&& (18446744073709551615 - (1073741823 : Int).toNat) : Nat) : Int)) (y := 3221225472) (by omega) (by omega) (by omega) (by omega)
  rw [Int.toNat_natCast] at e2
  rw [e1, e2, zet (by omega) (by omega) (by omega) (by omega), Int.toNat_natCast]
  rw [Nat.and_assoc, Nat.and_assoc]
  have hK : (18446744073709551615 - (1073741823 : Int).toNat) &&& ((18446744073709551615 - (3221225472 : Int).toNat) &&& (18446744073709551615 - (12884901888 : Int).toNat)) = 1073741823 * 2 ^ 34 := by decide +kernel
  rw [hK]
  have : w.toNat &&& 1073741823 * 2 ^ 34 = 0 := by
    apply Nat.eq_of_testBit_eq
    intro i
    rw [Nat.testBit_and, Nat.zero_testBit]
    by_cases hi : i < 34
    · rw [Nat.testBit_mul_two_pow]
      simp [show ¬ 34 ≤ i from by omega]
    · rw [Nat.testBit_lt_two_pow (Nat.lt_of_lt_of_le (show w.toNat < 2 ^ 34 by omega) (Nat.pow_le_pow_right (by omega) (by omega))), Bool.false_and]
  rw [this]; rfl
theorem zkW {s : State} (h : SF s) : D.zau (D.zan s) = (s, true) := by
  rw [ziS h]
  have hs := h
  obtain ⟨g0, g1, m0, m1, k0, k1⟩ := h
  have w0 : 0 ≤ swd s := by unfold swd; omega
  have w1 : swd s < 17179869184 := by unfold swd; omega
  have e1 : D.zag fGen (swd s) = s.gen := by
    unfold D.zag
    rw [zn8, zmG, show fGen.at_ = ((0 : Nat) : Int) from rfl, show (1073741823 : Int) = ((2 ^ 30 - 1 : Nat) : Int) from by decide]
    simp only [Bool.not_true, cond_false]
    rw [shrN 0 (by omega), zhR (by omega) (by omega) 30 (by omega)]
    unfold swd
    omega
  have e2 : D.zag fMode (swd s) = s.mode := by
    unfold D.zag
    rw [zkA, zk6, show fMode.at_ = ((30 : Nat) : Int) from rfl, show (3 : Int) = ((2 ^ 2 - 1 : Nat) : Int) from by decide]
    simp only [Bool.not_true, cond_false]
    rw [shrN 30 (by omega), zhR (by omega) (by omega) 2 (by omega)]
    unfold swd
    omega
  have e3 : D.zag fKind (swd s) = s.kind := by
    unfold D.zag
    rw [zkG, zjE, show fKind.at_ = ((32 : Nat) : Int) from rfl, show (3 : Int) = ((2 ^ 2 - 1 : Nat) : Int) from by decide]
    simp only [Bool.not_true, cond_false]
    rw [shrN 32 (by omega), zhR (by omega) (by omega) 2 (by omega)]
    unfold swd
    omega
  have hw : St.D.zau 10 (swd s) = some (s, true) := by
    unfold St.D.zau
    show (St.D.zd2 10 [fGen, fMode, fKind] (swd s)).bind _ = _
    rw [zi5, zjK w0 w1, e1, e2, e3]
    show (bif (!(D.zaE (⟨(IntKind.i64.wrap s.gen), (IntKind.i64.wrap s.mode), (IntKind.i64.wrap s.kind)⟩ : State))) then _ else _) = _
    rw [zaZ (x := s.gen) (by omega) (by omega), zaZ (x := s.mode) (by omega) (by omega), zaZ (x := s.kind) (by omega) (by omega), zgr.2 hs]
    rfl
  unfold D.zau
  rw [hw]; rfl
end Go.Proofs.YtfpgnmhcfkikkaaGreat

/- Ours. -/
namespace Go.Proofs.YtfpgnmhcfkikkaaGreat
open Go.RowKit
theorem runF {t : T Int} {M : Mem} {ws' : List Int} {n : Nat} {most : Int} {r : Int} {fu : Nat} (h : Runs t M.ws n r ws') (hm : (n : Int) ≤ most) (hm2 : most ≤ 1000000) (hn : n < fu) : ∃ c, D.zeb fu (fu, t) M cap0 most = some (r, (n : Int), true, ⟨ws', c⟩) :=
  ziB (z := 0) h hm hm2 (by omega) hn
theorem zeq {at_ : Int} {f : Int → T Int} {ws ws' : List Int} {n : Nat} {r : Int} (h0 : 0 ≤ at_) (h1 : at_ < ws.length) (h : Runs (f (rd ws at_)) ws n r ws') : Runs (D.zb7 at_ f) ws (n + 1) r ws' := Runs.load h0 h1 h
theorem zd7 {at_ w : Int} {f : Unit → T Int} {ws ws' : List Int} {n : Nat} {r : Int} (h0 : 0 ≤ at_) (h1 : at_ < ws.length) (h : Runs (f ()) (ws.set at_.toNat w) n r ws') : Runs (D.zbd at_ w f) ws (n + 1) r ws' := Runs.store h0 h1 h
section
variable {p : Plan} (hp : PF p) {n : Int} (hn : 0 ≤ n ∧ n < p.nodes)
include hp hn
theorem zmK : D.zaI p n = D.za8 p + n * 5 := by rw [zki hp, if_pos hn]
theorem zmA {f : Int} (hf : 0 ≤ f ∧ f < 3) : D.zc9 p n f = D.za8 p + n * 5 + 2 + f := by rw [zkr hp, if_pos ⟨hn, hf⟩]
end
def ofNode (p : Plan) (n j : Int) : Prop := D.za8 p + n * 5 ≤ j ∧ j < D.za8 p + n * 5 + 5
theorem zjO {p : Plan} (hp : PF p) {ws ws' : List Int} {n : Int} (hn : 0 ≤ n ∧ n < p.nodes) (hl : (ws.length : Int) = D.zaD p) {next : Unit → T Int} {m : Nat} {r : Int} (k : Nat)
    (h : Runs (next ()) (((ws.set (D.za8 p + n * 5 + 2 + 0).toNat 0).set (D.za8 p + n * 5 + 2 + 1).toNat 0).set (D.za8 p + n * 5 + 2 + 2).toNat 0) m r ws') :
    Runs (D.zbZ (k + 4) p n 0 next) ws (m + 3) r ws' := by
  have hS := zcN hp
  have hN := zbA hp
  have w1 : IntKind.i64.wrap ((0 : Int) + 1) = 1 := rfl
  have w2 : IntKind.i64.wrap ((1 : Int) + 1) = 2 := rfl
  have w3 : IntKind.i64.wrap ((2 : Int) + 1) = 3 := rfl
  show Runs (D.zbu (D.zbZ (k + 3)) p n 0 next) _ _ _ _
  unfold D.zbu
  rw [zmA hp hn (f := 0) (by omega)]
  refine zd7 (by omega) (by omega) ?_
  show Runs (D.zbZ (k + 3) p n (IntKind.i64.wrap (0 + 1)) next) _ _ _ _
  rw [w1]
  show Runs (D.zbu (D.zbZ (k + 2)) p n 1 next) _ _ _ _
  unfold D.zbu
  rw [zmA hp hn (f := 1) (by omega)]
  refine zd7 (by omega) (by rw [List.length_set]; omega) ?_
  show Runs (D.zbZ (k + 2) p n (IntKind.i64.wrap (1 + 1)) next) _ _ _ _
  rw [w2]
  show Runs (D.zbu (D.zbZ (k + 1)) p n 2 next) _ _ _ _
  unfold D.zbu
  rw [zmA hp hn (f := 2) (by omega)]
  refine zd7 (by omega) (by rw [List.length_set, List.length_set]; omega) ?_
  show Runs (D.zbZ (k + 1) p n (IntKind.i64.wrap (2 + 1)) next) _ _ _ _
  rw [w3]
  exact h
theorem FreeAt.keep {p : Plan} {ws ws' : List Int} {l : List Int} {g : Int} (h : FreeAt p ws l g) (hl : ws'.length = ws.length) (h0 : rd ws' 0 = rd ws 0) (hk : ∀ n, n ∈ l → rd ws' (nx p n) = rd ws (nx p n)) : FreeAt p ws' l g :=
  ⟨by rw [hl]; exact h.len, h0.trans h.head, h.g0, h.range, h.nodup, h.linked.keep hk⟩
structure Reclaimed (p : Plan) (n : Int) (t : State) (ws ws' : List Int) (l : List Int) (g : Int) : Prop where
  len : ws'.length = ws.length
  state : rd ws' (D.za8 p + n * 5) = D.zan t
  fields : ∀ f, 0 ≤ f → f < 3 → rd ws' (D.za8 p + n * 5 + 2 + f) = 0
  gone : t.mode = 3 → FreeAt p ws' l g
  free : t.mode ≠ 3 → FreeAt p ws' (n :: l) (g + 1)
  others : ∀ j, 0 < j → ¬ ofNode p n j → rd ws' j = rd ws j
theorem zif {p : Plan} (hp : PF p) {ws : List Int} {n : Int} {l : List Int} {g : Int} (hn : 0 ≤ n ∧ n < p.nodes) (hnn : p.nodes ≤ 1000000) (hg : g < 1000000) (h : FreeAt p ws l g) (hno : n ∉ l) {t : State}
    (ht : t = D.zas (D.zau (rd ws (D.za8 p + n * 5))).1 p.gen) (k : Nat) :
    ∃ ws', Runs (D.zdx (k + 4) p n) ws (if t.mode = 3 then 5 else 8) (if t.mode = 3 then -1 else n) ws' ∧ Reclaimed p n t ws ws' l g := by
  have hs := h.len
  have hS := zcN hp
  have hN := zbA hp
  obtain ⟨v, hv⟩ : ∃ v, v = ((ws.set (D.za8 p + n * 5 + 2 + 0).toNat 0).set (D.za8 p + n * 5 + 2 + 1).toNat 0).set (D.za8 p + n * 5 + 2 + 2).toNat 0 := ⟨_, rfl⟩
  have hvl : v.length = ws.length := by rw [hv]; simp
  have hvr : ∀ j, 0 ≤ j → rd v j = if j = D.za8 p + n * 5 + 2 + 2 ∨ j = D.za8 p + n * 5 + 2 + 1 ∨ j = D.za8 p + n * 5 + 2 + 0 then 0 else rd ws j := by
    intro j hj
    rw [hv, zcr (by omega) (by simp; omega) hj]
    split
    · rw [if_pos (.inl ‹_›)]
    rw [zcr (by omega) (by simp; omega) hj]
    split
    · rw [if_pos (.inr (.inl ‹_›))]
    rw [zcr (by omega) (by omega) hj]
    split
    · rw [if_pos (.inr (.inr ‹_›))]
    rw [if_neg (by omega)]
  obtain ⟨u, hu⟩ : ∃ u, u = v.set (D.za8 p + n * 5).toNat (D.zan t) := ⟨_, rfl⟩
  have hul : u.length = ws.length := by rw [hu, List.length_set, hvl]
  have hur : ∀ j, 0 ≤ j → rd u j = if j = D.za8 p + n * 5 then D.zan t else rd v j := fun j hj => by rw [hu]; exact zcr (by omega) (by omega) hj
  have huo : ∀ j, 0 ≤ j → (¬ ofNode p n j ∨ j = nx p n) → rd u j = rd ws j := by
    intro j hj hno
    unfold ofNode nx at hno
    rw [hur j hj, if_neg (by omega), hvr j hj, if_neg (by omega)]
  have hF : FreeAt p u l g := h.keep hul (huo 0 (by omega) (by unfold ofNode; omega)) fun m hm => by
    have hmr := h.range m hm
    have hne : m ≠ n := fun e => hno (e ▸ hm)
    exact huo _ (by unfold nx; omega) (.inl (by unfold ofNode nx; omega))
  have hfl : ∀ f, 0 ≤ f → f < 3 → rd u (D.za8 p + n * 5 + 2 + f) = 0 := by
    intro f h0 h1
    rw [hur _ (by omega), if_neg (by omega), hvr _ (by omega), if_pos (by omega)]
  have hst : rd u (D.za8 p + n * 5) = D.zan t := by rw [hur _ (by omega), if_pos rfl]
  have main : ∀ {m : Nat} {r : Int} {ws'' : List Int}, Runs (D.zbh (k + 4) t p n) u m r ws'' → Runs (D.zdx (k + 4) p n) ws (m + 5) r ws'' := by
    intro m r ws'' hr
    show Runs (D.zbZ (k + 4) p n 0 (fun _ => D.zdJ (k + 4) p n)) ws (m + 2 + 3) r ws''
    refine zjO hp hn hs k ?_
    rw [← hv]
    show Runs (D.zb7 (D.zaI p n) (fun x => D.zdf (k + 4) p n x)) v (m + 1 + 1) r ws''
    rw [zmK hp hn]
    refine zeq (by omega) (by omega) ?_
    show Runs (D.zbd (D.zaI p n) (D.zan (D.zas (D.zau (rd v (D.za8 p + n * 5))).1 p.gen)) (fun _ => D.zbh (k + 4) (D.zas (D.zau (rd v (D.za8 p + n * 5))).1 p.gen) p n)) v (m + 1) r ws''
    rw [zmK hp hn, hvr _ (by omega), if_neg (by omega), ← ht]
    refine zd7 (by omega) (by omega) ?_
    rw [← hu]
    exact hr
  by_cases hm : t.mode = 3
  · refine ⟨u, ?_, ⟨hul, hst, hfl, fun _ => hF, fun h => absurd hm h, fun j hj hno => huo j (by omega) (.inl hno)⟩⟩
    rw [if_pos hm, if_pos hm]
    refine main (m := 0) ?_
    unfold D.zbh
    rw [hm]
    exact .done _ _
  · obtain ⟨ws', h1, h2, h3⟩ := zjC hp hF hnn hg hn hno (k + 3)
    have hl' : ws'.length = ws.length := by have := h2.len; omega
    refine ⟨ws', ?_, ⟨hl', ?_, fun f h0 h1 => ?_, fun h => absurd h hm, fun _ => h2, fun j hj hno => ?_⟩⟩
    · rw [if_neg hm, if_neg hm]
      refine main (m := 3) ?_
      unfold D.zbh
      rw [show (t.mode == 3) = false from by simpa using hm]
      exact h1
    · rw [h3 _ (by omega) (by unfold nx; omega), hst]
    · rw [h3 _ (by omega) (by unfold nx; omega), hfl f h0 h1]
    · rw [h3 j hj (by intro e; apply hno; unfold ofNode; unfold nx at e; omega), huo j (by omega) (.inl hno)]
end Go.Proofs.YtfpgnmhcfkikkaaGreat

/- Ours. -/
namespace Go.Proofs.YtfpgnmhcfkikkaaGreat
open Go.RowKit
theorem ziL {n : Int} (h0 : -1 ≤ n) (h1 : n ≤ 1000000000000000000) : D.ze2 n = n + 1 := by
  unfold D.ze2
  have h2 : IntKind.i64.wrap (n + 1) = n + 1 := zaZ (by omega) (by omega)
  rw [h2]
  exact zbI (by omega) (by omega)
theorem zlR {p : Plan} (hp : PF p) : 1 ≤ D.zam p ∧ D.zam p + p.threads * 3 ≤ D.zax p ∧ D.zax p < D.za8 p ∧ D.za8 p + p.nodes * 5 = D.zaD p := by
  have h1 := zf9 hp
  have h2 := zeQ hp
  have h3 := zgD hp
  have h4 := zcN hp
  have h5 := zlU hp
  have h6 := zmL hp
  have h7 := hp.t1
  have h8 := hp.r1
  have h9 : 1 * (1 + p.retire) ≤ p.threads * (1 + p.retire) := Int.mul_le_mul_of_nonneg_right h7 (by omega)
  exact ⟨by omega, by omega, by omega, by omega⟩
abbrev Len (p : Plan) (ws : List Int) : Prop := (ws.length : Int) = D.zaD p
theorem zn6 {i : Int} (h : 0 ≤ i) : i.tdiv 3 = i / 3 ∧ i.tmod 3 = i % 3 := ⟨Int.tdiv_eq_ediv_of_nonneg h, Int.tmod_eq_emod_of_nonneg h⟩
theorem zmY {p : Plan} (hp : PF p) {i : Int} (h0 : 0 ≤ i) (h1 : i < p.threads * 3) : D.zbY p (IntKind.i64.wrap (i.tdiv 3)) (i.tmod 3) = D.zam p + i := by
  have ht2 := hp.t2
  rw [(zn6 h0).1, (zn6 h0).2, zaM (by omega) (by omega), zk9 hp, if_pos (by omega)]
  omega
theorem zkg {p : Plan} (hp : PF p) {ws : List Int} (hl : Len p ws) {n : Int} (hn : -1 ≤ n ∧ n ≤ 1000000000000000000) : ∀ (d : Nat) (i : Int) (k : Nat), i + d = p.threads * 3 → 0 ≤ i → d < k →
    (∃ j, i ≤ j ∧ j < p.threads * 3 ∧ rd ws (D.zam p + j) = n + 1) → ∃ m : Nat, m ≤ d ∧ Runs (D.zbR k p n i) ws m true ws := by
  obtain ⟨g1, g2, g3, g4⟩ := zlR hp
  have hn1 := hp.n1
  have ht2 := hp.t2
  intro d
  induction d with
  | zero =>
    rintro i k hi _ _ ⟨j, h1, h2, _⟩
    omega
  | succ d ih =>
    rintro i k hi h0 hk ⟨j, h1, h2, h3⟩
    obtain ⟨k, rfl⟩ : ∃ q, k = q + 1 := ⟨k - 1, by omega⟩
    have hb : D.zbR (k + 1) p n i = .act 0 (D.zam p + i) 0 0 (fun x => D.zbS (D.zbR k) n p i x) := by
      show D.zbv (D.zbR k) p n i = _
      unfold D.zbv
      rw [zaM (show -1000000 ≤ p.threads * 3 by omega) (by omega), show (i == p.threads * 3) = false from by simp; omega, zmY hp h0 (by omega)]
      rfl
    unfold Len at hl
    by_cases e : rd ws (D.zam p + i) = n + 1
    · refine ⟨1, by omega, ?_⟩
      rw [hb]
      refine .load (by omega) (by omega) ?_
      unfold D.zbS
      rw [ziL hn.1 hn.2, e, show (n + 1 == n + 1) = true from by simp]
      exact .done _ _
    · have hne : j ≠ i := fun h => e (h ▸ h3)
      obtain ⟨m, hm, hr⟩ := ih (i + 1) k (by omega) (by omega) (by omega) ⟨j, by omega, h2, h3⟩
      refine ⟨m + 1, by omega, ?_⟩
      rw [hb]
      refine .load (by omega) (by omega) ?_
      unfold D.zbS
      rw [ziL hn.1 hn.2, show (rd ws (D.zam p + i) == n + 1) = false from by simpa using e, zaM (by omega) (by omega)]
      exact hr
theorem zkL {p : Plan} (hp : PF p) {ws : List Int} (hl : Len p ws) {n : Int} (hn : -1 ≤ n ∧ n ≤ 1000000000000000000) : ∀ (d : Nat) (i : Int) (k : Nat), i + d = p.threads * 3 → 0 ≤ i → d < k →
    (∀ j, i ≤ j → j < p.threads * 3 → rd ws (D.zam p + j) ≠ n + 1) → Runs (D.zbR k p n i) ws d false ws := by
  obtain ⟨g1, g2, g3, g4⟩ := zlR hp
  have hn1 := hp.n1
  have ht2 := hp.t2
  intro d
  induction d with
  | zero =>
    intro i k hi _ hk _
    obtain ⟨k, rfl⟩ : ∃ q, k = q + 1 := ⟨k - 1, by omega⟩
    show Runs (D.zbv (D.zbR k) p n i) _ _ _ _
    unfold D.zbv
    rw [zaM (show -1000000 ≤ p.threads * 3 by omega) (by omega), show (i == p.threads * 3) = true from by simp; omega]
    exact .done _ _
  | succ d ih =>
    intro i k hi h0 hk hno
    obtain ⟨k, rfl⟩ : ∃ q, k = q + 1 := ⟨k - 1, by omega⟩
    have hb : D.zbR (k + 1) p n i = .act 0 (D.zam p + i) 0 0 (fun x => D.zbS (D.zbR k) n p i x) := by
      show D.zbv (D.zbR k) p n i = _
      unfold D.zbv
      rw [zaM (show -1000000 ≤ p.threads * 3 by omega) (by omega), show (i == p.threads * 3) = false from by simp; omega, zmY hp h0 (by omega)]
      rfl
    unfold Len at hl
    rw [hb]
    refine .load (by omega) (by omega) ?_
    unfold D.zbS
    rw [ziL hn.1 hn.2, show (rd ws (D.zam p + i) == n + 1) = false from by simpa using hno i (by omega) (by omega), zaM (by omega) (by omega)]
    exact ih (i + 1) k (by omega) (by omega) (by omega) fun j h1 h2 => hno j (by omega) h2
theorem zjn {fu : Nat} {M : Mem} {i : Int} (h0 : 0 ≤ i) (h1 : i < M.ws.length) : D.zbg fu M 0 i = some (rd M.ws i) := by
  unfold D.zbg
  have hS : D.zca fu M 0 = some (M.ws.length : Int) := rfl
  rw [show decide (i < 0) = false from by simp; omega]
  simp only [cond_false, hS, Option.bind_some]
  rw [show decide (i ≥ (M.ws.length : Int)) = false from by simp; omega, show zeroI 0 = some () from rfl, zeS h0 h1]
  rfl
theorem zl4 {p : Plan} (hp : PF p) {ws : List Int} (h : LaidAt p ws) {j : Int} (h0 : 0 ≤ j) (h1 : j < p.threads * 3) : rd ws (D.zam p + j) = 0 := by
  obtain ⟨g1, g2, g3, g4⟩ := zlR hp
  exact h.zero _ (by omega) fun m _ _ => by omega
end Go.Proofs.YtfpgnmhcfkikkaaGreat

/- Ours. -/
namespace Go.Proofs.YtfpgnmhcfkikkaaGreat
open Go.RowKit
def rb (p : Plan) (t : Int) : Int := D.zax p + t * (1 + p.retire)
structure RetAt (p : Plan) (ws : List Int) (t : Int) (r : List Int) : Prop where
  count : rd ws (rb p t) = r.length
  room : (r.length : Int) ≤ p.retire
  slot : ∀ (i : Nat) (h : i < r.length), rd ws (rb p t + 1 + i) = r[i] + 1
  range : ∀ n, n ∈ r → 0 ≤ n ∧ n < p.nodes
section
variable {p : Plan} (hp : PF p) {t : Int} (ht : 0 ≤ t ∧ t < p.threads)
include hp ht
theorem zlQ : D.zam p + p.threads * 3 ≤ rb p t ∧ rb p t + 1 + p.retire ≤ D.za8 p ∧ 0 < rb p t := by
  have h1 := zf9 hp
  have h2 := zeQ hp
  have h3 := zgD hp
  have h5 := zlU hp
  have ht1 := hp.t1
  have hr1 := hp.r1
  unfold rb
  have h6 : t * (1 + p.retire) + (1 + p.retire) ≤ p.threads * (1 + p.retire) := by
    have : (t + 1) * (1 + p.retire) ≤ p.threads * (1 + p.retire) := Int.mul_le_mul_of_nonneg_right (by omega) (by omega)
    rw [Int.add_mul] at this
    omega
  have h7 : 0 ≤ t * (1 + p.retire) := Int.mul_nonneg (by omega) (by omega)
  exact ⟨by omega, by omega, by omega⟩
theorem zf4 : D.zaX p t = rb p t := by rw [zkl hp, if_pos ht]; rfl
theorem zer {i : Int} (hi : 0 ≤ i ∧ i < p.retire) : D.zaK p t i = rb p t + 1 + i := by rw [zjg hp, if_pos ⟨ht, hi⟩]; rfl
end
theorem RetAt.keep {p : Plan} {ws ws' : List Int} {t : Int} {r : List Int} (h : RetAt p ws t r) (hk : ∀ j, rb p t ≤ j → j < rb p t + 1 + p.retire → rd ws' j = rd ws j) : RetAt p ws' t r := by
  have h0 := h.room
  exact ⟨by rw [hk _ (by omega) (by omega)]; exact h.count, h.room, fun i hi => by rw [hk _ (by omega) (by omega)]; exact h.slot i hi, h.range⟩
theorem zkm {p : Plan} (hp : PF p) {ws : List Int} {t n : Int} {r : List Int} (ht : 0 ≤ t ∧ t < p.threads) (hl : (ws.length : Int) = D.zaD p) (h : RetAt p ws t r) (hf : (r.length : Int) = p.retire) :
    Runs (D.zd8 p t n) ws 1 (-1) ws := by
  obtain ⟨q1, q2, q3⟩ := zlQ hp ht
  have hS := zcN hp
  have hn1 := hp.n1
  have hr2 := hp.r2
  have hr1 := hp.r1
  have ht1 := hp.t1
  unfold D.zd8
  rw [zf4 hp ht]
  refine zeq (by omega) (by omega) ?_
  unfold D.zdb
  rw [h.count, zbI (x := p.retire) (by omega) (by omega), show decide ((r.length : Int) ≥ p.retire) = true from by simp; omega]
  exact .done _ _
theorem ziQ {p : Plan} (hp : PF p) {ws : List Int} {t n : Int} {r : List Int} (ht : 0 ≤ t ∧ t < p.threads) (hn : 0 ≤ n ∧ n < p.nodes) (hnn : p.nodes ≤ 1000000) (hl : (ws.length : Int) = D.zaD p) (h : RetAt p ws t r) (hf : (r.length : Int) < p.retire) :
    ∃ ws', Runs (D.zd8 p t n) ws 3 ((r.length : Int) + 1) ws' ∧ ws'.length = ws.length ∧ RetAt p ws' t (r ++ [n]) ∧ ∀ j, 0 ≤ j → j ≠ rb p t → j ≠ rb p t + 1 + r.length → rd ws' j = rd ws j := by
  obtain ⟨q1, q2, q3⟩ := zlQ hp ht
  have hS := zcN hp
  have hN := zbA hp
  have hn1 := hp.n1
  have hr2 := hp.r2
  obtain ⟨u, hu⟩ : ∃ u, u = ws.set (rb p t + 1 + r.length).toNat (n + 1) := ⟨_, rfl⟩
  have hul : u.length = ws.length := by rw [hu, List.length_set]
  have hur : ∀ j, 0 ≤ j → rd u j = if j = rb p t + 1 + r.length then n + 1 else rd ws j := fun j hj => by rw [hu]; exact zcr (by omega) (by omega) hj
  obtain ⟨v, hv⟩ : ∃ v, v = u.set (rb p t).toNat ((r.length : Int) + 1) := ⟨_, rfl⟩
  have hvl : v.length = ws.length := by rw [hv, List.length_set, hul]
  have hvr : ∀ j, 0 ≤ j → rd v j = if j = rb p t then (r.length : Int) + 1 else rd u j := fun j hj => by rw [hv]; exact zcr (by omega) (by omega) hj
  refine ⟨v, ?_, hvl, ⟨?_, by simp; omega, fun i hi => ?_, fun m hm => ?_⟩, fun j hj h1 h2 => ?_⟩
  · unfold D.zd8
    rw [zf4 hp ht]
    refine zeq (by omega) (by omega) ?_
    unfold D.zdb
    rw [h.count, zbI (x := p.retire) (by omega) (by omega), show decide ((r.length : Int) ≥ p.retire) = false from by simp; omega, zaM (show -1000000 ≤ (r.length : Int) by omega) (by omega), zer hp ht (by omega), zaM (show -1000000 ≤ n + 1 by omega) (by omega), zbI (x := n + 1) (by omega) (by omega)]
    refine zd7 (by omega) (by omega) ?_
    rw [← hu]
    unfold D.zdw
    rw [zf4 hp ht, zbI (by omega) (by omega)]
    refine zd7 (by omega) (by omega) ?_
    rw [← hv]
    unfold D.zdF
    rw [zaM (show -1000000 ≤ (r.length : Int) by omega) (by omega), zaM (by omega) (by omega)]
    exact .done _ _
  · rw [hvr _ (by omega), if_pos rfl]; simp
  · rw [hvr _ (by omega), if_neg (by omega), hur _ (by omega)]
    by_cases e : i = r.length
    · subst e
      rw [if_pos rfl]
      simp
    · have hi' : i < r.length := by simp at hi; omega
      rw [if_neg (by omega), h.slot i hi', List.getElem_append_left hi']
  · rcases List.mem_append.1 hm with hm | hm
    · exact h.range m hm
    · rcases List.mem_singleton.1 hm with rfl; exact hn
  · rw [hvr j hj, if_neg h1, hur j hj, if_neg h2]
theorem zku {p : Plan} (hp : PF p) {M : Mem} {t : Int} {r : List Int} (ht : 0 ≤ t ∧ t < p.threads) (hl : (M.ws.length : Int) = D.zaD p) (h : RetAt p M.ws t r) (hnn : p.nodes ≤ 1000) {fu : Nat} (hfu : 2000 < fu) : D.zcv fu p M 0 t = some r := by
  obtain ⟨q1, q2, q3⟩ := zlQ hp ht
  have hS := zcN hp
  have hN := zbA hp
  have hn1 := hp.n1
  have hr2 := hp.r2
  have hr1 := hp.r1
  have ht1 := hp.t1
  have hroom := h.room
  unfold D.zcv
  rw [zf4 hp ht, zjn (by omega) (by omega), h.count]
  simp only [Option.bind_some]
  have hmin : IntKind.i64.wrap (minI (r.length : Int) (IntKind.u64.wrap (maxI p.retire 0))) = (r.length : Int) := by
    have : maxI p.retire 0 = p.retire := by unfold maxI; rw [if_neg (by omega)]
    rw [this, zbI (by omega) (by omega)]
    have : minI (r.length : Int) p.retire = (r.length : Int) := by unfold minI; split <;> omega
    rw [this, zaM (by omega) (by omega)]
  rw [hmin]
  refine zfN (fun o => o = some r) (fun (i : Nat) (x : List Int × Int) => x.2 = (i : Int) ∧ x.1 = r.take i) r.length fu ⟨rfl, by simp⟩ (by omega) ?_ ?_
  · rintro i ⟨l, x⟩ hi ⟨rfl, rfl⟩
    simp only
    have hm : r[i] ∈ r := List.getElem_mem hi
    have hr := h.range _ hm
    have ha : appD (r.take i) [r[i]] = some (r.take i ++ [r[i]]) := by unfold appD; rw [if_pos (by simp only [zgb, List.length_singleton, List.length_take]; omega)]
    rw [show decide ((i : Int) < (r.length : Int)) = true from by simp; omega, zer hp ht (by omega), zjn (by omega) (by omega), h.slot i hi]
    simp only [cond_true, Option.bind_some]
    rw [show decide (r[i] + 1 ≥ 1) = true from by simp; omega, zbI (x := p.nodes) (by omega) (by omega), show decide (r[i] + 1 ≤ p.nodes) = true from by simp; omega, zaM (show -1000000 ≤ r[i] + 1 by omega) (by omega), show r[i] + 1 - 1 = r[i] from by omega, zaM (show -1000000 ≤ r[i] by omega) (by omega), ha]
    simp only [cond_true, Option.bind_some]
    rw [zaM (show -1000000 ≤ (i : Int) + 1 by omega) (by omega)]
    exact ⟨_, rfl, by simp, by simp⟩
  · rintro ⟨l, x⟩ ⟨rfl, rfl⟩
    simp only
    rw [show decide ((r.length : Int) < (r.length : Int)) = false from by simp]
    exact ⟨_, rfl, by simp⟩
/-! ### A scan -/
def zlJ (held : Int → Bool) : Nat → List Int → List Int × List Int
  | 0, r => (r, [])
  | k + 1, r => match r[k]? with
    | none => zlJ held k r
    | some n => if held n then zlJ held k r else
      let q := zlJ held k ((r.set k ((r.getLast?).getD 0)).dropLast)
      (q.1, n :: q.2)
theorem zjJ {r : List Int} {k : Nat} (hk : k < r.length) : List.Perm (r[k] :: (r.set k ((r.getLast?).getD 0)).dropLast) r ∧ (r.set k ((r.getLast?).getD 0)).dropLast.length + 1 = r.length := by
  rcases List.eq_nil_or_concat r with rfl | ⟨s, z, rfl⟩
  · cases hk
  · simp only [List.concat_eq_append] at hk ⊢
    rw [List.getLast?_append, List.getLast?_singleton]
    simp only [Option.some_or, Option.getD_some]
    rw [List.length_append, List.length_singleton] at hk
    by_cases e : k = s.length
    · subst e
      rw [List.set_append_right _ _ (Nat.le_refl _)]
      simp only [Nat.sub_self, List.set_cons_zero, List.dropLast_concat]
      simp only [List.getElem_append_right (Nat.le_refl _), Nat.sub_self, List.getElem_cons_zero, List.length_append, List.length_singleton]
      exact ⟨(List.perm_append_singleton z s).symm, by simp⟩
    · have hk' : k < s.length := by omega
      rw [List.set_append_left _ _ hk']
      simp only [List.dropLast_concat, List.getElem_append_left hk', List.length_set, List.length_append, List.length_singleton]
      refine ⟨?_, by simp⟩
      rw [List.set_eq_take_append_cons_drop, if_pos hk']
      have h1 : List.Perm (s[k] :: (s.take k ++ z :: s.drop (k + 1))) (z :: (s.take k ++ s[k] :: s.drop (k + 1))) := by
        refine (List.Perm.cons _ List.perm_middle).trans ?_
        refine (List.Perm.swap _ _ _).trans ?_
        exact List.Perm.cons _ List.perm_middle.symm
      have h2 : s.take k ++ s[k] :: s.drop (k + 1) = s := by rw [← List.drop_eq_getElem_cons hk', List.take_append_drop]
      rw [h2] at h1
      exact h1.trans (List.perm_append_singleton z s).symm
theorem znI {r : List Int} {k i : Nat} (hk : k < r.length) (hi : i < (r.set k ((r.getLast?).getD 0)).dropLast.length) : (r.set k ((r.getLast?).getD 0)).dropLast[i] = if i = k then r[r.length - 1]'(by omega) else r[i]'(by simp at hi; omega) := by
  have hlast : (r.getLast?).getD 0 = r[r.length - 1]'(by omega) := by
    rw [List.getLast?_eq_getElem?, List.getElem?_eq_getElem (by omega)]
    rfl
  rw [List.getElem_dropLast, List.getElem_set]
  by_cases e : k = i
  · rw [if_pos e, if_pos e.symm]; exact hlast
  · rw [if_neg e, if_neg (Ne.symm e)]
def tof (p : Plan) (ws : List Int) (n : Int) : State := D.zas (D.zau (rd ws (D.za8 p + n * 5))).1 p.gen
def pushAll (p : Plan) (ws : List Int) (out l : List Int) : List Int := out.foldl (fun l n => if (tof p ws n).mode = 3 then l else n :: l) l
theorem zgV {p : Plan} {ws l : List Int} : pushAll p ws [] l = l := rfl
theorem zgl {p : Plan} {ws out l : List Int} {n : Int} : pushAll p ws (n :: out) l = pushAll p ws out (if (tof p ws n).mode = 3 then l else n :: l) := rfl
theorem zgO {p : Plan} {ws : List Int} : ∀ {out l : List Int} {n : Int}, n ∈ pushAll p ws out l → n ∈ out ∨ n ∈ l
  | [], _, _, h => .inr h
  | m :: out, l, n, h => by
    have h : n ∈ pushAll p ws out (if (tof p ws m).mode = 3 then l else m :: l) := h
    rcases zgO h with h | h
    · exact .inl (List.mem_cons_of_mem _ h)
    · split at h
      · exact .inr h
      · rcases List.mem_cons.1 h with rfl | h
        · exact .inl (List.mem_cons_self ..)
        · exact .inr h
theorem zfV {p : Plan} {ws ws' : List Int} : ∀ {out l : List Int}, (∀ n, n ∈ out → rd ws' (D.za8 p + n * 5) = rd ws (D.za8 p + n * 5)) → pushAll p ws' out l = pushAll p ws out l
  | [], _, _ => by rw [zgV, zgV]
  | m :: out, l, h => by
    rw [zgl, zgl]
    have e : tof p ws' m = tof p ws m := by unfold tof; rw [h m (List.mem_cons_self ..)]
    rw [e]
    exact zfV fun n hn => h n (List.mem_cons_of_mem _ hn)
theorem zg8 {held : Int → Bool} : ∀ (k : Nat) (r : List Int), k ≤ r.length → List.Perm ((zlJ held k r).2 ++ (zlJ held k r).1) r
  | 0, r, _ => List.Perm.refl _
  | k + 1, r, hk => by
    have hk' : k < r.length := hk
    simp only [zlJ, List.getElem?_eq_getElem hk']
    cases held r[k]
    · simp only [Bool.false_eq_true, if_false, List.cons_append]
      obtain ⟨h1, h2⟩ := zjJ hk'
      exact (List.Perm.cons _ (zg8 k _ (by omega))).trans h1
    · simp only [if_true]
      exact zg8 k r (by omega)
structure Scanned (p : Plan) (t : Int) (ws ws' : List Int) (r' out l : List Int) (g : Int) : Prop where
  len : ws'.length = ws.length
  ret : RetAt p ws' t r'
  free : ∃ g', g' ≤ g + out.length ∧ FreeAt p ws' (pushAll p ws out l) g'
  states : ∀ n, n ∈ out → rd ws' (D.za8 p + n * 5) = D.zan (tof p ws n)
  fields : ∀ n f, n ∈ out → 0 ≤ f → f < 3 → rd ws' (D.za8 p + n * 5 + 2 + f) = 0
  others : ∀ j, 0 < j → (∀ n, n ∈ out → ¬ ofNode p n j) → ¬ (rb p t ≤ j ∧ j < rb p t + 1 + p.retire) → rd ws' j = rd ws j
def heldW (p : Plan) (ws : List Int) (n : Int) : Prop := ∃ j, 0 ≤ j ∧ j < p.threads * 3 ∧ rd ws (D.zam p + j) = n + 1
theorem zij {p : Plan} (hp : PF p) (hnn : p.nodes ≤ 1000) {t : Int} (ht : 0 ≤ t ∧ t < p.threads) {held : Int → Bool} (J : Nat) (hJ : 100 < J) : ∀ (k : Nat) (r ws l : List Int) (g done : Int) (K : Nat), k ≤ r.length → (ws.length : Int) = D.zaD p → RetAt p ws t r → FreeAt p ws l g →
    (∀ n, n ∈ r → n ∉ l) → r.Nodup → (∀ n, n ∈ r → (held n = true ↔ heldW p ws n)) → g + k < 1000000 → 0 ≤ done → done + k ≤ 100000 → k < K →
    ∃ (m : Nat) (ws' : List Int), m ≤ 70 * k ∧ Runs (D.zbb J K p t ⟨(k : Int) - 1, (r.length : Int), done⟩) ws m (done + ((zlJ held k r).2.length : Int)) ws' ∧ Scanned p t ws ws' (zlJ held k r).1 (zlJ held k r).2 l g := by
  obtain ⟨q1, q2, q3⟩ := zlQ hp ht
  have hS := zcN hp
  have hN := zbA hp
  have hn1 := hp.n1
  have hr2 := hp.r2
  have ht2 := hp.t2
  have hz := zlR hp
  intro k
  induction k with
  | zero =>
    intro r ws l g done K hk hl hR hF hrl hnd hh hg hd hd2 hK
    obtain ⟨K, rfl⟩ : ∃ q, K = q + 1 := ⟨K - 1, by omega⟩
    refine ⟨0, ws, by omega, ?_, ⟨rfl, hR, ⟨g, by simp [zlJ], hF⟩, fun n hn => by simp [zlJ] at hn, fun n f hn => by simp [zlJ] at hn, fun _ _ _ _ => rfl⟩⟩
    show Runs (D.zbp J (D.zbb J K) p t _) _ _ _ _
    unfold D.zbp
    rw [show decide ((⟨((0 : Nat) : Int) - 1, (r.length : Int), done⟩ : Scan).at_ < 0) = true from by simp]
    have : done + ((zlJ held 0 r).2.length : Int) = done := by simp [zlJ]
    rw [this]
    exact .done _ _
  | succ k ih =>
    intro r ws l g done K hk hl hR hF hrl hnd hh hg hd hd2 hK
    obtain ⟨K, rfl⟩ : ∃ q, K = q + 1 := ⟨K - 1, by omega⟩
    have hk' : k < r.length := hk
    have hroom := hR.room
    have hm : r[k] ∈ r := List.getElem_mem hk'
    have hrk := hR.range _ hm
    obtain ⟨n, hnk⟩ : ∃ n, n = r[k] := ⟨_, rfl⟩
    rw [← hnk] at hm hrk
    have hbody : ∀ {m : Nat} {res : Int} {ws' : List Int}, Runs (T.bind (D.zey J p n) (fun x => D.zbm J (D.zbb J K) p t ⟨(k : Int) - 1, (r.length : Int), done⟩ ⟨(k : Int), (r.length : Int), done⟩ (n + 1) x)) ws m res ws' →
        Runs (D.zbb J (K + 1) p t ⟨((k + 1 : Nat) : Int) - 1, (r.length : Int), done⟩) ws (m + 1) res ws' := by
      intro m res ws' hr
      rw [show ((k + 1 : Nat) : Int) - 1 = (k : Int) from by omega]
      show Runs (D.zbp J (D.zbb J K) p t _) _ _ _ _
      unfold D.zbp
      simp only
      rw [show decide ((k : Int) < 0) = false from by rw [decide_eq_false_iff_not]; omega, zer hp ht (by omega), zaM (show -1000000 ≤ (k : Int) - 1 by omega) (by omega)]
      refine zeq (by omega) (by omega) ?_
      rw [hR.slot k hk', ← hnk]
      unfold D.zc0
      rw [show decide (n + 1 < 1) = false from by simp; omega, zbI (x := p.nodes) (by omega) (by omega), show decide (n + 1 > p.nodes) = false from by simp; omega, zaM (show -1000000 ≤ n + 1 by omega) (by omega), show n + 1 - 1 = n from by omega, zaM (show -1000000 ≤ n by omega) (by omega)]
      exact hr
    have hsc : zlJ held (k + 1) r = if held n then zlJ held k r else ((zlJ held k ((r.set k ((r.getLast?).getD 0)).dropLast)).1, n :: (zlJ held k ((r.set k ((r.getLast?).getD 0)).dropLast)).2) := by
      simp only [zlJ, List.getElem?_eq_getElem hk', hnk]
    by_cases hc : held n = true
    · rw [hsc, if_pos hc]
      obtain ⟨j, j0, j1, hj⟩ := (hh n hm).1 hc
      obtain ⟨m1, hm1, hr1⟩ := zkg hp hl (n := n) (by omega) (p.threads * 3).toNat 0 J (by omega) (by omega) (by omega) ⟨j, by omega, j1, hj⟩
      obtain ⟨m, ws', hm2, hr2', hsd⟩ := ih r ws l g done K (by omega) hl hR hF hrl hnd hh (by omega) hd (by omega) (by omega)
      refine ⟨m1 + m + 1, ws', by omega, hbody ?_, hsd⟩
      exact Runs.bind (g := fun x => D.zbm J (D.zbb J K) p t ⟨(k : Int) - 1, (r.length : Int), done⟩ ⟨(k : Int), (r.length : Int), done⟩ (n + 1) x) hr1 hr2'
    · rw [hsc, if_neg hc]
      have hno : ∀ j, 0 ≤ j → j < p.threads * 3 → rd ws (D.zam p + j) ≠ n + 1 := fun j j0 j1 hj => hc ((hh n hm).2 ⟨j, j0, j1, hj⟩)
      have hr1 := zkL hp hl (n := n) (by omega) (p.threads * 3).toNat 0 J (by omega) (by omega) (by omega) hno
      obtain ⟨hpm, hpl⟩ := zjJ hk'
      rw [← hnk] at hpm
      obtain ⟨r2, hr2e⟩ : ∃ r2, r2 = (r.set k ((r.getLast?).getD 0)).dropLast := ⟨_, rfl⟩
      have hat : ∀ (i : Nat) (hi : i < r2.length), r2[i] = if i = k then r[r.length - 1]'(by omega) else r[i]'(by rw [hr2e] at hi; simp at hi; omega) := by
        intro i hi
        subst hr2e
        exact znI hk' hi
      rw [← hr2e] at hpm hpl ⊢
      have hnd2 : (n :: r2).Nodup := hpm.nodup_iff.2 hnd
      have hsub : ∀ q, q ∈ r2 → q ∈ r ∧ q ≠ n := fun q hq => ⟨hpm.subset (List.mem_cons_of_mem _ hq), fun e => (List.nodup_cons.1 hnd2).1 (e ▸ hq)⟩
      obtain ⟨v, hv⟩ : ∃ v, v = if k = r.length - 1 then ws else ws.set (rb p t + 1 + k).toNat (r[r.length - 1]'(by omega) + 1) := ⟨_, rfl⟩
      have hvl : v.length = ws.length := by rw [hv]; split <;> simp
      have hvr : ∀ j, 0 ≤ j → rd v j = if j = rb p t + 1 + k then r[r.length - 1]'(by omega) + 1 else rd ws j := by
        intro j hj
        rw [hv]
        by_cases e : k = r.length - 1
        · rw [if_pos e]
          split
          · rename_i h
            rw [h, hR.slot k hk']
            congr 2
          · rfl
        · rw [if_neg e]
          exact zcr (by omega) (by omega) hj
      obtain ⟨u, hu⟩ : ∃ u, u = v.set (rb p t).toNat ((r.length : Int) - 1) := ⟨_, rfl⟩
      have hul : u.length = ws.length := by rw [hu, List.length_set, hvl]
      have hur : ∀ j, 0 ≤ j → rd u j = if j = rb p t then (r.length : Int) - 1 else rd v j := fun j hj => by rw [hu]; exact zcr (by omega) (by omega) hj
      have huo : ∀ j, 0 ≤ j → ¬ (rb p t ≤ j ∧ j < rb p t + 1 + p.retire) → rd u j = rd ws j := by
        intro j hj hno
        rw [hur j hj, if_neg (by omega), hvr j hj, if_neg (by omega)]
      have hR2 : RetAt p u t r2 := by
        refine ⟨?_, by omega, fun i hi => ?_, fun q hq => hR.range q (hsub q hq).1⟩
        · rw [hur _ (by omega), if_pos rfl]; omega
        · rw [hur _ (by omega), if_neg (by omega), hvr _ (by omega), hat i hi]
          by_cases e : i = k
          · rw [if_pos (by omega), if_pos e]
          · rw [if_neg (by omega), if_neg e]
            exact hR.slot i (by omega)
      have hF2 : FreeAt p u l g := hF.keep hul (huo 0 (by omega) (by omega)) fun q hq => by
        have := hF.range q hq
        exact huo _ (by unfold nx; omega) (by unfold nx; omega)
      have hst : rd u (D.za8 p + n * 5) = rd ws (D.za8 p + n * 5) := huo _ (by omega) (by omega)
      obtain ⟨w, hw1, hw⟩ := zif hp hrk (by omega) (by omega) hF2 (hrl n hm) (t := tof p ws n) (by unfold tof; rw [hst]) (J - 4)
      rw [show J - 4 + 4 = J from by omega] at hw1
      obtain ⟨g2, hg2, hFw⟩ : ∃ g2, g2 ≤ g + 1 ∧ FreeAt p w (if (tof p ws n).mode = 3 then l else n :: l) g2 := by
        by_cases hm3 : (tof p ws n).mode = 3
        · exact ⟨g, by omega, by rw [if_pos hm3]; exact hw.gone hm3⟩
        · exact ⟨g + 1, by omega, by rw [if_neg hm3]; exact hw.free hm3⟩
      have hwl := hw.len
      have hwo := hw.others
      have hwu : ∀ j, 0 < j → j < D.za8 p → ¬ (rb p t ≤ j ∧ j < rb p t + 1 + p.retire) → rd w j = rd ws j := fun j h0 h1 h2 => by
        rw [hwo j h0 (by unfold ofNode; omega), huo j (by omega) h2]
      have hRw : RetAt p w t r2 := hR2.keep fun j h0 h1 => hwo j (by omega) (by unfold ofNode; omega)
      have hother : ∀ q, q ∈ r2 → ∀ f : Int, 0 ≤ f → f < 5 → rd w (D.za8 p + q * 5 + f) = rd ws (D.za8 p + q * 5 + f) := by
        intro q hq f f0 f1
        have hqr := hR.range q (hsub q hq).1
        have hqn := (hsub q hq).2
        rw [hwo _ (by omega) (by unfold ofNode; omega), huo _ (by omega) (by omega)]
      have hA : ∀ q, q ∈ r2 → q ∉ (if (tof p ws n).mode = 3 then l else n :: l) := by
        intro q hq hql
        split at hql
        · exact hrl q (hsub q hq).1 hql
        · rcases List.mem_cons.1 hql with rfl | hql
          · exact (hsub _ hq).2 rfl
          · exact hrl q (hsub q hq).1 hql
      have hB : ∀ q, q ∈ r2 → (held q = true ↔ heldW p w q) := by
        intro q hq
        rw [hh q (hsub q hq).1]
        unfold heldW
        constructor
        · rintro ⟨j, j0, j1, hj⟩
          exact ⟨j, j0, j1, by rw [hwu _ (by omega) (by omega) (by omega)]; exact hj⟩
        · rintro ⟨j, j0, j1, hj⟩
          exact ⟨j, j0, j1, by rw [hwu _ (by omega) (by omega) (by omega)] at hj; exact hj⟩
      obtain ⟨m, ws', hm2, hr2', hsd⟩ := ih r2 w (if (tof p ws n).mode = 3 then l else n :: l) g2 (done + 1) K (by omega) (by omega) hRw hFw hA (List.nodup_cons.1 hnd2).2 hB (by omega) (by omega) (by omega) (by omega)
      have hout : ∀ q, q ∈ (zlJ held k r2).2 → q ∈ r2 := fun q hq => (zg8 (held := held) k r2 (by omega)).subset (List.mem_append_left _ hq)
      have hlen2 : (r2.length : Int) = (r.length : Int) - 1 := by omega
      have hfin : Runs (D.zby J (D.zbb J K) p t ((r.length : Int) - 1) n ⟨(k : Int), (r.length : Int), done⟩) v ((if (tof p ws n).mode = 3 then 5 else 8) + m + 1) (done + 1 + ((zlJ held k r2).2.length : Int)) ws' := by
        unfold D.zby
        rw [zf4 hp ht, zbI (x := (r.length : Int) - 1) (by omega) (by omega)]
        refine zd7 (by omega) (by omega) ?_
        rw [← hu]
        unfold D.zdc
        refine Runs.bind (g := fun x => D.zci J (D.zbb J K) p t ⟨(k : Int), (r.length : Int), done⟩ ((r.length : Int) - 1) x) hw1 ?_
        unfold D.zci
        simp only
        rw [zaM (show -1000000 ≤ (k : Int) - 1 by omega) (by omega), zaM (show -1000000 ≤ done + 1 by omega) (by omega), ← hlen2]
        exact hr2'
      have hrem : ∃ m3 : Nat, m3 ≤ m + 11 ∧ Runs (D.zcg J (D.zbb J K) p t ⟨(k : Int), (r.length : Int), done⟩ n) ws m3 (done + 1 + ((zlJ held k r2).2.length : Int)) ws' := by
        unfold D.zcg
        simp only
        rw [zaM (show -1000000 ≤ (r.length : Int) - 1 by omega) (by omega)]
        by_cases e : k = r.length - 1
        · rw [show ((k : Int) == (r.length : Int) - 1) = true from by simp; omega]
          rw [if_pos e] at hv
          rw [hv] at hfin
          exact ⟨_, by split <;> omega, hfin⟩
        · rw [show ((k : Int) == (r.length : Int) - 1) = false from by simp; omega]
          rw [if_neg e] at hv
          refine ⟨(if (tof p ws n).mode = 3 then 5 else 8) + m + 1 + 1 + 1, by split <;> omega, ?_⟩
          simp only [cond_false]
          rw [zer hp ht (by omega)]
          refine zeq (by omega) (by omega) ?_
          unfold D.zcZ
          have hlast := hR.slot (r.length - 1) (by omega)
          rw [show rb p t + 1 + ((r.length : Int) - 1) = rb p t + 1 + ((r.length - 1 : Nat) : Int) from by omega, hlast]
          simp only
          rw [zer hp ht (by omega)]
          refine zd7 (by omega) (by omega) ?_
          rw [← hv]
          exact hfin
      obtain ⟨m3, hm3, hrem⟩ := hrem
      refine ⟨(p.threads * 3).toNat + m3 + 1, ws', by omega, hbody ?_, ?_⟩
      · refine Runs.bind (g := fun x => D.zbm J (D.zbb J K) p t ⟨(k : Int) - 1, (r.length : Int), done⟩ ⟨(k : Int), (r.length : Int), done⟩ (n + 1) x) hr1 ?_
        unfold D.zbm
        simp only [cond_false]
        rw [zaM (show -1000000 ≤ n + 1 by omega) (by omega), show n + 1 - 1 = n from by omega, zaM (show -1000000 ≤ n by omega) (by omega), List.length_cons]
        rw [show done + (((zlJ held k r2).2.length + 1 : Nat) : Int) = done + 1 + ((zlJ held k r2).2.length : Int) from by omega]
        exact hrem
      · have hst2 : ∀ q, q ∈ r2 → rd w (D.za8 p + q * 5) = rd ws (D.za8 p + q * 5) := fun q hq => by
          have := hother q hq 0 (by omega) (by omega)
          rwa [Int.add_zero] at this
        have hnout : n ∉ (zlJ held k r2).2 := fun h => (hsub n (hout n h)).2 rfl
        refine ⟨by rw [hsd.len, hwl, hul], hsd.ret, ?_, fun q hq => ?_, fun q f hq f0 f1 => ?_, fun j h0 h1 h2 => ?_⟩
        · obtain ⟨g3, hg3, hF3⟩ := hsd.free
          refine ⟨g3, by rw [List.length_cons]; omega, ?_⟩
          show FreeAt p ws' (pushAll p ws (zlJ held k r2).2 (if (tof p ws n).mode = 3 then l else n :: l)) g3
          rw [← zfV fun q hq => hst2 q (hout q hq)]
          exact hF3
        · rcases List.mem_cons.1 hq with rfl | hq
          · rw [hsd.others _ (by omega) (fun q' hq' => by
              have := (hsub q' (hout q' hq')).2
              unfold ofNode; omega) (by omega)]
            exact hw.state
          · rw [hsd.states q hq]
            unfold tof
            rw [hst2 q (hout q hq)]
        · rcases List.mem_cons.1 hq with rfl | hq
          · rw [hsd.others _ (by omega) (fun q' hq' => by
              have := (hsub q' (hout q' hq')).2
              unfold ofNode; omega) (by omega)]
            exact hw.fields f f0 f1
          · exact hsd.fields q f hq f0 f1
        · rw [hsd.others j h0 (fun q hq => h1 q (List.mem_cons_of_mem _ hq)) h2, hwo j h0 (h1 n (List.mem_cons_self ..)), huo j (by omega) h2]
theorem zk4 {p : Plan} (hp : PF p) (hnn : p.nodes ≤ 1000) {t : Int} (ht : 0 ≤ t ∧ t < p.threads) {held : Int → Bool} (J : Nat) (hJ : 1100 < J) {r ws l : List Int} {g : Int} (hl : (ws.length : Int) = D.zaD p) (hR : RetAt p ws t r) (hF : FreeAt p ws l g)
    (hrl : ∀ n, n ∈ r → n ∉ l) (hnd : r.Nodup) (hh : ∀ n, n ∈ r → (held n = true ↔ heldW p ws n)) (hg : g < 900000) :
    ∃ (m : Nat) (ws' : List Int), m ≤ 70 * r.length + 1 ∧ Runs (D.zcJ J p t) ws m ((zlJ held r.length r).2.length : Int) ws' ∧ Scanned p t ws ws' (zlJ held r.length r).1 (zlJ held r.length r).2 l g := by
  obtain ⟨q1, q2, q3⟩ := zlQ hp ht
  have hS := zcN hp
  have hn1 := hp.n1
  have hr2 := hp.r2
  have hr1 := hp.r1
  have ht1 := hp.t1
  have hroom := hR.room
  obtain ⟨m, ws', hm, hr, hsd⟩ := zij hp hnn ht J (by omega) r.length r ws l g 0 J (Nat.le_refl _) hl hR hF hrl hnd hh (by omega) (by omega) (by omega) (by omega)
  refine ⟨m + 1, ws', by omega, ?_, hsd⟩
  unfold D.zcJ
  rw [zf4 hp ht]
  refine zeq (by omega) (by omega) ?_
  rw [hR.count]
  unfold D.zeF
  have hmin : IntKind.i64.wrap (minI (r.length : Int) (IntKind.u64.wrap p.retire)) = (r.length : Int) := by
    rw [zbI (by omega) (by omega)]
    have : minI (r.length : Int) p.retire = (r.length : Int) := by unfold minI; split <;> omega
    rw [this, zaM (by omega) (by omega)]
  rw [hmin, zaM (show -1000000 ≤ (r.length : Int) - 1 by omega) (by omega)]
  rw [Int.zero_add] at hr
  exact hr
end Go.Proofs.YtfpgnmhcfkikkaaGreat

/- Ours. -/
namespace Go.Proofs.YtfpgnmhcfkikkaaGreat
open Go.RowKit
theorem zhT {fu : Nat} {l : List Int} (h : l.length < fu) (h2 : l.length ≤ 900000) : D.zb2 fu l l = some true := by
  unfold D.zb2
  rw [show ((l.length : Int) != (l.length : Int)) = false from by simp]
  simp only [cond_false]
  refine zfN (fun o => o = some true) (fun (i : Nat) (x : Bool × Int) => x.2 = (i : Int)) l.length fu rfl h ?_ ?_
  · rintro i ⟨b, x⟩ hi rfl
    simp only
    rw [show decide ((i : Int) < (l.length : Int)) = true from by simp; omega, zeD hi, zaM (show -1000000 ≤ (i : Int) + 1 by omega) (by omega)]
    simp only [cond_true, Option.bind_some]
    rw [show (l[i] != l[i]) = false from by simp]
    exact ⟨_, rfl, by simp⟩
  · rintro ⟨b, x⟩ rfl
    simp only
    rw [show decide ((l.length : Int) < (l.length : Int)) = false from by simp]
    exact ⟨_, rfl, by simp⟩
end Go.Proofs.YtfpgnmhcfkikkaaGreat

/- Ours. -/
namespace Go.Proofs.YtfpgnmhcfkikkaaGreat
open Go.RowKit
theorem ziV : ∀ (l m : List Int), l.Nodup → (∀ x, x ∈ l → x ∈ m) → l.length ≤ m.length
  | [], _, _, _ => Nat.zero_le _
  | x :: l, m, hn, hs => by
    have hx : x ∈ m := hs x (List.mem_cons_self ..)
    have h1 := ziV l (m.erase x) (List.nodup_cons.1 hn).2 fun y hy => (List.mem_erase_of_ne (fun e : y = x => (List.nodup_cons.1 hn).1 (e ▸ hy))).2 (hs y (List.mem_cons_of_mem _ hy))
    rw [List.length_erase_of_mem hx] at h1
    have := List.length_pos_of_mem hx
    simp only [List.length_cons]
    omega
theorem zjq {n : Int} {k : Nat} (h0 : 0 ≤ n) (h1 : n < k) : n ∈ (List.range' 0 k).map fun (q : Nat) => (q : Int) := by
  refine List.mem_map.2 ⟨n.toNat, List.mem_range'_1.2 ⟨by omega, by omega⟩, by omega⟩
theorem zka {l : List Int} {k : Nat} (hn : l.Nodup) (hr : ∀ n, n ∈ l → 0 ≤ n ∧ n < k) : l.length ≤ k := by
  have := ziV l ((List.range' 0 k).map fun (q : Nat) => (q : Int)) hn fun x hx => zjq (hr x hx).1 (hr x hx).2
  simpa using this
theorem FreeAt.count {p : Plan} {ws l : List Int} {g : Int} (h : FreeAt p ws l g) (hn : 0 ≤ p.nodes) : (l.length : Int) ≤ p.nodes := by
  have := zka (k := p.nodes.toNat) h.nodup fun n hn => by have := h.range n hn; omega
  omega
structure HzOnly (p : Plan) (ws ws' : List Int) : Prop where
  len : ws'.length = ws.length
  same : ∀ j, 0 ≤ j → ¬ (D.zam p ≤ j ∧ j < D.zam p + p.threads * 3) → rd ws' j = rd ws j
theorem HzOnly.refl {p : Plan} {ws : List Int} : HzOnly p ws ws := ⟨rfl, fun _ _ _ => rfl⟩
theorem HzOnly.set {p : Plan} (hp : PF p) {ws ws' : List Int} (h : HzOnly p ws ws') (hl : Len p ws) {i v : Int} (h0 : 0 ≤ i) (h1 : i < p.threads * 3) : HzOnly p ws (ws'.set (D.zam p + i).toNat v) := by
  obtain ⟨g1, g2, g3, g4⟩ := zlR hp
  have hn1 := hp.n1
  have hl2 := h.len
  unfold Len at hl
  refine ⟨by rw [List.length_set, h.len], fun j hj hno => ?_⟩
  rw [zcr (by omega) (by omega) hj, if_neg (by omega)]
  exact h.same j hj hno
theorem HzOnly.ret {p : Plan} (hp : PF p) {ws ws' : List Int} {t : Int} {r : List Int} (ht : 0 ≤ t ∧ t < p.threads) (h : HzOnly p ws ws') (hr : RetAt p ws t r) : RetAt p ws' t r := by
  obtain ⟨q1, q2, q3⟩ := zlQ hp ht
  exact hr.keep fun j h0 h1 => h.same j (by omega) (by omega)
theorem HzOnly.free {p : Plan} (hp : PF p) {ws ws' l : List Int} {g : Int} (h : HzOnly p ws ws') (hf : FreeAt p ws l g) : FreeAt p ws' l g := by
  obtain ⟨g1, g2, g3, g4⟩ := zlR hp
  have ht1 := hp.t1
  refine hf.keep h.len (h.same 0 (by omega) (by omega)) fun n hn => ?_
  have := hf.range n hn
  exact h.same _ (by unfold nx; omega) (by unfold nx; omega)
theorem Scanned.hz {p : Plan} (hp : PF p) {t : Int} (ht : 0 ≤ t ∧ t < p.threads) {ws ws' r' out l : List Int} {g : Int} (h : Scanned p t ws ws' r' out l g) (hr : ∀ n, n ∈ out → 0 ≤ n) {j : Int} (h0 : 0 ≤ j) (h1 : j < p.threads * 3) : rd ws' (D.zam p + j) = rd ws (D.zam p + j) := by
  obtain ⟨g1, g2, g3, g4⟩ := zlR hp
  obtain ⟨q1, q2, q3⟩ := zlQ hp ht
  exact h.others _ (by omega) (fun n hn => by have := hr n hn; unfold ofNode; omega) (by omega)
end Go.Proofs.YtfpgnmhcfkikkaaGreat

/- Ours. -/
namespace Go.Proofs.YtfpgnmhcfkikkaaGreat
open Go.RowKit
def PrepP {R : Type} (P : Program) (E : Enc R) (n : Nat) (t : T R) (F : Nat → Prop) (w : World) : Value → World → Prop := fun v x => Below w.heap.size w x ∧ Rep P E n t (grow F w x) x v
theorem PrepP.st {R : Type} {P : Program} {E : Enc R} {n : Nat} {t : T R} {F : Nat → Prop} {w : World} (hF : ∀ b, F b → b < w.heap.size) : ∀ v w1 w2, PrepP P E n t F w v w1 → Below w1.heap.size w1 w2 → PrepP P E n t F w v w2 := by
  rintro v w1 w2 ⟨h1, h2⟩ hb
  refine ⟨h1.trans (hb.mono h1.size), Rep.mono ?_ ?_ hb.size n _ _ h2⟩
  · rintro b (h | ⟨h3, h4⟩)
    · exact .inl h
    · exact .inr ⟨h3, Nat.lt_of_lt_of_le h4 hb.size⟩
  · rintro b (h | ⟨h3, h4⟩)
    · exact hb.block b (Nat.lt_of_lt_of_le (hF b h) h1.size)
    · exact hb.block b h4
theorem PrepP.of {R : Type} {P : Program} {E : Enc R} {n : Nat} {t : T R} {F : Nat → Prop} {w w1 w2 : World} {v : Value} (h1 : Below w.heap.size w w1) (hb : Below w1.heap.size w1 w2) (h : Rep P E n t (grow F w1 w2) w2 v) : PrepP P E n t F w v w2 := by
  refine ⟨h1.trans (hb.mono h1.size), Rep.mono ?_ (fun b _ => rfl) (Nat.le_refl _) n _ _ h⟩
  rintro b (h | ⟨h3, h4⟩)
  · exact .inl h
  · exact .inr ⟨Nat.le_trans h1.size h3, h4⟩
theorem drB {w w' : World} {d : Nat} (h : Below w.heap.size { w with drawn := d } w') : Below w.heap.size w w' := ⟨h.os, h.tape, h.output, h.size, h.block⟩
end Go.Proofs.YtfpgnmhcfkikkaaGreat
