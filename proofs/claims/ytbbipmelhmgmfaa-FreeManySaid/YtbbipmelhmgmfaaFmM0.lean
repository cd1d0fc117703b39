/- Some of our texts, one behind the other. -/
import Derived.Orders
import Derived.Below
import Derived.Tactics
import Derived.WalkKit
import Derived.KernelRfl
import Derived.Deep.LoopGhost
set_option linter.all false
/- A region that draws its order, whose operations only add memory: each operation is shown once, by what it waits for. -/
namespace Go.Proofs.Ytbbipmelhmgmfaa
open Go.RowKit

section
variable {P : Program} {ops : Array Oper} {Q : Exit → Act → World → Prop}

/-- An operation comes to a value, in some world, of which R speaks; it never panics. -/
def Yields (P : Program) (o : Oper) (a : Act) (w : World) (R : Value → World → Prop) : Prop :=
  o.wp P a w (fun a' w' => ∃ v, a' = a.put o.dst v ∧ R v w') (fun _ _ _ => False)

theorem wp_weaken {o : Oper} {a : Act} {w : World} {K K' : Act → World → Prop} (h : ∀ a w, K a w → K' a w)
    (hh : o.wp P a w K (fun _ _ _ => False)) : o.wp P a w K' Q := by
  unfold Oper.wp at *
  generalize (execOp a.eval o).run P w = r at *
  cases r with
  | ok n w' =>
    cases n <;> simp only [Oper.upon] at hh ⊢ <;>
      first
        | exact h _ _ hh
        | exact Calls.mono hh (fun e w'' he => by
            cases e with
            | returned v => exact h _ _ he
            | panicked c => exact he.elim
            | outgrown => obtain ⟨_, _, hf⟩ := he; exact hf.elim)
        | exact Rows.mono hh (fun _ _ he => h _ _ he)
  | halt x w' => cases x <;> simp only [Oper.upon] at hh ⊢

theorem Yields.wp {o : Oper} {a : Act} {w : World} {R : Value → World → Prop} {K : Act → World → Prop} (h : Yields P o a w R)
    (hk : ∀ v w', R v w' → K (a.put o.dst v) w') : o.wp P a w K Q :=
  wp_weaken (fun a' w' ⟨v, he, hr⟩ => by subst he; exact hk v w' hr) h

theorem Yields.mono {o : Oper} {a : Act} {w : World} {R R' : Value → World → Prop} (h : Yields P o a w R) (hr : ∀ v w', R v w' → R' v w') : Yields P o a w R' :=
  wp_weaken (fun _ _ ⟨v, he, hR⟩ => ⟨v, he, hr v _ hR⟩) h

theorem Yields.of_run {o : Oper} {a : Act} {w w' : World} {v : Value} {R : Value → World → Prop} (h : (execOp a.eval o).run P w = .ok (.value v) w') (hr : R v w') : Yields P o a w R := by
  unfold Yields Oper.wp
  rw [h]
  exact ⟨v, rfl, hr⟩

theorem Yields.of_skip {o : Oper} {a : Act} {w w' : World} {R : Value → World → Prop} (h : (execOp a.eval o).run P w = .ok .skip w') (hr : R undef w') : Yields P o a w R := by
  unfold Yields Oper.wp
  rw [h]
  exact ⟨undef, rfl, hr⟩

theorem Yields.of_call {o : Oper} {a : Act} {w : World} {f : FuncId} {args : Array Value} {R : Value → World → Prop} (h : (execOp a.eval o).run P w = .ok (.enter f args) w)
    (hc : Calls P f args w fun e w' => ∃ v, e = .returned v ∧ R v w') : Yields P o a w R := by
  unfold Yields Oper.wp
  rw [h]
  refine Calls.mono hc ?_
  rintro e w' ⟨v, rfl, hr⟩
  exact ⟨v, rfl, hr⟩

/-- An operation under a guard: it comes to a value, or is left out. -/
def YieldsG (P : Program) (ops : Array Oper) (o : Oper) (a : Act) (w : World) (R : Value → World → Prop) : Prop :=
  if Region.wanted o (yielded ops a.tmps) then Yields P o a w R else R undef w

theorem YieldsG.plain {o : Oper} {a : Act} {w : World} {R : Value → World → Prop} (hg : o.guard.isNone = true) (h : Yields P o a w R) : YieldsG P ops o a w R := by
  unfold YieldsG
  rw [if_pos (by simp [Region.wanted, Option.isNone_iff_eq_none.1 hg])]
  exact h

theorem YieldsG.wp {o : Oper} {a : Act} {w : World} {R : Value → World → Prop} {K : Act → World → Prop} (h : YieldsG P ops o a w R)
    (hk : ∀ v w', R v w' → K (a.put o.dst v) w') : if Region.wanted o (yielded ops a.tmps) then o.wp P a w K Q ∨ (o.asks P a w ∧ LetsOut Q) else K (a.put o.dst undef) w := by
  unfold YieldsG at h
  split
  · rename_i hw; rw [if_pos hw] at h; exact .inl (h.wp hk)
  · rename_i hw; rw [if_neg hw] at h; exact hk _ _ h

/-- One operation of a region in the order of the text. -/
theorem seq_yields {o : Oper} {rest : List Oper} {a : Act} {w : World} {R : Value → World → Prop} (hg : o.guard = none) (h : Yields P o a w R)
    (hk : ∀ v w', R v w' → wpList P ops Q rest (a.put o.dst v) w') : wpList P ops Q (o :: rest) a w :=
  wpList_plain hg fun _ hK => h.wp fun v w' hr => hK _ _ (hk v w' hr)

/-! ### Any order -/

theorem filter_lt {α : Type} {p q : α → Bool} (hpq : ∀ x, p x = true → q x = true) : ∀ (l : List α) (x : α), x ∈ l → q x = true → p x = false → (l.filter p).length < (l.filter q).length := by
  have hle : ∀ l : List α, (l.filter p).length ≤ (l.filter q).length := by
    intro l
    induction l with
    | nil => simp
    | cons y l ih =>
      simp only [List.filter_cons]
      cases hp : p y
      · cases hq : q y <;> simp <;> omega
      · simp [hpq y hp]; omega
  intro l
  induction l with
  | nil => intro x hx; cases hx
  | cons y l ih =>
    intro x hx hq hp
    simp only [List.filter_cons]
    rcases List.mem_cons.1 hx with rfl | hx
    · have := hle l
      simp [hq, hp]; omega
    · have := ih x hx hq hp
      cases hp' : p y
      · cases hq' : q y <;> simp <;> omega
      · simp [hpq y hp']; omega

def left (n : Nat) (listed : Array Bool) : Nat := ((List.range n).filter fun i => !listed.getD i true).length

theorem left_set {n i : Nat} {listed : Array Bool} (hi : i < n) (h : listed.getD i true = false) : left n (listed.setIfInBounds i true) < left n listed := by
  refine filter_lt (fun x hx => ?_) _ i (List.mem_range.2 hi) (by simpa using h) ?_
  · by_cases hxi : x = i
    · subst hxi; simpa using h
    · rw [getD_set_ne true (Ne.symm hxi)] at hx; exact hx
  · have hlt : i < listed.size := by
      rcases Nat.lt_or_ge i listed.size with h' | h'
      · exact h'
      · simp [h'] at h
    simp [hlt]

theorem wpAny_inv {md : Region.Mode} (Inv : Array Bool → Act → World → Prop)
    (hstep : ∀ listed a w i o, Inv listed a w → ops[i]? = some o → listed.getD i true = false → (∀ e ∈ o.after, Region.binds md e = true → listed.getD e.on false = true) →
      if Region.wanted o (yielded ops a.tmps) then (o.wp P a w (fun a' w' => Inv (listed.setIfInBounds i true) a' w') Q ∨ (o.asks P a w ∧ LetsOut Q)) else Inv (listed.setIfInBounds i true) (a.put o.dst undef) w)
    (hend : ∀ listed a w, Inv listed a w → Region.ready md ops listed = [] → Q .normal a w) :
    ∀ fuel listed a w, left ops.size listed ≤ fuel → Inv listed a w → wpAny P md ops Q fuel listed a w := by
  intro fuel
  induction fuel with
  | zero =>
    intro listed a w hf hi
    have hr : Region.ready md ops listed = [] := by
      apply List.eq_nil_iff_forall_not_mem.2
      intro j hj
      obtain ⟨h0, o, ho, _⟩ := mem_ready.1 hj
      have hlt : j < ops.size := (Array.getElem?_eq_some_iff.1 ho).1
      have : left ops.size listed = 0 := by omega
      have h1 : j ∈ (List.range ops.size).filter fun i => !listed.getD i true := List.mem_filter.2 ⟨List.mem_range.2 hlt, by simpa using h0⟩
      rw [List.eq_nil_of_length_eq_zero this] at h1
      cases h1
    exact ⟨hr, hend _ _ _ hi hr⟩
  | succ fuel ih =>
    intro listed a w hf hi
    refine ⟨fun hr => hend _ _ _ hi hr, fun j hj => ?_⟩
    obtain ⟨h0, o, ho, hall⟩ := mem_ready.1 hj
    have hlt : j < ops.size := (Array.getElem?_eq_some_iff.1 ho).1
    have hw := hstep listed a w j o hi ho h0 hall
    unfold wpOp
    rw [ho]
    have hl : left ops.size (listed.setIfInBounds j true) ≤ fuel := by
      have := left_set hlt h0
      omega
    simp only []
    split
    · rename_i hq
      rw [if_pos hq] at hw
      exact hw.imp (Oper.wp_mono (fun a' w' h => ih _ a' w' hl h)) id
    · rename_i hq
      rw [if_neg hq] at hw
      exact ih _ _ _ hl hw

/-! ### The frame while some are done -/

def puts : List Oper → (Nat → Value) → Nat → Act → Act
  | [], _, _, a => a
  | o :: l, u, i, a => puts l u (i + 1) (a.put o.dst (u i))

theorem Act.put_put (a : Act) (x : Option Tmp) (v u : Value) : (a.put x v).put x u = a.put x u := by
  cases x with
  | none => rfl
  | some d => simp [Act.put]

theorem puts_congr : ∀ (l : List Oper) (u u' : Nat → Value) (k : Nat) (a : Act), (∀ i, k ≤ i → u i = u' i) → puts l u k a = puts l u' k a
  | [], _, _, _, _, _ => rfl
  | o :: l, u, u', k, a, h => by
    simp only [puts]
    rw [h k (Nat.le_refl _)]
    exact puts_congr l u u' (k + 1) _ fun i hi => h i (by omega)

def distinct : List Oper → Bool
  | [] => true
  | o :: l => (match o.dst with | none => true | some d => l.all fun p => p.dst != some d) && distinct l

theorem puts_put : ∀ (l : List Oper) (u : Nat → Value) (k : Nat) (a : Act) (x : Option Tmp) (v : Value), (∀ d, x = some d → ∀ p ∈ l, p.dst ≠ some d) → (puts l u k a).put x v = puts l u k (a.put x v)
  | [], _, _, _, _, _, _ => rfl
  | o :: l, u, k, a, x, v, h => by
    simp only [puts]
    rw [puts_put l u (k + 1) _ x v fun d hd p hp => h d hd p (List.mem_cons_of_mem _ hp)]
    rw [Act.put_comm a (x := o.dst) (y := x) (u k) v fun d hd hx => h d hx o (List.mem_cons_self ..) hd]

theorem puts_upd : ∀ (l : List Oper) (u : Nat → Value) (k : Nat) (a : Act) (i : Nat) (o : Oper) (v : Value), distinct l = true → l[i]? = some o →
    (puts l u k a).put o.dst v = puts l (fun j => if j = k + i then v else u j) k a
  | [], _, _, _, _, _, _, _, h => by simp at h
  | p :: l, u, k, a, 0, o, v, hd, h => by
    simp only [List.getElem?_cons_zero, Option.some.injEq] at h
    subst h
    simp only [distinct, Bool.and_eq_true] at hd
    simp only [puts]
    rw [puts_put]
    · rw [Act.put_put]
      simp only [Nat.add_zero, if_true]
      exact puts_congr _ _ _ _ _ fun j hj => by rw [if_neg (by omega)]
    · intro d hx q hq
      rw [hx] at hd
      have := List.all_eq_true.1 hd.1 q hq
      simpa using this
  | p :: l, u, k, a, i + 1, o, v, hd, h => by
    simp only [List.getElem?_cons_succ] at h
    simp only [distinct, Bool.and_eq_true] at hd
    simp only [puts]
    rw [puts_upd l u (k + 1) _ i o v hd.2 h]
    rw [if_neg (by omega : ¬ k = k + (i + 1))]
    refine puts_congr _ _ _ _ _ fun j _ => ?_
    rw [show k + 1 + i = k + (i + 1) from by omega]

def start : List Oper → Act → Nat → Value
  | l, a, i => match l[i]? with
    | some o => (match o.dst with | some d => a.tmps.getD d undef | none => undef)
    | none => undef

theorem put_self (a : Act) (x : Option Tmp) : a.put x (match x with | some d => a.tmps.getD d undef | none => undef) = a := by
  cases x with
  | none => rfl
  | some d =>
    obtain ⟨t, ds⟩ := a
    simp only [Act.put]
    congr 1
    apply Array.ext_getElem?
    intro i
    rw [Array.getElem?_setIfInBounds]
    split
    · rename_i he
      subst he
      split
      · rename_i h; simp [h]
      · rename_i h; simp at h; simp [h]
    · rfl

theorem puts_start (a : Act) : ∀ (l : List Oper) (u : Nat → Value) (k : Nat), (∀ i o, l[i]? = some o → u (k + i) = (match o.dst with | some d => a.tmps.getD d undef | none => undef)) → puts l u k a = a
  | [], _, _, _ => rfl
  | o :: l, u, k, h => by
    simp only [puts]
    have h0 := h 0 o (by simp)
    rw [Nat.add_zero] at h0
    rw [h0, put_self]
    exact puts_start a l u (k + 1) fun i o ho => by
      have := h (i + 1) o (by simpa using ho)
      rw [show k + 1 + i = k + (i + 1) from by omega]
      exact this

/-- What an operation waits for holds. -/
def Deps (Φ : Nat → Value → World → Prop) (u : Nat → Value) (w : World) : List Edge → Prop
  | [] => True
  | e :: es => Φ e.on (u e.on) w ∧ Deps Φ u w es

theorem deps_of {Φ : Nat → Value → World → Prop} {u : Nat → Value} {w : World} : ∀ (l : List Edge), (∀ e ∈ l, Φ e.on (u e.on) w) → Deps Φ u w l
  | [], _ => trivial
  | e :: l, h => ⟨h e (List.mem_cons_self ..), deps_of l fun x hx => h x (List.mem_cons_of_mem _ hx)⟩

/-- Each operation but the last n comes to its value, from what it waits for. -/
def Each (P : Program) (ops : Array Oper) (Φ : Nat → Value → World → Prop) (Ψ : Nat → World → Value → World → Prop) (full : List Oper) (a : Act) (w : World) : List Oper → Nat → Prop
  | [], _ => True
  | o :: l, i => (∀ u w', Below w.heap.size w w' → Deps Φ u w' o.after.toList → YieldsG P ops o (puts full u 0 a) w' fun v w'' => Below w'.heap.size w' w'' ∧ Ψ i w' v w'') ∧ Each P ops Φ Ψ full a w l (i + 1)

theorem each_at {Φ : Nat → Value → World → Prop} {Ψ : Nat → World → Value → World → Prop} {full : List Oper} {a : Act} {w : World} : ∀ (l : List Oper) (k i : Nat) (o : Oper), Each P ops Φ Ψ full a w l k → l[i]? = some o →
    ∀ u w', Below w.heap.size w w' → Deps Φ u w' o.after.toList → YieldsG P ops o (puts full u 0 a) w' fun v w'' => Below w'.heap.size w' w'' ∧ Ψ (k + i) w' v w''
  | [], _, _, _, _, h => by simp at h
  | p :: l, k, 0, o, hE, h => by
    simp only [List.getElem?_cons_zero, Option.some.injEq] at h
    subst h
    exact hE.1
  | p :: l, k, i + 1, o, hE, h => by
    simp only [List.getElem?_cons_succ] at h
    have := each_at l (k + 1) i o hE.2 h
    rw [show k + 1 + i = k + (i + 1) from by omega] at this
    exact this

/-- What the region's shape must be: no guards, edges to earlier ones, each its own slot. -/
def shapely (l : List Oper) : Bool :=
  distinct l && l.zipIdx.all fun (o, i) => o.after.toList.all fun e => Region.binds .any e && decide (e.on < i)

/-- Each but the last has a later one that waits for it. -/
def waits (l : List Oper) : Bool :=
  (List.range (l.length - 1)).all fun j => (List.range l.length).any fun i => decide (j < i) && (match l[i]? with | some o => o.after.toList.any fun e => decide (e.on = j) | none => false)

theorem shapely_at {l : List Oper} (h : shapely l = true) {i : Nat} {o : Oper} (hi : l[i]? = some o) : ∀ e ∈ o.after, Region.binds .any e = true ∧ e.on < i := by
  simp only [shapely, Bool.and_eq_true] at h
  have hm : (o, i) ∈ l.zipIdx := by
    rw [List.mem_iff_getElem?]
    exact ⟨i, by simp [hi]⟩
  have h2 := List.all_eq_true.1 h.2 _ hm
  intro e he
  have h3 := List.all_eq_true.1 h2 e (by simpa using he)
  simp only [Bool.and_eq_true, decide_eq_true_eq] at h3
  exact h3

theorem getD_of {listed : Array Bool} {i : Nat} (h : i < listed.size) (d e : Bool) : listed.getD i d = listed.getD i e := by simp [h]

theorem all_listed {l : List Oper} (hs : shapely l = true) {listed : Array Bool} (hsz : listed.size = l.length) (hr : Region.ready .any l.toArray listed = []) : ∀ i, i < l.length → listed.getD i false = true := by
  intro i
  induction i using Nat.strongRecOn with
  | _ i ih =>
    intro hi
    cases hc : listed.getD i false with
    | true => rfl
    | false =>
      exfalso
      have hm : i ∈ Region.ready .any l.toArray listed := by
        refine mem_ready.2 ⟨?_, l[i], by simp [hi], ?_⟩
        · rw [getD_of (by omega) true false]; exact hc
        · intro e he _
          have := (shapely_at hs (i := i) (o := l[i]) (by simp [hi])) e he
          exact ih e.on this.2 (by omega)
      rw [hr] at hm
      cases hm

theorem waits_at {l : List Oper} (h : waits l = true) {j : Nat} (hj : j < l.length - 1) : ∃ i o, j < i ∧ l[i]? = some o ∧ ∃ e ∈ o.after, e.on = j := by
  have h1 := List.all_eq_true.1 h j (List.mem_range.2 hj)
  obtain ⟨i, hi, h2⟩ := List.any_eq_true.1 h1
  simp only [Bool.and_eq_true, decide_eq_true_eq] at h2
  obtain ⟨h3, h4⟩ := h2
  cases ho : l[i]? with
  | none => rw [ho] at h4; cases h4
  | some o =>
    rw [ho] at h4
    obtain ⟨e, he, h5⟩ := List.any_eq_true.1 h4
    exact ⟨i, o, h3, ho, e, by simpa using he, by simpa using h5⟩

theorem none_listed (n i : Nat) : (Array.replicate n false).getD i false = false := by
  simp only [Array.getD_eq_getD_getElem?, Array.getElem?_replicate]
  split <;> rfl

/-- Each of the last ones waits for the one ahead of it. -/
def chained (l : List Oper) (k : Nat) : Bool :=
  l.zipIdx.all fun (o, i) => decide (i < k + 1) || o.after.toList.any fun e => decide (e.on + 1 = i)

theorem chained_at {l : List Oper} {k : Nat} (h : chained l k = true) {i : Nat} {o : Oper} (hi : l[i]? = some o) (hk : k < i) : ∃ e ∈ o.after, e.on + 1 = i := by
  have hm : (o, i) ∈ l.zipIdx := by
    rw [List.mem_iff_getElem?]
    exact ⟨i, by simp [hi]⟩
  have h2 := List.all_eq_true.1 h _ hm
  simp only [Bool.or_eq_true, decide_eq_true_eq] at h2
  rcases h2 with h2 | h2
  · omega
  · obtain ⟨e, he, h3⟩ := List.any_eq_true.1 h2
    exact ⟨e, by simpa using he, by simpa using h3⟩

/-- The shape of a region whose first k operations may come in any order, and the others behind them, one behind the other. -/
def drawnOk (L : List Oper) (k : Nat) : Bool := shapely L && waits (L.take (k + 1)) && chained L k && decide (k < L.length)

theorem take_get {α : Type} {L : List α} {k j : Nat} (h : j < k) : (L.take k)[j]? = L[j]? := by
  rw [List.getElem?_take, if_pos h]

def DInv (P : Program) (Q : Exit → Act → World → Prop) (L : List Oper) (k : Nat) (Φ : Nat → Value → World → Prop) (Dis : Nat → Nat → Value → Value → Prop) (a : Act) (w0 : World) (listed : Array Bool) (a' : Act) (w' : World) : Prop :=
  listed.size = L.length ∧ (((∀ j, k ≤ j → listed.getD j false = false) ∧ (∀ i o, L[i]? = some o → listed.getD i false = true → ∀ e ∈ o.after, listed.getD e.on false = true) ∧
      ∃ u, a' = puts (L.take k) u 0 a ∧ Below w0.heap.size w0 w' ∧ (∀ i, listed.getD i false = true → Φ i (u i) w') ∧ ∀ i j, i ≠ j → listed.getD i false = true → listed.getD j false = true → Dis i j (u i) (u j)) ∨
    ∃ j, k < j ∧ j ≤ L.length ∧ (∀ i, i < j → listed.getD i false = true) ∧ (∀ i, j ≤ i → listed.getD i false = false) ∧ wpList P L.toArray Q (L.drop j) a' w')

/-- **A region that draws its order: the first k operations, each shown once; then the others in the order of the text.** -/
theorem wp_drawn {id : Nat} {L : List Oper} {a : Act} {w : World} (k : Nat) (Φ : Nat → Value → World → Prop) (Ψ : Nat → World → Value → World → Prop) (Dis : Nat → Nat → Value → Value → Prop) (hm : P.follows .mixedOrders = true)
    (hs : drawnOk L k = true)
    (hst : ∀ i v w1 w2, Φ i v w1 → Below w1.heap.size w1 w2 → Φ i v w2)
    (hΨ : ∀ i v w' w'', Below w.heap.size w w' → Ψ i w' v w'' → Φ i v w'') (hdis : ∀ i j v v2 w' w'', Ψ i w' v w'' → Φ j v2 w' → Dis i j v v2 ∧ Dis j i v2 v)
    (he : Each P L.toArray Φ Ψ (L.take k) a { w with drawn := w.drawn + 1 } (L.take k) 0)
    (hl : ∀ u w', Below w.heap.size w w' → (∀ i, i < k → Φ i (u i) w') → (∀ i j, i < k → j < k → i ≠ j → Dis i j (u i) (u j)) → wpList P L.toArray Q (L.drop k) (puts (L.take k) u 0 a) w') :
    (Code.region id L.toArray true).wp P Q a w := by
  simp only [drawnOk, Bool.and_eq_true, decide_eq_true_eq] at hs
  obtain ⟨⟨⟨hs, hw⟩, hch⟩, hkl⟩ := hs
  refine wp_region_any hm ?_
  let w0 : World := { w with drawn := w.drawn + 1 }
  have hB0 : Below w.heap.size w w0 := ⟨rfl, rfl, rfl, Nat.le_refl _, fun _ _ => rfl⟩
  have hlt : (L.take (k + 1)).length = k + 1 := by simp; omega
  have hdist : distinct (L.take k) = true := by
    have hd : distinct L = true := by simp only [shapely, Bool.and_eq_true] at hs; exact hs.1
    clear he hl hw hch hkl hs hlt
    induction L generalizing k with
    | nil => simp [distinct]
    | cons o l ih =>
      cases k with
      | zero => simp [distinct]
      | succ k =>
        simp only [distinct, Bool.and_eq_true] at hd
        simp only [List.take_succ_cons, distinct, Bool.and_eq_true]
        refine ⟨?_, ih k hd.2⟩
        cases hdst : o.dst with
        | none => rfl
        | some d =>
          rw [hdst] at hd
          exact List.all_eq_true.2 fun p hp => List.all_eq_true.1 hd.1 p (List.mem_of_mem_take hp)
  refine wpAny_inv (DInv P Q L k Φ Dis a w0) ?_ ?_ _ _ _ _ ?_ ?_
  · intro listed a' w' i oi hi ho h0 hall
    have ho' : L[i]? = some oi := by simpa using ho
    have hed := shapely_at hs ho'
    have hil : i < L.length := (List.getElem?_eq_some_iff.1 ho').1
    obtain ⟨hsz, hi⟩ := hi
    have hf : listed.getD i false = false := by rw [getD_of (by omega) false true]; exact h0
    -- a tail's operation, in its turn
    have tail : ∀ j b v, j = i → wpList P L.toArray Q (L.drop j) b v → (∀ q, q < j → listed.getD q false = true) → (∀ q, j ≤ q → listed.getD q false = false) → k ≤ j →
        if Region.wanted oi (yielded L.toArray b.tmps) then (oi.wp P b v (DInv P Q L k Φ Dis a w0 (listed.setIfInBounds i true)) Q ∨ (oi.asks P b v ∧ LetsOut Q)) else DInv P Q L k Φ Dis a w0 (listed.setIfInBounds i true) (b.put oi.dst undef) v := by
      intro j b v hji hwp hlow hhigh hkj
      subst hji
      have hd : L.drop j = oi :: L.drop (j + 1) := by
        rw [List.drop_eq_getElem_cons hil]
        have : L[j] = oi := by simpa [List.getElem?_eq_getElem hil] using ho'
        rw [this]
      rw [hd] at hwp
      unfold wpList at hwp
      have key : ∀ a'' w'', wpList P L.toArray Q (L.drop (j + 1)) a'' w'' → DInv P Q L k Φ Dis a w0 (listed.setIfInBounds j true) a'' w'' := by
        intro a'' w'' h
        refine ⟨by simpa using hsz, .inr ⟨j + 1, by omega, by omega, fun q hq => ?_, fun q hq => ?_, h⟩⟩
        · by_cases hqj : q = j
          · subst hqj; simp [hsz, hil]
          · exact getD_set_true (hlow q (by omega))
        · rw [getD_set_ne false (by omega)]; exact hhigh q (by omega)
      split
      · rename_i hq
        rw [if_pos hq] at hwp
        exact hwp.imp (Oper.wp_mono key) (fun h => h)
      · rename_i hq
        rw [if_neg hq] at hwp
        exact key _ _ hwp
    rcases hi with ⟨htail, hclosed, u, ha, hB, hΦ, hDs⟩ | ⟨j, hkj, hjl, hlow, hhigh, hwp⟩
    · subst ha
      by_cases hik : i < k
      · -- one of the free ones
        have hoi : (L.take k)[i]? = some oi := by rw [take_get hik]; exact ho'
        have hy := each_at (L.take k) 0 i oi he hoi u w' hB (deps_of _ fun e hee => hΦ e.on (hall e (by simpa using hee) (hed e (by simpa using hee)).1))
        refine hy.wp fun v w'' ⟨hB2, hv⟩ => ⟨by simpa using hsz, .inl ⟨?_, ?_, (fun j => if j = 0 + i then v else u j), puts_upd _ _ _ _ _ _ _ hdist hoi, hB.trans (hB2.mono hB.size), ?_, ?_⟩⟩
        · intro q hq; rw [getD_set_ne false (by omega)]; exact htail q hq
        · intro q oq hq hlq e hee
          by_cases hqi : q = i
          · subst hqi
            rw [hq] at ho'
            cases ho'
            exact getD_set_true (hall e hee (hed e hee).1)
          · rw [getD_set_ne false (Ne.symm hqi)] at hlq
            exact getD_set_true (hclosed q oq hq hlq e hee)
        · intro q hlq
          rw [Nat.zero_add] at hv
          show Φ q (if q = 0 + i then v else u q) w''
          rw [Nat.zero_add]
          by_cases hqi : q = i
          · subst hqi; rw [if_pos rfl]; exact hΨ _ _ _ _ (hB0.trans hB) hv
          · rw [if_neg hqi]
            rw [getD_set_ne false (Ne.symm hqi)] at hlq
            exact hst _ _ _ _ (hΦ q hlq) hB2
        · intro q q2 hqq hlq hlq2
          rw [Nat.zero_add] at hv
          show Dis q q2 (if q = 0 + i then v else u q) (if q2 = 0 + i then v else u q2)
          rw [Nat.zero_add]
          by_cases hqi : q = i
          · subst hqi
            rw [if_pos rfl, if_neg (Ne.symm hqq)]
            rw [getD_set_ne false hqq] at hlq2
            exact (hdis _ _ _ _ _ _ hv (hΦ q2 hlq2)).1
          · rw [if_neg hqi]
            rw [getD_set_ne false (Ne.symm hqi)] at hlq
            by_cases hqi2 : q2 = i
            · subst hqi2
              rw [if_pos rfl]
              exact (hdis _ _ _ _ _ _ hv (hΦ q hlq)).2
            · rw [if_neg hqi2]
              rw [getD_set_ne false (Ne.symm hqi2)] at hlq2
              exact hDs q q2 hqq hlq hlq2
      · -- the first of the tail
        have hik2 : i = k := by
          rcases Nat.lt_or_ge k i with h | h
          · obtain ⟨e, hee, hei⟩ := chained_at hch ho' h
            have h1 := hall e hee (hed e hee).1
            rw [htail e.on (by omega)] at h1
            cases h1
          · omega
        subst hik2
        have hlisted : ∀ j, j < i → listed.getD j false = true := by
          have key : ∀ d j, j + d = i → 0 < d → listed.getD j false = true := by
            intro d
            induction d using Nat.strongRecOn with
            | _ d ih =>
              intro j hj hd
              obtain ⟨q, oq, hjq, hoq, e, hee, hej⟩ := waits_at hw (j := j) (by omega)
              have hqlt : q < (L.take (i + 1)).length := (List.getElem?_eq_some_iff.1 hoq).1
              rw [take_get (by omega)] at hoq
              by_cases hqi : q = i
              · subst hqi
                rw [ho'] at hoq
                cases hoq
                have := hall e hee (hed e hee).1
                rw [hej] at this
                exact this
              · have h1 := ih (i - q) (by omega) q (by omega) (by omega)
                have := hclosed q oq hoq h1 e hee
                rw [hej] at this
                exact this
          intro j hj
          exact key (i - j) j (by omega) (by omega)
        exact tail i _ _ rfl (hl u w' (hB0.trans hB) (fun j hj => hΦ j (hlisted j hj)) fun j j2 hj hj2 hne => hDs j j2 hne (hlisted j hj) (hlisted j2 hj2)) hlisted htail (Nat.le_refl _)
    · have hij : i = j := by
        rcases Nat.lt_trichotomy i j with h | h | h
        · rw [hlow i h] at hf; cases hf
        · exact h
        · obtain ⟨e, hee, hei⟩ := chained_at hch ho' (by omega)
          have h1 := hall e hee (hed e hee).1
          rw [hhigh e.on (by omega)] at h1
          cases h1
      exact tail j _ _ hij.symm hwp hlow hhigh (by omega)
  · intro listed a' w' hi hr
    obtain ⟨hsz, hi⟩ := hi
    have hall := all_listed hs hsz hr
    rcases hi with ⟨htail, _⟩ | ⟨j, hkj, hjl, hlow, hhigh, hwp⟩
    · have := hall k hkl
      rw [htail k (Nat.le_refl _)] at this
      cases this
    · have hj : j = L.length := by
        rcases Nat.lt_or_ge j L.length with h | h
        · have := hall j h
          rw [hhigh j (Nat.le_refl _)] at this
          cases this
        · omega
      subst hj
      rw [List.drop_length] at hwp
      exact hwp
  · have : ∀ n (b : Array Bool), left n b ≤ n := fun n b => by
      unfold left
      exact Nat.le_trans (List.length_filter_le _ _) (by simp)
    exact this _ _
  · refine ⟨by simp, .inl ⟨fun j _ => none_listed _ _, fun i oi hoi h => ?_, start (L.take k) a, ?_, Below.refl _ _, fun i h => ?_, fun i j _ h => ?_⟩⟩
    · rw [none_listed] at h; cases h
    · refine (puts_start a _ _ _ fun i oi hoi => ?_).symm
      simp only [start, Nat.zero_add, hoi]
    · rw [none_listed] at h; cases h
    · rw [none_listed] at h; cases h

end
end Go.Proofs.Ytbbipmelhmgmfaa

/- What each kind of operation comes to, by blocks of memory. -/
namespace Go.Proofs.Ytbbipmelhmgmfaa
open Go.RowKit

section
variable {P : Program} {a : Act} {w : World} {d : Option Tmp} {ty : TypeId} {pos : String} {aft : Array Edge}

/-- A struct or an array of n cells. -/
def tyA (P : Program) (t : TypeId) (n : Nat) : Bool :=
  (match P.underlying t with | some (.struct _) | some (.array _ _) => true | _ => false) && (match P.info? t with | some i => i.size == n | none => false)

/-- A thing of one cell. -/
def tyO (P : Program) (t : TypeId) : Bool :=
  (match P.underlying t with | some (.struct _) | some (.array _ _) => false | some _ => true | none => false) && (match P.info? t with | some i => i.size == 1 | none => false)

def sized (P : Program) (t : TypeId) (n : Nat) : Bool := match P.info? t with | some i => i.size == n | none => false

theorem sized_A {t : TypeId} {n : Nat} (h : tyA P t n = true) : sized P t n = true := by
  simp only [tyA, Bool.and_eq_true] at h; exact h.2

theorem run_size {t : TypeId} {n : Nat} (h : sized P t n = true) : (sizeOf t).run P w = .ok n w := by
  unfold sized at h
  cases hq : P.info? t with
  | none => rw [hq] at h; cases h
  | some i => rw [hq] at h; simp at h; subst h; simp [sizeOf, typeInfo, hq, go_sem]

theorem run_isA {t : TypeId} {n : Nat} (h : tyA P t n = true) : (isAgg t).run P w = .ok true w := by
  simp only [tyA, Bool.and_eq_true] at h
  have h1 := h.1
  cases hq : P.underlying t with
  | none => rw [hq] at h1; cases h1
  | some dd =>
    rw [hq] at h1
    unfold isAgg
    rw [Sem.run_bind, run_underlying hq w]
    cases dd <;> first | rfl | cases h1

theorem run_isO {t : TypeId} (h : tyO P t = true) : (isAgg t).run P w = .ok false w := by
  simp only [tyO, Bool.and_eq_true] at h
  have h1 := h.1
  cases hq : P.underlying t with
  | none => rw [hq] at h1; cases h1
  | some dd =>
    rw [hq] at h1
    unfold isAgg
    rw [Sem.run_bind, run_underlying hq w]
    cases dd <;> first | rfl | cases h1

/-- Cells lie in a block from a place on. -/
def Lies (w : World) (b o : Nat) (cs : List Value) : Prop := ∀ j v, cs[j]? = some v → w.cell? ⟨b, o + j, none⟩ = some v

theorem loadCells_from (b o : Nat) : ∀ (cs : List Value) (i : Nat) (acc : Array Value), Lies w b (o + i) cs → (loadCellsFrom ⟨b, o, none⟩ i cs.length acc).run P w = .ok (acc ++ cs.toArray) w
  | [], i, acc, _ => by simp [loadCellsFrom, go_sem]
  | c :: cs, i, acc, h => by
    have h0 := h 0 c rfl
    rw [Nat.add_zero] at h0
    have hl : (load (Addr.add ⟨b, o, none⟩ i)).run P w = .ok c w := by
      rw [Addr.add_lit]
      simp [load, Sem.run, h0]
    simp only [List.length_cons, loadCellsFrom, Sem.run_bind, hl, Result.andThen_ok]
    rw [loadCells_from b o cs (i + 1) (acc.push c) (fun j v hv => by
      have := h (j + 1) v (by simpa using hv)
      rw [show o + (i + 1) + j = o + i + (j + 1) from by omega]
      exact this)]
    simp

theorem loadVar_agg {b o : Nat} {t : TypeId} {cs : List Value} (h : Lies w b o cs) (ht : tyA P t cs.length = true) : (loadVar t ⟨b, o, none⟩).run P w = .ok (.agg cs.toArray) w := by
  have := loadCells_from (P := P) (w := w) b o cs 0 #[] (by simpa using h)
  unfold loadVar
  rw [Sem.run_bind, run_isA ht]
  simp only [Result.andThen_ok, if_true]
  rw [Sem.run_bind, run_size (sized_A ht)]
  simp only [Result.andThen_ok]
  rw [Sem.run_bind]
  unfold loadCells
  rw [this]
  simp [go_sem]

theorem loadVar_one {b o : Nat} {t : TypeId} {v : Value} (h : w.cell? ⟨b, o, none⟩ = some v) (ht : tyO P t = true) : (loadVar t ⟨b, o, none⟩).run P w = .ok v w := by
  unfold loadVar
  rw [Sem.run_bind, run_isO ht]
  simp [load, Sem.run, h]

theorem lies_block {b : Nat} {c : Array Value} {E : TypeId} {fz : Nat × Nat} (h : w.heap[b]? = some (.cells c E fz)) {o n : Nat} {cs : List Value} (hc : ((c.toList.drop o).take n) = cs) : Lies w b o cs := by
  intro j v hv
  subst hc
  simp only [World.cell?, h]
  rw [List.getElem?_take] at hv
  split at hv
  · rw [List.getElem?_drop] at hv
    simpa using hv
  · cases hv

/-! ### The frame as a list of what was put last -/
theorem lc1 {a a' : Value} (h : a = a') : [a] = [a'] := by rw [h]

theorem lc2 {a b a' b' : Value} (h : a = a') (h2 : b = b') : [a, b] = [a', b'] := by rw [h, h2]

/-- What the slots hold: what was put last, ahead of what they held before. -/
inductive SL where
  | base (g : Nat → Value)
  | push (s : SL) (d : Nat) (v : Value)

def look : SL → Nat → Value
  | .base g, t => g t
  | .push s d v, t => if t = d then v else look s t

def lookO (s : SL) : Operand → Value
  | .tmp t => look s t
  | .const v => v
  | .global g => .pointer (some ⟨g, 0, none⟩)
  | .func f => .func (.func f) #[] #[]

/-- The frame has n slots, and reads as the list says. -/
structure Fr (a : Act) (n : Nat) (s : SL) : Prop where
  defers : a.defers = []
  size : a.tmps.size = n
  slot : ∀ t, a.tmps.getD t undef = look s t

theorem Fr.eval {a : Act} {n : Nat} {s : SL} (h : Fr a n s) (x : Operand) : a.eval x = lookO s x := by
  cases x <;> simp [Act.eval, lookO, ← h.slot]

theorem Fr.ev {a : Act} {n : Nat} {s : SL} (h : Fr a n s) {x : Operand} {v : Value} (hx : lookO s x = v) : a.eval x = v := by rw [h.eval, hx]

theorem Fr.evs {a : Act} {n : Nat} {s : SL} (h : Fr a n s) {xs : List Operand} {vs : List Value} (hx : xs.map (lookO s) = vs) : xs.toArray.map a.eval = vs.toArray := by
  subst hx
  rw [List.map_toArray]
  exact congrArg (fun f => (xs.map f).toArray) (funext fun x => h.eval x)

def putS (s : SL) (d : Option Tmp) (v : Value) : SL := match d with | some d => s.push d v | none => s

theorem Fr.put {a : Act} {n : Nat} {s : SL} (h : Fr a n s) {d : Option Tmp} (v : Value) (hd : (match d with | some d => decide (d < n) | none => true) = true) : Fr (a.put d v) n (putS s d v) := by
  cases d with
  | none => exact h
  | some d =>
    have hd' : d < n := by simpa using hd
    refine ⟨h.defers, by simp [Act.put, h.size], fun t => ?_⟩
    simp only [Act.put, putS, look, Array.getD_eq_getD_getElem?]
    by_cases ht : t = d
    · subst ht
      rw [if_pos rfl, Array.getElem?_setIfInBounds, if_pos rfl, if_pos (by rw [h.size]; exact hd')]
      rfl
    · rw [if_neg ht, Array.getElem?_setIfInBounds, if_neg (Ne.symm ht), ← h.slot, Array.getD_eq_getD_getElem?]

/-- The slots at a call's begin. -/
def args0 : List Value → Nat → SL
  | [], _ => .base fun _ => undef
  | v :: l, k => (args0 l (k + 1)).push k v

theorem look_args0 : ∀ (l : List Value) (k t : Nat), look (args0 l k) t = if t < k then undef else l.getD (t - k) undef
  | [], k, t => by simp [args0, look]
  | v :: l, k, t => by
    simp only [args0, look, look_args0 l (k + 1) t]
    by_cases h : t = k
    · subst h; simp
    · rw [if_neg h]
      by_cases h2 : t < k
      · rw [if_pos (by omega), if_pos h2]
      · rw [if_neg (by omega), if_neg h2]
        obtain ⟨j, rfl⟩ : ∃ j, t = k + 1 + j := ⟨t - k - 1, by omega⟩
        rw [show k + 1 + j - (k + 1) = j from by omega, show k + 1 + j - k = j + 1 from by omega]
        simp

theorem Fr.enter (l : List Value) (m : Nat) : Fr { tmps := l.toArray ++ Array.replicate m undef, defers := [] } (l.length + m) (args0 l 0) := by
  refine ⟨rfl, by simp, fun t => ?_⟩
  rw [look_args0]
  simp only [Nat.not_lt_zero, if_false, Nat.sub_zero, Array.getD_eq_getD_getElem?, Array.getElem?_append, List.size_toArray]
  split
  · rename_i h; simp [h]
  · rename_i h
    rw [Array.getElem?_replicate]
    split <;> simp [h]

/-- Slots that are named keep their values, of the others nothing is kept. -/
def pushes : List (Nat × Value) → SL → SL
  | [], s => s
  | (d, v) :: l, s => (pushes l s).push d v

theorem Fr.forget {a : Act} {n : Nat} {s : SL} (h : Fr a n s) : ∀ (l : List (Nat × Value)), (∀ q, q ∈ l → look s q.1 = q.2) → Fr a n (pushes l (.base (look s)))
  | [], _ => ⟨h.defers, h.size, h.slot⟩
  | (d, v) :: l, hk => by
    have ih := Fr.forget h l fun q hq => hk q (List.mem_cons_of_mem _ hq)
    refine ⟨ih.defers, ih.size, fun t => ?_⟩
    simp only [pushes, look]
    by_cases ht : t = d
    · subst ht
      rw [if_pos rfl, h.slot]
      exact hk (t, v) (List.mem_cons_self ..)
    · rw [if_neg ht, ← ih.slot]

theorem enter {f : FuncId} {fn : Func} {c : Code} {l : List Value} {w : World} {R : Ending → World → Prop} (hf : P.funcs[f]? = some fn) (hb : fn.body = some c) (n : Nat) (hn : fn.ntmps = n)
    (hl : l.length + (n - l.length) = n) (h : ∀ a, Fr a n (args0 l 0) → c.wp P (bodyPost P fn R) a w) : Calls P f l.toArray w R := by
  refine calls_of_wp hf hb (h _ ?_)
  have := Fr.enter l (n - l.length)
  rw [hl] at this
  rw [hn]
  simpa using this

theorem ret_tmp {fn : Func} {a : Act} {n : Nat} {s : SL} (h : Fr a n s) {R : Ending → World → Prop} {w : World} {t : Tmp} {v : Value} (hf : fn.results = #[.tmp t]) (hv : look s t = v) (hR : R (.returned v) w) : bodyPost P fn R .ret a w := by
  refine ⟨h.defers, v, ?_, hR⟩
  subst hv
  simp [results, hf, ← h.slot]

theorem ret_tmp2 {fn : Func} {a : Act} {n : Nat} {s : SL} (h : Fr a n s) {R : Ending → World → Prop} {w : World} {t t' : Tmp} {v v' : Value} (hf : fn.results = #[.tmp t, .tmp t']) (hv : look s t = v) (hv' : look s t' = v')
    (hR : R (.returned (.tuple #[v, v'])) w) : bodyPost P fn R .ret a w := by
  refine ⟨h.defers, _, ?_, hR⟩
  subst hv; subst hv'
  simp [results, hf, ← h.slot]

theorem ret_cell {fn : Func} {a : Act} {n : Nat} {s : SL} (h : Fr a n s) {R : Ending → World → Prop} {w : World} {t : Tmp} {ty : TypeId} {b : Nat} {c : Array Value} {E : TypeId} {fz : Nat × Nat} {k : Nat} (hf : fn.results = #[.cell t ty])
    (hv : look s t = .pointer (some ⟨b, 0, none⟩)) (hb : w.heap[b]? = some (.cells c E fz)) (hk : c.size = k) (ht : tyA P ty k = true) (hR : R (.returned (.agg c)) w) : bodyPost P fn R .ret a w := by
  refine ⟨h.defers, _, ?_, hR⟩
  subst hk
  have hl : (loadVar ty ⟨b, 0, none⟩).run P w = .ok (.agg c) w := by
    have := loadVar_agg (P := P) (t := ty) (lies_block hb (o := 0) (n := c.size) (cs := c.toList) (by rw [List.drop_zero]; exact List.take_of_length_le (by simp))) (by simpa using ht)
    simpa using this
  simp [results, hf, h.slot, hv, asAddr, hl]

theorem ret_cell_tmp {fn : Func} {a : Act} {n : Nat} {s : SL} (h : Fr a n s) {R : Ending → World → Prop} {w : World} {t t' : Tmp} {ty : TypeId} {b : Nat} {c : Array Value} {E : TypeId} {fz : Nat × Nat} {k : Nat} {v' : Value} (hf : fn.results = #[.cell t ty, .tmp t'])
    (hv : look s t = .pointer (some ⟨b, 0, none⟩)) (hv' : look s t' = v') (hb : w.heap[b]? = some (.cells c E fz)) (hk : c.size = k) (ht : tyA P ty k = true) (hR : R (.returned (.tuple #[.agg c, v'])) w) : bodyPost P fn R .ret a w := by
  refine ⟨h.defers, _, ?_, hR⟩
  subst hk; subst hv'
  have hl : (loadVar ty ⟨b, 0, none⟩).run P w = .ok (.agg c) w := by
    have := loadVar_agg (P := P) (t := ty) (lies_block hb (o := 0) (n := c.size) (cs := c.toList) (by rw [List.drop_zero]; exact List.take_of_length_le (by simp))) (by simpa using ht)
    simpa using this
  simp [results, hf, h.slot, hv, asAddr, hl]

/-- The frame behind a region that draws its order. -/
def putsS : List Oper → (Nat → Value) → Nat → SL → SL
  | [], _, _, s => s
  | o :: l, u, k, s => putsS l u (k + 1) (putS s o.dst (u k))

def dstsIn (n : Nat) (l : List Oper) : Bool := l.all fun o => match o.dst with | some d => decide (d < n) | none => true

theorem Fr.puts {n : Nat} : ∀ (l : List Oper) (u : Nat → Value) (k : Nat) {a : Act} {s : SL}, Fr a n s → dstsIn n l = true → Fr (puts l u k a) n (putsS l u k s)
  | [], _, _, _, _, h, _ => h
  | o :: l, u, k, a, s, h, hd => by
    simp only [dstsIn, List.all_cons, Bool.and_eq_true] at hd
    exact Fr.puts l u (k + 1) (h.put (u k) hd.1) hd.2

/-! ### Operations that read -/
section
variable {N : Nat} {s : SL} (hfr : Fr a N s)
include hfr
theorem y_load_agg {x : Operand} {b o n : Nat} {t E : TypeId} {c : Array Value} {fz : Nat × Nat} {cs : List Value} {R : Value → World → Prop} (hx : lookO s x = .pointer (some ⟨b, o, none⟩))
    (h : w.heap[b]? = some (.cells c E fz)) (ht : tyA P t cs.length = true) (hc : ((c.toList.drop o).take n) = cs) (hr : R (.agg cs.toArray) w) : Yields P ⟨d, .load t x, ty, pos, aft, none⟩ a w R := by
  refine .of_run (v := .agg cs.toArray) (w' := w) ?_ hr
  simp only [execOp, hfr.ev hx, Instr.loadAt, Instr.sureAddr, Sem.run_bind, Sem.run_pure, Result.andThen_ok, loadVar_agg (lies_block h hc) ht]

theorem y_load_one {x : Operand} {b o : Nat} {t E : TypeId} {c : Array Value} {fz : Nat × Nat} {v : Value} {R : Value → World → Prop} (hx : lookO s x = .pointer (some ⟨b, o, none⟩))
    (h : w.heap[b]? = some (.cells c E fz)) (ht : tyO P t = true) (hc : c[o]? = some v) (hr : R v w) : Yields P ⟨d, .load t x, ty, pos, aft, none⟩ a w R := by
  refine .of_run (v := v) (w' := w) ?_ hr
  have : w.cell? ⟨b, o, none⟩ = some v := by simp [World.cell?, h, hc]
  simp only [execOp, hfr.ev hx, Instr.loadAt, Instr.sureAddr, Sem.run_bind, Sem.run_pure, Result.andThen_ok, loadVar_one this ht]

end
/-! ### New blocks -/
structure New (w w' : World) (b : Nat) (o : Obj) : Prop where
  eq : b = w.heap.size
  at_ : w'.heap[b]? = some o
  below : Below w.heap.size w w'
  size : w'.heap.size = b + 1

theorem New.of_alloc (w : World) (o : Obj) : New w (w.alloc o) w.heap.size o :=
  ⟨rfl, by show (w.heap.push o)[w.heap.size]? = some o; simp, (Below.refl _ _).alloc (Nat.le_refl _) _, by simp⟩

theorem keep {w w' : World} {b : Nat} {o : Obj} (hb : Below w.heap.size w w') (h : w.heap[b]? = some o) : w'.heap[b]? = some o := by
  rw [hb.block b (lt_of_block h)]; exact h

section
variable {N : Nat} {s : SL} (hfr : Fr a N s)
include hfr
theorem y_box {x : Operand} {t : TypeId} {v : Value} {R : Value → World → Prop} (hx : lookO s x = v) (hr : ∀ b w', New w w' b (.cells v.cells t (0, 0)) → R (.pointer (some ⟨b, 0, none⟩)) w') :
    Yields P ⟨d, .box t x, ty, pos, aft, none⟩ a w R := by
  refine .of_run (v := .pointer (some ⟨w.heap.size, 0, none⟩)) (w' := w.alloc (.cells v.cells t)) ?_ (hr _ _ (New.of_alloc _ _))
  simp only [execOp, hfr.ev hx, Instr.box, newVar, newRow, newObj, Sem.run_bind, Sem.run_pure]
  rfl

end
/-- A type's zero value. -/
def zeroOf (P : Program) (t : TypeId) : Option Value := match P.info? t with | some i => i.zero | none => none

theorem y_alloc {t : TypeId} {z : Value} {R : Value → World → Prop} (hz : zeroOf P t = some z)
    (hr : ∀ b w', New w w' b (.cells z.cells t (0, 0)) → R (.pointer (some ⟨b, 0, none⟩)) w') : Yields P ⟨d, .alloc t, ty, pos, aft, none⟩ a w R := by
  refine .of_run (v := .pointer (some ⟨w.heap.size, 0, none⟩)) (w' := w.alloc (.cells z.cells t)) ?_ (hr _ _ (New.of_alloc _ _))
  unfold zeroOf at hz
  cases hq : P.info? t with
  | none => rw [hq] at hz; cases hz
  | some i =>
    rw [hq] at hz
    have hz' : i.zero = some z := hz
    simp only [execOp, Instr.alloc, zeroValue, typeInfo, program, newVar, newRow, newObj, Sem.run_bind, Sem.run_pure, Result.andThen_ok, Sem.run, hq, hz']
    rfl

/-! ### Stores -/
/-- One block is another now, all else is as it was. -/
structure Upd (w w' : World) (b : Nat) (o : Obj) : Prop where
  os : w'.os = w.os
  tape : w'.tape = w.tape
  output : w'.output = w.output
  size : w'.heap.size = w.heap.size
  at_ : w'.heap[b]? = some o
  other : ∀ k, k ≠ b → w'.heap[k]? = w.heap[k]?

def over (c : Array Value) : Nat → List Value → Array Value
  | _, [] => c
  | o, v :: l => over (c.setIfInBounds o v) (o + 1) l

def plainCell : Value → Bool
  | .agg _ | .tuple _ => false
  | _ => true

theorem storeCells_run (b o : Nat) : ∀ (l : List Value) (i : Nat) (w : World) (c : Array Value) (E : TypeId), w.heap[b]? = some (.cells c E (0, 0)) → o + i + l.length ≤ c.size → l.all plainCell = true →
    ∃ w', (storeCells ⟨b, o, none⟩ l i).run P w = .ok () w' ∧ Upd w w' b (.cells (over c (o + i) l) E (0, 0))
  | [], i, w, c, E, h, _, _ => ⟨w, by simp [storeCells, go_sem], ⟨rfl, rfl, rfl, rfl, h, fun _ _ => rfl⟩⟩
  | v :: l, i, w, c, E, h, hn, hp => by
    simp only [List.length_cons] at hn
    simp only [List.all_cons, Bool.and_eq_true] at hp
    have hcell : w.cell? ⟨b, o + i, none⟩ = some c[o + i] := by simp [World.cell?, h]
    have hfz : w.frozen? ⟨b, o + i, none⟩ = false := by simp [World.frozen?, h]
    have hs : (store (Addr.add ⟨b, o, none⟩ i) v).run P w = .ok () (w.setCell ⟨b, o + i, none⟩ v) := by
      rw [Addr.add_lit]
      cases v <;> first | (simp [plainCell] at hp; done) | simp [store, Sem.run, hcell, hfz]
    have hlt := lt_of_block h
    have h1 : (w.setCell ⟨b, o + i, none⟩ v).heap[b]? = some (.cells (c.setIfInBounds (o + i) v) E (0, 0)) := by
      have h' : w.heap[b] = .cells c E (0, 0) := by simpa [Array.getElem?_eq_getElem hlt] using h
      show (w.heap.modify b _)[b]? = _
      rw [Array.getElem?_eq_getElem (by simpa using hlt), Array.getElem_modify_self, h']
      rfl
    obtain ⟨w', hr, hu⟩ := storeCells_run b o l (i + 1) (w.setCell ⟨b, o + i, none⟩ v) _ E h1 (by simp; omega) hp.2
    refine ⟨w', ?_, ?_⟩
    · simp only [storeCells, Sem.run_bind, hs, Result.andThen_ok]; exact hr
    · refine ⟨hu.os, hu.tape, hu.output, ?_, ?_, fun k hk => ?_⟩
      · rw [hu.size]; simp [World.setCell]
      · rw [hu.at_]; rfl
      · rw [hu.other k hk]; exact Below.heap_setCell _ _ _ _ hk

section
variable {N : Nat} {s : SL} (hfr : Fr a N s)
include hfr
theorem y_store {x y : Operand} {b o : Nat} {t E : TypeId} {c c' : Array Value} {v : Value} {R : Value → World → Prop} (hx : lookO s x = .pointer (some ⟨b, o, none⟩)) (hy : lookO s y = v)
    (h : w.heap[b]? = some (.cells c E (0, 0))) (ht : sized P t v.cells.size = true) (hn : o + v.cells.size ≤ c.size) (hp : v.cells.toList.all plainCell = true) (hc : over c o v.cells.toList = c')
    (hr : ∀ w', Upd w w' b (.cells c' E (0, 0)) → R undef w') : Yields P ⟨d, .store t x y, ty, pos, aft, none⟩ a w R := by
  obtain ⟨w', hs, hu⟩ := storeCells_run (P := P) b o v.cells.toList 0 w c E h (by simpa using hn) hp
  rw [Nat.add_zero, hc] at hu
  refine .of_skip (w' := w') ?_ (hr _ hu)
  simp only [execOp, hfr.ev hx, hfr.ev hy, Instr.storeAt, Instr.sureAddr, storeVar, Sem.run_bind, Sem.run_pure, Result.andThen_ok, run_size ht, ne_eq, not_true_eq_false, if_false, hs]

end
theorem Upd.below {w0 w w' : World} {b B : Nat} {o : Obj} (hB : Below B w0 w) (h : Upd w w' b o) (hb : B ≤ b) : Below B w0 w' :=
  hB.trans ⟨h.os, h.tape, h.output, by rw [h.size]; exact Nat.le_refl _, fun k hk => h.other k (by omega)⟩

theorem Upd.keep {w w' : World} {b k : Nat} {o o' : Obj} (h : Upd w w' b o) (hk : w.heap[k]? = some o') (hne : k ≠ b) : w'.heap[k]? = some o' := by
  rw [h.other k hne]; exact hk

/-! ### Values -/
section
variable {N : Nat} {s : SL} (hfr : Fr a N s)
include hfr
theorem y_move {x : Operand} {v : Value} {R : Value → World → Prop} (hx : lookO s x = v) (hr : R v w) : Yields P ⟨d, .move x, ty, pos, aft, none⟩ a w R := .of_run (v := v) (w' := w) (by rw [← hfr.ev hx]; rfl) hr

theorem y_assign {x : Operand} {v : Value} {R : Value → World → Prop} (hx : lookO s x = v) (hr : R v w) : Yields P ⟨d, .assign x, ty, pos, aft, none⟩ a w R := .of_run (v := v) (w' := w) (by rw [← hfr.ev hx]; rfl) hr

theorem y_pick {c x y : Operand} {b : Bool} {v : Value} {R : Value → World → Prop} (hc : lookO s c = .bool b) (hx : lookO s (bif b then x else y) = v) (hr : R v w) : Yields P ⟨d, .pick c x y, ty, pos, aft, none⟩ a w R := by
  refine .of_run (v := v) (w' := w) ?_ hr
  have hc' := hfr.ev hc
  have hx' := hfr.ev hx
  cases b <;> simp_all [execOp, asBool, go_sem]

theorem y_makeFunc {fn : Fn} {fs cs : List Operand} {v : Value} {R : Value → World → Prop} (hv : Value.func fn (fs.map (lookO s)).toArray (cs.map (lookO s)).toArray = v) (hr : R v w) : Yields P ⟨d, .makeFunc fn fs.toArray cs.toArray, ty, pos, aft, none⟩ a w R :=
  .of_run (v := v) (w' := w) (by rw [← hv, ← hfr.evs rfl, ← hfr.evs rfl]; rfl) hr

theorem y_bin {op : BinOp} {t t2 : TypeId} {x y : Operand} {u u' v : Value} {R : Value → World → Prop} (hx : lookO s x = u) (hy : lookO s y = u')
    (hg : (eqGuard op t x y u u').run P w = .ok () w) (h : (binOp op t u u').run P w = .ok v w) (hr : R v w) : Yields P ⟨d, .binOp op t x y t2, ty, pos, aft, none⟩ a w R := by
  refine .of_run (v := v) (w' := w) ?_ hr
  simp only [execOp, hfr.ev hx, hfr.ev hy, Sem.run_bind, hg, Result.andThen_ok, h, Sem.run_pure]

theorem y_un {op : UnOp} {t : TypeId} {x : Operand} {u v : Value} {R : Value → World → Prop} (hx : lookO s x = u) (h : (Op.unary op u).run P w = .ok v w) (hr : R v w) : Yields P ⟨d, .unOp op t x, ty, pos, aft, none⟩ a w R := by
  refine .of_run (v := v) (w' := w) ?_ hr
  simp only [execOp, hfr.ev hx, Sem.run_bind, Result.andThen_ok, h, Sem.run_pure]

end
/-- Is a type a kind of whole numbers? -/
def intTy (P : Program) (t : TypeId) (k : IntKind) : Bool := match P.underlying t with | some (.int k') => k' == k | _ => false

section
variable {N : Nat} {s : SL} (hfr : Fr a N s)
include hfr
theorem y_convert {st t : TypeId} {x : Operand} {k k' : IntKind} {n : Int} {R : Value → World → Prop} (hx : lookO s x = .int k n) (hs : intTy P st k = true) (ht : intTy P t k' = true) (hr : R (.int k' (k'.wrap n)) w) :
    Yields P ⟨d, .convert st t x, ty, pos, aft, none⟩ a w R := by
  refine .of_run (v := .int k' (k'.wrap n)) (w' := w) ?_ hr
  unfold intTy at hs ht
  cases h1 : P.underlying st with
  | none => rw [h1] at hs; cases hs
  | some d1 =>
    cases h2 : P.underlying t with
    | none => rw [h2] at ht; cases ht
    | some d2 =>
      rw [h1] at hs; rw [h2] at ht
      cases d1 <;> first | cases hs | skip
      cases d2 <;> first | cases ht | skip
      simp at hs ht
      subst hs; subst ht
      simp only [execOp, hfr.ev hx, convert, Sem.run_bind, run_underlying h1, run_underlying h2, Result.andThen_ok]
      rfl

theorem y_extract {x : Operand} {i : Nat} {vs : Array Value} {v : Value} {R : Value → World → Prop} (hx : lookO s x = .tuple vs) (hv : vs[i]? = some v) (hr : R v w) : Yields P ⟨d, .extract x i, ty, pos, aft, none⟩ a w R := by
  refine .of_run (v := v) (w' := w) ?_ hr
  simp only [execOp, hfr.ev hx, Instr.extract, hv]
  rfl

theorem y_build {t : TypeId} {ps : List (Nat × Operand)} {v : Value} {R : Value → World → Prop} (h : (Instr.build t (ps.map fun q => (q.1, lookO s q.2)).toArray).run P w = .ok v w) (hr : R v w) : Yields P ⟨d, .build t ps.toArray, ty, pos, aft, none⟩ a w R := by
  refine .of_run (v := v) (w' := w) ?_ hr
  have e : (ps.toArray.map fun q => (q.1, a.eval q.2)) = (ps.map fun q => (q.1, lookO s q.2)).toArray := by
    rw [List.map_toArray]
    have : (fun q : Nat × Operand => (q.1, a.eval q.2)) = fun q => (q.1, lookO s q.2) := funext fun q => by rw [hfr.eval]
    rw [this]
  simp only [execOp]
  rw [e]
  simp only [Sem.run_bind, h, Result.andThen_ok, Sem.run_pure]

end
/-- A field's place: its offset (of a field that has a cell at least). -/
def fieldOff (P : Program) (t : TypeId) (i o : Nat) : Bool := match P.underlying t with
  | some (.struct fs) => (match fs[i]? with | some f => f.offset == o && (match P.info? f.type with | some q => q.size != 0 | none => false) | none => false)
  | _ => false

section
variable {N : Nat} {s : SL} (hfr : Fr a N s)
include hfr
theorem y_fieldAddr {t : TypeId} {x : Operand} {i b o k : Nat} {R : Value → World → Prop} (hx : lookO s x = .pointer (some ⟨b, o, none⟩)) (hf : fieldOff P t i k = true)
    (hr : R (.pointer (some ⟨b, o + k, none⟩)) w) : Yields P ⟨d, .fieldAddr t x i, ty, pos, aft, none⟩ a w R := by
  refine .of_run (v := .pointer (some ⟨b, o + k, none⟩)) (w' := w) ?_ hr
  unfold fieldOff at hf
  cases h1 : P.underlying t with
  | none => rw [h1] at hf; cases hf
  | some d1 =>
    rw [h1] at hf
    cases d1 with
    | struct fs =>
      simp only at hf
      cases h2 : fs[i]? with
      | none => rw [h2] at hf; cases hf
      | some f =>
        rw [h2] at hf
        simp only [Bool.and_eq_true] at hf
        cases h3 : P.info? f.type with
        | none => rw [h3] at hf; exact absurd hf.2 (by simp)
        | some q =>
          rw [h3] at hf
          have h4 : f.offset = k := by simpa using hf.1
          have h5 : q.size ≠ 0 := by simpa using hf.2
          have h6 : (sizeOf f.type).run P w = .ok q.size w := run_size (by unfold sized; rw [h3]; simp)
          simp only [execOp, hfr.ev hx, Instr.fieldAt, Instr.sureAddr, fieldPlace, Sem.run_bind, run_underlying h1, h2, Sem.run_pure, Result.andThen_ok, h6, h5, if_false, h4, Addr.add_lit]
    | _ => cases hf

end
/-- A field without cells: its offset; that bytes are told at both places. -/
def fieldZ (P : Program) (t : TypeId) (i k : Nat) : Bool := match P.underlying t with
  | some (.struct fs) => (match fs[i]? with
    | some f => f.offset == k && sized P f.type 0 && decide (P.cellsOf t ≠ 0) && (byteOfCell P P.depth t (0 % P.cellsOf t)).isSome && (byteOfCell P P.depth t (k % P.cellsOf t)).isSome
    | none => false)
  | _ => false

theorem run_byteOf {b o : Nat} {E : TypeId} {c : Array Value} {fz : Nat × Nat} (h : w.heap[b]? = some (.cells c E fz)) (hs : P.cellsOf E ≠ 0) {x : Nat} (hx : byteOfCell P P.depth E (o % P.cellsOf E) = some x) :
    (byteOf ⟨b, o, none⟩).run P w = .ok (o / P.cellsOf E * P.bytesOf E + x) w := by
  have hsh : w.shape? b = some (E, c.size) := by simp [World.shape?, h]
  simp [byteOf, program, noView, viewAt, shape, Sem.run_bind, Sem.run, hsh, hs, hx, go_sem]

theorem y_fieldAddrZ {N : Nat} {s : SL} (hfr : Fr a N s) {t : TypeId} {x : Operand} {i b k : Nat} {c : Array Value} {fz : Nat × Nat} {R : Value → World → Prop} (hx : lookO s x = .pointer (some ⟨b, 0, none⟩)) (hf : fieldZ P t i k = true) (h : w.heap[b]? = some (.cells c t fz))
    (hr : ∀ sp, R (.pointer (some ⟨b, k, sp⟩)) w) : Yields P ⟨d, .fieldAddr t x i, ty, pos, aft, none⟩ a w R := by
  unfold fieldZ at hf
  cases h1 : P.underlying t with
  | none => rw [h1] at hf; cases hf
  | some d1 =>
    rw [h1] at hf
    cases d1 with
    | struct fs =>
      simp only at hf
      cases h2 : fs[i]? with
      | none => rw [h2] at hf; cases hf
      | some f =>
        rw [h2] at hf
        simp only [Bool.and_eq_true, decide_eq_true_eq, beq_iff_eq] at hf
        obtain ⟨⟨⟨⟨hk, hz⟩, hs⟩, hx0⟩, hx1⟩ := hf
        obtain ⟨x0, hx0⟩ := Option.isSome_iff_exists.1 hx0
        obtain ⟨x1, hx1⟩ := Option.isSome_iff_exists.1 hx1
        have r0 := run_byteOf (P := P) (o := 0) h hs hx0
        have r1 := run_byteOf (P := P) (o := k) h hs hx1
        have h6 : (sizeOf f.type).run P w = .ok 0 w := run_size hz
        have key : ∃ sp, (fieldPlace ⟨b, 0, none⟩ f).run P w = .ok ⟨b, k, sp⟩ w := by
          simp only [fieldPlace, Sem.run_bind, h6, Result.andThen_ok, if_true, partAt, r0, Nat.zero_add, hk, r1]
          split
          · exact ⟨none, rfl⟩
          · exact ⟨_, rfl⟩
        obtain ⟨sp, key⟩ := key
        refine .of_run (v := .pointer (some ⟨b, k, sp⟩)) (w' := w) ?_ (hr sp)
        simp only [execOp, hfr.ev hx, Instr.fieldAt, Instr.sureAddr, Sem.run_bind, run_underlying h1, h2, Sem.run_pure, Result.andThen_ok, key]
    | _ => cases hf

theorem y_load_zero {N : Nat} {s : SL} (hfr : Fr a N s) {t : TypeId} {x : Operand} {ad : Addr} {R : Value → World → Prop} (hx : lookO s x = .pointer (some ad)) (ht : tyA P t 0 = true) (hr : R (.agg #[]) w) : Yields P ⟨d, .load t x, ty, pos, aft, none⟩ a w R := by
  refine .of_run (v := .agg #[]) (w' := w) ?_ hr
  have hl : (loadVar t ad).run P w = .ok (.agg #[]) w := by
    unfold loadVar
    rw [Sem.run_bind, run_isA ht]
    simp only [Result.andThen_ok, if_true]
    rw [Sem.run_bind, run_size (sized_A ht)]
    simp only [Result.andThen_ok]
    rw [Sem.run_bind]
    simp [loadCells, loadCellsFrom, go_sem]
  simp only [execOp, hfr.ev hx, Instr.loadAt, Instr.sureAddr, Sem.run_bind, Sem.run_pure, Result.andThen_ok, hl]

/-! ### Calls -/
/-- A function that a call can enter. -/
def callable (P : Program) (f : FuncId) : Bool := match P.funcs[f]? with | some fn => fn.name != "runtime.NumGoroutine" && fn.body.isSome | none => false

section
variable {N : Nat} {s : SL} (hfr : Fr a N s)
include hfr
theorem y_max {x y : Operand} {k : IntKind} {m n : Int} {ts : Array TypeId} {R : Value → World → Prop} (hx : lookO s x = .int k m) (hy : lookO s y = .int k n) (hr : R (.int k (if n > m then n else m)) w) :
    Yields P ⟨d, .call ⟨.builtin .max, #[x, y], ts⟩, ty, pos, aft, none⟩ a w R := by
  refine .of_run (v := .int k (if n > m then n else m)) (w' := w) ?_ hr
  have e : (#[x, y] : Array Operand).map a.eval = #[.int k m, .int k n] := hfr.evs (xs := [x, y]) (vs := [.int k m, .int k n]) (lc2 hx hy)
  simp only [execOp, resolve, e, Sem.run_bind, Sem.run_pure, Result.andThen_ok, invoke, builtin]
  rfl

/-- A slice's type? -/
def isSlice (P : Program) (t : TypeId) : Bool := match P.underlying t with | some (.slice _) => true | _ => false

theorem y_len {x : Operand} {ad : Option Addr} {n c : Nat} {t : TypeId} {R : Value → World → Prop} (ht : isSlice P t = true) (hx : lookO s x = .slice ad n c) (hr : R (.int .i64 n) w) :
    Yields P ⟨d, .call ⟨.builtin .len, #[x], #[t]⟩, ty, pos, aft, none⟩ a w R := by
  refine .of_run (v := .int .i64 n) (w' := w) ?_ hr
  have e : (#[x] : Array Operand).map a.eval = #[.slice ad n c] := hfr.evs (xs := [x]) (vs := [.slice ad n c]) (lc1 hx)
  unfold isSlice at ht
  cases h2 : P.underlying t with
  | none => rw [h2] at ht; cases ht
  | some d1 =>
    rw [h2] at ht
    cases d1 with
    | slice el =>
      simp only [execOp, resolve, e, Sem.run_bind, Sem.run_pure, Result.andThen_ok, invoke, builtin, Builtin.len_, List.getElem?_toArray, List.getElem?_cons_zero, run_underlying h2]
      rfl
    | _ => cases ht

/-- A slice's type: its elements have so many cells. -/
def sliceTy (P : Program) (t : TypeId) (k : Nat) : Bool := match P.underlying t with | some (.slice e) => sized P e k | _ => false

theorem y_indexAddr {x y : Operand} {t : TypeId} {b o n c k : Nat} {i : Int} {R : Value → World → Prop} (ht : sliceTy P t k = true) (hx : lookO s x = .slice (some ⟨b, o, none⟩) n c) (hy : lookO s y = .int .i64 i)
    (h0 : 0 ≤ i) (h1 : i < n) (hr : R (.pointer (some ⟨b, o + i.toNat * k, none⟩)) w) : Yields P ⟨d, .indexAddr t x y, ty, pos, aft, none⟩ a w R := by
  refine .of_run (v := .pointer (some ⟨b, o + i.toNat * k, none⟩)) (w' := w) ?_ hr
  unfold sliceTy at ht
  cases h2 : P.underlying t with
  | none => rw [h2] at ht; cases ht
  | some d1 =>
    rw [h2] at ht
    cases d1 with
    | slice e =>
      have hs : (sizeOf e).run P w = .ok k w := run_size ht
      simp only [execOp, hfr.ev hx, hfr.ev hy, Instr.indexAt, asIntOf, Sem.run_bind, Sem.run_pure, Result.andThen_ok, run_underlying h2, h0, h1, and_self, if_true, hs, Addr.add_lit]
    | _ => cases ht

theorem y_bslice {t E : TypeId} {n : Nat} {ps : List (Nat × Operand)} {c : Array Value} {R : Value → World → Prop} (h : (Instr.buildSlice t n (ps.map fun q => (q.1, lookO s q.2)).toArray).run P w = .ok (.slice (some ⟨w.heap.size, 0, none⟩) n n) (w.alloc (.cells c E)))
    (hr : ∀ b w', New w w' b (.cells c E (0, 0)) → R (.slice (some ⟨b, 0, none⟩) n n) w') : Yields P ⟨d, .buildSlice t n ps.toArray, ty, pos, aft, none⟩ a w R := by
  refine .of_run (v := .slice (some ⟨w.heap.size, 0, none⟩) n n) (w' := w.alloc (.cells c E)) ?_ (hr _ _ (New.of_alloc _ _))
  have e : (ps.toArray.map fun q => (q.1, a.eval q.2)) = (ps.map fun q => (q.1, lookO s q.2)).toArray := by
    rw [List.map_toArray]
    have : (fun q : Nat × Operand => (q.1, a.eval q.2)) = fun q => (q.1, lookO s q.2) := funext fun q => by rw [hfr.eval]
    rw [this]
  simp only [execOp]
  rw [e]
  simp only [Sem.run_bind, h, Result.andThen_ok, Sem.run_pure]

theorem y_call {f : FuncId} {xs : List Operand} {ts : Array TypeId} {args : List Value} {R : Value → World → Prop} (hx : xs.map (lookO s) = args)
    (hf : callable P f = true)
    (hc : Calls P f args.toArray w fun e w' => ∃ v, e = .returned v ∧ R v w') : Yields P ⟨d, .call ⟨.value (.func f), xs.toArray, ts⟩, ty, pos, aft, none⟩ a w R := by
  refine .of_call (f := f) (args := args.toArray) ?_ hc
  unfold callable at hf
  cases h1 : P.funcs[f]? with
  | none => rw [h1] at hf; cases hf
  | some fn =>
    rw [h1] at hf
    simp only [Bool.and_eq_true] at hf
    have h2 : (fn.name == "runtime.NumGoroutine") = false := by simpa [bne] using hf.1
    have h3 : fn.body.isNone = false := by simpa using hf.2
    simp only [execOp, resolve, hfr.evs hx, Act.eval, Deferred.ofValue, Sem.run_bind, Sem.run_pure, Result.andThen_ok, invoke, callFunc, program, Sem.run, h1, h2, h3, Array.append_empty, Array.empty_append]
    rfl

/-- A call of a function value. -/
theorem y_callv {x : Operand} {f : FuncId} {fs cs : List Value} {xs : List Operand} {ts : Array TypeId} {args : List Value} {R : Value → World → Prop} (hx0 : lookO s x = .func (.func f) fs.toArray cs.toArray)
    (hx : fs ++ xs.map (lookO s) ++ cs = args) (hf : callable P f = true)
    (hc : Calls P f args.toArray w fun e w' => ∃ v, e = .returned v ∧ R v w') : Yields P ⟨d, .call ⟨.value x, xs.toArray, ts⟩, ty, pos, aft, none⟩ a w R := by
  refine .of_call (f := f) (args := args.toArray) ?_ hc
  unfold callable at hf
  cases h1 : P.funcs[f]? with
  | none => rw [h1] at hf; cases hf
  | some fn =>
    rw [h1] at hf
    simp only [Bool.and_eq_true] at hf
    have h2 : (fn.name == "runtime.NumGoroutine") = false := by simpa [bne] using hf.1
    have h3 : fn.body.isNone = false := by simpa using hf.2
    subst hx
    rw [← List.append_toArray, ← List.append_toArray, ← hfr.evs rfl]
    simp only [execOp, resolve, hfr.ev hx0, Deferred.ofValue, Sem.run_bind, Sem.run_pure, Result.andThen_ok, invoke, callFunc, program, Sem.run, h1, h2, h3]
    rfl

theorem y_callv1 {x x1 : Operand} {f : FuncId} {fs cs : List Value} {ts : Array TypeId} {v1 : Value} {R : Value → World → Prop} (hx0 : lookO s x = .func (.func f) fs.toArray cs.toArray) (hx1 : lookO s x1 = v1)
    (hf : callable P f = true) (hc : Calls P f (fs ++ [v1] ++ cs).toArray w fun e w' => ∃ v, e = .returned v ∧ R v w') : Yields P ⟨d, .call ⟨.value x, #[x1], ts⟩, ty, pos, aft, none⟩ a w R :=
  y_callv hfr (xs := [x1]) hx0 (by rw [List.map_cons, List.map_nil, hx1]) hf hc

theorem y_callv0 {x : Operand} {f : FuncId} {fs cs : List Value} {ts : Array TypeId} {R : Value → World → Prop} (hx0 : lookO s x = .func (.func f) fs.toArray cs.toArray)
    (hf : callable P f = true) (hc : Calls P f (fs ++ [] ++ cs).toArray w fun e w' => ∃ v, e = .returned v ∧ R v w') : Yields P ⟨d, .call ⟨.value x, #[], ts⟩, ty, pos, aft, none⟩ a w R :=
  y_callv hfr (xs := []) hx0 rfl hf hc

end

/-! ### Steps in the order of the text -/
section
variable {ops : Array Oper} {Q : Exit → Act → World → Prop} {rest : List Oper} {N : Nat} {s : SL}
def dstIn (n : Nat) (d : Option Tmp) : Bool := match d with | some d => decide (d < n) | none => true

theorem seq_val {o : Oper} (v : Value) (hfr : Fr a N s) (hy : ∀ R : Value → World → Prop, R v w → Yields P o a w R) (hg : (o.guard.isNone && dstIn N o.dst) = true)
    (hk : ∀ a, Fr a N (putS s o.dst v) → wpList P ops Q rest a w) : wpList P ops Q (o :: rest) a w := by
  simp only [Bool.and_eq_true] at hg
  exact seq_yields (by simpa using hg.1) (hy (fun v' w' => v' = v ∧ w' = w) ⟨rfl, rfl⟩) (by rintro _ _ ⟨rfl, rfl⟩; exact hk _ (hfr.put _ hg.2))

theorem seq_new {o : Oper} (ob : Obj) (hfr : Fr a N s) (hy : ∀ R : Value → World → Prop, (∀ b w', New w w' b ob → R (.pointer (some ⟨b, 0, none⟩)) w') → Yields P o a w R) (hg : (o.guard.isNone && dstIn N o.dst) = true)
    (hk : ∀ a b w', New w w' b ob → Fr a N (putS s o.dst (.pointer (some ⟨b, 0, none⟩))) → wpList P ops Q rest a w') : wpList P ops Q (o :: rest) a w := by
  simp only [Bool.and_eq_true] at hg
  exact seq_yields (by simpa using hg.1) (hy (fun v' w' => ∃ b, v' = .pointer (some ⟨b, 0, none⟩) ∧ New w w' b ob) fun b w' h => ⟨b, rfl, h⟩) (by rintro _ w' ⟨b, rfl, h⟩; exact hk _ b w' h (hfr.put _ hg.2))

theorem seq_newS {o : Oper} (ob : Obj) (l : Nat) (hfr : Fr a N s) (hy : ∀ R : Value → World → Prop, (∀ b w', New w w' b ob → R (.slice (some ⟨b, 0, none⟩) l l) w') → Yields P o a w R) (hg : (o.guard.isNone && dstIn N o.dst) = true)
    (hk : ∀ a b w', New w w' b ob → Fr a N (putS s o.dst (.slice (some ⟨b, 0, none⟩) l l)) → wpList P ops Q rest a w') : wpList P ops Q (o :: rest) a w := by
  simp only [Bool.and_eq_true] at hg
  exact seq_yields (by simpa using hg.1) (hy (fun v' w' => ∃ b, v' = .slice (some ⟨b, 0, none⟩) l l ∧ New w w' b ob) fun b w' h => ⟨b, rfl, h⟩) (by rintro _ w' ⟨b, rfl, h⟩; exact hk _ b w' h (hfr.put _ hg.2))

def boolOf : Value → Option Bool
  | .bool b => some b
  | _ => none

theorem yielded_of {j d : Nat} {v : Value} (hfr : Fr a N s) (hj : (ops[j]?).bind (·.dst) = some d) (hv : look s d = v) (hd : d < N) : yielded ops a.tmps j = boolOf v := by
  unfold yielded
  rw [hj]
  have h1 := hfr.slot d
  rw [hv] at h1
  have h2 : a.tmps[d]? = some v := by
    rw [Array.getD_eq_getD_getElem?] at h1
    have : d < a.tmps.size := by rw [hfr.size]; exact hd
    simp only [this, getElem?_pos, Option.getD_some] at h1 ⊢
    rw [h1]
  simp only [Option.bind_some, h2]
  cases v <;> rfl

/-- An operation whose guard holds. -/
theorem seq_want {o : Oper} {j d : Nat} {want : Bool} (hfr : Fr a N s) (hg : o.guard = some (j, want)) (hj : (ops[j]?).bind (·.dst) = some d) (hd : Nat.ble (d + 1) N = true) (hv : look s d = .bool want)
    (hk : wpList P ops Q ({ o with guard := none } :: rest) a w) : wpList P ops Q (o :: rest) a w := by
  have hy := yielded_of (ops := ops) hfr hj hv (Nat.le_of_ble_eq_true hd)
  unfold wpList at hk ⊢
  simp only [Region.wanted, hg, hy, boolOf, beq_self_eq_true, if_true] at hk ⊢
  exact hk

/-- An operation whose guard doesn't hold. -/
theorem seq_skip {o : Oper} {j d : Nat} {want : Bool} {v : Value} (hfr : Fr a N s) (hg : o.guard = some (j, want)) (hj : (ops[j]?).bind (·.dst) = some d) (hd : (Nat.ble (d + 1) N && dstIn N o.dst) = true) (hv : look s d = v)
    (hn : boolOf v ≠ some want) (hk : ∀ a, Fr a N (putS s o.dst undef) → wpList P ops Q rest a w) : wpList P ops Q (o :: rest) a w := by
  simp only [Bool.and_eq_true] at hd
  have hy := yielded_of (ops := ops) hfr hj hv (Nat.le_of_ble_eq_true hd.1)
  unfold wpList
  have hw : Region.wanted o (yielded ops a.tmps) = false := by
    simp only [Region.wanted, hg, hy]
    exact beq_eq_false_iff_ne.2 hn
  rw [hw]
  exact hk _ (hfr.put _ hd.2)

theorem seq_split {G : Prop} (t : Bool) (h1 : t = true → G) (h2 : t = false → G) : G := by
  cases t
  · exact h2 rfl
  · exact h1 rfl

theorem seq_upd {o : Oper} {b : Nat} (ob : Obj) (hfr : Fr a N s) (hy : ∀ R : Value → World → Prop, (∀ w', Upd w w' b ob → R undef w') → Yields P o a w R) (hg : (o.guard.isNone && dstIn N o.dst) = true)
    (hk : ∀ a w', Upd w w' b ob → Fr a N (putS s o.dst undef) → wpList P ops Q rest a w') : wpList P ops Q (o :: rest) a w := by
  simp only [Bool.and_eq_true] at hg
  exact seq_yields (by simpa using hg.1) (hy (fun v' w' => v' = undef ∧ Upd w w' b ob) fun w' h => ⟨rfl, h⟩) (by rintro _ w' ⟨rfl, h⟩; exact hk _ w' h (hfr.put _ hg.2))

theorem seq_call {o : Oper} {f : FuncId} {args : Array Value} {S : Ending → World → Prop} (hfr : Fr a N s) (hc : Calls P f args w S)
    (hy : ∀ R : Value → World → Prop, (Calls P f args w fun e w' => ∃ v, e = .returned v ∧ R v w') → Yields P o a w R) (hg : (o.guard.isNone && dstIn N o.dst) = true)
    (hk : ∀ e w', S e w' → ∃ v, e = .returned v ∧ ∀ a, Fr a N (putS s o.dst v) → wpList P ops Q rest a w') : wpList P ops Q (o :: rest) a w := by
  simp only [Bool.and_eq_true] at hg
  exact seq_yields (by simpa using hg.1) (hy (fun v' w' => ∀ a, Fr a N (putS s o.dst v') → wpList P ops Q rest a w') (hc.mono hk)) fun v w' h => h _ (hfr.put _ hg.2)

end
end

/-! ### Regions that draw: what each operation comes to -/
inductive Ph where
  | any
  | val (c : Value)
  | new (B : Nat) (ob : Obj)
  | slice (B : Nat) (ob : Obj) (l : Nat)
  | pred (p : Value → World → Prop) (h : ∀ v w1 w2, p v w1 → Below w1.heap.size w1 w2 → p v w2)

def Ph.ok : Ph → Value → World → Prop
  | .any, _, _ => True
  | .val c, v, _ => v = c
  | .new B ob, v, w => ∃ b, v = .pointer (some ⟨b, 0, none⟩) ∧ B ≤ b ∧ w.heap[b]? = some ob
  | .slice B ob l, v, w => ∃ b, v = .slice (some ⟨b, 0, none⟩) l l ∧ B ≤ b ∧ w.heap[b]? = some ob
  | .pred p _, v, w => p v w

/-- What an operation comes to, in the world behind it, from the world ahead of it. -/
def Ph.mk : Ph → World → Value → World → Prop
  | .new _ ob, w0, v, w => ∃ b, v = .pointer (some ⟨b, 0, none⟩) ∧ w0.heap.size ≤ b ∧ w.heap[b]? = some ob
  | .slice _ ob l, w0, v, w => ∃ b, v = .slice (some ⟨b, 0, none⟩) l l ∧ w0.heap.size ≤ b ∧ w.heap[b]? = some ob
  | p, _, v, w => p.ok v w

def Ph.within (n : Nat) : Ph → Prop
  | .new B _ => B ≤ n
  | .slice B _ _ => B ≤ n
  | _ => True

def blk : Value → Nat
  | .pointer (some ⟨b, _, _⟩) => b
  | .slice (some ⟨b, _, _⟩) _ _ => b
  | _ => 0

def Ph.isNew : Ph → Bool
  | .new _ _ => true
  | .slice _ _ _ => true
  | _ => false

theorem Ph.mk_ok {p : Ph} {w0 w : World} {v : Value} {n : Nat} (h : p.mk w0 v w) (hp : p.within n) (hn : n ≤ w0.heap.size) : p.ok v w := by
  cases p with
  | new B ob => obtain ⟨b, h1, h2, h3⟩ := h; exact ⟨b, h1, Nat.le_trans hp (Nat.le_trans hn h2), h3⟩
  | slice B ob l => obtain ⟨b, h1, h2, h3⟩ := h; exact ⟨b, h1, Nat.le_trans hp (Nat.le_trans hn h2), h3⟩
  | _ => exact h

theorem Ph.lt {p : Ph} {w : World} {v : Value} (h : p.ok v w) (hn : p.isNew = true) : blk v < w.heap.size := by
  cases p with
  | new B ob => obtain ⟨b, rfl, _, h3⟩ := h; exact lt_of_block h3
  | slice B ob l => obtain ⟨b, rfl, _, h3⟩ := h; exact lt_of_block h3
  | _ => cases hn

theorem Ph.ge {p : Ph} {w0 w : World} {v : Value} (h : p.mk w0 v w) (hn : p.isNew = true) : w0.heap.size ≤ blk v := by
  cases p with
  | new B ob => obtain ⟨b, rfl, h2, _⟩ := h; exact h2
  | slice B ob l => obtain ⟨b, rfl, h2, _⟩ := h; exact h2
  | _ => cases hn

def nth : List Ph → Nat → Ph
  | [], _ => .any
  | p :: _, 0 => p
  | _ :: l, n + 1 => nth l n

def phs (l : List Ph) : Nat → Value → World → Prop := fun i v w => (nth l i).ok v w

theorem phs_stable (l : List Ph) : ∀ i v w1 w2, phs l i v w1 → Below w1.heap.size w1 w2 → phs l i v w2 := by
  intro i v w1 w2 h hb
  unfold phs at *
  cases hp : nth l i with
  | any => trivial
  | val c => rw [hp] at h; exact h
  | new B ob => rw [hp] at h; obtain ⟨b, h1, h2, h3⟩ := h; exact ⟨b, h1, h2, keep hb h3⟩
  | pred p hs => rw [hp] at h; exact hs _ _ _ h hb
  | slice B ob l => rw [hp] at h; obtain ⟨b, h1, h2, h3⟩ := h; exact ⟨b, h1, h2, keep hb h3⟩

theorem each_nil {P : Program} {ops : Array Oper} {Φ : Nat → Value → World → Prop} {Ψ : Nat → World → Value → World → Prop} {full : List Oper} {a : Act} {w : World} {i : Nat} : Each P ops Φ Ψ full a w [] i := trivial

theorem each_consF {P : Program} {ops : Array Oper} {Φ : Nat → Value → World → Prop} {Ψ : Nat → World → Value → World → Prop} {full : List Oper} {a : Act} {w : World} {o : Oper} {l : List Oper} {i N : Nat} {s : SL} (r : Fr a N s) (hd : (o.guard.isNone && dstsIn N full) = true)
    (h : ∀ a' u w', Below w.heap.size w w' → Deps Φ u w' o.after.toList → Fr a' N (putsS full u 0 s) → Yields P o a' w' fun v w'' => Below w'.heap.size w' w'' ∧ Ψ i w' v w'') (h2 : Each P ops Φ Ψ full a w l (i + 1)) : Each P ops Φ Ψ full a w (o :: l) i := by
  simp only [Bool.and_eq_true] at hd
  exact ⟨fun u w' hb hdp => .plain hd.1 (h _ u w' hb hdp (r.puts full u 0 hd.2)), h2⟩

theorem wp_drawnF {P : Program} {Q : Exit → Act → World → Prop} {id : Nat} {L : List Oper} {a : Act} {w : World} {N : Nat} {s : SL} (k : Nat) (ps : List Ph) (hm : P.follows .mixedOrders = true) (r : Fr a N s)
    (hs : (drawnOk L k && dstsIn N (L.take k)) = true) (hw : ∀ i, (nth ps i).within w.heap.size) (he : Each P L.toArray (phs ps) (fun i => (nth ps i).mk) (L.take k) a { w with drawn := w.drawn + 1 } (L.take k) 0)
    (hl : ∀ a' u w', Below w.heap.size w w' → (∀ i, i < k → (nth ps i).ok (u i) w') → (∀ i j, i < k → j < k → i ≠ j → (nth ps i).isNew = true → (nth ps j).isNew = true → blk (u i) ≠ blk (u j)) → Fr a' N (putsS (L.take k) u 0 s) → wpList P L.toArray Q (L.drop k) a' w') : (Code.region id L.toArray true).wp P Q a w := by
  simp only [Bool.and_eq_true] at hs
  refine wp_drawn k (phs ps) (fun i => (nth ps i).mk) (fun i j v v2 => (nth ps i).isNew = true → (nth ps j).isNew = true → blk v ≠ blk v2) hm hs.1 (phs_stable _) (fun i v w' w'' hb h => Ph.mk_ok h (hw i) hb.size)
    (fun i j v v2 w' w'' h h2 => ⟨fun n1 n2 => ?_, fun n1 n2 => ?_⟩) he fun u w' hb hΦ hne => hl _ u w' hb hΦ hne (r.puts _ u 0 hs.2)
  · have := Ph.ge h n1
    have := Ph.lt (show (nth ps j).ok v2 w' from h2) n2
    omega
  · have := Ph.ge h n2
    have := Ph.lt (show (nth ps j).ok v2 w' from h2) n1
    omega

theorem within_nil {n : Nat} : ∀ i, (nth [] i).within n := fun i => by cases i <;> trivial

theorem within_cons {n : Nat} {p : Ph} {l : List Ph} (h : p.within n) (h2 : ∀ i, (nth l i).within n) : ∀ i, (nth (p :: l) i).within n := fun i => by cases i with | zero => exact h | succ i => exact h2 i

theorem Fr.congr {a : Act} {n : Nat} {s s' : SL} (h : Fr a n s) (e : s = s') : Fr a n s' := e ▸ h

theorem bs1 {x1 y1 : Nat × Value} {P : Program} {α : Type} {f : Array (Nat × Value) → Sem α} {w : World} {r : Result α} (h1 : x1 = y1) (h : (f [y1].toArray).run P w = r) : (f [x1].toArray).run P w = r := by rw [h1]; exact h

theorem bs2 {x1 y1 x2 y2 : Nat × Value} {P : Program} {α : Type} {f : Array (Nat × Value) → Sem α} {w : World} {r : Result α} (h1 : x1 = y1) (h2 : x2 = y2) (h : (f [y1, y2].toArray).run P w = r) : (f [x1, x2].toArray).run P w = r := by rw [h1, h2]; exact h

/-- A loop: what its slots and memory are at the head of each round, and a number that falls. -/
theorem wp_loopF {P : Program} {Q : Exit → Act → World → Prop} {c : Code} {a : Act} {w : World} {N : Nat} {s : SL} {X : Type} (S : X → List (Nat × Value)) (Inv : X → World → Prop) (m : X → Nat) (x0 : X) (r : Fr a N s)
    (hs : ∀ q, q ∈ S x0 → look s q.1 = q.2) (h0 : Inv x0 w)
    (round : ∀ x a w g, Fr a N (pushes (S x) (.base g)) → Inv x w → c.wp P (Exit.then (fun a' w' => ∃ x' s', Fr a' N s' ∧ (∀ q, q ∈ S x' → look s' q.1 = q.2) ∧ Inv x' w' ∧ m x' < m x) Q) a w) : (Code.loop c).wp P Q a w := by
  refine wp_loop_ghost (fun n a w => ∃ x g, m x = n ∧ Fr a N (pushes (S x) (.base g)) ∧ Inv x w) (m x0) ⟨x0, _, rfl, r.forget _ hs, h0⟩ ?_
  rintro n a w ⟨x, g, rfl, hr, hi⟩
  refine Code.wp_mono ?_ (round x a w g hr hi)
  intro e a' w' h
  cases e with
  | normal =>
    obtain ⟨x', s', h1, h2, h3, h4⟩ := h
    exact ⟨m x', h4, x', _, rfl, h1.forget _ h2, h3⟩
  | _ => exact h

/-- Where two ways meet. -/
theorem wp_join {P : Program} {Q : Exit → Act → World → Prop} {c : Code} {a : Act} {w : World} {N : Nat} (S : List (Nat × Value)) (I : World → Prop)
    (h : c.wp P (fun e a w => e = .normal ∧ ∃ s', Fr a N s' ∧ (∀ q, q ∈ S → look s' q.1 = q.2) ∧ I w) a w) (hk : ∀ a w g, Fr a N (pushes S (.base g)) → I w → Q .normal a w) : c.wp P Q a w :=
  Code.wp_mono (fun e a w ⟨he, s', h1, h2, h3⟩ => by subst he; exact hk a w _ (h1.forget _ h2) h3) h

theorem flat_at {α : Type} {f : α → List Value} {n : Nat} (hf : ∀ x, (f x).length = n) : ∀ (l : List α) (i : Nat) (h : i < l.length), (((l.flatMap f).toArray.toList.drop (i * n)).take n) = f l[i]
  | [], i, h => by simp at h
  | x :: l, 0, _ => by simp [hf x]
  | x :: l, i + 1, h => by
    have := flat_at hf l i (by simpa using h)
    simp only [List.flatMap_cons] at this ⊢
    rw [show (i + 1) * n = n + i * n from by rw [Nat.add_mul, Nat.one_mul, Nat.add_comm]]
    rw [← List.drop_drop]
    have e : (f x ++ l.flatMap f).drop n = l.flatMap f := by rw [← hf x]; exact List.drop_left
    rw [e]
    simpa using this

theorem hs_nil {s : SL} : ∀ q : Nat × Value, q ∈ ([] : List (Nat × Value)) → look s q.1 = q.2 := fun _ h => nomatch h

theorem hs_cons {s : SL} {d : Nat} {v : Value} {l : List (Nat × Value)} (h : look s d = v) (ht : ∀ q, q ∈ l → look s q.1 = q.2) : ∀ q, q ∈ (d, v) :: l → look s q.1 = q.2 := fun q hq => by
  rcases List.mem_cons.1 hq with rfl | hq
  · exact h
  · exact ht q hq

theorem cond_t {α : Type} {c : Bool} {a b : α} (h : c = true) : cond c a b = a := by rw [h]; rfl

theorem cond_f {α : Type} {c : Bool} {a b : α} (h : c = false) : cond c a b = b := by rw [h]; rfl

theorem c2 {α β : Type} {f : α → β} {a b : α} (h : a = b) : f a = f b := h ▸ rfl

theorem l0 : ([] : List Value) = [] := rfl

theorem lc {a b : Value} {l l' : List Value} (h : a = b) (h2 : l = l') : a :: l = b :: l' := by rw [h, h2]

theorem sc {d : Nat} {a b : Value} {l l' : SL} (h : a = b) (h2 : l = l') : l.push d a = l'.push d b := by rw [h, h2]

end Go.Proofs.Ytbbipmelhmgmfaa
