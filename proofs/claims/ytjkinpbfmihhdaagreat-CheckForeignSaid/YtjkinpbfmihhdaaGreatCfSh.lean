/- Short words for what printed walks say often. -/
import Derived.Test.YtjkinpbfmihhdaaGreatCfBase
import Derived.Test.YtjkinpbfmihhdaaGreatCfLoop
namespace Go.Proofs.YtjkinpbfmihhdaaGreat
open Go.RowKit
set_option linter.unusedVariables false
abbrev W (x : Int) : Int := IntKind.i64.wrap x

abbrev V (x : Int) : Int := IntKind.u64.wrap x

abbrev I (x : Int) : Value := .int .i64 x

abbrev U (x : Int) : Value := .int .u64 x

theorem bz {w : World} {α : Type} {v : α} : Below w.heap.size w w ∧ v = v := ⟨Below.refl _ _, rfl⟩

section
variable {P : Program} {Q : Exit → Act → World → Prop} {a : Act} {w : World}
theorem wn {ops : Array Oper} (h : Q .normal a w) : wpList P ops Q [] a w := h

theorem wsr {id : Nat} {l : List Oper} {y : Code} (h : wpList P l.toArray (Exit.then (y.wp P Q) Q) l a w) : (Code.seq (Code.region id l.toArray false) y).wp P Q a w := wp_seq (wp_region_lit h)

end
section
variable {P : Program} {ops : Array Oper} {rest : List Oper} {Q : Exit → Act → World → Prop} {a : Act} {w : World} {N : Nat} {s : SL}
theorem s0 {o : Oper} {j d : Nat} {want x y : Bool} (hfr : Fr a N s) (e : x = y) (hk : ∀ a, Fr a N (putS s o.dst undef) → wpList P ops Q rest a w) (hg : o.guard = some (j, want) := by rfl) (hj : (ops[j]?).bind (·.dst) = some d := by rfl) (hd : (Nat.ble (d + 1) N && dstIn N o.dst) = true := by rfl) (hv : look s d = .bool x := by rfl)
    (hn : (y == want) = false := by rfl) : wpList P ops Q (o :: rest) a w := seq_skip hfr hg hj hd (v := .bool y) (hv.trans (congrArg Value.bool e)) (by
  intro h
  have h2 : y = want := Option.some.inj h
  rw [h2] at hn
  simp at hn) hk

theorem s1 {o : Oper} {j d : Nat} {want x : Bool} (hfr : Fr a N s) (e : x = want) (hk : wpList P ops Q ({ o with guard := none } :: rest) a w) (hg : o.guard = some (j, want) := by rfl) (hj : (ops[j]?).bind (·.dst) = some d := by rfl) (hd : Nat.ble (d + 1) N = true := by rfl) (hv : look s d = .bool x := by rfl) : wpList P ops Q (o :: rest) a w :=
  seq_want hfr hg hj hd (hv.trans (congrArg Value.bool e)) hk

end
theorem ec {P : Program} {ops : Array Oper} {Φ : Nat → Value → World → Prop} {Ψ : Nat → World → Value → World → Prop} {full : List Oper} {a : Act} {w : World} {o : Oper} {l : List Oper} {i N : Nat} {s : SL} (r : Fr a N s)
    (h : ∀ a' u w', Below w.heap.size w w' → Deps Φ u w' o.after.toList → Fr a' N (putsS full u 0 s) → Yields P o a' w' fun v w'' => Below w'.heap.size w' w'' ∧ Ψ i w' v w'') (h2 : Each P ops Φ Ψ full a w l (i + 1)) (hd : (o.guard.isNone && dstsIn N full) = true := by rfl) : Each P ops Φ Ψ full a w (o :: l) i := each_consF r hd h h2

section
variable {P : Program} {L : List Oper} {a : Act} {w : World} {N : Nat} {s : SL}
theorem fc {fs : Nat → Fact w.heap.size (fun _ => False)} {o : Oper} {l : List Oper} {i : Nat} (r : Fr a N s)
    (h : ∀ a' g w', Below w.heap.size w w' → (∀ j, awaits o j = true → (fs j).ok g j w' ∧ w.heap.size ≤ (g j).lo ∧ (g j).hi ≤ w'.heap.size ∧ ∀ q, awaits o q = true → q ≠ j → (g j).hi ≤ (g q).lo ∨ (g q).hi ≤ (g j).lo) → Fr a' N (putsS L (fun j => (g j).v) 0 s) →
      Yields P o a' w' fun v w'' => (fs i).mk g v w' w'') (h2 : EachF P L fs a w l (i + 1)) (hd : (o.guard.isNone && dstsIn N L) = true := by rfl) : EachF P L fs a w (o :: l) i := eachF_cons r hd h h2

end
theorem New.all {w0 w w' : World} {b : Nat} {o : Obj} (n : New w w' b o) (hB : Below w0.heap.size w0 w) : b = w.heap.size ∧ w'.heap.size = b + 1 ∧ w'.heap[b]? = some o ∧ Below w0.heap.size w0 w' ∧ w0.heap.size ≤ w'.heap.size :=
  have h := hB.trans (n.below.mono hB.size)
  ⟨n.eq, n.size, n.at_, h, h.size⟩

theorem bon {w0 w w' : World} (hb : Below w.heap.size w w') (hB : Below w0.heap.size w0 w) : Below w0.heap.size w0 w' ∧ w0.heap.size ≤ w'.heap.size :=
  have h := hB.trans (hb.mono hB.size)
  ⟨h, h.size⟩

theorem Upd.on {w0 w w' : World} {b : Nat} {o : Obj} (u : Upd w w' b o) (hB : Below w0.heap.size w0 w) (h : w0.heap.size ≤ b) : Below w0.heap.size w0 w' ∧ w0.heap.size ≤ w'.heap.size :=
  have h := u.below hB h
  ⟨h, h.size⟩

theorem keep2 {w0 w w' : World} {d b : Nat} {o : Obj} (hB : Below w0.heap.size w0 w) (hb : Below w.heap.size { w with drawn := d } w') (h : w0.heap[b]? = some o) : w'.heap[b]? = some o := Eq.trans (show w'.heap[b]? = w.heap[b]? from hb.block b (Nat.lt_of_lt_of_le (lt_of_block h) hB.size)) (keep hB h)

theorem fgrow {F : Nat → Prop} {w0 w : World} (hF : ∀ b, F b → b < w0.heap.size) (hB : Below w0.heap.size w0 w) (r : Nat) : ∀ b, (fun b => F b ∨ (w0.heap.size ≤ b ∧ b < w.heap.size ∧ b ≠ r)) b → b < w.heap.size := by
  rintro b (h | h)
  · exact Nat.lt_of_lt_of_le (hF b h) hB.size
  · exact h.2.1

theorem rfin {R : Type} {P : Program} {E : Enc R} {n : Nat} {t : T R} {F : Nat → Prop} {w0 w1 w2 w3 : World} {r : Nat} {o : Obj} {v : Value} (hF : ∀ b, F b → b < w0.heap.size) (hB : Below w0.heap.size w0 w3) (hr : Rep P E n t (grow (fun b => F b ∨ (w0.heap.size ≤ b ∧ b < w1.heap.size ∧ b ≠ r)) w1 w2) w2 v)
    (hu : Upd w2 w3 r o) (hr1 : r < w1.heap.size) (h01 : w0.heap.size ≤ r) (h12 : w1.heap.size ≤ w2.heap.size) : RepRes P E n t F w0 (.returned v) w3 :=
  RepRes.fin hB hr hu (by rintro b (h | ⟨h1, h2, _⟩); exact .inl h; exact .inr ⟨h1, h2⟩) (by rintro (h | ⟨_, _, h⟩); (have := hF _ h; omega); exact h rfl) hr1 (by omega) h12

end Go.Proofs.YtjkinpbfmihhdaaGreat
