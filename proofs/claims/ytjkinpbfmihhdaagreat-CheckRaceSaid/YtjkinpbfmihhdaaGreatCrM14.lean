/- Some of our texts, one behind the other. -/
import Derived.Test.YtjkinpbfmihhdaaGreatCrM4
import Derived.Test.YtjkinpbfmihhdaaGreatCrChecks
import Derived.Test.YtjkinpbfmihhdaaGreatCrM11
import Derived.Test.YtjkinpbfmihhdaaGreatCrM10
set_option linter.all false
/- A region that draws its order, with stores into two cells of ours beside values. -/
namespace Go.Proofs.YtjkinpbfmihhdaaGreat
open Go.RowKit

/-- What an operation comes to: a value, or a store into the k-th of some old blocks. -/
inductive FP where
  | val (c : Value)
  | put (k : Nat) (c : Array Value) (T : TypeId)

def FP.v : FP → Value
  | .val c => c
  | .put _ _ _ => undef

def FP.slot : FP → Option Nat
  | .put k _ _ => some k
  | .val _ => none

def FP.mk (bs : List Nat) (w' w'' : World) : FP → Prop
  | .val _ => Below w'.heap.size w' w''
  | .put k c T => ∃ b, bs[k]? = some b ∧ Upd w' w'' b (.cells c T (0, 0))

def fct : List FP → Nat → FP
  | [], _ => .val undef
  | f :: _, 0 => f
  | _ :: l, n + 1 => fct l n

def putsOk (L : List Oper) (sl : Nat → Option Nat) : Bool :=
  distinct L && L.zipIdx.all fun (o, i) => (o.after.toList.all fun e => !Region.binds .any e || decide (e.on < i)) &&
    (match sl i with
     | none => true
     | some k => (List.range L.length).all fun j => decide (j = i) || !(sl j == some k))

section
variable {P : Program} {Q : Exit → Act → World → Prop} {L : List Oper} {a : Act} {w : World} {fl : List FP} {bs : List Nat}
theorem putsOk_at {sl : Nat → Option Nat} (h : putsOk L sl = true) {i : Nat} {o : Oper} (hi : L[i]? = some o) :
    (∀ e, e ∈ o.after → Region.binds .any e = true → e.on < i) ∧ ∀ k, sl i = some k → ∀ j, j < L.length → j ≠ i → sl j ≠ some k := by
  simp only [putsOk, Bool.and_eq_true] at h
  have hm : (o, i) ∈ L.zipIdx := by
    rw [List.mem_iff_getElem?]
    exact ⟨i, by simp [hi]⟩
  have h2 := List.all_eq_true.1 h.2 _ hm
  simp only [Bool.and_eq_true] at h2
  refine ⟨fun e he hb => ?_, fun k hk j hj hne hs => ?_⟩
  · have := List.all_eq_true.1 h2.1 e (by simpa using he)
    simpa [hb] using this
  · have h3 := h2.2
    rw [hk] at h3
    have := List.all_eq_true.1 h3 j (List.mem_range.2 hj)
    rw [hs] at this
    simp [hne] at this

structure PInv (L : List Oper) (fl : List FP) (bs : List Nat) (a : Act) (w0 : World) (listed : Array Bool) (g : Nat → Value) (a' : Act) (w' : World) : Prop where
  act : a' = puts L g 0 a
  closed : ∀ i o, L[i]? = some o → listed.getD i false = true → ∀ e, e ∈ o.after → Region.binds .any e = true → listed.getD e.on false = true
  os : w'.os = w0.os
  tape : w'.tape = w0.tape
  output : w'.output = w0.output
  size : w0.heap.size ≤ w'.heap.size
  old : ∀ b, b < w0.heap.size → b ∉ bs → w'.heap[b]? = w0.heap[b]?
  vals : ∀ i, i < L.length → listed.getD i false = true → g i = (fct fl i).v
  un : ∀ k b, bs[k]? = some b → (∀ i, i < L.length → listed.getD i false = true → (fct fl i).slot ≠ some k) → w'.heap[b]? = w0.heap[b]?
  done : ∀ i k c T b, i < L.length → listed.getD i false = true → fct fl i = .put k c T → bs[k]? = some b → w'.heap[b]? = some (.cells c T (0, 0))

def EachP (P : Program) (L : List Oper) (fl : List FP) (bs : List Nat) (a : Act) (w0 : World) : List Oper → Nat → Prop
  | [], _ => True
  | o :: l, i => (∀ g w', Chg (fun b => b ∈ bs) w0 w' → (∀ j, awaits o j = true → g j = (fct fl j).v) → (∀ k b, (fct fl i).slot = some k → bs[k]? = some b → w'.heap[b]? = w0.heap[b]?) →
      YieldsG P L.toArray o (puts L g 0 a) w' fun v w'' => v = (fct fl i).v ∧ (fct fl i).mk bs w' w'') ∧ EachP P L fl bs a w0 l (i + 1)

theorem eachP_at {w0 : World} : ∀ (l : List Oper) (k i : Nat) (o : Oper), EachP P L fl bs a w0 l k → l[i]? = some o →
    (∀ g w', Chg (fun b => b ∈ bs) w0 w' → (∀ j, awaits o j = true → g j = (fct fl j).v) → (∀ k' b, (fct fl (k + i)).slot = some k' → bs[k']? = some b → w'.heap[b]? = w0.heap[b]?) →
      YieldsG P L.toArray o (puts L g 0 a) w' fun v w'' => v = (fct fl (k + i)).v ∧ (fct fl (k + i)).mk bs w' w'')
  | [], _, _, _, _, h => by simp at h
  | p :: l, k, 0, o, hE, h => by
    simp only [List.getElem?_cons_zero, Option.some.injEq] at h
    subst h
    exact hE.1
  | p :: l, k, i + 1, o, hE, h => by
    simp only [List.getElem?_cons_succ] at h
    have := eachP_at l (k + 1) i o hE.2 h
    rw [show k + 1 + i = k + (i + 1) from by omega] at this
    exact this

theorem any_puts (hSB : ∀ b, b ∈ bs → b < w.heap.size) (hnd : ∀ (k k' b : Nat), bs[k]? = some b → bs[k']? = some b → k = k') (hs : putsOk L (fun i => (fct fl i).slot) = true) (he : EachP P L fl bs a { w with drawn := w.drawn + 1 } L 0)
    (hl : ∀ g w', Chg (fun b => b ∈ bs) w w' → (∀ i, i < L.length → g i = (fct fl i).v) → (∀ i k c T b, i < L.length → fct fl i = .put k c T → bs[k]? = some b → w'.heap[b]? = some (.cells c T (0, 0))) → Q .normal (puts L g 0 a) w') :
    wpAny P .any L.toArray Q L.toArray.size (Array.replicate L.toArray.size false) a { w with drawn := w.drawn + 1 } := by
  have hdist : distinct L = true := by simp only [putsOk, Bool.and_eq_true] at hs; exact hs.1
  refine wpAny_inv (fun listed a' w' => listed.size = L.length ∧ ∃ g, PInv L fl bs a { w with drawn := w.drawn + 1 } listed g a' w') ?_ ?_ _ _ _ _ ?_ ?_
  · rintro listed a' w' i o ⟨hsz, g, hI⟩ ho h0 hall
    have ho : L[i]? = some o := by simpa using ho
    have hil : i < L.length := (List.getElem?_eq_some_iff.1 ho).1
    obtain ⟨hback, hput⟩ := putsOk_at hs ho
    have hf : listed.getD i false = false := by rw [getD_of (by omega) false true]; exact h0
    have hdep : ∀ j, awaits o j = true → listed.getD j false = true ∧ j < L.length := by
      intro j hj
      obtain ⟨e, hem, heb, rfl⟩ := zz6i hj
      exact ⟨hall e hem heb, by have := hback e hem heb; omega⟩
    have hsize : w.heap.size ≤ w'.heap.size := hI.size
    have hy := eachP_at L 0 i o he ho g w' ⟨hI.os, hI.tape, hI.output, hI.size, fun b hb hn => hI.old b hb hn⟩ (fun j hj => hI.vals j (hdep j hj).2 (hdep j hj).1)
      (fun k b hk hb => hI.un k b hb fun j hj hlj hjk => by
        rw [Nat.zero_add] at hk
        by_cases e : j = i
        · subst e; rw [hf] at hlj; cases hlj
        · exact hput k hk j hj e hjk)
    rw [Nat.zero_add] at hy
    rw [hI.act]
    refine hy.wp fun v w'' hmk => ⟨by simpa using hsz, (fun j => if j = i then v else g j), ?_⟩
    obtain ⟨hv, hmk⟩ := hmk
    have hos : w''.os = w'.os ∧ w''.tape = w'.tape ∧ w''.output = w'.output ∧ w'.heap.size ≤ w''.heap.size := by
      cases hc : fct fl i with
      | val c => rw [hc] at hmk; exact ⟨hmk.os, hmk.tape, hmk.output, hmk.size⟩
      | put k c T => rw [hc] at hmk; obtain ⟨b, _, hu⟩ := hmk; exact ⟨hu.os, hu.tape, hu.output, Nat.le_of_eq hu.size.symm⟩
    have hoth : ∀ b, b < w'.heap.size → (∀ k, (fct fl i).slot = some k → bs[k]? ≠ some b) → w''.heap[b]? = w'.heap[b]? := by
      intro b hb hne
      cases hc : fct fl i with
      | val c => rw [hc] at hmk; exact hmk.block b hb
      | put k c T =>
        rw [hc] at hmk hne
        obtain ⟨b', hb', hu⟩ := hmk
        exact hu.other b fun e => hne k rfl (e ▸ hb')
    have hlt : ∀ k b, bs[k]? = some b → b < w'.heap.size := fun k b hb => Nat.lt_of_lt_of_le (hSB b (List.mem_of_getElem? hb)) hsize
    constructor
    · rw [puts_upd _ _ _ _ i _ _ hdist ho]
      refine puts_congr _ _ _ _ _ fun j _ => ?_
      rw [Nat.zero_add]
    · intro q oq hq hlq e hee heb
      by_cases hqi : q = i
      · subst hqi
        rw [hq] at ho
        cases ho
        exact getD_set_true (hall e hee heb)
      · exact getD_set_true (hI.closed q oq hq (getD_ne hlq hqi) e hee heb)
    · exact hos.1.trans hI.os
    · exact hos.2.1.trans hI.tape
    · exact hos.2.2.1.trans hI.output
    · exact Nat.le_trans hI.size hos.2.2.2
    · intro b hb hn
      rw [hoth b (Nat.lt_of_lt_of_le hb hI.size) (fun k _ hk => hn (List.mem_of_getElem? hk)), hI.old b hb hn]
    · intro j hjl hlj
      by_cases hji : j = i
      · subst hji
        rw [if_pos rfl]; exact hv
      · rw [if_neg hji]; exact hI.vals j hjl (getD_ne hlj hji)
    · intro k b hkb hno
      rw [hoth b (hlt k b hkb) (fun k' hk' hb' => ?_), hI.un k b hkb (fun j hj hlj => hno j hj (getD_set_true hlj))]
      obtain rfl := hnd k' k b hb' hkb
      exact hno i hil (by simp [hsz, hil]) hk'
    · intro j k c T b hjl hlj hfj hb
      by_cases hji : j = i
      · subst hji
        rw [hfj] at hmk
        obtain ⟨b', hb', hu⟩ := hmk
        rw [hb] at hb'
        obtain rfl := Option.some.inj hb'
        exact hu.at_
      · rw [hoth b (hlt k b hb) (fun k' hk' hb' => ?_)]
        · exact hI.done j k c T b hjl (getD_ne hlj hji) hfj hb
        · obtain rfl := hnd k' k b hb' hb
          exact hput k' hk' j hjl hji (by rw [hfj]; rfl)
  · rintro listed a' w' ⟨hsz, g, hI⟩ hr
    have hall : ∀ i, i < L.length → listed.getD i false = true := by
      intro i
      induction i using Nat.strongRecOn with
      | _ i ih =>
        intro hi
        cases hc : listed.getD i false with
        | true => rfl
        | false =>
          exfalso
          have hm : i ∈ Region.ready .any L.toArray listed := by
            refine mem_ready.2 ⟨?_, L[i], by simp [hi], ?_⟩
            · rw [getD_of (by omega) true false]; exact hc
            · intro e he heb
              have := (putsOk_at hs (i := i) (o := L[i]) (by simp [hi])).1 e he heb
              exact ih e.on this (by omega)
          rw [hr] at hm
          cases hm
    rw [hI.act]
    exact hl g w' ⟨hI.os, hI.tape, hI.output, hI.size, fun b hb hn => hI.old b hb hn⟩ (fun i hi => hI.vals i hi (hall i hi)) fun i k c T b hi hf hb => hI.done i k c T b hi (hall i hi) hf hb
  · have : ∀ n (b : Array Bool), left n b ≤ n := fun n b => by
      unfold left
      exact Nat.le_trans (List.length_filter_le _ _) (by simp)
    exact this _ _
  · refine ⟨by simp, start L a, ?_⟩
    constructor
    · refine (puts_start a _ _ _ fun i oi hoi => ?_).symm
      simp only [start, Nat.zero_add, hoi]
    · intro i o _ h; rw [zz36] at h; cases h
    · rfl
    · rfl
    · rfl
    · exact Nat.le_refl _
    · intro b _ _; rfl
    · intro i _ h; rw [zz36] at h; cases h
    · intro k b _ _; rfl
    · intro i k c T b _ h; rw [zz36] at h; cases h

variable {N : Nat} {s : SL}
theorem wp_putsP {id : Nat} (bs : List Nat) (fl : List FP) (hm : P.follows .mixedOrders = true) (r : Fr a N s) (hSB : ∀ b, b ∈ bs → b < w.heap.size) (hnd : ∀ (k k' b : Nat), bs[k]? = some b → bs[k']? = some b → k = k')
    (hs : (putsOk L (fun i => (fct fl i).slot) && dstsIn N L) = true) (he : EachP P L fl bs a { w with drawn := w.drawn + 1 } L 0)
    (hl : ∀ a' g w', Chg (fun b => b ∈ bs) w w' → (∀ i, Nat.ble (i + 1) L.length = true → g i = (fct fl i).v) → (∀ i k c T b, Nat.ble (i + 1) L.length = true → fct fl i = .put k c T → bs[k]? = some b → w'.heap[b]? = some (.cells c T (0, 0))) →
      Fr a' N (putsS L g 0 s) → Q .normal a' w') : (Code.region id L.toArray true).wp P Q a w := by
  simp only [Bool.and_eq_true] at hs
  exact wp_region_any hm (any_puts hSB hnd hs.1 he fun g w' h1 h2 h3 => hl _ g w' h1 (fun i hi => h2 i (Nat.le_of_ble_eq_true hi)) (fun i k c T b hi => h3 i k c T b (Nat.le_of_ble_eq_true hi)) (r.puts L _ 0 hs.2))

theorem eachP_nil {i : Nat} : EachP P L fl bs a w [] i := trivial

theorem zz3n {o : Oper} {l : List Oper} {i : Nat} {c : Value} (r : Fr a N s) (hc : fct fl i = .val c) (hd : (o.guard.isNone && dstsIn N L) = true)
    (h : ∀ a' g w', Chg (fun b => b ∈ bs) w w' → (∀ j, awaits o j = true → g j = (fct fl j).v) → Fr a' N (putsS L g 0 s) → Yields P o a' w' fun v w'' => Below w'.heap.size w' w'' ∧ v = c)
    (h2 : EachP P L fl bs a w l (i + 1)) : EachP P L fl bs a w (o :: l) i := by
  simp only [Bool.and_eq_true] at hd
  refine ⟨fun g w' h1 h3 _ => .plain hd.1 ?_, h2⟩
  refine (h _ g w' h1 h3 (r.puts L _ 0 hd.2)).mono fun v w'' hq => ?_
  rw [hc]
  exact ⟨hq.2, hq.1⟩

theorem eachP_put {o : Oper} {l : List Oper} {i k b : Nat} {c : Array Value} {T : TypeId} (r : Fr a N s) (hc : fct fl i = .put k c T) (hb : bs[k]? = some b) (hd : (o.guard.isNone && dstsIn N L) = true)
    (h : ∀ a' g w', Chg (fun b => b ∈ bs) w w' → (∀ j, awaits o j = true → g j = (fct fl j).v) → Fr a' N (putsS L g 0 s) → w'.heap[b]? = w.heap[b]? → Yields P o a' w' fun v w'' => Upd w' w'' b (.cells c T (0, 0)) ∧ v = undef)
    (h2 : EachP P L fl bs a w l (i + 1)) : EachP P L fl bs a w (o :: l) i := by
  simp only [Bool.and_eq_true] at hd
  refine ⟨fun g w' h1 h3 h4 => .plain hd.1 ?_, h2⟩
  refine (h _ g w' h1 h3 (r.puts L _ 0 hd.2) (h4 k b (by rw [hc]; rfl) hb)).mono fun v w'' hq => ?_
  rw [hc]
  exact ⟨hq.2, b, hb, hq.1⟩

theorem eachP_want {o : Oper} {l : List Oper} {i j d : Nat} {c : Value} (want : Bool) (r : Fr a N s) (hc : fct fl i = .val c) (hg : o.guard = some (j, want)) (hj : (L.toArray[j]?).bind (·.dst) = some d)
    (hd : (Nat.ble (d + 1) N && dstsIn N L) = true)
    (hv : ∀ g, (∀ j, awaits o j = true → g j = (fct fl j).v) → look (putsS L g 0 s) d = .bool want)
    (h : ∀ a' g w', Chg (fun b => b ∈ bs) w w' → (∀ j, awaits o j = true → g j = (fct fl j).v) → Fr a' N (putsS L g 0 s) → Yields P { o with guard := none } a' w' fun v w'' => Below w'.heap.size w' w'' ∧ v = c)
    (h2 : EachP P L fl bs a w l (i + 1)) : EachP P L fl bs a w (o :: l) i := by
  simp only [Bool.and_eq_true] at hd
  refine ⟨fun g w' h1 h3 _ => ?_, h2⟩
  have hr := r.puts L g 0 hd.2
  have hy := zz6b (ops := L.toArray) hr hj (hv g h3) (Nat.le_of_ble_eq_true hd.1)
  unfold YieldsG
  rw [if_pos (by simp only [Region.wanted, hg, hy, boolOf, beq_self_eq_true])]
  show Yields P { o with guard := none } _ _ _
  refine (h _ g w' h1 h3 hr).mono fun v w'' hq => ?_
  rw [hc]
  exact ⟨hq.2, hq.1⟩

theorem eachP_skip {o : Oper} {l : List Oper} {i j d : Nat} (want : Bool) (v : Value) (r : Fr a N s) (hc : fct fl i = .val undef) (hg : o.guard = some (j, want)) (hj : (L.toArray[j]?).bind (·.dst) = some d)
    (hd : (Nat.ble (d + 1) N && dstsIn N L) = true)
    (hv : ∀ g, (∀ j, awaits o j = true → g j = (fct fl j).v) → look (putsS L g 0 s) d = v)
    (hn : boolOf v ≠ some want) (h2 : EachP P L fl bs a w l (i + 1)) : EachP P L fl bs a w (o :: l) i := by
  simp only [Bool.and_eq_true] at hd
  refine ⟨fun g w' h1 h3 _ => ?_, h2⟩
  have hr := r.puts L g 0 hd.2
  have hy := zz6b (ops := L.toArray) hr hj (hv g h3) (Nat.le_of_ble_eq_true hd.1)
  unfold YieldsG
  rw [if_neg (by
    simp only [Region.wanted, hg, hy]
    exact fun h => hn (eq_of_beq h)), hc]
  exact ⟨rfl, Below.refl _ _⟩

end
/-! ### Chunks -/
section
variable {L : List Ck} {d : Ck} {w w' w0 : World} {i i1 i2 b1 b2 : Nat} {a1 a2 c1 c2 : Array Value} {T1 T2 S1 S2 : TypeId} {Z : Nat → Prop}
theorem Post.cne (h : Post Z L w0 w) (h1 : L[i1]? = some (cellC b1 a1 T1)) (h2 : L[i2]? = some (cellC b2 a2 T2)) (hn : (i1 == i2) = false) : b1 ≠ b2 := fun e =>
  (h.sep.clear h1 h2 (by simpa using hn)).1 b1 (List.mem_singleton.2 rfl) (.inl (List.mem_singleton.2 e))

theorem nd2 (h : b1 ≠ b2) : ∀ (k k' b : Nat), [b1, b2][k]? = some b → [b1, b2][k']? = some b → k = k' := by
  intro k k' b hk hk'
  match k, k' with
  | 0, 0 => rfl
  | 1, 1 => rfl
  | 0, 1 => simp at hk hk'; omega
  | 1, 0 => simp at hk hk'; omega
  | k + 2, _ => simp at hk
  | 0, k + 2 => simp at hk'
  | 1, k + 2 => simp at hk'

theorem Post.lt2 (h : Post Z L w0 w) (h1 : L[i1]? = some (cellC b1 a1 T1)) (h2 : L[i2]? = some (cellC b2 a2 T2)) : ∀ b, b ∈ [b1, b2] → b < w.heap.size := by
  intro b hb
  simp only [List.mem_cons, List.not_mem_nil, or_false] at hb
  rcases hb with rfl | rfl
  · exact h.sep.lt h1 (.inl (List.mem_singleton.2 rfl))
  · exact h.sep.lt h2 (.inl (List.mem_singleton.2 rfl))

theorem Post.okP (h : Post Z L w0 w) (h1 : L[i1]? = some (cellC b1 a1 T1)) (h2 : L[i2]? = some (cellC b2 a2 T2)) (hk : Chg (fun b => b ∈ [b1, b2]) w w') (hi : L[i]? = some d) (n1 : (i1 == i) = false) (n2 : (i2 == i) = false) : d.ok w' := by
  have c1 := (h.sep.clear h1 hi (by simpa using n1)).1
  have c2 := (h.sep.clear h2 hi (by simpa using n2)).1
  refine d.st w w' (fun b hb => hk.block b (h.sep.lt hi hb) fun hc => ?_) hk.size (h.sep.get hi)
  simp only [List.mem_cons, List.not_mem_nil, or_false] at hc
  rcases hc with rfl | rfl
  · exact c1 b (List.mem_singleton.2 rfl) hb
  · exact c2 b (List.mem_singleton.2 rfl) hb

theorem Post.cellP {b : Nat} {a : Array Value} {T : TypeId} (h : Post Z L w0 w) (h1 : L[i1]? = some (cellC b1 a1 T1)) (h2 : L[i2]? = some (cellC b2 a2 T2)) (hk : Chg (fun b => b ∈ [b1, b2]) w w') (hi : L[i]? = some (cellC b a T)) (n1 : (i1 == i) = false) (n2 : (i2 == i) = false) : w'.heap[b]? = some (.cells a T (0, 0)) :=
  h.okP h1 h2 hk hi n1 n2

theorem Sep.reL {w w' : World} (hz : w.heap.size ≤ w'.heap.size) : ∀ (L L' : List Ck), Sep L w → L'.length = L.length → (∀ (j : Nat) (c c' : Ck), L[j]? = some c → L'[j]? = some c' → c'.own = c.own ∧ c'.ro = c.ro ∧ c'.ok w') → Sep L' w'
  | [], [], _, _, _ => trivial
  | [], _ :: _, _, h, _ => by simp at h
  | _ :: _, [], _, h, _ => by simp at h
  | c :: L, c' :: L', hs, hl, hj => by
    obtain ⟨e1, e2, e3⟩ := hj 0 c c' rfl rfl
    refine ⟨e3, fun b hb => Nat.lt_of_lt_of_le (hs.2.1 b (by unfold Ck.has at *; rw [← e1, ← e2]; exact hb)) hz, fun d' hd' => ?_, Sep.reL hz L L' hs.2.2.2 (by simpa using hl) fun j d d' h1 h2 => hj (j + 1) d d' (by simpa using h1) (by simpa using h2)⟩
    obtain ⟨j, hj'⟩ := List.mem_iff_getElem?.1 hd'
    have hlt : j < L.length := by
      have := (List.getElem?_eq_some_iff.1 hj').1
      simp at hl; omega
    obtain ⟨q1, q2, _⟩ := hj (j + 1) L[j] d' (by simp [hlt]) (by simpa using hj')
    have hc := hs.2.2.1 L[j] (List.getElem_mem hlt)
    unfold Ck.clear Ck.has at *
    rw [q1, q2, e1, e2]
    exact hc

theorem Post.put2 (h : Post Z L w0 w) (h1 : L[i1]? = some (cellC b1 a1 T1)) (h2 : L[i2]? = some (cellC b2 a2 T2)) (hn : (i1 == i2) = false) (hk : Chg (fun b => b ∈ [b1, b2]) w w') (e1 : w'.heap[b1]? = some (.cells c1 S1 (0, 0))) (e2 : w'.heap[b2]? = some (.cells c2 S2 (0, 0))) :
    Post Z ((L.set i1 (cellC b1 c1 S1)).set i2 (cellC b2 c2 S2)) w0 w' := by
  have hne : i1 ≠ i2 := by simpa using hn
  have l1 := (List.getElem?_eq_some_iff.1 h1).1
  have l2 := (List.getElem?_eq_some_iff.1 h2).1
  have key : ∀ (j : Nat) (c c' : Ck), L[j]? = some c → ((L.set i1 (cellC b1 c1 S1)).set i2 (cellC b2 c2 S2))[j]? = some c' → c'.own = c.own ∧ c'.ro = c.ro ∧ c'.ok w' := by
    intro j c c' hc hc'
    rw [List.getElem?_set] at hc'
    by_cases e : i2 = j
    · subst e
      rw [if_pos rfl, if_pos (by simpa using l2)] at hc'
      rw [h2] at hc
      obtain rfl := Option.some.inj hc
      obtain rfl := Option.some.inj hc'
      exact ⟨rfl, rfl, e2⟩
    · rw [if_neg e, List.getElem?_set] at hc'
      by_cases e' : i1 = j
      · subst e'
        rw [if_pos rfl, if_pos l1] at hc'
        rw [h1] at hc
        obtain rfl := Option.some.inj hc
        obtain rfl := Option.some.inj hc'
        exact ⟨rfl, rfl, e1⟩
      · rw [if_neg e', hc] at hc'
        obtain rfl := Option.some.inj hc'
        exact ⟨rfl, rfl, h.okP h1 h2 hk hc (by simpa using e') (by simpa using e)⟩
  refine ⟨Sep.reL hk.size L _ h.sep (by simp) key, h.chg.trans hk (fun b hb hz => ?_), fun c hc b hb => ?_⟩
  · simp only [List.mem_cons, List.not_mem_nil, or_false] at hz
    rcases hz with rfl | rfl
    · exact (h.mine _ (List.mem_of_getElem? h1) b (List.mem_singleton.2 rfl)).resolve_right (by omega)
    · exact (h.mine _ (List.mem_of_getElem? h2) b (List.mem_singleton.2 rfl)).resolve_right (by omega)
  · obtain ⟨j, hj⟩ := List.mem_iff_getElem?.1 hc
    have hlt : j < L.length := by
      have := (List.getElem?_eq_some_iff.1 hj).1
      simpa using this
    obtain ⟨q1, _, _⟩ := key j L[j] c (by simp [hlt]) hj
    rw [q1] at hb
    exact h.mine _ (List.getElem_mem hlt) b hb

end
theorem ret_cell2_tmp {P : Program} {fn : Func} {a : Act} {n : Nat} {s : SL} (h : Fr a n s) {R : Ending → World → Prop} {w : World} {t t1 t2 : Tmp} {ty ty1 : TypeId} {b b1 : Nat} {c c1 : Array Value} {E E1 : TypeId} {fz fz1 : Nat × Nat} {k k1 : Nat} {v2 : Value} (hf : fn.results = #[.cell t ty, .cell t1 ty1, .tmp t2])
    (hv : look s t = .pointer (some ⟨b, 0, none⟩)) (hv1 : look s t1 = .pointer (some ⟨b1, 0, none⟩)) (hv2 : look s t2 = v2) (hb : w.heap[b]? = some (.cells c E fz)) (hk : c.size = k) (ht : tyA P ty k = true) (hb1 : w.heap[b1]? = some (.cells c1 E1 fz1)) (hk1 : c1.size = k1) (ht1 : tyA P ty1 k1 = true)
    (hR : R (.returned (.tuple #[.agg c, .agg c1, v2])) w) : bodyPost P fn R .ret a w := by
  refine ⟨h.defers, _, ?_, hR⟩
  subst hk; subst hk1; subst hv2
  have hl : (loadVar ty ⟨b, 0, none⟩).run P w = .ok (.agg c) w := by
    have := zz4l (P := P) (t := ty) (zz6j hb (o := 0) (n := c.size) (cs := c.toList) (by rw [List.drop_zero]; exact List.take_of_length_le (by simp))) (by simpa using ht)
    simpa using this
  have hl1 : (loadVar ty1 ⟨b1, 0, none⟩).run P w = .ok (.agg c1) w := by
    have := zz4l (P := P) (t := ty1) (zz6j hb1 (o := 0) (n := c1.size) (cs := c1.toList) (by rw [List.drop_zero]; exact List.take_of_length_le (by simp))) (by simpa using ht1)
    simpa using this
  simp [results, hf, h.slot, hv, hv1, asAddr, hl, hl1]

theorem Sep.beside2 {N1 N2 L : List Ck} {lo1 hi1 lo2 hi2 B : Nat} {w : World} (h1 : Fresh N1 lo1 hi1 w) (h2 : Fresh N2 lo2 hi2 w) (hd : hi1 ≤ lo2 ∨ hi2 ≤ lo1) (hL : Sep L w) (h3 : ∀ c, c ∈ L → ∀ b, c.has b → b < B) (hB1 : B ≤ lo1) (hB2 : B ≤ lo2) : Sep (N1 ++ (N2 ++ L)) w := by
  refine h1.1.append (Sep.beside h2 hL h3 hB2) fun c hc d hd' => ?_
  have hc2 : ∀ b, c.has b → ¬ d.has b := fun b hb hb' => by
    have q1 := h1.2 c hc b hb
    rcases List.mem_append.1 hd' with hm | hm
    · have q2 := h2.2 d hm b hb'; omega
    · have q2 := h3 d hm b hb'; omega
  exact ⟨fun b hb hb' => hc2 b (.inl hb) hb', fun b hb hb' => hc2 b hb' (.inl hb)⟩

end Go.Proofs.YtjkinpbfmihhdaaGreat

/- Written by a program of ours (wip/gen.py): layer 13 -/
set_option linter.unusedVariables false
set_option maxRecDepth 20000
set_option maxHeartbeats 2000000
namespace Go.Proofs.YtjkinpbfmihhdaaGreat
open Go.RowKit
theorem cl29 : callable Tryz.prog 29 = true := by kernel_rfl

theorem cl30 : callable Tryz.prog 30 = true := by kernel_rfl

theorem cl33 : callable Tryz.prog 33 = true := by kernel_rfl

theorem cl34 : callable Tryz.prog 34 = true := by kernel_rfl

theorem cl36 : callable Tryz.prog 36 = true := by kernel_rfl

theorem cl40 : callable Tryz.prog 40 = true := by kernel_rfl

theorem fo32_0 : fieldOff Tryz.prog 32 0 0 = true := by kernel_rfl

theorem fo32_1 : fieldOff Tryz.prog 32 1 1 = true := by kernel_rfl

theorem is55 : isSlice Tryz.prog 55 = true := by kernel_rfl

theorem sl55 : sliceTy Tryz.prog 55 1 = true := by kernel_rfl

def D.zz1a  : Plan := (⟨2, 1, 4, 0, 1, 1⟩ : Plan)

theorem zz5d (w0 : World) 
     :
    Calls Tryz.prog 40 #[] w0 (PureRes (.agg (planC D.zz1a).toArray) w0) := by
 refine enter Tryz.func40 rfl 2 rfl rfl fun fr r => ?_
 have hB := Below.refl w0.heap.size w0
 refine wsr ?_
 refine seq_new (.cells ((planC (⟨0, 0, 0, 0, 0, 0⟩ : Plan))).toArray 25 (0, 0)) r (fun R => y_alloc tz25) rfl fun fr b1 w2 n3 r => ?_
 obtain ⟨e_b1, z_w2, h_b1, hB, zB⟩ := n3.all hB
 refine wn ?_
 refine wsr ?_
 refine seq_val (.agg (planC (⟨2, 1, 4, 0, 1, 1⟩ : Plan)).toArray) r (fun R => y_build r (by kernel_rfl)) rfl fun fr r => ?_
 refine seq_upd (.cells ((planC (⟨2, 1, 4, 0, 1, 1⟩ : Plan))).toArray 25 (0, 0)) r (fun R => y_store r (o := 0) (v := (.agg (planC (⟨2, 1, 4, 0, 1, 1⟩ : Plan)).toArray)) rfl rfl h_b1 ts25 (Nat.le_of_ble_eq_true rfl) rfl rfl) rfl fun fr w4 u5 r => ?_
 have z_w4 := u5.size
 have h_b1 := u5.at_
 obtain ⟨hB, zB⟩ := u5.on hB (by omega)
 refine wn ?_
 refine wp_ret ?_
 refine zz0a r rfl rfl h_b1 (k := 6) rfl ta25 ?_
 exact ⟨rfl, hB⟩

def D.zz2r (fu : Nat)  : Option (Bool) := ((D.zz32 fu D.zz1a).bind (fun (x2 : Mem) => ((D.zz1g fu x2 0).bind (fun (x11 : Cap) => ((D.zz2z fu (fu, (D.zz1q (fu + 1) (⟨D.zz1a, 0, 0⟩ : Seat))) x2 x11 99).bind (fun (x13 : Res × Int × Bool × Mem) => (Option.bind (bif x13.2.2.1 then (bif (x13.1.e == 0) then (some (decide (x13.1.v > 0))) else (some false)) else (some false)) (fun (x24 : Bool) => (some x24)))))))))

theorem zz5k {fu : Nat} (w0 : World) {res : Bool} (hD : D.zz2r fu  = some res) :
    Calls Tryz.prog 27 #[] w0 (PureRes (.bool res) w0) := by
 refine enter Tryz.func27 rfl 31 rfl rfl fun fr r => ?_
 have hP : Post No [] w0 w0 := Post.nil w0
 unfold D.zz2r at hD
 refine wsr ?_
 refine seq_val (.bool false) r (fun R => zz04 r rfl) rfl fun fr r => ?_
 refine wn ?_
 refine wsr ?_
 refine zz06 r (zz5d w0 ) (fun R hc => y_call r rfl cl40 hc) rfl ?_
 rintro _ w1 ⟨rfl, hb⟩
 refine ⟨_, rfl, fun fr r => ?_⟩
 have hP : Post No [] w0 w1 := hP.below hb
 obtain ⟨x2, hx2, hD⟩ := zz0i hD
 refine zz06 r (zz5s w1 D.zz1a hx2) (fun R hc => y_call r rfl cl28 hc) rfl ?_
 rintro _ w3 ⟨mg4, rfl, hq⟩
 refine ⟨_, rfl, fun fr r => ?_⟩
 have hP : Post No [memK mg4 x2] w0 w3 := hP.add hq
 refine seq_val (.pointer (some ⟨mg4.mb, 0, none⟩)) r (fun R => zz04 r rfl) rfl fun fr r => ?_
 refine wn ?_
 refine wp_seq ?_
 refine wsr ?_
 refine seq_val (.pointer (some ⟨mg4.mb, 0, none⟩)) r (fun R => y_move r rfl) rfl fun fr r => ?_
 refine seq_val _ r (fun R => y_bin r rfl rfl rfl rfl) rfl fun fr r => ?_
 refine wn ?_
 refine wp_cond_split (t := false) (r.ev rfl) (fun h => absurd ((rfl : false = _).symm.trans h) (by decide)) (fun _ => ?_)
 refine wp_skip ?_
 refine wsr ?_
 refine zz06 r (zz5d w3 ) (fun R hc => y_call r rfl cl40 hc) rfl ?_
 rintro _ w6 ⟨rfl, hb⟩
 refine ⟨_, rfl, fun fr r => ?_⟩
 have hP : Post No [memK mg4 x2] w0 w6 := hP.below hb
 refine seq_val (.agg (seatC (⟨D.zz1a, 0, 0⟩ : Seat)).toArray) r (fun R => y_build r (by kernel_rfl)) rfl fun fr r => ?_
 refine zz06 r (c_check_New (F := No) (n := fu) (j := fu + 1) (fun _ h => h.elim) (by omega) (⟨D.zz1a, 0, 0⟩ : Seat)) (fun R hc => y_call r rfl cl30 hc) rfl ?_
 rintro _ w7 ⟨v8, rfl, hb, hr9⟩
 refine ⟨_, rfl, fun fr r => ?_⟩
 have hP : Post No [memK mg4 x2, progK Tryz.prog encRes (fu, (D.zz1q (fu + 1) (⟨D.zz1a, 0, 0⟩ : Seat))) v8 (rg w6.heap.size w7.heap.size)] w0 w7 := hP.addProg hb hr9
 refine seq_val (.pointer (some ⟨mg4.mb, 0, none⟩)) r (fun R => y_move r rfl) rfl fun fr r => ?_
 refine seq_val (.pointer (some ⟨mg4.mb, 0, none⟩)) r (fun R => y_move r rfl) rfl fun fr r => ?_
 obtain ⟨x11, hx11, hD⟩ := zz0i hD
 refine zz06 r (zz28 w7 x2 (hP.mem (i := 0) rfl) 0 hx11) (fun R hc => y_call r rfl cl31 hc) rfl ?_
 rintro _ w12 ⟨rfl, hb⟩
 refine ⟨_, rfl, fun fr r => ?_⟩
 have hP : Post No [memK mg4 x2, progK Tryz.prog encRes (fu, (D.zz1q (fu + 1) (⟨D.zz1a, 0, 0⟩ : Seat))) v8 (rg w6.heap.size w7.heap.size)] w0 w12 := hP.below hb
 obtain ⟨x13, hx13, hD⟩ := zz0i hD
 refine zz06 r (zz42 w12 (fu, (D.zz1q (fu + 1) (⟨D.zz1a, 0, 0⟩ : Seat))) x2 x11 99 (hP.sep.pk [1, 0] rfl rfl) hx13) (fun R hc => y_call r rfl cl29 hc) rfl ?_
 rintro _ w14 ⟨rfl, hq⟩
 refine ⟨_, rfl, fun fr r => ?_⟩
 have hP : Post No [memK mg4 x13.2.2.2, progK Tryz.prog encRes (fu, (D.zz1q (fu + 1) (⟨D.zz1a, 0, 0⟩ : Seat))) v8 (rg w6.heap.size w7.heap.size)] w0 w14 := hP.setN (i := 0) rfl hq
 refine seq_val (.tuple #[(.agg (resC x13.1).toArray), (I x13.2.1), (.bool x13.2.2.1)]) r (fun R => y_move r rfl) rfl fun fr r => ?_
 refine seq_val (.agg (resC x13.1).toArray) r (fun R => zz0t r (vs := #[(.agg (resC x13.1).toArray), (I x13.2.1), (.bool x13.2.2.1)]) rfl rfl) rfl fun fr r => ?_
 refine seq_val (I x13.2.1) r (fun R => zz0t r (vs := #[(.agg (resC x13.1).toArray), (I x13.2.1), (.bool x13.2.2.1)]) rfl rfl) rfl fun fr r => ?_
 refine seq_val (.bool x13.2.2.1) r (fun R => zz0t r (vs := #[(.agg (resC x13.1).toArray), (I x13.2.1), (.bool x13.2.2.1)]) rfl rfl) rfl fun fr r => ?_
 refine seq_new (.cells ((resC (⟨0, 0⟩ : Res))).toArray 32 (0, 0)) r (fun R => y_alloc tz32) rfl fun fr b15 w16 n17 r => ?_
 have hP : Post No [memK mg4 x13.2.2.2, progK Tryz.prog encRes (fu, (D.zz1q (fu + 1) (⟨D.zz1a, 0, 0⟩ : Seat))) v8 (rg w6.heap.size w7.heap.size), cellC b15 ((resC (⟨0, 0⟩ : Res))).toArray 32] w0 w16 := hP.new n17
 refine seq_upd (.cells ((resC x13.1)).toArray 32 (0, 0)) r (fun R => y_store r (o := 0) (v := (.agg (resC x13.1).toArray)) rfl rfl (hP.cell (i := 2) rfl) ts32 (Nat.le_of_ble_eq_true rfl) rfl rfl) rfl fun fr w19 u20 r => ?_
 have hP : Post No [memK mg4 x13.2.2.2, progK Tryz.prog encRes (fu, (D.zz1q (fu + 1) (⟨D.zz1a, 0, 0⟩ : Seat))) v8 (rg w6.heap.size w7.heap.size), cellC b15 ((resC x13.1)).toArray 32] w0 w19 := hP.upd (i := 2) rfl u20
 refine seq_val (I x13.2.1) r (fun R => zz04 r rfl) rfl fun fr r => ?_
 refine seq_val (.bool x13.2.2.1) r (fun R => zz04 r rfl) rfl fun fr r => ?_
 refine wn ?_
 refine wp_seq ?_
 have hP : Post No [memK mg4 x13.2.2.2, cellC b15 ((resC x13.1)).toArray 32] w0 w19 := hP.pick [0, 2] rfl rfl
 refine zz31 (N := 31) (Y := Bool) (G := Unit) (fun x γ => [(1, (.pointer (some ⟨mg4.mb, 0, none⟩))), (8, (.bool false)), (2, (.pointer (some ⟨b15, 0, none⟩))), (4, (.bool x13.2.2.1)), (0, (.bool x))]) (fun x γ w => Post No [memK mg4 x13.2.2.2, cellC b15 ((resC x13.1)).toArray 32] w0 w) hD ?_ ?_
 ·
  rintro y21 RPy21 nxy21 hD
  refine wp_region_lit ?_
  refine seq_val (.bool x13.2.2.1) r (fun R => y_move r rfl) rfl fun fr r => ?_
  refine seq_val (.bool x13.2.2.1) r (fun R => y_move r rfl) rfl fun fr r => ?_
  refine zz0r x13.2.2.1 (fun h22 => ?_) (fun h22 => ?_)
  ·
   have hD := (cond_t h22).symm.trans hD
   refine s1 r h22 ?_
   refine seq_val _ r (fun R => zz02 r (o := 0) rfl fo32_0) rfl fun fr r => ?_
   refine s1 r h22 ?_
   refine seq_val (I x13.1.e) r (fun R => zz01 r rfl (hP.cell (i := 1) rfl) to30 rfl) rfl fun fr r => ?_
   refine s1 r h22 ?_
   refine seq_val _ r (fun R => y_bin r rfl rfl rfl rfl) rfl fun fr r => ?_
   refine seq_val (.bool (x13.1.e == 0)) r (fun R => y_pick r (b := true) (congrArg Value.bool h22) rfl) rfl fun fr r => ?_
   refine seq_val (.bool (x13.1.e == 0)) r (fun R => y_move r rfl) rfl fun fr r => ?_
   refine zz0r (x13.1.e == 0) (fun h23 => ?_) (fun h23 => ?_)
   ·
    have hD := (cond_t h23).symm.trans hD
    refine s1 r h23 ?_
    refine seq_val _ r (fun R => zz02 r (o := 0) rfl fo32_1) rfl fun fr r => ?_
    refine s1 r h23 ?_
    refine seq_val (U x13.1.v) r (fun R => zz01 r rfl (hP.cell (i := 1) rfl) to22 rfl) rfl fun fr r => ?_
    refine s1 r h23 ?_
    refine seq_val _ r (fun R => y_bin r rfl rfl rfl rfl) rfl fun fr r => ?_
    refine seq_val (.bool (decide (x13.1.v > 0))) r (fun R => y_pick r (b := true) (congrArg Value.bool h23) rfl) rfl fun fr r => ?_
    refine seq_val (.bool (decide (x13.1.v > 0))) r (fun R => zz04 r rfl) rfl fun fr r => ?_
    refine wn ?_
    exact nxy21 (decide (x13.1.v > 0)) () _ _ _ hD r (hs_cons rfl (hs_cons rfl (hs_cons rfl (hs_cons rfl (hs_cons rfl hs_nil))))) (hP.pick [0, 1] rfl rfl)
   ·
    have hD := (cond_f h23).symm.trans hD
    refine s0 r h23 fun fr r => ?_
    refine s0 r h23 fun fr r => ?_
    refine s0 r h23 fun fr r => ?_
    refine seq_val (.bool false) r (fun R => y_pick r (b := false) (congrArg Value.bool h23) rfl) rfl fun fr r => ?_
    refine seq_val (.bool false) r (fun R => zz04 r rfl) rfl fun fr r => ?_
    refine wn ?_
    exact nxy21 false () _ _ _ hD r (hs_cons rfl (hs_cons rfl (hs_cons rfl (hs_cons rfl (hs_cons rfl hs_nil))))) (hP.pick [0, 1] rfl rfl)
  ·
   have hD := (cond_f h22).symm.trans hD
   refine s0 r h22 fun fr r => ?_
   refine s0 r h22 fun fr r => ?_
   refine s0 r h22 fun fr r => ?_
   refine seq_val (.bool false) r (fun R => y_pick r (b := false) (congrArg Value.bool h22) rfl) rfl fun fr r => ?_
   refine seq_val (.bool false) r (fun R => y_move r rfl) rfl fun fr r => ?_
   refine s0 r (rfl : false = _) fun fr r => ?_
   refine s0 r (rfl : false = _) fun fr r => ?_
   refine s0 r (rfl : false = _) fun fr r => ?_
   refine seq_val (.bool false) r (fun R => y_pick r (b := false) (congrArg Value.bool (rfl : false = _)) rfl) rfl fun fr r => ?_
   refine seq_val (.bool false) r (fun R => zz04 r rfl) rfl fun fr r => ?_
   refine wn ?_
   exact nxy21 false () _ _ _ hD r (hs_cons rfl (hs_cons rfl (hs_cons rfl (hs_cons rfl (hs_cons rfl hs_nil))))) (hP.pick [0, 1] rfl rfl)
 ·
  rintro x24 γ25 fr w26 g r hP hD
  have hP : Post No [memK mg4 x13.2.2.2, cellC b15 ((resC x13.1)).toArray 32] w0 w26 := hP
  refine wp_ret ?_
  have hv : x24 = res := Option.some.inj hD
  try dsimp only [Exit.then, Exit.inBlock]
  refine ret_tmp (fn := Tryz.f27) r (t := 0) rfl (v := (.bool x24)) rfl ?_
  subst hv
  exact ⟨rfl, hP.chg.below⟩

def D.zz33 (fu : Nat) (a0 : Nat × T Res) (a1 : Nat × T Res) (a2 : Mem) (a3 : List Bool) : Option (Res × Res × Bool × Mem) := (loopThen (fun (x17 : Int × (Nat × T Res) × (Nat × T Res) × Mem) => (bif (decide (x17.1 < (a3.length : Int))) then ((getI a3 x17.1).bind (fun (x22 : Bool) => (Option.bind (bif x22 then ((D.zz1g fu x17.2.2.2 0).bind (fun (x25 : Cap) => ((D.zz2q fu x17.2.1 x17.2.2.2 x25).bind (fun (x26 : (Nat × T Res) × Bool × Mem) => (some (x26.2.2, x26.1, x17.2.2.1)))))) else ((D.zz1g fu x17.2.2.2 0).bind (fun (x34 : Cap) => ((D.zz2q fu x17.2.2.1 x17.2.2.2 x34).bind (fun (x35 : (Nat × T Res) × Bool × Mem) => (some (x35.2.2, x17.2.1, x35.1))))))) (fun (x43 : Mem × (Nat × T Res) × (Nat × T Res)) => (some (Lp.next ((IntKind.i64.wrap (x17.1 + 1)), x43.2.1, x43.2.2, x43.1))))))) else (some (Lp.brk (x17.1, x17.2.1, x17.2.2.1, x17.2.2.2))))) fu (0, a0, a1, a2) (fun (x46 : Int × (Nat × T Res) × (Nat × T Res) × Mem) => ((D.zz1g fu x46.2.2.2 0).bind (fun (x49 : Cap) => ((D.zz2z fu x46.2.1 x46.2.2.2 x49 600).bind (fun (x50 : Res × Int × Bool × Mem) => ((D.zz1g fu x50.2.2.2 0).bind (fun (x53 : Cap) => ((D.zz2z fu x46.2.2.1 x50.2.2.2 x53 600).bind (fun (x54 : Res × Int × Bool × Mem) => (Option.bind (bif x50.2.2.1 then (some (x50.1, x54.1, x54.2.2.1)) else (some (x50.1, x54.1, false))) (fun (x61 : Res × Res × Bool) => (some (x61.1, x61.2.1, x61.2.2, x54.2.2.2))))))))))))))

theorem zz5x {fu : Nat} (w0 : World) {a0_v : Value} {a0_F : List Nat} (a0 : Nat × T Res) {a1_v : Value} {a1_F : List Nat} (a1 : Nat × T Res) {a2_g : MG} (a2 : Mem) {a3_v : Value} (a3 : List Bool) (hS : Sep [progK Tryz.prog encRes a0 a0_v a0_F, progK Tryz.prog encRes a1 a1_v a1_F, memK a2_g a2, roK 4 1 boolE a3_v a3] w0) {res : Res × Res × Bool × Mem} (hD : D.zz33 fu a0 a1 a2 a3 = some res) :
    Calls Tryz.prog 38 #[a0_v, a1_v, .pointer (some ⟨a2_g.mb, 0, none⟩), a3_v] w0 (fun e w' => e = .returned (.tuple #[(.agg (resC res.1).toArray), (.agg (resC res.2.1).toArray), (.bool res.2.2.1)]) ∧ Done (fun b => b ∈ (memK a2_g a2).own) No [memK a2_g res.2.2.2] w0 w') := by
 refine enter Tryz.func38 rfl 74 rfl rfl fun fr r => ?_
 have hP : Post (fun b => b ∈ (memK a2_g a2).own) [progK Tryz.prog encRes a0 a0_v a0_F, progK Tryz.prog encRes a1 a1_v a1_F, memK a2_g a2, roK 4 1 boolE a3_v a3] w0 w0 := .start hS (by simp [memK, progK, roK])
 unfold D.zz33 at hD
 refine wsr ?_
 refine seq_new (.cells a0_v.cells 39 (0, 0)) r (fun R => y_box r (v := a0_v) rfl) rfl fun fr b1 w2 n3 r => ?_
 have hP : Post (fun b => b ∈ (memK a2_g a2).own) [progK Tryz.prog encRes a0 a0_v a0_F, progK Tryz.prog encRes a1 a1_v a1_F, memK a2_g a2, roK 4 1 boolE a3_v a3, cellC b1 a0_v.cells 39] w0 w2 := hP.new n3
 refine seq_new (.cells a1_v.cells 39 (0, 0)) r (fun R => y_box r (v := a1_v) rfl) rfl fun fr b5 w6 n7 r => ?_
 have hP : Post (fun b => b ∈ (memK a2_g a2).own) [progK Tryz.prog encRes a0 a0_v a0_F, progK Tryz.prog encRes a1 a1_v a1_F, memK a2_g a2, roK 4 1 boolE a3_v a3, cellC b1 a0_v.cells 39, cellC b5 a1_v.cells 39] w0 w6 := hP.new n7
 refine seq_new (.cells ((resC (⟨0, 0⟩ : Res))).toArray 32 (0, 0)) r (fun R => y_alloc tz32) rfl fun fr b9 w10 n11 r => ?_
 have hP : Post (fun b => b ∈ (memK a2_g a2).own) [progK Tryz.prog encRes a0 a0_v a0_F, progK Tryz.prog encRes a1 a1_v a1_F, memK a2_g a2, roK 4 1 boolE a3_v a3, cellC b1 a0_v.cells 39, cellC b5 a1_v.cells 39, cellC b9 ((resC (⟨0, 0⟩ : Res))).toArray 32] w0 w10 := hP.new n11
 refine seq_new (.cells ((resC (⟨0, 0⟩ : Res))).toArray 32 (0, 0)) r (fun R => y_alloc tz32) rfl fun fr b13 w14 n15 r => ?_
 have hP : Post (fun b => b ∈ (memK a2_g a2).own) [progK Tryz.prog encRes a0 a0_v a0_F, progK Tryz.prog encRes a1 a1_v a1_F, memK a2_g a2, roK 4 1 boolE a3_v a3, cellC b1 a0_v.cells 39, cellC b5 a1_v.cells 39, cellC b9 ((resC (⟨0, 0⟩ : Res))).toArray 32, cellC b13 ((resC (⟨0, 0⟩ : Res))).toArray 32] w0 w14 := hP.new n15
 refine seq_val (.bool false) r (fun R => zz04 r rfl) rfl fun fr r => ?_
 refine wn ?_
 refine wp_seq ?_
 refine wsr ?_
 refine seq_val (I 0) r (fun R => zz04 r rfl) rfl fun fr r => ?_
 refine wn ?_
 refine wp_loopG (X := Int × (Nat × T Res) × (Nat × T Res) × Mem) (G := Value × List Nat × Value × List Nat) (x0 := (0, a0, a1, a2)) (fun x γ => [(0, a0_v), (1, a1_v), (2, (.pointer (some ⟨a2_g.mb, 0, none⟩))), (3, a3_v), (4, (.pointer (some ⟨b1, 0, none⟩))), (5, (.pointer (some ⟨b5, 0, none⟩))), (8, (.pointer (some ⟨b9, 0, none⟩))), (9, (.pointer (some ⟨b13, 0, none⟩))), (10, (.bool false)), (11, (I x.1))]) (fun x γ w => Post (fun b => b ∈ (memK a2_g a2).own) [progK Tryz.prog encRes x.2.1 γ.1 γ.2.1, progK Tryz.prog encRes x.2.2.1 γ.2.2.1 γ.2.2.2, memK a2_g x.2.2.2, roK 4 1 boolE a3_v a3, cellC b1 γ.1.cells 39, cellC b5 γ.2.2.1.cells 39, cellC b9 ((resC (⟨0, 0⟩ : Res))).toArray 32, cellC b13 ((resC (⟨0, 0⟩ : Res))).toArray 32] w0 w) (a0_v, a0_F, a1_v, a1_F) r (hs_cons rfl (hs_cons rfl (hs_cons rfl (hs_cons rfl (hs_cons rfl (hs_cons rfl (hs_cons rfl (hs_cons rfl (hs_cons rfl (hs_cons rfl hs_nil)))))))))) hP hD ?_ ?_
 ·
  rintro x17 γ18 fr w20 g y19 RPy19 nxy19 bky19 rty19 r hP hD
  have hP : Post (fun b => b ∈ (memK a2_g a2).own) [progK Tryz.prog encRes x17.2.1 γ18.1 γ18.2.1, progK Tryz.prog encRes x17.2.2.1 γ18.2.2.1 γ18.2.2.2, memK a2_g x17.2.2.2, roK 4 1 boolE a3_v a3, cellC b1 γ18.1.cells 39, cellC b5 γ18.2.2.1.cells 39, cellC b9 ((resC (⟨0, 0⟩ : Res))).toArray 32, cellC b13 ((resC (⟨0, 0⟩ : Res))).toArray 32] w0 w20 := hP
  refine wp_seq ?_
  refine wsr ?_
  refine seq_val (I x17.1) r (fun R => y_move r rfl) rfl fun fr r => ?_
  refine seq_val a3_v r (fun R => y_move r rfl) rfl fun fr r => ?_
  refine seq_val (I (a3.length : Int)) r (fun R => zz65 r (hP.ro (i := 3) rfl) is55 rfl) rfl fun fr r => ?_
  refine seq_val _ r (fun R => y_bin r rfl rfl rfl rfl) rfl fun fr r => ?_
  refine wn ?_
  refine wp_cond_split (t := (decide (x17.1 < (a3.length : Int)))) (r.ev rfl) (fun h21 => ?_) (fun h21 => ?_)
  ·
   have hD := (cond_t h21).symm.trans hD
   refine wp_skip ?_
   refine wp_seq ?_
   refine wp_block ?_
   refine wsr ?_
   refine seq_val a3_v r (fun R => y_move r rfl) rfl fun fr r => ?_
   refine seq_val (I x17.1) r (fun R => y_move r rfl) rfl fun fr r => ?_
   obtain ⟨x22, hx22, hD⟩ := zz0i hD
   refine seq_val (.pointer (some ⟨rowB a3_v, rowO a3_v + x17.1.toNat * 1, none⟩)) r (fun R => zz2v r (hP.ro (i := 3) rfl) hx22 sl55 rfl rfl) rfl fun fr r => ?_
   refine seq_val (.bool x22) r (fun R => zz2l r (u := (.bool x22)) (RoAt.at_ (f := boolE) (x := x22) (hP.ro (i := 3) rfl) (fun _ => rfl) hx22) rfl to4) rfl fun fr r => ?_
   refine wn ?_
   refine zz31 (N := 74) (Y := Mem × (Nat × T Res) × (Nat × T Res)) (G := Value × List Nat × Value × List Nat) (fun x γ => [(0, a0_v), (1, a1_v), (2, (.pointer (some ⟨a2_g.mb, 0, none⟩))), (3, a3_v), (4, (.pointer (some ⟨b1, 0, none⟩))), (5, (.pointer (some ⟨b5, 0, none⟩))), (8, (.pointer (some ⟨b9, 0, none⟩))), (9, (.pointer (some ⟨b13, 0, none⟩))), (10, (.bool false)), (11, (I x17.1)), (25, (.bool (decide (x17.1 < (a3.length : Int))))), (31, (.bool x22))]) (fun x γ w => Post (fun b => b ∈ (memK a2_g a2).own) [progK Tryz.prog encRes x.2.1 γ.1 γ.2.1, progK Tryz.prog encRes x.2.2 γ.2.2.1 γ.2.2.2, memK a2_g x.1, roK 4 1 boolE a3_v a3, cellC b1 γ.1.cells 39, cellC b5 γ.2.2.1.cells 39, cellC b9 ((resC (⟨0, 0⟩ : Res))).toArray 32, cellC b13 ((resC (⟨0, 0⟩ : Res))).toArray 32] w0 w) hD ?_ ?_
   ·
    rintro y23 RPy23 nxy23 hD
    refine wp_cond_split (t := x22) (r.ev rfl) (fun h24 => ?_) (fun h24 => ?_)
    ·
     have hD := (cond_t h24).symm.trans hD
     refine wp_seq ?_
     obtain ⟨x25, hx25, hD⟩ := zz0i hD
     obtain ⟨x26, hx26, hD⟩ := zz0i hD
     refine zz5j a2_g.bs [.val γ18.1, .val (.pointer (some ⟨a2_g.mb, 0, none⟩)), .val (.pointer (some ⟨a2_g.mb, 0, none⟩)), .val (.agg (capC x25).toArray), .eff (EffR Tryz.prog encRes w20.heap.size γ18.2.1 (memK a2_g x26.2.2) x26.1 (.bool x26.2.1)) EffR.st, .dep 4 (fun u v => v = u ∧ ∃ y, v = .tuple #[y, (.bool x26.2.1)] ∧ Shape encRes y), .dep 5 (fun u v => Shape encRes v ∧ u = .tuple #[v, (.bool x26.2.1)]), .val (.bool x26.2.1), .cell 39 8, .storedD 8 6 (fun v => v.cells) 39 8, .val (.bool x26.2.1)] mixed r (fun b hb => hP.sep.lt (i := 2) rfl (.inl hb)) (by kernel_rfl) ?_ ?_
     ·
      refine zz0k r rfl (by kernel_rfl) (fun fr1 g w' hb' hd r' => ?_) ?_
      · exact y_loadp r' ((hP.below (dr hb')).prog (i := 0) rfl).shape rfl ((hP.below (dr hb')).cell (i := 4) rfl) ta39 ⟨Below.refl _ _, rfl⟩
      refine zz0k r rfl (by kernel_rfl) (fun fr1 g w' hb' hd r' => ?_) ?_
      · exact y_move r' (v := (.pointer (some ⟨a2_g.mb, 0, none⟩))) rfl ⟨Below.refl _ _, rfl⟩
      refine zz0b r rfl (fun fr1 g w' hk' hd r' => ?_) ?_
      · exact y_move r' (v := (.pointer (some ⟨a2_g.mb, 0, none⟩))) rfl ⟨Below.refl _ _, rfl⟩
      refine zz0k r rfl (by kernel_rfl) (fun fr1 g w' hb' hd r' => ?_) ?_
      · exact y_call r' (args := [(.pointer (some ⟨a2_g.mb, 0, none⟩)), (I 0)]) (lc (hd 2 rfl).1 (lc rfl l0)) cl31 ((zz28 _ x17.2.2.2 ((hP.below (dr hb')).mem (i := 2) rfl) 0 hx25).mono (by rintro _ w2 ⟨rfl, hb2⟩; exact ⟨_, rfl, hb2, rfl⟩))
      refine zz0k r rfl (by kernel_rfl) (fun fr1 g w' hb' hd r' => ?_) ?_
      · exact y_call r' (args := [γ18.1, (.pointer (some ⟨a2_g.mb, 0, none⟩)), (.agg (capC x25).toArray)]) (lc (hd 0 rfl).1 (lc (hd 1 rfl).1 (lc (hd 3 rfl).1 l0))) cl37 ((zz3q _ x17.2.1 x17.2.2.2 x25 ((hP.below (dr hb')).sep.pk [0, 2] rfl rfl) hx26).mono (by rintro _ w2 ⟨y, F, rfl, hq⟩; exact ⟨_, rfl, hq.chg.kept, EffR.of hq (fun b hb => hP.sep.lt (i := 2) rfl hb) (fun b hb => hP.sep.lt (i := 0) rfl (.inr hb))⟩))
      refine zz0b r rfl (fun fr1 g w' hk' hd r' => ?_) ?_
      · obtain ⟨y, F, hv, _, _, _, hr, _⟩ := (hd 4 rfl).1; exact y_move r' (v := (g 4).v) rfl ⟨Below.refl _ _, rfl, y, hv, hr.shape⟩
      refine zz0b r rfl (fun fr1 g w' hk' hd r' => ?_) ?_
      · obtain ⟨_, y, hv, hs⟩ := (hd 5 rfl).1; exact zz0t r' (vs := #[y, (.bool x26.2.1)]) hv rfl ⟨Below.refl _ _, hs, hv⟩
      refine zz0b r rfl (fun fr1 g w' hk' hd r' => ?_) ?_
      · obtain ⟨_, y, hv, hs⟩ := (hd 5 rfl).1; exact zz0t r' (vs := #[y, (.bool x26.2.1)]) hv rfl ⟨Below.refl _ _, rfl⟩
      refine zz0b r rfl (fun fr1 g w' hk' hd r' => ?_) ?_
      · exact y_alloc tz39 (fun b w2 n2 => ⟨n2.below, b, rfl, n2.eq, _, n2.at_, rfl⟩)
      refine zz0b r rfl (fun fr1 g w' hk' hd r' => ?_) ?_
      · obtain ⟨hp, _, c, hc, hn⟩ := (hd 8 rfl).1; obtain ⟨hs, _⟩ := (hd 6 rfl).1; exact zz0c r' hs hp rfl hc ts39 hn (fun w2 u2 => ⟨u2, rfl, hs.cells.1⟩)
      refine zz0b r rfl (fun fr1 g w' hk' hd r' => ?_) ?_
      · exact zz04 r' (v := (.bool x26.2.1)) (hd 7 rfl).1 ⟨Below.refl _ _, rfl⟩
      exact zz1z
     ·
      intro fr gg w31 hb hΦ hap r
      obtain ⟨v27, F28, g4, hcE, _, _, hrE, hFE⟩ := (hΦ 4 rfl).1
      have g5 := (hΦ 5 rfl).1.1.trans g4
      have g6 : (gg 6).v = v27 := tup_eq ((hΦ 6 rfl).1.2.symm.trans g5)
      obtain ⟨b30, ee_b30⟩ : ∃ b, b = (gg 8).lo := ⟨_, rfl⟩
      have g8 : (gg 8).v = (.pointer (some ⟨b30, 0, none⟩)) := by rw [ee_b30]; exact (hΦ 8 rfl).1.1
      have h_b30 : w31.heap[b30]? = some (.cells v27.cells 39 (0, 0)) := by rw [ee_b30, ← g6]; exact (hΦ 9 rfl).1.2
      have hs8 : Fresh [cellC b30 v27.cells 39] (gg 8).lo (gg 8).hi w31 := by subst ee_b30; exact Fresh.cell (hΦ 8 rfl).1.2.1 h_b30
      have r := r.congr (sc ((hΦ 10 rfl).1) (sc g8 (sc ((hΦ 7 rfl).1) (sc g6 (sc g5 (sc g4 (sc ((hΦ 3 rfl).1) (sc ((hΦ 2 rfl).1) (sc ((hΦ 1 rfl).1) (sc ((hΦ 0 rfl).1) rfl))))))))))
      have hP : Post (fun b => b ∈ (memK a2_g a2).own) [progK Tryz.prog encRes x17.2.1 γ18.1 γ18.2.1, progK Tryz.prog encRes x17.2.2.1 γ18.2.2.1 γ18.2.2.2, memK a2_g x26.2.2, roK 4 1 boolE a3_v a3, cellC b1 γ18.1.cells 39, cellC b5 γ18.2.2.1.cells 39, cellC b9 ((resC (⟨0, 0⟩ : Res))).toArray 32, cellC b13 ((resC (⟨0, 0⟩ : Res))).toArray 32, progK Tryz.prog encRes x26.1 v27 F28, cellC b30 v27.cells 39] w0 w31 := hP.effR (i := 2) (k := 0) (l := [([cellC b30 v27.cells 39], (gg 8).lo, (gg 8).hi)]) rfl rfl rfl hb hcE rfl rfl rfl hrE hFE (hΦ 4 rfl).2.1 (hΦ 4 rfl).2.2.2 ⟨hs8, (hΦ 8 rfl).2.1, zz2f, trivial⟩ (zz2o (hap 4 8 rfl) zz2f)
      refine wp_region_lit ?_
      refine seq_val v27 r (fun R => y_loadp r (hP.prog (i := 8) rfl).shape rfl (hP.cell (i := 9) rfl) ta39) rfl fun fr r => ?_
      refine seq_upd (.cells v27.cells 39 (0, 0)) r (fun R => zz0c r (hP.prog (i := 8) rfl).shape rfl rfl (hP.cell (i := 4) rfl) ts39 (by have h := (hP.prog (i := 0) rfl).shape.cells.1; simpa using h)) rfl fun fr w32 u33 r => ?_
      have hP : Post (fun b => b ∈ (memK a2_g a2).own) [progK Tryz.prog encRes x17.2.1 γ18.1 γ18.2.1, progK Tryz.prog encRes x17.2.2.1 γ18.2.2.1 γ18.2.2.2, memK a2_g x26.2.2, roK 4 1 boolE a3_v a3, cellC b1 v27.cells 39, cellC b5 γ18.2.2.1.cells 39, cellC b9 ((resC (⟨0, 0⟩ : Res))).toArray 32, cellC b13 ((resC (⟨0, 0⟩ : Res))).toArray 32, progK Tryz.prog encRes x26.1 v27 F28, cellC b30 v27.cells 39] w0 w32 := hP.upd (i := 4) rfl u33
      refine wn ?_
      exact nxy23 (x26.2.2, x26.1, x17.2.2.1) (v27, F28, γ18.2.2.1, γ18.2.2.2) _ _ _ hD r (hs_cons rfl (hs_cons rfl (hs_cons rfl (hs_cons rfl (hs_cons rfl (hs_cons rfl (hs_cons rfl (hs_cons rfl (hs_cons rfl (hs_cons rfl (hs_cons rfl (hs_cons rfl hs_nil)))))))))))) (hP.pick [8, 1, 2, 3, 4, 5, 6, 7] rfl rfl)
    ·
     have hD := (cond_f h24).symm.trans hD
     refine wp_seq ?_
     obtain ⟨x34, hx34, hD⟩ := zz0i hD
     obtain ⟨x35, hx35, hD⟩ := zz0i hD
     refine zz5j a2_g.bs [.val γ18.2.2.1, .val (.pointer (some ⟨a2_g.mb, 0, none⟩)), .val (.pointer (some ⟨a2_g.mb, 0, none⟩)), .val (.agg (capC x34).toArray), .eff (EffR Tryz.prog encRes w20.heap.size γ18.2.2.2 (memK a2_g x35.2.2) x35.1 (.bool x35.2.1)) EffR.st, .dep 4 (fun u v => v = u ∧ ∃ y, v = .tuple #[y, (.bool x35.2.1)] ∧ Shape encRes y), .dep 5 (fun u v => Shape encRes v ∧ u = .tuple #[v, (.bool x35.2.1)]), .val (.bool x35.2.1), .cell 39 8, .storedD 8 6 (fun v => v.cells) 39 8, .val (.bool x35.2.1)] mixed r (fun b hb => hP.sep.lt (i := 2) rfl (.inl hb)) (by kernel_rfl) ?_ ?_
     ·
      refine zz0k r rfl (by kernel_rfl) (fun fr1 g w' hb' hd r' => ?_) ?_
      · exact y_loadp r' ((hP.below (dr hb')).prog (i := 1) rfl).shape rfl ((hP.below (dr hb')).cell (i := 5) rfl) ta39 ⟨Below.refl _ _, rfl⟩
      refine zz0k r rfl (by kernel_rfl) (fun fr1 g w' hb' hd r' => ?_) ?_
      · exact y_move r' (v := (.pointer (some ⟨a2_g.mb, 0, none⟩))) rfl ⟨Below.refl _ _, rfl⟩
      refine zz0b r rfl (fun fr1 g w' hk' hd r' => ?_) ?_
      · exact y_move r' (v := (.pointer (some ⟨a2_g.mb, 0, none⟩))) rfl ⟨Below.refl _ _, rfl⟩
      refine zz0k r rfl (by kernel_rfl) (fun fr1 g w' hb' hd r' => ?_) ?_
      · exact y_call r' (args := [(.pointer (some ⟨a2_g.mb, 0, none⟩)), (I 0)]) (lc (hd 2 rfl).1 (lc rfl l0)) cl31 ((zz28 _ x17.2.2.2 ((hP.below (dr hb')).mem (i := 2) rfl) 0 hx34).mono (by rintro _ w2 ⟨rfl, hb2⟩; exact ⟨_, rfl, hb2, rfl⟩))
      refine zz0k r rfl (by kernel_rfl) (fun fr1 g w' hb' hd r' => ?_) ?_
      · exact y_call r' (args := [γ18.2.2.1, (.pointer (some ⟨a2_g.mb, 0, none⟩)), (.agg (capC x34).toArray)]) (lc (hd 0 rfl).1 (lc (hd 1 rfl).1 (lc (hd 3 rfl).1 l0))) cl37 ((zz3q _ x17.2.2.1 x17.2.2.2 x34 ((hP.below (dr hb')).sep.pk [1, 2] rfl rfl) hx35).mono (by rintro _ w2 ⟨y, F, rfl, hq⟩; exact ⟨_, rfl, hq.chg.kept, EffR.of hq (fun b hb => hP.sep.lt (i := 2) rfl hb) (fun b hb => hP.sep.lt (i := 1) rfl (.inr hb))⟩))
      refine zz0b r rfl (fun fr1 g w' hk' hd r' => ?_) ?_
      · obtain ⟨y, F, hv, _, _, _, hr, _⟩ := (hd 4 rfl).1; exact y_move r' (v := (g 4).v) rfl ⟨Below.refl _ _, rfl, y, hv, hr.shape⟩
      refine zz0b r rfl (fun fr1 g w' hk' hd r' => ?_) ?_
      · obtain ⟨_, y, hv, hs⟩ := (hd 5 rfl).1; exact zz0t r' (vs := #[y, (.bool x35.2.1)]) hv rfl ⟨Below.refl _ _, hs, hv⟩
      refine zz0b r rfl (fun fr1 g w' hk' hd r' => ?_) ?_
      · obtain ⟨_, y, hv, hs⟩ := (hd 5 rfl).1; exact zz0t r' (vs := #[y, (.bool x35.2.1)]) hv rfl ⟨Below.refl _ _, rfl⟩
      refine zz0b r rfl (fun fr1 g w' hk' hd r' => ?_) ?_
      · exact y_alloc tz39 (fun b w2 n2 => ⟨n2.below, b, rfl, n2.eq, _, n2.at_, rfl⟩)
      refine zz0b r rfl (fun fr1 g w' hk' hd r' => ?_) ?_
      · obtain ⟨hp, _, c, hc, hn⟩ := (hd 8 rfl).1; obtain ⟨hs, _⟩ := (hd 6 rfl).1; exact zz0c r' hs hp rfl hc ts39 hn (fun w2 u2 => ⟨u2, rfl, hs.cells.1⟩)
      refine zz0b r rfl (fun fr1 g w' hk' hd r' => ?_) ?_
      · exact zz04 r' (v := (.bool x35.2.1)) (hd 7 rfl).1 ⟨Below.refl _ _, rfl⟩
      exact zz1z
     ·
      intro fr gg w40 hb hΦ hap r
      obtain ⟨v36, F37, g4, hcE, _, _, hrE, hFE⟩ := (hΦ 4 rfl).1
      have g5 := (hΦ 5 rfl).1.1.trans g4
      have g6 : (gg 6).v = v36 := tup_eq ((hΦ 6 rfl).1.2.symm.trans g5)
      obtain ⟨b39, ee_b39⟩ : ∃ b, b = (gg 8).lo := ⟨_, rfl⟩
      have g8 : (gg 8).v = (.pointer (some ⟨b39, 0, none⟩)) := by rw [ee_b39]; exact (hΦ 8 rfl).1.1
      have h_b39 : w40.heap[b39]? = some (.cells v36.cells 39 (0, 0)) := by rw [ee_b39, ← g6]; exact (hΦ 9 rfl).1.2
      have hs8 : Fresh [cellC b39 v36.cells 39] (gg 8).lo (gg 8).hi w40 := by subst ee_b39; exact Fresh.cell (hΦ 8 rfl).1.2.1 h_b39
      have r := r.congr (sc ((hΦ 10 rfl).1) (sc g8 (sc ((hΦ 7 rfl).1) (sc g6 (sc g5 (sc g4 (sc ((hΦ 3 rfl).1) (sc ((hΦ 2 rfl).1) (sc ((hΦ 1 rfl).1) (sc ((hΦ 0 rfl).1) rfl))))))))))
      have hP : Post (fun b => b ∈ (memK a2_g a2).own) [progK Tryz.prog encRes x17.2.1 γ18.1 γ18.2.1, progK Tryz.prog encRes x17.2.2.1 γ18.2.2.1 γ18.2.2.2, memK a2_g x35.2.2, roK 4 1 boolE a3_v a3, cellC b1 γ18.1.cells 39, cellC b5 γ18.2.2.1.cells 39, cellC b9 ((resC (⟨0, 0⟩ : Res))).toArray 32, cellC b13 ((resC (⟨0, 0⟩ : Res))).toArray 32, progK Tryz.prog encRes x35.1 v36 F37, cellC b39 v36.cells 39] w0 w40 := hP.effR (i := 2) (k := 1) (l := [([cellC b39 v36.cells 39], (gg 8).lo, (gg 8).hi)]) rfl rfl rfl hb hcE rfl rfl rfl hrE hFE (hΦ 4 rfl).2.1 (hΦ 4 rfl).2.2.2 ⟨hs8, (hΦ 8 rfl).2.1, zz2f, trivial⟩ (zz2o (hap 4 8 rfl) zz2f)
      refine wp_region_lit ?_
      refine seq_val v36 r (fun R => y_loadp r (hP.prog (i := 8) rfl).shape rfl (hP.cell (i := 9) rfl) ta39) rfl fun fr r => ?_
      refine seq_upd (.cells v36.cells 39 (0, 0)) r (fun R => zz0c r (hP.prog (i := 8) rfl).shape rfl rfl (hP.cell (i := 5) rfl) ts39 (by have h := (hP.prog (i := 1) rfl).shape.cells.1; simpa using h)) rfl fun fr w41 u42 r => ?_
      have hP : Post (fun b => b ∈ (memK a2_g a2).own) [progK Tryz.prog encRes x17.2.1 γ18.1 γ18.2.1, progK Tryz.prog encRes x17.2.2.1 γ18.2.2.1 γ18.2.2.2, memK a2_g x35.2.2, roK 4 1 boolE a3_v a3, cellC b1 γ18.1.cells 39, cellC b5 v36.cells 39, cellC b9 ((resC (⟨0, 0⟩ : Res))).toArray 32, cellC b13 ((resC (⟨0, 0⟩ : Res))).toArray 32, progK Tryz.prog encRes x35.1 v36 F37, cellC b39 v36.cells 39] w0 w41 := hP.upd (i := 5) rfl u42
      refine wn ?_
      exact nxy23 (x35.2.2, x17.2.1, x35.1) (γ18.1, γ18.2.1, v36, F37) _ _ _ hD r (hs_cons rfl (hs_cons rfl (hs_cons rfl (hs_cons rfl (hs_cons rfl (hs_cons rfl (hs_cons rfl (hs_cons rfl (hs_cons rfl (hs_cons rfl (hs_cons rfl (hs_cons rfl hs_nil)))))))))))) (hP.pick [0, 8, 2, 3, 4, 5, 6, 7] rfl rfl)
   ·
    rintro x43 γ44 fr w45 g r hP hD
    have hP : Post (fun b => b ∈ (memK a2_g a2).own) [progK Tryz.prog encRes x43.2.1 γ44.1 γ44.2.1, progK Tryz.prog encRes x43.2.2 γ44.2.2.1 γ44.2.2.2, memK a2_g x43.1, roK 4 1 boolE a3_v a3, cellC b1 γ44.1.cells 39, cellC b5 γ44.2.2.1.cells 39, cellC b9 ((resC (⟨0, 0⟩ : Res))).toArray 32, cellC b13 ((resC (⟨0, 0⟩ : Res))).toArray 32] w0 w45 := hP
    refine wp_region_lit ?_
    refine seq_val (I x17.1) r (fun R => y_move r rfl) rfl fun fr r => ?_
    refine seq_val _ r (fun R => y_bin r rfl rfl rfl rfl) rfl fun fr r => ?_
    refine seq_val (I (W (x17.1 + 1))) r (fun R => zz04 r rfl) rfl fun fr r => ?_
    refine wn ?_
    exact nxy19 ((W (x17.1 + 1)), x43.2.1, x43.2.2, x43.1) (γ44.1, γ44.2.1, γ44.2.2.1, γ44.2.2.2) _ _ _ hD r (hs_cons rfl (hs_cons rfl (hs_cons rfl (hs_cons rfl (hs_cons rfl (hs_cons rfl (hs_cons rfl (hs_cons rfl (hs_cons rfl (hs_cons rfl hs_nil)))))))))) (hP.pick [0, 1, 2, 3, 4, 5, 6, 7] rfl rfl)
  ·
   have hD := (cond_f h21).symm.trans hD
   refine wp_exit ?_
   exact bky19 (x17.1, x17.2.1, x17.2.2.1, x17.2.2.2) (γ18.1, γ18.2.1, γ18.2.2.1, γ18.2.2.2) _ _ _ hD r (hs_cons rfl (hs_cons rfl (hs_cons rfl (hs_cons rfl (hs_cons rfl (hs_cons rfl (hs_cons rfl (hs_cons rfl (hs_cons rfl (hs_cons rfl hs_nil)))))))))) (hP.pick [0, 1, 2, 3, 4, 5, 6, 7] rfl rfl)
 ·
  rintro x46 γ47 fr w48 g r hP hD
  have hP : Post (fun b => b ∈ (memK a2_g a2).own) [progK Tryz.prog encRes x46.2.1 γ47.1 γ47.2.1, progK Tryz.prog encRes x46.2.2.1 γ47.2.2.1 γ47.2.2.2, memK a2_g x46.2.2.2, roK 4 1 boolE a3_v a3, cellC b1 γ47.1.cells 39, cellC b5 γ47.2.2.1.cells 39, cellC b9 ((resC (⟨0, 0⟩ : Res))).toArray 32, cellC b13 ((resC (⟨0, 0⟩ : Res))).toArray 32] w0 w48 := hP
  refine wp_seq ?_
  obtain ⟨x49, hx49, hD⟩ := zz0i hD
  obtain ⟨x50, hx50, hD⟩ := zz0i hD
  refine zz5j a2_g.bs [.val γ47.1, .val (.pointer (some ⟨a2_g.mb, 0, none⟩)), .val (.pointer (some ⟨a2_g.mb, 0, none⟩)), .val (.agg (capC x49).toArray), .eff (EffP w48.heap.size (memK a2_g x50.2.2.2) (fun _ : Unit => (.tuple #[(.agg (resC x50.1).toArray), (I x50.2.1), (.bool x50.2.2.1)])) (fun _ : Unit => [])) (EffP.st _ _ _ _), .val (.tuple #[(.agg (resC x50.1).toArray), (I x50.2.1), (.bool x50.2.2.1)]), .val (.agg (resC x50.1).toArray), .val (I x50.2.1), .val (.bool x50.2.2.1), .cell 32 2, .stored 9 ((resC x50.1)).toArray 32 2 rfl, .val (I x50.2.1), .val (.bool x50.2.2.1)] mixed r (fun b hb => hP.sep.lt (i := 2) rfl (.inl hb)) (by kernel_rfl) ?_ ?_
  ·
   refine zz0k r rfl (by kernel_rfl) (fun fr1 g w' hb' hd r' => ?_) ?_
   · exact y_loadp r' ((hP.below (dr hb')).prog (i := 0) rfl).shape rfl ((hP.below (dr hb')).cell (i := 4) rfl) ta39 ⟨Below.refl _ _, rfl⟩
   refine zz0k r rfl (by kernel_rfl) (fun fr1 g w' hb' hd r' => ?_) ?_
   · exact y_move r' (v := (.pointer (some ⟨a2_g.mb, 0, none⟩))) rfl ⟨Below.refl _ _, rfl⟩
   refine zz0b r rfl (fun fr1 g w' hk' hd r' => ?_) ?_
   · exact y_move r' (v := (.pointer (some ⟨a2_g.mb, 0, none⟩))) rfl ⟨Below.refl _ _, rfl⟩
   refine zz0k r rfl (by kernel_rfl) (fun fr1 g w' hb' hd r' => ?_) ?_
   · exact y_call r' (args := [(.pointer (some ⟨a2_g.mb, 0, none⟩)), (I 0)]) (lc (hd 2 rfl).1 (lc rfl l0)) cl31 ((zz28 _ x46.2.2.2 ((hP.below (dr hb')).mem (i := 2) rfl) 0 hx49).mono (by rintro _ w2 ⟨rfl, hb2⟩; exact ⟨_, rfl, hb2, rfl⟩))
   refine zz0k r rfl (by kernel_rfl) (fun fr1 g w' hb' hd r' => ?_) ?_
   · exact y_call r' (args := [γ47.1, (.pointer (some ⟨a2_g.mb, 0, none⟩)), (.agg (capC x49).toArray), (I 600)]) (lc (hd 0 rfl).1 (lc (hd 1 rfl).1 (lc (hd 3 rfl).1 (lc rfl l0)))) cl29 ((zz42 _ x46.2.1 x46.2.2.2 x49 600 ((hP.below (dr hb')).sep.pk [0, 2] rfl rfl) hx50).mono (by rintro _ w2 ⟨rfl, hq⟩; exact ⟨_, rfl, hq.chg.kept, EffP.of () hq rfl (fun b hb => hP.sep.lt (i := 2) rfl hb)⟩))
   refine zz0b r rfl (fun fr1 g w' hk' hd r' => ?_) ?_
   · exact y_move r' (v := (.tuple #[(.agg (resC x50.1).toArray), (I x50.2.1), (.bool x50.2.2.1)])) (EffP.val (hd 4 rfl).1) ⟨Below.refl _ _, rfl⟩
   refine zz0b r rfl (fun fr1 g w' hk' hd r' => ?_) ?_
   · exact zz0t r' (vs := #[(.agg (resC x50.1).toArray), (I x50.2.1), (.bool x50.2.2.1)]) (hd 5 rfl).1 rfl ⟨Below.refl _ _, rfl⟩
   refine zz0b r rfl (fun fr1 g w' hk' hd r' => ?_) ?_
   · exact zz0t r' (vs := #[(.agg (resC x50.1).toArray), (I x50.2.1), (.bool x50.2.2.1)]) (hd 5 rfl).1 rfl ⟨Below.refl _ _, rfl⟩
   refine zz0b r rfl (fun fr1 g w' hk' hd r' => ?_) ?_
   · exact zz0t r' (vs := #[(.agg (resC x50.1).toArray), (I x50.2.1), (.bool x50.2.2.1)]) (hd 5 rfl).1 rfl ⟨Below.refl _ _, rfl⟩
   refine zz0b r rfl (fun fr1 g w' hk' hd r' => ?_) ?_
   · exact y_alloc tz32 (fun b w2 n2 => ⟨n2.below, b, rfl, n2.eq, _, n2.at_, rfl⟩)
   refine zz0b r rfl (fun fr1 g w' hk' hd r' => ?_) ?_
   · obtain ⟨hp, _, c, hc, hn⟩ := (hd 9 rfl).1; exact y_store r' (o := 0) (c := c) (v := (.agg (resC x50.1).toArray)) hp (hd 6 rfl).1 hc ts32 (by rw [hn]; exact Nat.le_of_ble_eq_true rfl) rfl (zz2m (hn.trans rfl)) (fun w2 u2 => ⟨u2, rfl⟩)
   refine zz0b r rfl (fun fr1 g w' hk' hd r' => ?_) ?_
   · exact zz04 r' (v := (I x50.2.1)) (hd 7 rfl).1 ⟨Below.refl _ _, rfl⟩
   refine zz0b r rfl (fun fr1 g w' hk' hd r' => ?_) ?_
   · exact zz04 r' (v := (.bool x50.2.2.1)) (hd 8 rfl).1 ⟨Below.refl _ _, rfl⟩
   exact zz1z
  ·
   intro fr gg w52 hb hΦ hap r
   obtain ⟨⟨⟩, g4, hcE, _, hs4⟩ := (hΦ 4 rfl).1
   obtain ⟨b51, ee_b51⟩ : ∃ b, b = (gg 9).lo := ⟨_, rfl⟩
   have g9 : (gg 9).v = (.pointer (some ⟨b51, 0, none⟩)) := by rw [ee_b51]; exact (hΦ 9 rfl).1.1
   have h_b51 : w52.heap[b51]? = some (.cells ((resC x50.1)).toArray 32 (0, 0)) := by rw [ee_b51]; exact (hΦ 10 rfl).1.2
   have hs9 : Fresh [cellC b51 ((resC x50.1)).toArray 32] (gg 9).lo (gg 9).hi w52 := by subst ee_b51; exact Fresh.cell (hΦ 9 rfl).1.2.1 h_b51
   have r := r.congr (sc ((hΦ 12 rfl).1) (sc ((hΦ 11 rfl).1) (sc g9 (sc ((hΦ 8 rfl).1) (sc ((hΦ 7 rfl).1) (sc ((hΦ 6 rfl).1) (sc ((hΦ 5 rfl).1) (sc g4 (sc ((hΦ 3 rfl).1) (sc ((hΦ 2 rfl).1) (sc ((hΦ 1 rfl).1) (sc ((hΦ 0 rfl).1) rfl))))))))))))
   have hP : Post (fun b => b ∈ (memK a2_g a2).own) [progK Tryz.prog encRes x46.2.1 γ47.1 γ47.2.1, progK Tryz.prog encRes x46.2.2.1 γ47.2.2.1 γ47.2.2.2, memK a2_g x50.2.2.2, roK 4 1 boolE a3_v a3, cellC b1 γ47.1.cells 39, cellC b5 γ47.2.2.1.cells 39, cellC b9 ((resC (⟨0, 0⟩ : Res))).toArray 32, cellC b13 ((resC (⟨0, 0⟩ : Res))).toArray 32, cellC b51 ((resC x50.1)).toArray 32] w0 w52 := hP.effL (i := 2) (l := [([cellC b51 ((resC x50.1)).toArray 32], (gg 9).lo, (gg 9).hi)]) rfl hb hcE rfl rfl ⟨hs9, (hΦ 9 rfl).2.1, zz2f, trivial⟩
   refine wp_seq ?_
   obtain ⟨x53, hx53, hD⟩ := zz0i hD
   obtain ⟨x54, hx54, hD⟩ := zz0i hD
   refine zz5j a2_g.bs [.val γ47.2.2.1, .val (.pointer (some ⟨a2_g.mb, 0, none⟩)), .val (.pointer (some ⟨a2_g.mb, 0, none⟩)), .val (.agg (capC x53).toArray), .eff (EffP w52.heap.size (memK a2_g x54.2.2.2) (fun _ : Unit => (.tuple #[(.agg (resC x54.1).toArray), (I x54.2.1), (.bool x54.2.2.1)])) (fun _ : Unit => [])) (EffP.st _ _ _ _), .val (.tuple #[(.agg (resC x54.1).toArray), (I x54.2.1), (.bool x54.2.2.1)]), .val (.agg (resC x54.1).toArray), .val (I x54.2.1), .val (.bool x54.2.2.1), .cell 32 2, .stored 9 ((resC x54.1)).toArray 32 2 rfl, .val (I x54.2.1), .val (.bool x54.2.2.1)] mixed r (fun b hb => hP.sep.lt (i := 2) rfl (.inl hb)) (by kernel_rfl) ?_ ?_
   ·
    refine zz0k r rfl (by kernel_rfl) (fun fr1 g w' hb' hd r' => ?_) ?_
    · exact y_loadp r' ((hP.below (dr hb')).prog (i := 1) rfl).shape rfl ((hP.below (dr hb')).cell (i := 5) rfl) ta39 ⟨Below.refl _ _, rfl⟩
    refine zz0k r rfl (by kernel_rfl) (fun fr1 g w' hb' hd r' => ?_) ?_
    · exact y_move r' (v := (.pointer (some ⟨a2_g.mb, 0, none⟩))) rfl ⟨Below.refl _ _, rfl⟩
    refine zz0b r rfl (fun fr1 g w' hk' hd r' => ?_) ?_
    · exact y_move r' (v := (.pointer (some ⟨a2_g.mb, 0, none⟩))) rfl ⟨Below.refl _ _, rfl⟩
    refine zz0k r rfl (by kernel_rfl) (fun fr1 g w' hb' hd r' => ?_) ?_
    · exact y_call r' (args := [(.pointer (some ⟨a2_g.mb, 0, none⟩)), (I 0)]) (lc (hd 2 rfl).1 (lc rfl l0)) cl31 ((zz28 _ x50.2.2.2 ((hP.below (dr hb')).mem (i := 2) rfl) 0 hx53).mono (by rintro _ w2 ⟨rfl, hb2⟩; exact ⟨_, rfl, hb2, rfl⟩))
    refine zz0k r rfl (by kernel_rfl) (fun fr1 g w' hb' hd r' => ?_) ?_
    · exact y_call r' (args := [γ47.2.2.1, (.pointer (some ⟨a2_g.mb, 0, none⟩)), (.agg (capC x53).toArray), (I 600)]) (lc (hd 0 rfl).1 (lc (hd 1 rfl).1 (lc (hd 3 rfl).1 (lc rfl l0)))) cl29 ((zz42 _ x46.2.2.1 x50.2.2.2 x53 600 ((hP.below (dr hb')).sep.pk [1, 2] rfl rfl) hx54).mono (by rintro _ w2 ⟨rfl, hq⟩; exact ⟨_, rfl, hq.chg.kept, EffP.of () hq rfl (fun b hb => hP.sep.lt (i := 2) rfl hb)⟩))
    refine zz0b r rfl (fun fr1 g w' hk' hd r' => ?_) ?_
    · exact y_move r' (v := (.tuple #[(.agg (resC x54.1).toArray), (I x54.2.1), (.bool x54.2.2.1)])) (EffP.val (hd 4 rfl).1) ⟨Below.refl _ _, rfl⟩
    refine zz0b r rfl (fun fr1 g w' hk' hd r' => ?_) ?_
    · exact zz0t r' (vs := #[(.agg (resC x54.1).toArray), (I x54.2.1), (.bool x54.2.2.1)]) (hd 5 rfl).1 rfl ⟨Below.refl _ _, rfl⟩
    refine zz0b r rfl (fun fr1 g w' hk' hd r' => ?_) ?_
    · exact zz0t r' (vs := #[(.agg (resC x54.1).toArray), (I x54.2.1), (.bool x54.2.2.1)]) (hd 5 rfl).1 rfl ⟨Below.refl _ _, rfl⟩
    refine zz0b r rfl (fun fr1 g w' hk' hd r' => ?_) ?_
    · exact zz0t r' (vs := #[(.agg (resC x54.1).toArray), (I x54.2.1), (.bool x54.2.2.1)]) (hd 5 rfl).1 rfl ⟨Below.refl _ _, rfl⟩
    refine zz0b r rfl (fun fr1 g w' hk' hd r' => ?_) ?_
    · exact y_alloc tz32 (fun b w2 n2 => ⟨n2.below, b, rfl, n2.eq, _, n2.at_, rfl⟩)
    refine zz0b r rfl (fun fr1 g w' hk' hd r' => ?_) ?_
    · obtain ⟨hp, _, c, hc, hn⟩ := (hd 9 rfl).1; exact y_store r' (o := 0) (c := c) (v := (.agg (resC x54.1).toArray)) hp (hd 6 rfl).1 hc ts32 (by rw [hn]; exact Nat.le_of_ble_eq_true rfl) rfl (zz2m (hn.trans rfl)) (fun w2 u2 => ⟨u2, rfl⟩)
    refine zz0b r rfl (fun fr1 g w' hk' hd r' => ?_) ?_
    · exact zz04 r' (v := (I x54.2.1)) (hd 7 rfl).1 ⟨Below.refl _ _, rfl⟩
    refine zz0b r rfl (fun fr1 g w' hk' hd r' => ?_) ?_
    · exact zz04 r' (v := (.bool x54.2.2.1)) (hd 8 rfl).1 ⟨Below.refl _ _, rfl⟩
    exact zz1z
   ·
    intro fr gg w56 hb hΦ hap r
    obtain ⟨⟨⟩, g4, hcE, _, hs4⟩ := (hΦ 4 rfl).1
    obtain ⟨b55, ee_b55⟩ : ∃ b, b = (gg 9).lo := ⟨_, rfl⟩
    have g9 : (gg 9).v = (.pointer (some ⟨b55, 0, none⟩)) := by rw [ee_b55]; exact (hΦ 9 rfl).1.1
    have h_b55 : w56.heap[b55]? = some (.cells ((resC x54.1)).toArray 32 (0, 0)) := by rw [ee_b55]; exact (hΦ 10 rfl).1.2
    have hs9 : Fresh [cellC b55 ((resC x54.1)).toArray 32] (gg 9).lo (gg 9).hi w56 := by subst ee_b55; exact Fresh.cell (hΦ 9 rfl).1.2.1 h_b55
    have r := r.congr (sc ((hΦ 12 rfl).1) (sc ((hΦ 11 rfl).1) (sc g9 (sc ((hΦ 8 rfl).1) (sc ((hΦ 7 rfl).1) (sc ((hΦ 6 rfl).1) (sc ((hΦ 5 rfl).1) (sc g4 (sc ((hΦ 3 rfl).1) (sc ((hΦ 2 rfl).1) (sc ((hΦ 1 rfl).1) (sc ((hΦ 0 rfl).1) rfl))))))))))))
    have hP : Post (fun b => b ∈ (memK a2_g a2).own) [progK Tryz.prog encRes x46.2.1 γ47.1 γ47.2.1, progK Tryz.prog encRes x46.2.2.1 γ47.2.2.1 γ47.2.2.2, memK a2_g x54.2.2.2, roK 4 1 boolE a3_v a3, cellC b1 γ47.1.cells 39, cellC b5 γ47.2.2.1.cells 39, cellC b9 ((resC (⟨0, 0⟩ : Res))).toArray 32, cellC b13 ((resC (⟨0, 0⟩ : Res))).toArray 32, cellC b51 ((resC x50.1)).toArray 32, cellC b55 ((resC x54.1)).toArray 32] w0 w56 := hP.effL (i := 2) (l := [([cellC b55 ((resC x54.1)).toArray 32], (gg 9).lo, (gg 9).hi)]) rfl hb hcE rfl rfl ⟨hs9, (hΦ 9 rfl).2.1, zz2f, trivial⟩
    refine wp_seq ?_
    refine zz31 (N := 74) (Y := Res × Res × Bool) (G := Unit) (fun x γ => [(0, a0_v), (1, a1_v), (2, (.pointer (some ⟨a2_g.mb, 0, none⟩))), (3, a3_v), (4, (.pointer (some ⟨b1, 0, none⟩))), (5, (.pointer (some ⟨b5, 0, none⟩))), (8, (.pointer (some ⟨b9, 0, none⟩))), (9, (.pointer (some ⟨b13, 0, none⟩))), (11, (I x46.1)), (16, (.pointer (some ⟨b51, 0, none⟩))), (18, (.bool x50.2.2.1)), (19, (.pointer (some ⟨b55, 0, none⟩))), (21, (.bool x54.2.2.1)), (10, (.bool x.2.2))]) (fun x γ w => Post (fun b => b ∈ (memK a2_g a2).own) [progK Tryz.prog encRes x46.2.1 γ47.1 γ47.2.1, progK Tryz.prog encRes x46.2.2.1 γ47.2.2.1 γ47.2.2.2, memK a2_g x54.2.2.2, roK 4 1 boolE a3_v a3, cellC b1 γ47.1.cells 39, cellC b5 γ47.2.2.1.cells 39, cellC b9 ((resC x.1)).toArray 32, cellC b13 ((resC x.2.1)).toArray 32, cellC b51 ((resC x50.1)).toArray 32, cellC b55 ((resC x54.1)).toArray 32] w0 w) hD ?_ ?_
    ·
     rintro y57 RPy57 nxy57 hD
     refine zz0r x50.2.2.1 (fun h58 => ?_) (fun h58 => ?_)
     ·
      have hD := (cond_t h58).symm.trans hD
      refine wp_putsP [b9, b13] [.val (.agg (resC x50.1).toArray), .val (.agg (resC x54.1).toArray), .val (.bool x50.2.2.1), .val (.bool x50.2.2.1), .val (.bool x54.2.2.1), .val (.bool x54.2.2.1), .put 0 ((resC x50.1)).toArray 32, .put 1 ((resC x54.1)).toArray 32, .val (.bool x54.2.2.1)] mixed r (hP.lt2 (i1 := 6) (i2 := 7) rfl rfl) (nd2 (hP.cne (i1 := 6) (i2 := 7) rfl rfl rfl)) (by kernel_rfl) ?_ ?_
      ·
       refine zz3n r rfl rfl (fun fr1 g w' hk' hd r' => ?_) ?_
       · exact zz03 r' (cs := (resC x50.1)) (n := 2) rfl (hP.cellP (i1 := 6) (i2 := 7) rfl rfl (drK hk') (i := 8) rfl rfl rfl) ta32 rfl ⟨Below.refl _ _, rfl⟩
       refine zz3n r rfl rfl (fun fr1 g w' hk' hd r' => ?_) ?_
       · exact zz03 r' (cs := (resC x54.1)) (n := 2) rfl (hP.cellP (i1 := 6) (i2 := 7) rfl rfl (drK hk') (i := 9) rfl rfl rfl) ta32 rfl ⟨Below.refl _ _, rfl⟩
       refine zz3n r rfl rfl (fun fr1 g w' hk' hd r' => ?_) ?_
       · exact y_move r' (v := (.bool x50.2.2.1)) rfl ⟨Below.refl _ _, rfl⟩
       refine zz3n r rfl rfl (fun fr1 g w' hk' hd r' => ?_) ?_
       · exact y_move r' (v := (.bool x50.2.2.1)) (hd 2 rfl) ⟨Below.refl _ _, rfl⟩
       refine eachP_want true r rfl rfl rfl rfl (fun g hd => Eq.trans (show g 3 = .bool x50.2.2.1 from hd 3 rfl) (congrArg Value.bool h58)) (fun fr1 g w' hk' hd r' => ?_) ?_
       · exact y_move r' (v := (.bool x54.2.2.1)) rfl ⟨Below.refl _ _, rfl⟩
       refine zz3n r rfl rfl (fun fr1 g w' hk' hd r' => ?_) ?_
       · exact y_pick r' (b := true) (v := (.bool x54.2.2.1)) (Eq.trans (show g 3 = .bool x50.2.2.1 from (hd 3 rfl)) (congrArg Value.bool h58)) (hd 4 rfl) ⟨Below.refl _ _, rfl⟩
       refine eachP_put (k := 0) (b := b9) r rfl rfl rfl (fun fr1 g w' hk' hd r' hu => ?_) ?_
       · exact y_store r' (o := 0) (v := (.agg (resC x50.1).toArray)) rfl (hd 0 rfl) (hu.trans (hP.cell (i := 6) rfl)) ts32 (Nat.le_of_ble_eq_true rfl) rfl rfl (fun w2 u2 => ⟨u2, rfl⟩)
       refine eachP_put (k := 1) (b := b13) r rfl rfl rfl (fun fr1 g w' hk' hd r' hu => ?_) ?_
       · exact y_store r' (o := 0) (v := (.agg (resC x54.1).toArray)) rfl (hd 1 rfl) (hu.trans (hP.cell (i := 7) rfl)) ts32 (Nat.le_of_ble_eq_true rfl) rfl rfl (fun w2 u2 => ⟨u2, rfl⟩)
       refine zz3n r rfl rfl (fun fr1 g w' hk' hd r' => ?_) ?_
       · exact zz04 r' (v := (.bool x54.2.2.1)) (hd 5 rfl) ⟨Below.refl _ _, rfl⟩
       exact eachP_nil
      ·
       intro fr gg w59 hb hΦ hpt r
       have g0 : gg 0 = (.agg (resC x50.1).toArray) := hΦ 0 rfl
       have g1 : gg 1 = (.agg (resC x54.1).toArray) := hΦ 1 rfl
       have g2 : gg 2 = (.bool x50.2.2.1) := hΦ 2 rfl
       have g3 : gg 3 = (.bool x50.2.2.1) := hΦ 3 rfl
       have g4 : gg 4 = (.bool x54.2.2.1) := hΦ 4 rfl
       have g5 : gg 5 = (.bool x54.2.2.1) := hΦ 5 rfl
       have g8 : gg 8 = (.bool x54.2.2.1) := hΦ 8 rfl
       have r := r.congr (sc g8 (sc g5 (sc g4 (sc g3 (sc g2 (sc g1 (sc g0 rfl)))))))
       have hP : Post (fun b => b ∈ (memK a2_g a2).own) [progK Tryz.prog encRes x46.2.1 γ47.1 γ47.2.1, progK Tryz.prog encRes x46.2.2.1 γ47.2.2.1 γ47.2.2.2, memK a2_g x54.2.2.2, roK 4 1 boolE a3_v a3, cellC b1 γ47.1.cells 39, cellC b5 γ47.2.2.1.cells 39, cellC b9 ((resC x50.1)).toArray 32, cellC b13 ((resC x54.1)).toArray 32, cellC b51 ((resC x50.1)).toArray 32, cellC b55 ((resC x54.1)).toArray 32] w0 w59 := hP.put2 (i1 := 6) (i2 := 7) rfl rfl rfl hb (hpt 6 _ _ _ _ rfl rfl rfl) (hpt 7 _ _ _ _ rfl rfl rfl)
       exact nxy57 (x50.1, x54.1, x54.2.2.1) () _ _ _ hD r (hs_cons rfl (hs_cons rfl (hs_cons rfl (hs_cons rfl (hs_cons rfl (hs_cons rfl (hs_cons rfl (hs_cons rfl (hs_cons rfl (hs_cons rfl (hs_cons rfl (hs_cons rfl (hs_cons rfl (hs_cons rfl hs_nil)))))))))))))) (hP.pick [0, 1, 2, 3, 4, 5, 6, 7, 8, 9] rfl rfl)
     ·
      have hD := (cond_f h58).symm.trans hD
      refine wp_putsP [b9, b13] [.val (.agg (resC x50.1).toArray), .val (.agg (resC x54.1).toArray), .val (.bool x50.2.2.1), .val (.bool x50.2.2.1), .val undef, .val (.bool false), .put 0 ((resC x50.1)).toArray 32, .put 1 ((resC x54.1)).toArray 32, .val (.bool false)] mixed r (hP.lt2 (i1 := 6) (i2 := 7) rfl rfl) (nd2 (hP.cne (i1 := 6) (i2 := 7) rfl rfl rfl)) (by kernel_rfl) ?_ ?_
      ·
       refine zz3n r rfl rfl (fun fr1 g w' hk' hd r' => ?_) ?_
       · exact zz03 r' (cs := (resC x50.1)) (n := 2) rfl (hP.cellP (i1 := 6) (i2 := 7) rfl rfl (drK hk') (i := 8) rfl rfl rfl) ta32 rfl ⟨Below.refl _ _, rfl⟩
       refine zz3n r rfl rfl (fun fr1 g w' hk' hd r' => ?_) ?_
       · exact zz03 r' (cs := (resC x54.1)) (n := 2) rfl (hP.cellP (i1 := 6) (i2 := 7) rfl rfl (drK hk') (i := 9) rfl rfl rfl) ta32 rfl ⟨Below.refl _ _, rfl⟩
       refine zz3n r rfl rfl (fun fr1 g w' hk' hd r' => ?_) ?_
       · exact y_move r' (v := (.bool x50.2.2.1)) rfl ⟨Below.refl _ _, rfl⟩
       refine zz3n r rfl rfl (fun fr1 g w' hk' hd r' => ?_) ?_
       · exact y_move r' (v := (.bool x50.2.2.1)) (hd 2 rfl) ⟨Below.refl _ _, rfl⟩
       refine eachP_skip true (.bool false) r rfl rfl rfl rfl (fun g hd => Eq.trans (show g 3 = .bool x50.2.2.1 from hd 3 rfl) (congrArg Value.bool h58)) (by simp [boolOf]) ?_
       refine zz3n r rfl rfl (fun fr1 g w' hk' hd r' => ?_) ?_
       · exact y_pick r' (b := false) (v := (.bool false)) (Eq.trans (show g 3 = .bool x50.2.2.1 from (hd 3 rfl)) (congrArg Value.bool h58)) rfl ⟨Below.refl _ _, rfl⟩
       refine eachP_put (k := 0) (b := b9) r rfl rfl rfl (fun fr1 g w' hk' hd r' hu => ?_) ?_
       · exact y_store r' (o := 0) (v := (.agg (resC x50.1).toArray)) rfl (hd 0 rfl) (hu.trans (hP.cell (i := 6) rfl)) ts32 (Nat.le_of_ble_eq_true rfl) rfl rfl (fun w2 u2 => ⟨u2, rfl⟩)
       refine eachP_put (k := 1) (b := b13) r rfl rfl rfl (fun fr1 g w' hk' hd r' hu => ?_) ?_
       · exact y_store r' (o := 0) (v := (.agg (resC x54.1).toArray)) rfl (hd 1 rfl) (hu.trans (hP.cell (i := 7) rfl)) ts32 (Nat.le_of_ble_eq_true rfl) rfl rfl (fun w2 u2 => ⟨u2, rfl⟩)
       refine zz3n r rfl rfl (fun fr1 g w' hk' hd r' => ?_) ?_
       · exact zz04 r' (v := (.bool false)) (hd 5 rfl) ⟨Below.refl _ _, rfl⟩
       exact eachP_nil
      ·
       intro fr gg w60 hb hΦ hpt r
       have g0 : gg 0 = (.agg (resC x50.1).toArray) := hΦ 0 rfl
       have g1 : gg 1 = (.agg (resC x54.1).toArray) := hΦ 1 rfl
       have g2 : gg 2 = (.bool x50.2.2.1) := hΦ 2 rfl
       have g3 : gg 3 = (.bool x50.2.2.1) := hΦ 3 rfl
       have g4 : gg 4 = undef := hΦ 4 rfl
       have g5 : gg 5 = (.bool false) := hΦ 5 rfl
       have g8 : gg 8 = (.bool false) := hΦ 8 rfl
       have r := r.congr (sc g8 (sc g5 (sc g4 (sc g3 (sc g2 (sc g1 (sc g0 rfl)))))))
       have hP : Post (fun b => b ∈ (memK a2_g a2).own) [progK Tryz.prog encRes x46.2.1 γ47.1 γ47.2.1, progK Tryz.prog encRes x46.2.2.1 γ47.2.2.1 γ47.2.2.2, memK a2_g x54.2.2.2, roK 4 1 boolE a3_v a3, cellC b1 γ47.1.cells 39, cellC b5 γ47.2.2.1.cells 39, cellC b9 ((resC x50.1)).toArray 32, cellC b13 ((resC x54.1)).toArray 32, cellC b51 ((resC x50.1)).toArray 32, cellC b55 ((resC x54.1)).toArray 32] w0 w60 := hP.put2 (i1 := 6) (i2 := 7) rfl rfl rfl hb (hpt 6 _ _ _ _ rfl rfl rfl) (hpt 7 _ _ _ _ rfl rfl rfl)
       exact nxy57 (x50.1, x54.1, false) () _ _ _ hD r (hs_cons rfl (hs_cons rfl (hs_cons rfl (hs_cons rfl (hs_cons rfl (hs_cons rfl (hs_cons rfl (hs_cons rfl (hs_cons rfl (hs_cons rfl (hs_cons rfl (hs_cons rfl (hs_cons rfl (hs_cons rfl hs_nil)))))))))))))) (hP.pick [0, 1, 2, 3, 4, 5, 6, 7, 8, 9] rfl rfl)
    ·
     rintro x61 γ62 fr w63 g r hP hD
     have hP : Post (fun b => b ∈ (memK a2_g a2).own) [progK Tryz.prog encRes x46.2.1 γ47.1 γ47.2.1, progK Tryz.prog encRes x46.2.2.1 γ47.2.2.1 γ47.2.2.2, memK a2_g x54.2.2.2, roK 4 1 boolE a3_v a3, cellC b1 γ47.1.cells 39, cellC b5 γ47.2.2.1.cells 39, cellC b9 ((resC x61.1)).toArray 32, cellC b13 ((resC x61.2.1)).toArray 32, cellC b51 ((resC x50.1)).toArray 32, cellC b55 ((resC x54.1)).toArray 32] w0 w63 := hP
     refine wp_ret ?_
     have hv : (x61.1, x61.2.1, x61.2.2, x54.2.2.2) = res := Option.some.inj hD
     try dsimp only [Exit.then, Exit.inBlock]
     refine ret_cell2_tmp (fn := Tryz.f38) r rfl rfl rfl (v2 := (.bool x61.2.2)) rfl (hP.cell (i := 6) rfl) (k := 2) rfl ta32 (hP.cell (i := 7) rfl) (k1 := 2) rfl ta32 ?_
     subst hv
     exact ⟨rfl, (hP.pick [2] rfl rfl).done (zz2p rfl zz3c)⟩

end Go.Proofs.YtjkinpbfmihhdaaGreat

/- Handles and their words, in numbers. -/
namespace Go.Proofs.YtjkinpbfmihhdaaGreat
open Go.RowKit

/-- A handle that is formed. -/
structure HF (h : Handle) : Prop where
  i0 : 0 ≤ h.index
  i1 : h.index < 1048576
  g0 : 0 ≤ h.gen
  g1 : h.gen ≤ 1073741823
  t0 : 0 ≤ h.tenant
  t1 : h.tenant < 64

end Go.Proofs.YtjkinpbfmihhdaaGreat

/- Nodes by handles, alone: what reading, writing, swapping, granting and dropping come to, without the code. -/
set_option linter.unusedVariables false
namespace Go.Proofs.YtjkinpbfmihhdaaGreat
open Go.RowKit

theorem runR {t : T Res} {M : Mem} {ws' : List Int} {n : Nat} {most : Int} {r : Res} {fu : Nat} (h : Runs t M.ws n r ws') (hm : (n : Int) ≤ most) (hm2 : most ≤ 1000000) (hn : n < fu) : ∃ c, D.zz2z fu (fu, t) M cap0 most = some (r, (n : Int), true, ⟨ws', c⟩) := by
  have h2 := runG_eq (z := (⟨0, 0⟩ : Res)) (fu := fu) (d := fu) (most := most) h hm hm2 (Nat.le_of_lt hn) hn
  exact h2

section
variable {s : Seat} (hs : D.zz0u s = true) {ws : List Int} (hl : Len s.p ws) {w f : Int} {h : Handle} (hm : D.zz07 w s.tenant s.p.nodes = (h, true)) (hn : 0 ≤ h.index ∧ h.index < s.p.nodes)
include hs hl hm hn
end
end Go.Proofs.YtjkinpbfmihhdaaGreat

/- Two programs, however their steps stand in one another: all states that are reached are looked at, each once. -/
namespace Go.Proofs.YtjkinpbfmihhdaaGreat
open Go.RowKit

/-- What a step of a tree comes to. -/
inductive Went (R : Type) where
  | over (r : R)
  | bad
  | went (x : Int) (ws : List Int)

section
variable {A B R : Type}
def went (t : T R) (ws : List Int) : Went R := match t with
  | .done r => .over r
  | .cut => .bad
  | .act op at_ a b _ => if 0 ≤ op ∧ op ≤ 3 then (match getI ws at_ with
    | some x => .went x (acted op at_ a b x ws)
    | none => .bad) else .bad

theorem zz57 {t : T R} {ws : List Int} {r : R} (h : went t ws = .over r) : t = .done r := by
  cases t with
  | done r' => simp only [went, Went.over.injEq] at h; rw [h]
  | cut => cases h
  | act op at_ a b k =>
    simp only [went] at h
    split at h
    · split at h <;> cases h
    · cases h

theorem went_went {t : T R} {ws ws' : List Int} {x : Int} (h : went t ws = .went x ws') : ∃ op at_ a b k, t = .act op at_ a b k ∧ (0 ≤ op ∧ op ≤ 3) ∧ getI ws at_ = some x ∧ ws' = acted op at_ a b x ws := by
  cases t with
  | done r' => cases h
  | cut => cases h
  | act op at_ a b k =>
    simp only [went] at h
    split at h
    · rename_i h1
      split at h
      · rename_i y h2
        simp only [Went.went.injEq] at h
        obtain ⟨rfl, rfl⟩ := h
        exact ⟨op, at_, a, b, k, rfl, h1, h2, rfl⟩
      · cases h
    · cases h

/-- However two programs' steps stand in one another: each is done, and in the end Q holds; in at most so many steps. -/
inductive Safe (Q : A → B → List Int → Prop) : Nat → T A → T B → List Int → Prop
  | over {n : Nat} {ra : A} {rb : B} {ws : List Int} (h : Q ra rb ws) : Safe Q n (.done ra) (.done rb) ws
  | left {n : Nat} {ta : T A} {rb : B} {ws ws' : List Int} {x : Int} (h1 : went ta ws = .went x ws') (h : Safe Q n (ta.next x) (.done rb) ws') : Safe Q (n + 1) ta (.done rb) ws
  | right {n : Nat} {ra : A} {tb : T B} {ws ws' : List Int} {x : Int} (h1 : went tb ws = .went x ws') (h : Safe Q n (.done ra) (tb.next x) ws') : Safe Q (n + 1) (.done ra) tb ws
  | both {n : Nat} {ta : T A} {tb : T B} {ws wa wb : List Int} {x y : Int} (h1 : went ta ws = .went x wa) (h2 : went tb ws = .went y wb) (h : Safe Q n (ta.next x) tb wa) (h' : Safe Q n ta (tb.next y) wb) : Safe Q (n + 1) ta tb ws

theorem Safe.mono {Q Q' : A → B → List Int → Prop} (hQ : ∀ a b w, Q a b w → Q' a b w) {n : Nat} {ta : T A} {tb : T B} {ws : List Int} (h : Safe Q n ta tb ws) : Safe Q' n ta tb ws := by
  induction h with
  | over h => exact .over (hQ _ _ _ h)
  | left h1 _ ih => exact .left h1 ih
  | right h1 _ ih => exact .right h1 ih
  | both h1 h2 _ _ ih ih' => exact .both h1 h2 ih ih'

theorem Runs.of_went {t : T R} {ws ws' ws'' : List Int} {x : Int} {n : Nat} {r : R} (h : went t ws = .went x ws') (h2 : Runs (t.next x) ws' n r ws'') : Runs t ws (n + 1) r ws'' := by
  obtain ⟨op, at_, a, b, k, rfl, h1, h3, rfl⟩ := went_went h
  exact .act h1 h3 h2

/-- The first one to its end, and then the other one. -/
theorem Safe.runs {Q : A → B → List Int → Prop} {n : Nat} {ta : T A} {tb : T B} {ws : List Int} (h : Safe Q n ta tb ws) : ∃ (m : Nat) (ra : A) (w1 : List Int) (m2 : Nat) (rb : B) (w2 : List Int), Runs ta ws m ra w1 ∧ Runs tb w1 m2 rb w2 ∧ m + m2 ≤ n ∧ Q ra rb w2 := by
  induction h with
  | over h => exact ⟨0, _, _, 0, _, _, .done _ _, .done _ _, by omega, h⟩
  | left h1 _ ih =>
    obtain ⟨m, ra, w1, m2, rb, w2, r1, r2, hm, hq⟩ := ih
    exact ⟨m + 1, ra, w1, m2, rb, w2, .of_went h1 r1, r2, by omega, hq⟩
  | right h1 _ ih =>
    obtain ⟨m, ra, w1, m2, rb, w2, r1, r2, hm, hq⟩ := ih
    cases r1 with
    | done => exact ⟨0, _, _, m2 + 1, rb, w2, .done _ _, .of_went h1 r2, by omega, hq⟩
  | both h1 h2 _ _ ih _ =>
    obtain ⟨m, ra, w1, m2, rb, w2, r1, r2, hm, hq⟩ := ih
    exact ⟨m + 1, ra, w1, m2, rb, w2, .of_went h1 r1, r2, by omega, hq⟩

theorem Safe.stepL {Q : A → B → List Int → Prop} {n : Nat} {ta : T A} {tb : T B} {ws : List Int} (h : Safe Q n ta tb ws) : ta.isDone = true ∨ ∃ m x ws', n = m + 1 ∧ went ta ws = .went x ws' ∧ Safe Q m (ta.next x) tb ws' := by
  cases h with
  | over h => exact .inl rfl
  | left h1 h => exact .inr ⟨_, _, _, rfl, h1, h⟩
  | right h1 h => exact .inl rfl
  | both h1 h2 h h' => exact .inr ⟨_, _, _, rfl, h1, h⟩

theorem Safe.stepR {Q : A → B → List Int → Prop} {n : Nat} {ta : T A} {tb : T B} {ws : List Int} (h : Safe Q n ta tb ws) : tb.isDone = true ∨ ∃ m x ws', n = m + 1 ∧ went tb ws = .went x ws' ∧ Safe Q m ta (tb.next x) ws' := by
  cases h with
  | over h => exact .inl rfl
  | left h1 h => exact .inl rfl
  | right h1 h => exact .inr ⟨_, _, _, rfl, h1, h⟩
  | both h1 h2 h h' => exact .inr ⟨_, _, _, rfl, h2, h'⟩

/-! ### States looked at, each once -/
def played (t : T R) : List Int → T R
  | [] => t
  | x :: h => (played t h).next x

/-- A state: what each was told (the last first), and the words. -/
structure RSt where
  ha : List Int
  hb : List Int
  ws : List Int
  deriving DecidableEq

/-- The next ones; none: something is wrong. -/
def succs (a : T A) (b : T B) (fin : A → B → List Int → Bool) (s : RSt) : Option (List RSt) :=
  match went (played a s.ha) s.ws, went (played b s.hb) s.ws with
  | .over ra, .over rb => if fin ra rb s.ws then some [] else none
  | .over _, .went y w => some [⟨s.ha, y :: s.hb, w⟩]
  | .went x w, .over _ => some [⟨x :: s.ha, s.hb, w⟩]
  | .went x w, .went y w' => some [⟨x :: s.ha, s.hb, w⟩, ⟨s.ha, y :: s.hb, w'⟩]
  | _, _ => none

def insR (l : List RSt) (s : RSt) : List RSt := if l.elem s then l else s :: l

def levelR (a : T A) (b : T B) (fin : A → B → List Int → Bool) : List RSt → List RSt → Option (List RSt)
  | [], acc => some acc
  | s :: l, acc => match succs a b fin s with
    | none => none
    | some ns => levelR a b fin l (ns.foldl insR acc)

def exploreR (a : T A) (b : T B) (fin : A → B → List Int → Bool) : Nat → List RSt → Bool
  | _, [] => true
  | 0, _ :: _ => false
  | n + 1, s :: l => match levelR a b fin (s :: l) [] with
    | none => false
    | some l' => exploreR a b fin n l'

theorem ins_old {l : List RSt} {s t : RSt} (h : t ∈ l) : t ∈ insR l s := by
  unfold insR
  split
  · exact h
  · exact List.mem_cons_of_mem _ h

theorem ins_new {l : List RSt} {s : RSt} : s ∈ insR l s := by
  unfold insR
  split
  · rename_i h; simpa using h
  · exact List.mem_cons_self ..

theorem insF_old : ∀ {ns l : List RSt} {t : RSt}, t ∈ l → t ∈ ns.foldl insR l
  | [], _, _, h => h
  | s :: ns, l, t, h => insF_old (ns := ns) (l := insR l s) (ins_old h)

theorem insF_new : ∀ {ns l : List RSt} {t : RSt}, t ∈ ns → t ∈ ns.foldl insR l
  | s :: ns, l, t, h => by
    rcases List.mem_cons.1 h with rfl | h
    · exact insF_old (ns := ns) (l := insR l t) ins_new
    · exact insF_new (ns := ns) (l := insR l s) h

theorem level_ok {a : T A} {b : T B} {fin : A → B → List Int → Bool} : ∀ {l acc l' : List RSt}, levelR a b fin l acc = some l' → (∀ t, t ∈ acc → t ∈ l') ∧ ∀ s, s ∈ l → ∃ ns, succs a b fin s = some ns ∧ ∀ t, t ∈ ns → t ∈ l'
  | [], acc, l', h => by
    obtain rfl := Option.some.inj h
    exact ⟨fun _ h => h, fun s hs => by cases hs⟩
  | s :: l, acc, l', h => by
    unfold levelR at h
    split at h
    · cases h
    · rename_i ns hns
      obtain ⟨h1, h2⟩ := level_ok h
      refine ⟨fun t ht => h1 t (insF_old ht), fun t ht => ?_⟩
      rcases List.mem_cons.1 ht with rfl | ht
      · exact ⟨ns, hns, fun t ht => h1 t (insF_new ht)⟩
      · exact h2 t ht

theorem explore_ok {a : T A} {b : T B} {fin : A → B → List Int → Bool} {Q : A → B → List Int → Prop} (hQ : ∀ ra rb ws, fin ra rb ws = true → Q ra rb ws) :
    ∀ {n : Nat} {l : List RSt}, exploreR a b fin n l = true → ∀ s, s ∈ l → Safe Q n (played a s.ha) (played b s.hb) s.ws
  | _, [], _, s, hs => by cases hs
  | 0, _ :: _, h, _, _ => by cases h
  | n + 1, s0 :: l, h, s, hs => by
    unfold exploreR at h
    split at h
    · cases h
    · rename_i l' hl
      obtain ⟨_, h2⟩ := level_ok hl
      obtain ⟨ns, hns, hin⟩ := h2 s hs
      have ih : ∀ t, t ∈ ns → Safe Q n (played a t.ha) (played b t.hb) t.ws := fun t ht => explore_ok hQ h t (hin t ht)
      unfold succs at hns
      split at hns
      · rename_i ra rb e1 e2
        split at hns
        · rename_i hf
          rw [zz57 e1, zz57 e2]
          exact .over (hQ _ _ _ hf)
        · cases hns
      · rename_i ra y w e1 e2
        obtain rfl := Option.some.inj hns
        have := ih _ (List.mem_cons_self ..)
        rw [zz57 e1] at this ⊢
        exact .right e2 this
      · rename_i x w rb e1 e2
        obtain rfl := Option.some.inj hns
        have := ih _ (List.mem_cons_self ..)
        rw [zz57 e2] at this ⊢
        exact .left e1 this
      · rename_i x w y w' e1 e2
        obtain rfl := Option.some.inj hns
        exact .both e1 e2 (ih _ (List.mem_cons_self ..)) (ih _ (List.mem_cons_of_mem _ (List.mem_cons_self ..)))
      · cases hns

end
end Go.Proofs.YtjkinpbfmihhdaaGreat

/- Two programs in a race: what the laws' race comes to; words left open; words behind a race, gathered. -/
set_option linter.unusedVariables false
namespace Go.Proofs.YtjkinpbfmihhdaaGreat
open Go.RowKit

/-- The laws' race, for whatever results. -/
def raceG {R : Type} (z : R) (fu : Nat) (a0 : Nat × T R) (a1 : Nat × T R) (a2 : Mem) (a3 : List Bool) : Option (R × R × Bool × Mem) := (loopThen (fun (x17 : Int × (Nat × T R) × (Nat × T R) × Mem) => (bif (decide (x17.1 < (a3.length : Int))) then ((getI a3 x17.1).bind (fun (x22 : Bool) => (Option.bind (bif x22 then ((D.zz1g fu x17.2.2.2 0).bind (fun (x25 : Cap) => ((stepG fu x17.2.1 x17.2.2.2 x25).bind (fun (x26 : (Nat × T R) × Bool × Mem) => (some (x26.2.2, x26.1, x17.2.2.1)))))) else ((D.zz1g fu x17.2.2.2 0).bind (fun (x34 : Cap) => ((stepG fu x17.2.2.1 x17.2.2.2 x34).bind (fun (x35 : (Nat × T R) × Bool × Mem) => (some (x35.2.2, x17.2.1, x35.1))))))) (fun (x43 : Mem × (Nat × T R) × (Nat × T R)) => (some (Lp.next ((IntKind.i64.wrap (x17.1 + 1)), x43.2.1, x43.2.2, x43.1))))))) else (some (Lp.brk (x17.1, x17.2.1, x17.2.2.1, x17.2.2.2))))) fu (0, a0, a1, a2) (fun (x46 : Int × (Nat × T R) × (Nat × T R) × Mem) => ((D.zz1g fu x46.2.2.2 0).bind (fun (x49 : Cap) => ((runG z fu x46.2.1 x46.2.2.2 x49 600).bind (fun (x50 : R × Int × Bool × Mem) => ((D.zz1g fu x50.2.2.2 0).bind (fun (x53 : Cap) => ((runG z fu x46.2.2.1 x50.2.2.2 x53 600).bind (fun (x54 : R × Int × Bool × Mem) => (Option.bind (bif x50.2.2.1 then (some (x50.1, x54.1, x54.2.2.1)) else (some (x50.1, x54.1, false))) (fun (x61 : R × R × Bool) => (some (x61.1, x61.2.1, x61.2.2, x54.2.2.2))))))))))))))

section
variable {R : Type}
theorem stepG_done {fu d : Nat} {t : T R} {M : Mem} {c : Cap} (h : t.isDone = true) : stepG fu (d, t) M c = some ((d, t), false, M) := by
  unfold stepG
  simp only [h, cond_true]

theorem stepG_went {fu d : Nat} {t : T R} {M : Mem} {x : Int} {ws' : List Int} (h : went t M.ws = .went x ws') : ∃ c, stepG fu (d + 1, t) M cap0 = some ((d, t.next x), true, ⟨ws', c⟩) := by
  obtain ⟨op, at_, a, b, k, rfl, h1, h2, rfl⟩ := went_went h
  exact stepG_ok h1 h2

theorem raceG_ok {z : R} {Q : R → R → List Int → Prop} {n : Nat} {ta tb : T R} {M : Mem} {picks : List Bool} {fu : Nat} (h : Safe Q n ta tb M.ws) (hn : n ≤ 300) (hf : 700 ≤ fu) (hp : picks.length ≤ 60) :
    ∃ ra rb M', raceG z fu (fu, ta) (fu, tb) M picks = some (ra, rb, true, M') ∧ Q ra rb M'.ws := by
  unfold raceG
  simp only [Cap_eq, Option.bind_some]
  refine loop_inv (fun (o : Option (R × R × Bool × Mem)) => ∃ (ra rb : R) (M' : Mem), o = some (ra, rb, true, M') ∧ Q ra rb M'.ws) (fun (i : Nat) (x : Int × (Nat × T R) × (Nat × T R) × Mem) => x.1 = (i : Int) ∧ ∃ m, Safe Q m x.2.1.2 x.2.2.1.2 x.2.2.2.ws ∧ m ≤ n ∧ m ≤ x.2.1.1 ∧ m ≤ x.2.2.1.1) picks.length fu ⟨rfl, n, h, Nat.le_refl _, (show n ≤ fu by omega), (show n ≤ fu by omega)⟩ (by omega) ?_ ?_
  · rintro i ⟨x, ⟨da, ta⟩, ⟨db, tb⟩, M⟩ hi ⟨rfl, m, hs, hm, hda, hdb⟩
    simp only at hs hda hdb ⊢
    rw [show decide ((i : Int) < (picks.length : Int)) = true from by simp; omega, getI_nat hi, zz25 (show -1000000 ≤ (i : Int) + 1 by omega) (by omega)]
    simp only [cond_true, Option.bind_some]
    cases picks[i]
    · simp only [cond_false]
      rcases hs.stepR with hd | ⟨m', y, ws', rfl, hw, hs'⟩
      · rw [stepG_done hd]
        exact ⟨_, rfl, by simp, m, hs, hm, hda, hdb⟩
      · obtain ⟨db, rfl⟩ : ∃ q, db = q + 1 := ⟨db - 1, by omega⟩
        obtain ⟨c, hc⟩ := stepG_went (fu := fu) (d := db) hw
        rw [hc]
        exact ⟨_, rfl, by simp, m', hs', by omega, by simp only; omega, by simp only; omega⟩
    · simp only [cond_true]
      rcases hs.stepL with hd | ⟨m', y, ws', rfl, hw, hs'⟩
      · rw [stepG_done hd]
        exact ⟨_, rfl, by simp, m, hs, hm, hda, hdb⟩
      · obtain ⟨da, rfl⟩ : ∃ q, da = q + 1 := ⟨da - 1, by omega⟩
        obtain ⟨c, hc⟩ := stepG_went (fu := fu) (d := da) hw
        rw [hc]
        exact ⟨_, rfl, by simp, m', hs', by omega, by simp only; omega, by simp only; omega⟩
  · rintro ⟨x, ⟨da, ta⟩, ⟨db, tb⟩, M⟩ ⟨rfl, m, hs, hm, hda, hdb⟩
    simp only at hs hda hdb ⊢
    rw [show decide ((picks.length : Int) < (picks.length : Int)) = false from by simp]
    refine ⟨_, rfl, ?_⟩
    simp only
    obtain ⟨m1, ra, w1, m2, rb, w2, r1, r2, hmm, hq⟩ := hs.runs
    obtain ⟨c1, h1⟩ := runG_eq (z := z) (fu := fu) (d := da) (most := 600) r1 (by omega) (by omega) (by omega) (by omega)
    rw [h1]
    simp only [Option.bind_some, cond_true]
    obtain ⟨c2, h2⟩ := runG_eq (z := z) (fu := fu) (d := db) (most := 600) (M := ⟨w1, c1⟩) r2 (by omega) (by omega) (by omega) (by omega)
    rw [h2]
    exact ⟨ra, rb, ⟨w2, c2⟩, rfl, hq⟩

end
/-! ### The words behind a race, gathered -/
section
variable {A B R : Type}
inductive Succ where
  | bad
  | fin (ws : List Int)
  | one (s : RSt)
  | two (s t : RSt)

/-! ### All paths, with a word left open -/
/-- All paths to their ends; what each tells; none: something is wrong. -/
def pathsR (fin : A → B → List Int → Option (List Int)) : Nat → T A → T B → List Int → Option (List Int)
  | 0, _, _, _ => none
  | n + 1, a, b, ws => match went a ws, went b ws with
    | .over ra, .over rb => fin ra rb ws
    | .over _, .went y w => pathsR fin n a (b.next y) w
    | .went x w, .over _ => pathsR fin n (a.next x) b w
    | .went x w, .went y w' => (pathsR fin n (a.next x) b w).bind fun l => (pathsR fin n a (b.next y) w').bind fun l' => some (l ++ l')
    | _, _ => none

theorem paths_ok {fin : A → B → List Int → Option (List Int)} {v : Int} : ∀ {n : Nat} {a : T A} {b : T B} {ws L : List Int}, pathsR fin n a b ws = some L → (∀ x, x ∈ L → x = v) → Safe (fun ra rb ws => ∃ l, fin ra rb ws = some l ∧ ∀ x, x ∈ l → x = v) n a b ws
  | 0, _, _, _, _, h, _ => by cases h
  | n + 1, a, b, ws, L, h, hL => by
    unfold pathsR at h
    split at h
    · rename_i ra rb e1 e2
      rw [zz57 e1, zz57 e2]
      exact .over ⟨L, h, hL⟩
    · rename_i ra y w e1 e2
      have := paths_ok h hL
      rw [zz57 e1] at this ⊢
      exact .right e2 this
    · rename_i x w rb e1 e2
      have := paths_ok h hL
      rw [zz57 e2] at this ⊢
      exact .left e1 this
    · rename_i x w y w' e1 e2
      obtain ⟨l, h1, h⟩ := Option.bind_eq_some_iff.1 h
      obtain ⟨l', h2, h⟩ := Option.bind_eq_some_iff.1 h
      obtain rfl := Option.some.inj h
      exact .both e1 e2 (paths_ok h1 fun x hx => hL x (List.mem_append_left _ hx)) (paths_ok h2 fun x hx => hL x (List.mem_append_right _ hx))
    · cases h

/-- A run, computed. -/
def runT : Nat → T R → List Int → Option (R × Nat)
  | 0, _, _ => none
  | n + 1, t, ws => match went t ws with
    | .over r => some (r, 0)
    | .went x w => (runT n (t.next x) w).map fun q => (q.1, q.2 + 1)
    | .bad => none

theorem runT_ok : ∀ {n : Nat} {t : T R} {ws : List Int} {r : R} {m : Nat}, runT n t ws = some (r, m) → ∃ ws', Runs t ws m r ws'
  | 0, _, _, _, _, h => by cases h
  | n + 1, t, ws, r, m, h => by
    unfold runT at h
    split at h
    · rename_i r' e
      simp only [Option.some.injEq, Prod.mk.injEq] at h
      obtain ⟨rfl, rfl⟩ := h
      rw [zz57 e]
      exact ⟨ws, .done _ _⟩
    · rename_i x w e
      obtain ⟨⟨r', m'⟩, h1, h2⟩ := Option.map_eq_some_iff.1 h
      simp only [Prod.mk.injEq] at h2
      obtain ⟨rfl, rfl⟩ := h2
      obtain ⟨ws', hr⟩ := runT_ok h1
      exact ⟨ws', .of_went e hr⟩
    · cases h

theorem runT_lt : ∀ {n : Nat} {t : T R} {ws : List Int} {r : R} {m : Nat}, runT n t ws = some (r, m) → m < n
  | 0, _, _, _, _, h => by cases h
  | n + 1, t, ws, r, m, h => by
    unfold runT at h
    split at h
    · simp only [Option.some.injEq, Prod.mk.injEq] at h
      omega
    · obtain ⟨⟨r', m'⟩, h1, h2⟩ := Option.map_eq_some_iff.1 h
      simp only [Prod.mk.injEq] at h2
      have := runT_lt h1
      omega
    · cases h

end
end Go.Proofs.YtjkinpbfmihhdaaGreat
