/- Some of our texts, one behind the other. -/
import Derived.Laws.Append
import Derived.Laws.CopyRow
import Derived.Laws.MakeOwn
import Derived.ChangeKeysEq
import Derived.Laws.StructEq
import Derived.Test.YtbbipmelhmgmfaaFmM1
import Derived.Test.YtbbipmelhmgmfaaFmM0
import Derived.Test.YtbbipmelhmgmfaaProg
set_option linter.all false
/- Rows: slices as lists, owned or read alone; index, length, append, slice, make. -/
namespace Go.Proofs.Ytbbipmelhmgmfaa
open Go.RowKit

def rowBs : Value → List Nat
  | .slice (some a) _ (_ + 1) => [a.block]
  | _ => []

theorem mem_rowBs {a : Addr} {n c b : Nat} (h : b ∈ rowBs (.slice (some a) n c)) : b = a.block := by
  cases c with
  | zero => cases h
  | succ c => exact List.mem_singleton.1 h

theorem at_rowBs {a : Addr} {n c : Nat} (h : 0 < c) : a.block ∈ rowBs (.slice (some a) n c) := by
  cases c with
  | zero => cases h
  | succ c => exact List.mem_singleton.2 rfl

theorem rowBs_zero {ad : Option Addr} {n : Nat} : rowBs (.slice ad n 0) = [] := by cases ad <;> rfl

def rowB : Value → Nat
  | .slice (some a) _ _ => a.block
  | _ => 0

def rowO : Value → Nat
  | .slice (some a) _ _ => a.off
  | _ => 0

/-- A slice's value reads as a list: each thing as so many cells. -/
def RowAt {α : Type} (T : TypeId) (sz : Nat) (f : α → List Value) (v : Value) (xs : List α) (w : World) : Prop :=
  (∃ ad, v = .slice ad 0 0 ∧ xs = []) ∨ ∃ g o cap cur, v = .slice (some ⟨g, o, none⟩) xs.length cap ∧ xs.length ≤ cap ∧ w.heap[g]? = some (.cells cur T (0, 0)) ∧ o + cap * sz ≤ cur.size ∧ (cur.toList.drop o).take (xs.length * sz) = xs.flatMap f ∧ 0 < cap

section
variable {α : Type} {P : Program} {T : TypeId} {sz : Nat} {f : α → List Value} {v : Value} {xs ys : List α} {w w' : World}

theorem RowAt.st (h : ∀ b, b ∈ rowBs v → w'.heap[b]? = w.heap[b]?) (hr : RowAt T sz f v xs w) : RowAt T sz f v xs w' := by
  rcases hr with hr | ⟨g, o, cap, cur, rfl, h2, h3, h4⟩
  · exact .inl hr
  · exact .inr ⟨g, o, cap, cur, rfl, h2, (h g (at_rowBs h4.2.2)).trans h3, h4⟩

theorem RowAt.lt (hr : RowAt T sz f v xs w) : ∀ b, b ∈ rowBs v → b < w.heap.size := by
  rcases hr with ⟨ad, rfl, _⟩ | ⟨g, o, cap, cur, rfl, h2, h3, h4⟩
  · intro b hb; rw [rowBs_zero] at hb; cases hb
  · intro b hb
    rcases mem_rowBs hb with rfl
    exact lt_of_block h3

/-- A slice's value reads as a list, wherever it lies. -/
def RoAt {α : Type} (_T : TypeId) (sz : Nat) (f : α → List Value) (v : Value) (xs : List α) (w : World) : Prop :=
  (∃ ad cap, v = .slice ad 0 cap ∧ xs = []) ∨ ∃ g o cap cur E fz, v = .slice (some ⟨g, o, none⟩) xs.length cap ∧ xs ≠ [] ∧ w.heap[g]? = some (.cells cur E fz) ∧ (cur.toList.drop o).take (xs.length * sz) = xs.flatMap f ∧ xs.length ≤ cap

def rdBs : Value → List Nat
  | .slice (some a) (_ + 1) _ => [a.block]
  | _ => []

theorem RoAt.st (h : ∀ b, b ∈ rdBs v → w'.heap[b]? = w.heap[b]?) (hr : RoAt T sz f v xs w) : RoAt T sz f v xs w' := by
  rcases hr with hr | ⟨g, o, cap, cur, E, fz, rfl, h2, h3, h4⟩
  · exact .inl hr
  · refine .inr ⟨g, o, cap, cur, E, fz, rfl, h2, (h g ?_).trans h3, h4⟩
    cases xs with
    | nil => exact absurd rfl h2
    | cons x xs => exact List.mem_singleton.2 rfl

theorem RoAt.lt (hr : RoAt T sz f v xs w) : ∀ b, b ∈ rdBs v → b < w.heap.size := by
  rcases hr with ⟨ad, cap, rfl, _⟩ | ⟨g, o, cap, cur, E, fz, rfl, h2, h3, h4⟩
  · intro b hb; cases ad <;> cases hb
  · intro b hb
    cases xs with
    | nil => exact absurd rfl h2
    | cons x xs =>
      rcases List.mem_singleton.1 hb with rfl
      exact lt_of_block h3

theorem RowAt.ro (hr : RowAt T sz f v xs w) : RoAt T sz f v xs w := by
  rcases hr with ⟨ad, rfl, rfl⟩ | ⟨g, o, cap, cur, rfl, h2, h3, h4, h5, _⟩
  · exact .inl ⟨_, _, rfl, rfl⟩
  · cases xs with
    | nil => exact .inl ⟨_, _, rfl, rfl⟩
    | cons x xs => exact .inr ⟨g, o, cap, cur, T, (0, 0), rfl, by simp, h3, h5, h2⟩

theorem RoAt.nil : RoAt T sz f (.slice none 0 0) ([] : List α) w := .inl ⟨_, _, rfl, rfl⟩

def rowK (T : TypeId) (sz : Nat) (f : α → List Value) (v : Value) (xs : List α) : Ck :=
  ⟨rowBs v, [], RowAt T sz f v xs, fun _ _ h _ hr => hr.st fun b hb => h b (.inl hb)⟩

def roK (T : TypeId) (sz : Nat) (f : α → List Value) (v : Value) (xs : List α) : Ck :=
  ⟨[], rdBs v, RoAt T sz f v xs, fun _ _ h _ hr => hr.st fun b hb => h b (.inr hb)⟩

theorem sep_row (hr : RowAt T sz f v xs w) : Sep [rowK T sz f v xs] w :=
  ⟨hr, (fun b hb => by rcases hb with hb | hb; (exact hr.lt b hb); (cases hb)), (fun _ h => by cases h), trivial⟩

theorem RoAt.len (hr : RoAt T sz f v xs w) : ∃ ad c, v = .slice ad xs.length c := by
  rcases hr with ⟨ad, cap, rfl, rfl⟩ | ⟨g, o, cap, cur, E, fz, rfl, _⟩
  · exact ⟨_, _, rfl⟩
  · exact ⟨_, _, rfl⟩

theorem RoAt.some {i : Nat} (hr : RoAt T sz f v xs w) (hi : i < xs.length) : ∃ cap, v = .slice (some ⟨rowB v, rowO v, none⟩) xs.length cap := by
  rcases hr with ⟨ad, cap, rfl, rfl⟩ | ⟨g, o, cap, cur, E, fz, rfl, _⟩
  · cases hi
  · exact ⟨cap, rfl⟩

theorem flatMap_len (hf : ∀ x, (f x).length = sz) : ∀ (xs : List α), (xs.flatMap f).length = xs.length * sz
  | [] => by simp
  | x :: xs => by
    simp only [List.flatMap_cons, List.length_append, hf, flatMap_len hf xs, List.length_cons, Nat.add_mul]
    omega

theorem flatMap_at (hf : ∀ x, (f x).length = sz) : ∀ (xs : List α) (i : Nat) (h : i < xs.length) (j : Nat) (u : Value), (f xs[i])[j]? = some u → (xs.flatMap f)[i * sz + j]? = some u
  | [], i, h, j, u, hu => by cases h
  | x :: xs, 0, h, j, u, hu => by
    simp only [List.getElem_cons_zero] at hu
    simp only [List.flatMap_cons, Nat.zero_mul, Nat.zero_add]
    rw [List.getElem?_append_left (List.getElem?_eq_some_iff.1 hu).1]
    exact hu
  | x :: xs, i + 1, h, j, u, hu => by
    simp only [List.getElem_cons_succ] at hu
    simp only [List.flatMap_cons]
    rw [List.getElem?_append_right (by rw [hf, Nat.add_mul]; omega), hf, show (i + 1) * sz + j - sz = i * sz + j from by rw [Nat.add_mul]; omega]
    exact flatMap_at hf xs i (by simpa using h) j u hu

theorem RoAt.lies {i : Nat} (hr : RoAt T sz f v xs w) (hf : ∀ x, (f x).length = sz) (hi : i < xs.length) : Lies w (rowB v) (rowO v + i * sz) (f xs[i]) := by
  rcases hr with ⟨ad, cap, rfl, rfl⟩ | ⟨g, o, cap, cur, E, fz, rfl, h2, h3, h5, _⟩
  · cases hi
  · intro j u hu
    have h6 := flatMap_at hf xs i hi j u hu
    rw [← h5, List.getElem?_take] at h6
    split at h6
    · rw [List.getElem?_drop] at h6
      simp only [World.cell?, rowB, rowO, h3]
      simpa [Nat.add_assoc] using h6
    · cases h6

/-- An element, if there is one. -/
def getI (xs : List α) (i : Int) : Option α := if 0 ≤ i then xs[i.toNat]? else none

theorem getI_lt {i : Int} {x : α} (h : getI xs i = .some x) : 0 ≤ i ∧ i < xs.length ∧ ∃ h : i.toNat < xs.length, xs[i.toNat] = x := by
  unfold getI at h
  split at h
  · rename_i h0
    obtain ⟨h1, h2⟩ := List.getElem?_eq_some_iff.1 h
    exact ⟨h0, by omega, h1, h2⟩
  · cases h

theorem RoAt.at_ {i : Int} {x : α} (hr : RoAt T sz f v xs w) (hf : ∀ x, (f x).length = sz) (h : getI xs i = .some x) : Lies w (rowB v) (rowO v + i.toNat * sz) (f x) := by
  obtain ⟨_, _, h1, rfl⟩ := getI_lt h
  exact hr.lies hf h1

theorem Lies.part {b o : Nat} {cs : List Value} (h : Lies w b o cs) (k n : Nat) : Lies w b (o + k) ((cs.drop k).take n) := by
  intro j u hu
  rw [List.getElem?_take] at hu
  split at hu
  · rw [List.getElem?_drop] at hu
    rw [Nat.add_assoc]
    exact h (k + j) u hu
  · cases hu

/-! ### Operations -/
section
variable {a : Act} {d : Option Tmp} {ty : TypeId} {pos : String} {aft : Array Edge} {N : Nat} {s : SL} (hfr : Fr a N s)
include hfr

theorem y_rowLen {x : Operand} {t : TypeId} {R : Value → World → Prop} {w1 : World} (hr : RoAt T sz f v xs w1) (ht : isSlice P t = true) (hx : lookO s x = v) (h : R (.int .i64 xs.length) w) :
    Yields P ⟨d, .call ⟨.builtin .len, #[x], #[t]⟩, ty, pos, aft, none⟩ a w R := by
  obtain ⟨ad, c, e⟩ := hr.len
  exact y_len hfr ht (hx.trans e) h

theorem y_indexAddrK {x y : Operand} {t : TypeId} {b o n c k : Nat} {kd : IntKind} {i : Int} {R : Value → World → Prop} (ht : sliceTy P t k = true) (hx : lookO s x = .slice (some ⟨b, o, none⟩) n c) (hy : lookO s y = .int kd i)
    (h0 : 0 ≤ i) (h1 : i < n) (hr : R (.pointer (some ⟨b, o + i.toNat * k, none⟩)) w) : Yields P ⟨d, .indexAddr t x y, ty, pos, aft, none⟩ a w R := by
  refine .of_run (v := .pointer (some ⟨b, o + i.toNat * k, none⟩)) (w' := w) ?_ hr
  unfold sliceTy at ht
  cases h2 : P.underlying t with
  | none => rw [h2] at ht; cases ht
  | some d1 =>
    rw [h2] at ht
    cases d1 with
    | slice e =>
      have hs : (sizeOf e).run P w = .ok k w := run_size ht
      simp only [execOp, hfr.ev hx, hfr.ev hy, Instr.indexAt, asIntOf, Sem.run_bind, Sem.run_pure, Result.andThen_ok, run_underlying h2, h0, h1, and_self, if_true, hs, Addr.add_lit]
    | _ => cases ht

theorem y_rowAddr {x y : Operand} {t : TypeId} {kd : IntKind} {i : Int} {x0 : α} {R : Value → World → Prop} {w1 : World} (hr : RoAt T sz f v xs w1) (hi : getI xs i = .some x0) (ht : sliceTy P t sz = true) (hx : lookO s x = v) (hy : lookO s y = .int kd i)
    (h : R (.pointer (some ⟨rowB v, rowO v + i.toNat * sz, none⟩)) w) : Yields P ⟨d, .indexAddr t x y, ty, pos, aft, none⟩ a w R := by
  obtain ⟨h0, h1, h2, _⟩ := getI_lt hi
  obtain ⟨cap, e⟩ := hr.some h2
  exact y_indexAddrK hfr ht (hx.trans e) hy h0 h1 h

theorem y_loadL_one {x : Operand} {b o : Nat} {t : TypeId} {u : Value} {R : Value → World → Prop} (hl : Lies w b o [u]) (hx : lookO s x = .pointer (some ⟨b, o, none⟩)) (ht : tyO P t = true) (h : R u w) :
    Yields P ⟨d, .load t x, ty, pos, aft, none⟩ a w R := by
  refine .of_run (v := u) (w' := w) ?_ h
  simp only [execOp, hfr.ev hx, Instr.loadAt, Instr.sureAddr, Sem.run_bind, Sem.run_pure, Result.andThen_ok, loadVar_one (show w.cell? ⟨b, o, none⟩ = .some u from hl 0 u rfl) ht]

end

/-! ### Append -/
def Modest2 : Nat := 2147483648

/-- Lists joined, if the result isn't too long for this. -/
def appD (xs ys : List α) : Option (List α) := if xs.length + ys.length ≤ Modest2 then .some (xs ++ ys) else none

theorem appD_eq {zs : List α} (h : appD xs ys = .some zs) : xs.length + ys.length ≤ 2147483648 ∧ zs = xs ++ ys := by
  unfold appD at h
  split at h
  · rename_i h1
    exact ⟨h1, (Option.some.inj h).symm⟩
  · cases h

/-- The type of a slice whose things have so many cells, and few bytes. -/
def rowTy (P : Program) (t e : TypeId) (sz : Nat) : Bool :=
  (match P.underlying t with | .some (.slice e') => e' == e | _ => false) &&
  (match P.info? e with | .some i => i.size == sz && decide (0 < sz) && decide (i.bytes ≤ 65536) && (match i.zero with | .some z => z.cells.size == sz | none => false) | none => false)

theorem rowTy_at {t e : TypeId} (h : rowTy P t e sz = true) : P.underlying t = .some (.slice e) ∧ ∃ i z, P.info? e = .some i ∧ i.zero = .some z ∧ i.size = sz ∧ 0 < sz ∧ i.bytes ≤ 65536 ∧ z.cells.size = sz := by
  simp only [rowTy, Bool.and_eq_true] at h
  obtain ⟨h1, h2⟩ := h
  constructor
  · cases hq : P.underlying t with
    | none => rw [hq] at h1; cases h1
    | some dd => rw [hq] at h1; cases dd <;> first | (simp at h1; subst h1; rfl) | cases h1
  · cases hi : P.info? e with
    | none => rw [hi] at h2; cases h2
    | some i =>
      rw [hi] at h2
      simp only [Bool.and_eq_true, beq_iff_eq, decide_eq_true_eq] at h2
      cases hz : i.zero with
      | none => rw [hz] at h2; cases h2.2
      | some z =>
        rw [hz] at h2
        simp only [beq_iff_eq] at h2
        exact ⟨i, z, rfl, hz, h2.1.1.1, h2.1.1.2, h2.1.2, h2.2⟩

theorem run_append_at (t ty e : TypeId) (i : TypeInfo) (ht : P.underlying t = .some (.slice e)) (hi : P.info? e = .some i)
    (g o sLen sCap : Nat) (cur : Array Value) (hg : w.heap[g]? = .some (.cells cur e (0, 0)))
    (a : Addr) (m c : Nat) (news : List Value) (hl : news.length = m * i.size) (hnews : ∀ j u, news[j]? = .some u → w.cell? (a.add j) = .some u) (h1 : ∀ u ∈ news, u.oneCell' = true)
    (hroom : sLen + m ≤ sCap) (hfit : o + sLen * i.size + news.length ≤ cur.size) :
    (Builtin.append_ #[t, t] ty #[.slice (.some ⟨g, o, none⟩) sLen sCap, .slice (.some a) m c]).run P w =
      .ok (.slice (.some ⟨g, o, none⟩) (sLen + m) sCap) (w.setRow g (cur.toList.take (o + sLen * i.size) ++ news ++ cur.toList.drop (o + sLen * i.size + news.length)).toArray) := by
  have hf := run_firstCells_some (P := P) w i.size m a m c news hl hnews
  have hst := run_storeCells_at P g (o + sLen * i.size) e news 0 cur w hg (by simpa using hfit) h1
  simp only [Nat.add_zero] at hst
  simp [Builtin.append_, run_underlying ht, sizeOf, typeInfo, hi, Builtin.lenOf, hroom, hf, Addr.add_lit, hst]

theorem run_append_none (t ty e : TypeId) (i : TypeInfo) (ht : P.underlying t = .some (.slice e)) (hi : P.info? e = .some i) (ad ad2 : Option Addr) (sLen sCap c2 : Nat) (h : sLen ≤ sCap) :
    (Builtin.append_ #[t, t] ty #[.slice ad sLen sCap, .slice ad2 0 c2]).run P w = .ok (.slice ad sLen sCap) w := by
  cases ad <;> cases ad2 <;> simp [Builtin.append_, run_underlying ht, sizeOf, typeInfo, hi, Builtin.lenOf, h, Builtin.firstCells, storeCells, loadCells, loadCellsFrom]

/-- What append comes to. -/
def Appended (T : TypeId) (sz : Nat) (f : α → List Value) (v : Value) (zs : List α) (w : World) (v' : Value) (w' : World) : Prop :=
  RowAt T sz f v' zs w' ∧ Chg (fun b => b ∈ rowBs v) w w' ∧ ∀ b, b ∈ rowBs v' → b ∈ rowBs v ∨ w.heap.size ≤ b

theorem RowAt.holds (hr : RowAt T sz f v xs w) (_hf : ∀ x, (f x).length = sz) {g o n c : Nat} (hv : v = .slice (.some ⟨g, o, none⟩) n c) : ∀ j u, (xs.flatMap f)[j]? = .some u → w.cell? ((⟨g, o, none⟩ : Addr).add j) = .some u := by
  intro j u hu
  rcases hr with ⟨ad, rfl, rfl⟩ | ⟨g', o', cap, cur, rfl, h2, h3, h4, h5, _⟩
  · simp at hu
  · simp only [Value.slice.injEq, Option.some.injEq, Addr.mk.injEq] at hv
    obtain ⟨⟨rfl, rfl, _⟩, _, _⟩ := hv
    rw [← h5, List.getElem?_take] at hu
    split at hu
    · rw [List.getElem?_drop] at hu
      rw [Addr.add_lit]
      simp only [World.cell?, h3]
      simpa using hu
    · cases hu

theorem RoAt.holds (hr : RoAt T sz f v xs w) {a : Addr} {n c : Nat} (hv : v = .slice (.some a) n c) : ∀ j u, (xs.flatMap f)[j]? = .some u → w.cell? (a.add j) = .some u := by
  intro j u hu
  rcases hr with ⟨ad, cap, rfl, rfl⟩ | ⟨g, o, cap, cur, E, fz, rfl, h2, h3, h5, _⟩
  · simp at hu
  · simp only [Value.slice.injEq, Option.some.injEq] at hv
    obtain ⟨rfl, _, _⟩ := hv
    rw [← h5, List.getElem?_take] at hu
    split at hu
    · rw [List.getElem?_drop] at hu
      rw [Addr.add_lit]
      simp only [World.cell?, h3]
      simpa using hu
    · cases hu

theorem run_append {t ty : TypeId} {v2 : Value} {zs : List α} (hT : rowTy P t T sz = true) (hf : ∀ x, (f x).length = sz) (h1 : ∀ x, (f x).all Value.oneCell' = true)
    (hr : RowAt T sz f v xs w) (hr2 : RoAt T sz f v2 ys w) (hz : appD xs ys = .some zs) :
    ∃ v' w', (Builtin.append_ #[t, t] ty #[v, v2]).run P w = .ok v' w' ∧ Appended T sz f v zs w v' w' := by
  obtain ⟨hn, rfl⟩ := appD_eq hz
  obtain ⟨ht, i, z, hi, hiz, rfl, hsz, hby, hzs⟩ := rowTy_at hT
  have hone : ∀ u, u ∈ ys.flatMap f → u.oneCell' = true := by
    intro u hu
    obtain ⟨x, _, hx⟩ := List.mem_flatMap.1 hu
    exact List.all_eq_true.1 (h1 x) u hx
  have hl := flatMap_len hf ys
  have hlx := flatMap_len hf xs
  have hbytes : (xs.length + ys.length) * i.bytes ≤ 140737488355328 := Nat.le_trans (Nat.mul_le_mul hn hby) (by decide)
  have grown : ∀ (old : Nat), old < xs.length + ys.length → ∀ cells : Array Value, cells = ((xs ++ ys).flatMap f).toArray ++ Builtin.zeroCells z.cells (grownCap w (xs.length + ys.length) old T - (xs.length + ys.length)) →
      Appended T i.size f v (xs ++ ys) w (.slice (.some ⟨w.heap.size, 0, none⟩) (xs.length + ys.length) (grownCap w (xs.length + ys.length) old T)) (w.drew.alloc (.cells cells T)) := by
    intro old ho cells hc
    have hge := grownCap_ge w (xs.length + ys.length) old T
    have hlz := flatMap_len hf (xs ++ ys)
    simp only [List.length_append] at hlz
    refine ⟨.inr ⟨w.heap.size, 0, _, cells, by rw [List.length_append], by rw [List.length_append]; exact hge, heap_alloc_new w.drew _, ?_, ?_, by omega⟩, ⟨rfl, rfl, rfl, by simp, fun k hk _ => (heap_alloc_old (r := k) w.drew _ (by simpa using hk) : _)⟩, ?_⟩
    · have hlz' : ((xs ++ ys).flatMap f).length + (grownCap w (xs.length + ys.length) old T - (xs.length + ys.length)) * i.size = grownCap w (xs.length + ys.length) old T * i.size := by
        rw [hlz, ← Nat.add_mul]
        congr 1
        omega
      subst hc
      simp only [Array.size_append, List.size_toArray, Builtin.zeroCells, Array.size_map, Array.size_range, hzs, Nat.zero_add]
      omega
    · subst hc
      rw [List.length_append, ← hlz, List.drop_zero]
      simp only [Array.toList_append]
      exact List.take_left
    · intro b hb
      rcases mem_rowBs hb with rfl
      exact .inr (Nat.le_refl _)
  rcases id hr2 with ⟨ad2, c2, rfl, rfl⟩ | ⟨g2, o2, cap2, cur2, E2, fz2, e2, h22, h23, h25, _⟩
  · have : ∃ ad n c, v = .slice ad n c ∧ n ≤ c := by
      rcases hr with ⟨ad, rfl, _⟩ | ⟨g, o, cap, cur, rfl, h2, _⟩
      · exact ⟨_, _, _, rfl, Nat.le_refl _⟩
      · exact ⟨_, _, _, rfl, h2⟩
    obtain ⟨ad, n, c, rfl, hnc⟩ := this
    exact ⟨_, _, run_append_none t ty T i ht hi ad ad2 n c c2 hnc, by rw [List.append_nil]; exact hr, Chg.refl _ _, fun b hb => .inl hb⟩
  · have hh2 := hr2.holds e2
    subst e2
    rcases id hr with ⟨ad, rfl, rfl⟩ | ⟨g, o, cap, cur, e1, h2, h3, h4, h5, hcap⟩
    · by_cases h0 : ys = []
      · subst h0
        exact absurd rfl h22
      cases ad with
      | some ad =>
        have hp : 0 < ys.length := List.length_pos_iff.2 h0
        simp only [List.length_nil, Nat.zero_add] at hn hbytes grown
        have hq := run_append_grow (P := P) w t ty T i z ht hi hiz ad 0 0 [] (by simp) (fun j u h => by simp at h) ⟨g2, o2, none⟩ ys.length cap2 (ys.flatMap f) hl hh2 (by omega) (by omega) (growslice_fits (by omega) (by rw [Nat.zero_add]; exact hbytes))
        refine ⟨_, _, hq, ?_⟩
        have := grown 0 hp _ rfl
        simpa using this
      | none =>
        have hp : 0 < ys.length := List.length_pos_iff.2 h0
        simp only [List.length_nil, Nat.zero_add] at hn hbytes grown
        have hq := run_append_nil (P := P) w t ty T i z ht hi hiz ⟨g2, o2, none⟩ ys.length cap2 (ys.flatMap f) hl hh2 hp (by omega) (by omega)
        refine ⟨_, _, hq, ?_⟩
        have := grown 0 hp _ rfl
        simpa using this
    · subst e1
      by_cases hroom : xs.length + ys.length ≤ cap
      · have hm : (xs.length + ys.length) * i.size ≤ cap * i.size := Nat.mul_le_mul_right _ hroom
        rw [Nat.add_mul] at hm
        have hfit : o + xs.length * i.size + (ys.flatMap f).length ≤ cur.size := by rw [hl]; omega
        have hq := run_append_at (P := P) t ty T i ht hi g o xs.length cap cur h3 ⟨g2, o2, none⟩ ys.length cap2 (ys.flatMap f) hl hh2 hone hroom hfit
        refine ⟨_, _, hq, .inr ⟨g, o, cap, _, by rw [List.length_append], by rw [List.length_append]; exact hroom, setRow_heap w g cur _ T _ h3, ?_, ?_, hcap⟩, ⟨rfl, rfl, rfl, by simp, fun k _ hk => setRow_other w g k _ fun e => hk (e ▸ at_rowBs hcap)⟩, fun b hb => .inl (mem_rowBs hb ▸ at_rowBs hcap)⟩
        · simp only [List.size_toArray, List.length_append, List.length_take, List.length_drop, Array.length_toList]
          omega
        · rw [List.flatMap_append, ← h5, List.length_append, Nat.add_mul]
          simp only [List.append_assoc]
          rw [List.drop_append_of_le_length (by simp; omega), List.drop_take]
          rw [show o + xs.length * i.size - o = xs.length * i.size from by omega]
          have hA : (List.take (xs.length * i.size) (cur.toList.drop o)).length = xs.length * i.size := by rw [h5, hlx]
          rw [List.take_append, hA, show xs.length * i.size + ys.length * i.size - xs.length * i.size = (ys.flatMap f).length from by rw [hl]; omega, List.take_left]
          rw [List.take_of_length_le (by omega)]
      · have hq := run_append_grow (P := P) w t ty T i z ht hi hiz ⟨g, o, none⟩ xs.length cap (xs.flatMap f) hlx (hr.holds hf rfl) ⟨g2, o2, none⟩ ys.length cap2 (ys.flatMap f) hl hh2 (by omega) (by omega) (growslice_fits (by omega) hbytes)
        refine ⟨_, _, hq, ?_⟩
        have := grown cap (by omega) _ rfl
        simpa using this

section
variable {a : Act} {d : Option Tmp} {ty : TypeId} {pos : String} {aft : Array Edge} {N : Nat} {s : SL} (hfr : Fr a N s)
include hfr
theorem y_append {x y : Operand} {t : TypeId} {v2 : Value} {zs : List α} {R : Value → World → Prop} (hT : rowTy P t T sz = true) (hf : ∀ x, (f x).length = sz) (h1 : ∀ x, (f x).all Value.oneCell' = true)
    (hr : RowAt T sz f v xs w) (hr2 : RoAt T sz f v2 ys w) (hz : appD xs ys = .some zs) (hx : lookO s x = v) (hy : lookO s y = v2) (h : ∀ v' w', Appended T sz f v zs w v' w' → R v' w') :
    Yields P ⟨d, .call ⟨.builtin .append, #[x, y], #[t, t]⟩, ty, pos, aft, none⟩ a w R := by
  obtain ⟨v', w', hq, ha⟩ := run_append (ty := ty) hT hf h1 hr hr2 hz
  refine .of_run (v := v') (w' := w') ?_ (h v' w' ha)
  have e : (#[x, y] : Array Operand).map a.eval = #[v, v2] := hfr.evs (xs := [x, y]) (vs := [v, v2]) (lc2 hx hy)
  simp only [execOp, resolve, e, Sem.run_bind, Sem.run_pure, Result.andThen_ok, invoke, builtin, hq]

end

section
variable {ops : Array Oper} {rest : List Oper} {Q : Exit → Act → World → Prop} {a : Act} {N : Nat} {s : SL}
theorem seq_app {o : Oper} {zs : List α} (T : TypeId) (sz : Nat) (f : α → List Value) (v : Value) (hfr : Fr a N s) (hy : ∀ R : Value → World → Prop, (∀ v' w', Appended T sz f v zs w v' w' → R v' w') → Yields P o a w R) (hg : (o.guard.isNone && dstIn N o.dst) = true)
    (hk : ∀ a v' w', Appended T sz f v zs w v' w' → Fr a N (putS s o.dst v') → wpList P ops Q rest a w') : wpList P ops Q (o :: rest) a w := by
  simp only [Bool.and_eq_true] at hg
  exact seq_yields (by simpa using hg.1) (hy (fun v' w' => Appended T sz f v zs w v' w') fun _ _ h => h) fun v' w' h => hk _ v' w' h (hfr.put _ hg.2)

end

theorem Post.append {Z : Nat → Prop} {L : List Ck} {w0 : World} {i : Nat} {v' : Value} {zs : List α} (h : Post Z L w0 w) (hi : L[i]? = .some (rowK T sz f v xs)) (ha : Appended T sz f v zs w v' w') : Post Z (L.set i (rowK T sz f v' zs)) w0 w' := by
  have := h.set (N := []) hi (c' := rowK T sz f v' zs) ⟨⟨sep_row ha.1, ha.2.1, fun c hc b hb => by rcases List.mem_singleton.1 hc with rfl; exact ha.2.2 b hb⟩, fun c hc b hb => by rcases List.mem_singleton.1 hc with rfl; cases hb⟩
  rwa [List.append_nil] at this

theorem Post.row {Z : Nat → Prop} {L : List Ck} {w0 : World} {i : Nat} (h : Post Z L w0 w) (hi : L[i]? = .some (rowK T sz f v xs)) : RowAt T sz f v xs w := h.sep.get hi

theorem Post.ro {Z : Nat → Prop} {L : List Ck} {w0 : World} {i : Nat} (h : Post Z L w0 w) (hi : L[i]? = .some (roK T sz f v xs)) : RoAt T sz f v xs w := h.sep.get hi

theorem Sep.weakAt {c c' : Ck} (hc : c'.ok w) (h1 : ∀ b, c'.has b → c.has b) (h2 : ∀ b, b ∈ c'.own → b ∈ c.own) : ∀ (L : List Ck) (i : Nat), Sep L w → L[i]? = .some c → Sep (L.set i c') w
  | [], _, _, hi => by simp at hi
  | d :: L, 0, h, hi => by
    simp only [List.getElem?_cons_zero, Option.some.injEq] at hi
    subst hi
    exact ⟨hc, fun b hb => h.2.1 b (h1 b hb), fun e he => ⟨fun b hb => (h.2.2.1 e he).1 b (h2 b hb), fun b hb hb' => (h.2.2.1 e he).2 b hb (h1 b hb')⟩, h.2.2.2⟩
  | d :: L, i + 1, h, hi => by
    simp only [List.getElem?_cons_succ] at hi
    refine ⟨h.1, h.2.1, fun e he => ?_, Sep.weakAt hc h1 h2 L i h.2.2.2 hi⟩
    rcases List.mem_or_eq_of_mem_set he with he | rfl
    · exact h.2.2.1 e he
    · have hcd := h.2.2.1 c (List.mem_of_getElem? hi)
      exact ⟨fun b hb hb' => hcd.1 b hb (h1 b hb'), fun b hb hb' => hcd.2 b (h2 b hb) hb'⟩

theorem RowAt.nil : RowAt T sz f (.slice none 0 0) ([] : List α) w := .inl ⟨_, rfl, rfl⟩

theorem RowAt.of_cells {b n : Nat} (h : w.heap[b]? = .some (.cells (xs.flatMap f).toArray T (0, 0))) (hf : ∀ x, (f x).length = sz) (hn : xs.length = n) : RowAt T sz f (.slice (.some ⟨b, 0, none⟩) n n) xs w := by
  subst hn
  cases xs with
  | nil => exact .inl ⟨_, rfl, rfl⟩
  | cons x xs =>
  refine .inr ⟨b, 0, _, _, rfl, Nat.le_refl _, h, ?_, ?_, by simp⟩
  · simp only [List.size_toArray, flatMap_len hf]; omega
  · rw [← flatMap_len hf]; exact List.take_length

theorem Post.newRow {Z : Nat → Prop} {L : List Ck} {w0 : World} {b n : Nat} (h : Post Z L w0 w) (hn : New w w' b (.cells (xs.flatMap f).toArray T (0, 0))) (hf : ∀ x, (f x).length = sz) (hl : xs.length = n) :
    Post Z (L ++ [rowK T sz f (.slice (.some ⟨b, 0, none⟩) n n) xs]) w0 w' :=
  h.add ⟨⟨sep_row (RowAt.of_cells hn.at_ hf hl), Chg.of_below hn.below, fun c hc b' hb => by rcases List.mem_singleton.1 hc with rfl; rcases mem_rowBs hb with rfl; exact .inr (Nat.le_of_eq hn.eq.symm)⟩, fun c hc b' hb => by rcases List.mem_singleton.1 hc with rfl; cases hb⟩

/-- A row that a region makes. -/
theorem MkP.row {T' : TypeId} {lo hi : Nat} (h : MkP (fun y : Value => y) (fun y => [rowK T sz f y xs]) v lo hi w) : RoAt T' sz f v xs w := by
  obtain ⟨y, rfl, hs, _⟩ := h
  exact (hs.get (i := 0) (c := rowK T sz f v xs) rfl).ro

theorem MkP.newRow {b n : Nat} (hn : New w w' b (.cells (xs.flatMap f).toArray T (0, 0))) (hf : ∀ x, (f x).length = sz) (hl : xs.length = n) : MkP (fun y : Value => y) (fun y => [rowK T sz f y xs]) (.slice (.some ⟨b, 0, none⟩) n n) w.heap.size w'.heap.size w' := by
  refine ⟨_, rfl, sep_row (RowAt.of_cells hn.at_ hf hl), fun c hc b' hb => ?_⟩
  rcases List.mem_singleton.1 hc with rfl
  rcases hb with hb | hb
  · rcases mem_rowBs hb with rfl
    exact ⟨Nat.le_of_eq hn.eq.symm, lt_of_block hn.at_⟩
  · cases hb

/-- A row that is nothing yet. -/
theorem Post.nilRow {Z : Nat → Prop} {L : List Ck} {w0 : World} (T : TypeId) (sz : Nat) (f : α → List Value) (h : Post Z L w0 w) : Post Z (L ++ [rowK T sz f (.slice none 0 0) []]) w0 w :=
  h.add ⟨⟨sep_row RowAt.nil, Chg.refl _ _, fun c hc b' hb => by rcases List.mem_singleton.1 hc with rfl; cases hb⟩, fun c hc b' hb => by rcases List.mem_singleton.1 hc with rfl; cases hb⟩

end

/-! ### Parts of rows -/
section
variable {α : Type} {P : Program} {T : TypeId} {sz : Nat} {f : α → List Value} {v : Value} {xs ys : List α} {w w' : World}
/-- A part of a list. -/
def sliceD (xs : List α) (lo hi : Int) : Option (List α) := if 0 ≤ lo ∧ lo ≤ hi ∧ hi ≤ xs.length then some ((xs.drop lo.toNat).take (hi.toNat - lo.toNat)) else none

theorem sliceD_eq {lo hi : Int} (h : sliceD xs lo hi = some ys) : (0 ≤ lo ∧ lo ≤ hi ∧ hi ≤ xs.length) ∧ ys = (xs.drop lo.toNat).take (hi.toNat - lo.toNat) := by
  unfold sliceD at h
  split at h
  · rename_i h1; exact ⟨h1, (Option.some.inj h).symm⟩
  · cases h

/-- A slice's value, cut. -/
def sliceV (sz : Nat) (v : Value) (l h : Nat) : Value := match v with
  | .slice a _ cap => .slice (if cap = l then a else a.map (·.add (l * sz))) (h - l) (cap - l)
  | v => v

theorem part_flat (hf : ∀ x, (f x).length = sz) (l n : Nat) : ((xs.flatMap f).drop (l * sz)).take (n * sz) = ((xs.drop l).take n).flatMap f := by
  have hd : ∀ (xs : List α) (l : Nat), (xs.flatMap f).drop (l * sz) = (xs.drop l).flatMap f := by
    intro xs
    induction xs with
    | nil => intro l; simp
    | cons x xs ih =>
      intro l
      cases l with
      | zero => simp
      | succ l =>
        rw [List.flatMap_cons, List.drop_succ_cons, ← ih l, show (l + 1) * sz = (f x).length + l * sz from by rw [hf, Nat.add_mul]; omega, ← List.drop_drop, List.drop_left]
  have ht : ∀ (xs : List α) (n : Nat), (xs.flatMap f).take (n * sz) = (xs.take n).flatMap f := by
    intro xs
    induction xs with
    | nil => intro l; simp
    | cons x xs ih =>
      intro n
      cases n with
      | zero => simp
      | succ n =>
        rw [List.take_succ_cons, List.flatMap_cons, List.flatMap_cons, ← ih n, show (n + 1) * sz = (f x).length + n * sz from by rw [hf, Nat.add_mul]; omega, List.take_length_add_append]
  rw [hd, ht]

theorem part_len {lo hi : Int} (h : sliceD xs lo hi = some ys) : ys.length = hi.toNat - lo.toNat := by
  obtain ⟨⟨h0, h1, h2⟩, rfl⟩ := sliceD_eq h
  simp only [List.length_take, List.length_drop]
  omega

theorem RoAt.slice {lo hi : Int} (hr : RoAt T sz f v xs w) (hf : ∀ x, (f x).length = sz) (h : sliceD xs lo hi = .some ys) : RoAt T sz f (sliceV sz v lo.toNat hi.toNat) ys w := by
  have hl := part_len h
  obtain ⟨⟨h0, h1, h2⟩, hy⟩ := sliceD_eq h
  by_cases he : ys = []
  · subst he
    have hz : hi.toNat - lo.toNat = 0 := hl.symm
    rcases hr with ⟨ad, cap, rfl, rfl⟩ | ⟨g, o, cap, cur, E, fz, rfl, _⟩
    · exact .inl ⟨_, _, by simp only [sliceV, hz]; rfl, rfl⟩
    · exact .inl ⟨_, _, by simp only [sliceV, hz]; rfl, rfl⟩
  · rcases hr with ⟨ad, cap, rfl, rfl⟩ | ⟨g, o, cap, cur, E, fz, rfl, h3, h4, h5, h6⟩
    · simp at hy; exact absurd hy he
    · have hlt : lo.toNat < cap := by
        have : ys.length ≠ 0 := fun h => he (List.eq_nil_of_length_eq_zero h)
        omega
      refine .inr ⟨g, o + lo.toNat * sz, cap - lo.toNat, cur, E, fz, ?_, he, h4, ?_, by omega⟩
      · simp only [sliceV]
        rw [if_neg (by omega), hl]
        simp only [Option.map_some, Addr.add_lit]
      · rw [hl, hy, ← part_flat hf, ← h5, ← List.drop_drop]
        rw [List.drop_take, List.take_take]
        congr 1
        have : hi.toNat * sz ≤ xs.length * sz := Nat.mul_le_mul_right _ (by omega)
        have h7 : (hi.toNat - lo.toNat) * sz = hi.toNat * sz - lo.toNat * sz := Nat.sub_mul ..
        omega

theorem RowAt.slice {lo hi : Int} (hr : RowAt T sz f v xs w) (hf : ∀ x, (f x).length = sz) (h : sliceD xs lo hi = some ys) : RowAt T sz f (sliceV sz v lo.toNat hi.toNat) ys w ∧ ∀ b, b ∈ rowBs (sliceV sz v lo.toNat hi.toNat) → b ∈ rowBs v := by
  have hl := part_len h
  obtain ⟨⟨h0, h1, h2⟩, hy⟩ := sliceD_eq h
  rcases hr with ⟨ad, rfl, rfl⟩ | ⟨g, o, cap, cur, rfl, h3, h4, h5, h6, hcap⟩
  · simp only [List.length_nil] at h2
    have hh : hi.toNat = 0 := by omega
    have hlo : lo.toNat = 0 := by omega
    simp only [List.drop_nil, List.take_nil] at hy
    subst hy
    have e : sliceV sz (.slice ad 0 0) lo.toNat hi.toNat = .slice ad 0 0 := by rw [hh, hlo]; simp [sliceV]
    rw [e]
    exact ⟨.inl ⟨_, rfl, rfl⟩, fun b hb => hb⟩
  · by_cases hc : cap = lo.toNat
    · have e : sliceV sz (.slice (.some ⟨g, o, none⟩) xs.length cap) lo.toNat hi.toNat = .slice (.some ⟨g, o, none⟩) ys.length 0 := by
        simp only [sliceV, hc, if_true, hl, Nat.sub_self]
      rw [e]
      have : ys = [] := List.eq_nil_of_length_eq_zero (by omega)
      subst this
      exact ⟨.inl ⟨_, rfl, rfl⟩, fun b hb => by rw [rowBs_zero] at hb; cases hb⟩
    · have e : sliceV sz (.slice (.some ⟨g, o, none⟩) xs.length cap) lo.toNat hi.toNat = .slice (.some ⟨g, o + lo.toNat * sz, none⟩) ys.length (cap - lo.toNat) := by
        simp only [sliceV, if_neg hc, hl, Option.map_some, Addr.add_lit]
      rw [e]
      have hcc : (cap - lo.toNat) * sz = cap * sz - lo.toNat * sz := Nat.sub_mul ..
      have hcm : lo.toNat * sz ≤ cap * sz := Nat.mul_le_mul_right _ (by omega)
      refine ⟨.inr ⟨g, o + lo.toNat * sz, cap - lo.toNat, cur, rfl, by omega, h4, by omega, ?_, by omega⟩, fun b hb => mem_rowBs hb ▸ at_rowBs hcap⟩
      rw [hl, hy, ← part_flat hf, ← h6, ← List.drop_drop]
      rw [List.drop_take, List.take_take]
      congr 1
      have : hi.toNat * sz ≤ xs.length * sz := Nat.mul_le_mul_right _ (by omega)
      have h7 : (hi.toNat - lo.toNat) * sz = hi.toNat * sz - lo.toNat * sz := Nat.sub_mul ..
      omega

def loOf : Option Value → Int
  | some (.int _ n) => n
  | _ => 0

def hiOf (n : Nat) : Option Value → Int
  | some (.int _ n) => n
  | _ => n

/-- It is an integer, if it is there. -/
def intO : Option Value → Bool
  | some (.int _ _) => true
  | none => true
  | _ => false

theorem run_cut {t e : TypeId} {ad : Option Addr} {n cap : Nat} {lo hi : Option Value} (ht : P.underlying t = some (.slice e)) (hs : (sizeOf e).run P w = .ok sz w) (hil : intO lo = true) (hih : intO hi = true) (hn : n ≤ cap) (h0 : 0 ≤ loOf lo) (h1 : loOf lo ≤ hiOf n hi) (h2 : hiOf n hi ≤ n) :
    (Instr.sliceAt t (.slice ad n cap) lo hi none).run P w = .ok (sliceV sz (.slice ad n cap) (loOf lo).toNat (hiOf n hi).toNat) w := by
  have key : ∀ (l h : Int) (lo hi : Option Value), (Instr.sliceBounds true n cap lo hi none).run P w = .ok (l.toNat, h.toNat, cap) w → (Instr.sliceAt t (.slice ad n cap) lo hi none).run P w = .ok (sliceV sz (.slice ad n cap) l.toNat h.toNat) w := by
    intro l h lo hi hb
    simp only [Instr.sliceAt, Instr.slice, Sem.run_bind, run_underlying ht, Result.andThen_ok, hb, hs, Sem.run_pure, sliceV]
  refine key _ _ lo hi ?_
  cases lo with
  | none =>
    cases hi with
    | none => simp [Instr.sliceBounds, loOf, hiOf]
    | some h =>
      cases h with
      | int k m =>
        simp only [loOf, hiOf] at *
        simp [Instr.sliceBounds, run_sliceBound (P := P) (w := w) k m cap _ (by omega) (by omega)]
      | _ => cases hih
  | some l =>
    cases l with
    | int k l =>
      cases hi with
      | none =>
        simp only [loOf, hiOf] at *
        simp [Instr.sliceBounds, run_sliceBound (P := P) (w := w) k l n _ (by omega) (by omega)]
      | some h =>
        cases h with
        | int k2 m =>
          simp only [loOf, hiOf] at *
          have e1 := fun c => run_sliceBound (P := P) (w := w) k2 m cap c (by omega) (by omega)
          have e2 := fun c => run_sliceBound (P := P) (w := w) k l m.toNat c (by omega) (by omega)
          simp [Instr.sliceBounds, e1, e2]
        | _ => cases hih
    | _ => cases hil

end
section
variable {α : Type} {P : Program} {T : TypeId} {sz : Nat} {f : α → List Value} {v : Value} {xs ys : List α} {w : World} {a : Act} {d : Option Tmp} {ty : TypeId} {pos : String} {aft : Array Edge} {N : Nat} {s : SL}
theorem RoAt.capped (hr : RoAt T sz f v xs w) : ∃ ad c, v = .slice ad xs.length c ∧ xs.length ≤ c := by
  rcases hr with ⟨ad, cap, rfl, rfl⟩ | ⟨g, o, cap, cur, E, fz, rfl, _, _, _, h⟩
  · exact ⟨_, _, rfl, Nat.zero_le _⟩
  · exact ⟨_, _, rfl, h⟩

theorem y_cut {x : Operand} {t : TypeId} {lo hi : Option Operand} {vlo vhi : Option Value} {l h : Int} {R : Value → World → Prop} {w1 : World} (hfr : Fr a N s) (hr : RoAt T sz f v xs w1) (ht : sliceTy P t sz = true) (hx : lookO s x = v) (hlo : lo.map (lookO s) = vlo) (hhi : hi.map (lookO s) = vhi)
    (hil : intO vlo = true) (hih : intO vhi = true) (hl : loOf vlo = l) (hh : hiOf xs.length vhi = h) (hD : sliceD xs l h = some ys) (hR : R (sliceV sz v l.toNat h.toNat) w) : Yields P ⟨d, .slice t x lo hi none, ty, pos, aft, none⟩ a w R := by
  obtain ⟨ad, c, rfl, hc⟩ := hr.capped
  obtain ⟨⟨h0, h1, h2⟩, _⟩ := sliceD_eq hD
  refine .of_run (v := _) (w' := w) ?_ hR
  unfold sliceTy at ht
  cases h2' : P.underlying t with
  | none => rw [h2'] at ht; cases ht
  | some d1 =>
    rw [h2'] at ht
    cases d1 with
    | slice e =>
      have hs : (sizeOf e).run P w = .ok sz w := run_size ht
      have he : ∀ o : Option Operand, o.map a.eval = o.map (lookO s) := fun o => by cases o with
        | none => rfl
        | some o => simp [hfr.eval]
      subst hl; subst hh
      have hq := run_cut (P := P) (w := w) (ad := ad) h2' hs hil hih hc h0 h1 h2
      simp only [execOp, hfr.ev hx, he, hlo, hhi, Option.map_none, Sem.run_bind, hq, Result.andThen_ok, Sem.run_pure]
    | _ => cases ht

theorem Post.narrow {Z : Nat → Prop} {L : List Ck} {w0 : World} {i : Nat} {lo hi : Int} (h : Post Z L w0 w) (hi' : L[i]? = .some (rowK T sz f v xs)) (hf : ∀ x, (f x).length = sz) (hD : sliceD xs lo hi = some ys) : Post Z (L.set i (rowK T sz f (sliceV sz v lo.toNat hi.toNat) ys)) w0 w := by
  obtain ⟨h1, h2⟩ := RowAt.slice (h.row hi') hf hD
  have := h.set (N := []) hi' (c' := rowK T sz f (sliceV sz v lo.toNat hi.toNat) ys) ⟨⟨sep_row h1, Chg.refl _ _, fun c hc b hb => by rcases List.mem_singleton.1 hc with rfl; exact .inl (h2 b hb)⟩, fun c hc b hb => by rcases List.mem_singleton.1 hc with rfl; cases hb⟩
  rwa [List.append_nil] at this

end

/-! ### A thing put into a row; rows that are made -/
section
variable {α : Type} {P : Program} {T : TypeId} {f : α → List Value} {v : Value} {xs : List α} {w w' : World}
theorem flatMap_set (hf : ∀ x, (f x).length = 1) {x1 : α} {u : Value} (hu : f x1 = [u]) : ∀ (xs : List α) (i : Nat), (xs.set i x1).flatMap f = (xs.flatMap f).set i u
  | [], _ => by simp
  | x :: xs, 0 => by
    obtain ⟨y, hy⟩ := List.length_eq_one_iff.1 (hf x)
    simp [List.flatMap_cons, hu, hy]
  | x :: xs, i + 1 => by
    obtain ⟨y, hy⟩ := List.length_eq_one_iff.1 (hf x)
    simp [List.flatMap_cons, hy, flatMap_set hf hu xs i]

theorem y_setRow {a : Act} {d : Option Tmp} {ty : TypeId} {pos : String} {aft : Array Edge} {N : Nat} {s : SL} (hfr : Fr a N s) {x y : Operand} {t : TypeId} {i : Int} {x0 x1 : α} {u : Value} {R : Value → World → Prop} (hr : RowAt T 1 f v xs w) (hi : getI xs i = some x0)
    (hf : ∀ x, (f x).length = 1) (hu : f x1 = [u]) (hp : plainCell u = true) (hc : u.cells = #[u]) (hx : lookO s x = .pointer (some ⟨rowB v, rowO v + i.toNat * 1, none⟩)) (hy : lookO s y = u) (ht : sized P t 1 = true)
    (h : ∀ w', Appended T 1 f v (xs.set i.toNat x1) w v w' → R undef w') : Yields P ⟨d, .store t x y, ty, pos, aft, none⟩ a w R := by
  obtain ⟨h0, h1, h2, _⟩ := getI_lt hi
  rcases id hr with ⟨ad, rfl, rfl⟩ | ⟨g, o, cap, cur, rfl, h3, h4, h5, h6, hcap⟩
  · cases h2
  · refine y_store hfr (o := o + i.toNat * 1) (v := u) (c' := over cur (o + i.toNat * 1) [u]) hx hy h4 (by rw [hc]; exact ht) (by rw [hc]; show o + i.toNat * 1 + 1 ≤ cur.size; omega) (by rw [hc]; simp [hp]) (by rw [hc]) fun w' hu' => h w' ?_
    refine ⟨.inr ⟨g, o, cap, _, by rw [List.length_set], by rw [List.length_set]; exact h3, hu'.at_, by rw [over2_size]; exact h5, ?_, hcap⟩, ⟨hu'.os, hu'.tape, hu'.output, Nat.le_of_eq hu'.size.symm, fun k _ hk => hu'.other k fun e => hk (e ▸ at_rowBs hcap)⟩, fun b hb => .inl hb⟩
    rw [flatMap_set hf hu, ← h6, List.length_set]
    simp only [over, Array.toList_setIfInBounds]
    rw [List.drop_set, if_neg (by omega), List.take_set]
    congr 1
    omega

theorem seq_set {ops : Array Oper} {rest : List Oper} {Q : Exit → Act → World → Prop} {a : Act} {N : Nat} {s : SL} {o : Oper} (T : TypeId) (f : α → List Value) (v : Value) (zs : List α) (hfr : Fr a N s)
    (hy : ∀ R : Value → World → Prop, (∀ w', Appended T 1 f v zs w v w' → R undef w') → Yields P o a w R) (hg : (o.guard.isNone && dstIn N o.dst) = true)
    (hk : ∀ a w', Appended T 1 f v zs w v w' → Fr a N (putS s o.dst undef) → wpList P ops Q rest a w') : wpList P ops Q (o :: rest) a w := by
  simp only [Bool.and_eq_true] at hg
  exact seq_yields (by simpa using hg.1) (hy (fun v' w' => v' = undef ∧ Appended T 1 f v zs w v w') fun _ h => ⟨rfl, h⟩) fun v' w' h => by rw [h.1]; exact hk _ w' h.2 (hfr.put _ hg.2)

/-- So many of one thing, if it isn't too many. -/
def makeD (z : α) (n : Int) : Option (List α) := if 0 ≤ n ∧ n ≤ 16777216 then some (List.replicate n.toNat z) else none

theorem makeD_eq {z : α} {n : Int} (h : makeD z n = some xs) : 0 ≤ n ∧ n ≤ 16777216 ∧ xs = List.replicate n.toNat z := by
  unfold makeD at h
  split at h
  · rename_i h1; exact ⟨h1.1, h1.2, (Option.some.inj h).symm⟩
  · cases h

theorem makeD_len {z : α} {n : Int} (h : makeD z n = some xs) : xs.length = n.toNat := by
  obtain ⟨_, _, rfl⟩ := makeD_eq h
  simp

theorem y_makeRow {a : Act} {d : Option Tmp} {ty : TypeId} {pos : String} {aft : Array Edge} {N : Nat} {s : SL} (hfr : Fr a N s) {x y : Operand} {t e : TypeId} {n : Int} {z : α} {u : Value} {R : Value → World → Prop} (hT : rowTy P t e 1 = true) (hz : zeroOf P e = some u) (hzf : f z = [u]) (hc : u.cells = #[u])
    (hx : lookO s x = .int .i64 n) (hy : lookO s y = .int .i64 n) (hD : makeD z n = some xs)
    (hr : ∀ b w', New w w' b (.cells (xs.flatMap f).toArray e (0, 0)) → R (.slice (some ⟨b, 0, none⟩) n.toNat n.toNat) w') : Yields P ⟨d, .makeSlice t x y, ty, pos, aft, none⟩ a w R := by
  obtain ⟨h0, h1, rfl⟩ := makeD_eq hD
  obtain ⟨ht, i, z', hi, hiz, hsz, _, hby, _⟩ := rowTy_at hT
  have hzz : z' = u := by
    unfold zeroOf at hz
    rw [hi] at hz
    simp only [hiz] at hz
    exact Option.some.inj hz
  subst hzz
  have hb2 : (i.bytes : Int) * n ≤ 65536 * 16777216 := Int.mul_le_mul (by omega) h1 h0 (by omega)
  have hr1 := run_makeSlice (P := P) (w := w) t e i z' ht hi hiz .i64 .i64 n n h0 (Int.le_refl _) (by rw [hsz]; omega) (by omega) (by omega)
  have hcc : madeCells z'.cells (n.toNat * i.size) = ((List.replicate n.toNat z).flatMap f).toArray := by
    rw [hsz, hc, Nat.mul_one]
    have hfm : (List.replicate n.toNat z).flatMap f = List.replicate n.toNat z' := by
      induction n.toNat with
      | zero => rfl
      | succ k ih => rw [List.replicate_succ, List.flatMap_cons, hzf, ih]; rfl
    rw [hfm]
    apply Array.ext
    · simp [madeCells]
    · intro j h1 h2
      simp only [madeCells, Array.size_map, Array.size_range] at h1
      simp only [madeCells, Array.getElem_map, Array.getElem_range, List.getElem_toArray, List.getElem_replicate]
      have : j % (#[z'] : Array Value).size = 0 := by
        show j % 1 = 0
        omega
      rw [this]
      rfl
  rw [hcc] at hr1
  refine .of_run (v := .slice (some ⟨w.heap.size, 0, none⟩) n.toNat n.toNat) (w' := w.alloc (.cells ((List.replicate n.toNat z).flatMap f).toArray e)) ?_ (hr _ _ (New.of_alloc _ _))
  simp only [execOp, hfr.ev hx, hfr.ev hy, Sem.run_bind, hr1, Result.andThen_ok, Sem.run_pure]

end

/-! ### Structs of integers compared -/
section
variable {P : Program} {w : World}
end
end Go.Proofs.Ytbbipmelhmgmfaa

/- Base words for programs as trees: what a value of the type prog.Prog stands for. -/
namespace Go.Proofs.Ytbbipmelhmgmfaa
open Go.RowKit

/-- A program's tree, cut at some depth. -/
inductive T (R : Type) where
  | cut
  | done (r : R)
  | act (op at_ a b : Int) (k : Int → T R)

def T.bind {A B : Type} : T A → (A → T B) → T B
  | .cut, _ => .cut
  | .done r, f => f r
  | .act op at_ a b k, f => .act op at_ a b fun x => (k x).bind f

def T.load {R : Type} (at_ : Int) (k : Int → T R) : T R := .act 0 at_ 0 0 k

def T.store {R : Type} (at_ w : Int) (k : T R) : T R := .act 1 at_ w 0 fun _ => k

def T.swap {R : Type} (at_ was w : Int) (k : Bool → T R) : T R := .act 2 at_ was w fun x => k (x == was)

/-- How a type of results lies in cells. -/
structure Enc (R : Type) where
  n : Nat
  cells : R → List Value
  zero : List Value
  len : ∀ r, (cells r).length = n
  zlen : zero.length = n
  plain : ∀ r, (cells r).all plainCell = true
  zplain : zero.all plainCell = true

/-- A set of blocks is as it was. -/
def Same (F : Nat → Prop) (w w' : World) : Prop := ∀ b, F b → w'.heap[b]? = w.heap[b]?

/-- The cells of a program's value. -/
def progCells (ov : Bool) (r : List Value) (op at_ a b : Int) (next : Value) : Array Value :=
  (.bool ov :: (r ++ [.int .i64 op, .int .i64 at_, .int .u64 a, .int .u64 b, next])).toArray

/-- The footprint behind a call: what it had, and what was made meanwhile. -/
def grow (F : Nat → Prop) (w w' : World) : Nat → Prop := fun b => F b ∨ (w.heap.size ≤ b ∧ b < w'.heap.size)

def Shape {R : Type} (E : Enc R) (v : Value) : Prop := ∃ c : Array Value, v = .agg c ∧ c.size = E.n + 6 ∧ c.toList.all plainCell = true

/-- The value v stands for the tree t, n steps deep, as long as the blocks of F are as they are in w. -/
def Rep {R : Type} (P : Program) (E : Enc R) : Nat → T R → (Nat → Prop) → World → Value → Prop
  | _, .cut, _, _, _ => False
  | _, .done r, _, _, v => v = .agg (progCells true (E.cells r) 0 0 0 0 .nilFunc)
  | 0, .act op at_ a b _, _, _, v => ∃ (f : FuncId) (first cap : List Value), callable P f = true ∧ v = .agg (progCells false E.zero op at_ a b (.func (.func f) first.toArray cap.toArray))
  | m + 1, .act op at_ a b k, F, w, v => ∃ (f : FuncId) (first cap : List Value), callable P f = true ∧ v = .agg (progCells false E.zero op at_ a b (.func (.func f) first.toArray cap.toArray)) ∧
      ∀ x w', Same F w w' → w.heap.size ≤ w'.heap.size →
        Calls P f (first ++ [Value.int .u64 x] ++ cap).toArray w' fun e w'' => ∃ v', e = .returned v' ∧ Below w'.heap.size w' w'' ∧ Rep P E m (k x) (grow F w' w'') w'' v'

/-- A call hands back a value that stands for a tree. -/
def RepRes {R : Type} (P : Program) (E : Enc R) (n : Nat) (t : T R) (F : Nat → Prop) (w : World) : Ending → World → Prop :=
  fun e w' => ∃ v, e = .returned v ∧ Below w.heap.size w w' ∧ Rep P E n t (grow F w w') w' v

/-- A function value stands for a function into trees, at one level. -/
def FnAt {R α : Type} (P : Program) (E : Enc R) (enc : α → List Value) (m : Nat) (F : Nat → Prop) (w : World) (f : FuncId) (first cap : List Value) (g : α → T R) : Prop :=
  ∀ x w', Same F w w' → w.heap.size ≤ w'.heap.size → Calls P f (first ++ enc x ++ cap).toArray w' (RepRes P E m (g x) F w')

/-- A function value stands for a function into trees, at all levels below n. -/
def FnT {R α : Type} (P : Program) (E : Enc R) (enc : α → List Value) (n : Nat) (F : Nat → Prop) (w : World) (fv : Value) (g : α → T R) : Prop :=
  ∃ (f : FuncId) (first cap : List Value), callable P f = true ∧ fv = .func (.func f) first.toArray cap.toArray ∧ ∀ m, m < n → FnAt P E enc m F w f first cap g

def u64 (x : Int) : List Value := [.int .u64 x]

def i64 (x : Int) : List Value := [.int .i64 x]

def boolE (x : Bool) : List Value := [.bool x]

def unitE (_ : Unit) : List Value := []

def encInt : Enc Int := ⟨1, fun r => [.int .i64 r], [.int .i64 0], fun _ => rfl, rfl, fun _ => rfl, rfl⟩

def encNone : Enc Unit := ⟨0, fun _ => [], [], fun _ => rfl, rfl, fun _ => rfl, rfl⟩

/-- A call hands back a known value, and adds memory alone. -/
def PureRes (v : Value) (w : World) : Ending → World → Prop := fun e w' => e = .returned v ∧ Below w.heap.size w w'

/-- Whether a tree is over. -/
def T.isDone {R : Type} : T R → Bool
  | .done _ => true
  | _ => false

section
variable {R : Type} {P : Program} {E : Enc R}

theorem Same.refl (F : Nat → Prop) (w : World) : Same F w w := fun _ _ => rfl

theorem Same.trans {F : Nat → Prop} {a b c : World} (h : Same F a b) (h' : Same F b c) : Same F a c := fun k hk => (h' k hk).trans (h k hk)

theorem Same.sub {F F' : Nat → Prop} {a b : World} (h : Same F a b) (hs : ∀ b, F' b → F b) : Same F' a b := fun k hk => h k (hs k hk)

theorem Same.below {F : Nat → Prop} {w w' : World} (h : Below w.heap.size w w') (hF : ∀ b, F b → b < w.heap.size) : Same F w w' := fun k hk => h.block k (hF k hk)

theorem Same.at_ {F : Nat → Prop} {w w' : World} {b : Nat} {o : Obj} (h : Same F w w') (hb : F b) (hw : w.heap[b]? = some o) : w'.heap[b]? = some o := by rw [h b hb]; exact hw

theorem Rep.mono {F F' : Nat → Prop} {w w' : World} (hs : ∀ b, F b → F' b) (h1 : Same F w w') (h2 : w.heap.size ≤ w'.heap.size) :
    ∀ (n : Nat) (t : T R) (v : Value), Rep P E n t F w v → Rep P E n t F' w' v
  | _, .cut, _, h => by unfold Rep at h; exact h.elim
  | _, .done _, _, h => by unfold Rep at h ⊢; exact h
  | 0, .act .., _, h => by unfold Rep at h ⊢; exact h
  | m + 1, .act op at_ a b k, v, h => by
    unfold Rep at h ⊢
    obtain ⟨f, first, cap, hc, hv, h⟩ := h
    refine ⟨f, first, cap, hc, hv, fun x w'' hs' hz => ?_⟩
    refine (h x w'' (h1.trans (hs'.sub hs)) (by omega)).mono ?_
    rintro e w3 ⟨v', he, hb, hr⟩
    exact ⟨v', he, hb, Rep.mono (fun b hb => hb.imp (hs b) id) (Same.refl _ _) (Nat.le_refl _) m _ _ hr⟩

theorem Rep.down {F : Nat → Prop} {w : World} : ∀ {n m : Nat} {t : T R} {v : Value}, m ≤ n → Rep P E n t F w v → Rep P E m t F w v
  | _, _, .cut, _, _, h => by unfold Rep at h; exact h.elim
  | _, _, .done _, _, _, h => by unfold Rep at h ⊢; exact h
  | 0, m, .act .., _, hm, h => by
    obtain rfl : m = 0 := by omega
    exact h
  | n + 1, 0, .act .., _, _, h => by
    unfold Rep at h ⊢
    obtain ⟨f, first, cap, hc, hv, _⟩ := h
    exact ⟨f, first, cap, hc, hv⟩
  | n + 1, m + 1, .act op at_ a b k, v, hm, h => by
    unfold Rep at h ⊢
    obtain ⟨f, first, cap, hc, hv, h⟩ := h
    refine ⟨f, first, cap, hc, hv, fun x w'' hs' hz => ?_⟩
    refine (h x w'' hs' hz).mono ?_
    rintro e w3 ⟨v', he, hb, hr⟩
    exact ⟨v', he, hb, Rep.down (by omega) hr⟩

theorem Rep.shape {F : Nat → Prop} {w : World} : ∀ {n : Nat} {t : T R} {v : Value}, Rep P E n t F w v → Shape E v
  | _, .cut, _, h => by unfold Rep at h; exact h.elim
  | _, .done r, _, h => by
    unfold Rep at h; subst h
    exact ⟨_, rfl, by simp [progCells, E.len], by simp [progCells, plainCell, E.plain r]⟩
  | 0, .act .., _, h => by
    unfold Rep at h; obtain ⟨_, _, _, _, rfl⟩ := h
    exact ⟨_, rfl, by simp [progCells, E.zlen], by simp [progCells, plainCell, E.zplain]⟩
  | m + 1, .act .., _, h => by
    unfold Rep at h; obtain ⟨_, _, _, _, rfl, _⟩ := h
    exact ⟨_, rfl, by simp [progCells, E.zlen], by simp [progCells, plainCell, E.zplain]⟩

theorem Rep.act_of {n : Nat} {F : Nat → Prop} {w : World} {op at_ a b : Int} {k : Int → T R} {fv : Value} (h : FnT P E u64 n F w fv k) :
    Rep P E n (.act op at_ a b k) F w (.agg (progCells false E.zero op at_ a b fv)) := by
  obtain ⟨f, first, cap, hc, rfl, h⟩ := h
  cases n with
  | zero => unfold Rep; exact ⟨f, first, cap, hc, rfl⟩
  | succ m => unfold Rep; exact ⟨f, first, cap, hc, rfl, fun x w' h1 h2 => h m (Nat.lt_succ_self _) x w' h1 h2⟩

theorem Rep.done_of {n : Nat} {F : Nat → Prop} {w : World} {r : R} : Rep P E n (.done r) F w (.agg (progCells true (E.cells r) 0 0 0 0 .nilFunc)) := by unfold Rep; rfl

theorem FnAt.mono {α : Type} {enc : α → List Value} {m : Nat} {F F' : Nat → Prop} {w w' : World} {f : FuncId} {first cap : List Value} {g : α → T R} (h : FnAt P E enc m F w f first cap g)
    (hs : ∀ b, F b → F' b) (h1 : Same F w w') (h2 : w.heap.size ≤ w'.heap.size) : FnAt P E enc m F' w' f first cap g := fun x w'' hs' hz => by
  refine (h x w'' (h1.trans (hs'.sub hs)) (by omega)).mono ?_
  rintro e w3 ⟨v', he, hb, hr⟩
  exact ⟨v', he, hb, Rep.mono (fun b hb => hb.imp (hs b) id) (Same.refl _ _) (Nat.le_refl _) m _ _ hr⟩

theorem FnT.mono {α : Type} {enc : α → List Value} {n n' : Nat} {F F' : Nat → Prop} {w w' : World} {fv : Value} {g : α → T R} (h : FnT P E enc n F w fv g) (hn : n' ≤ n)
    (hs : ∀ b, F b → F' b) (h1 : Same F w w') (h2 : w.heap.size ≤ w'.heap.size) : FnT P E enc n' F' w' fv g := by
  obtain ⟨f, first, cap, hc, hv, h⟩ := h
  exact ⟨f, first, cap, hc, hv, fun m hm => (h m (by omega)).mono hs h1 h2⟩

theorem Rep.act_inv {n : Nat} {F : Nat → Prop} {w : World} {op at_ a b : Int} {k : Int → T R} {v : Value} (h : Rep P E n (.act op at_ a b k) F w v) :
    ∃ (f : FuncId) (first cap : List Value), callable P f = true ∧ v = .agg (progCells false E.zero op at_ a b (.func (.func f) first.toArray cap.toArray)) ∧ FnT P E u64 n F w (.func (.func f) first.toArray cap.toArray) k := by
  cases n with
  | zero =>
    unfold Rep at h
    obtain ⟨f, first, cap, hc, hv⟩ := h
    exact ⟨f, first, cap, hc, hv, f, first, cap, hc, rfl, fun m hm => absurd hm (Nat.not_lt_zero m)⟩
  | succ q =>
    have h' := h
    unfold Rep at h
    obtain ⟨f, first, cap, hc, hv, hk⟩ := h
    refine ⟨f, first, cap, hc, hv, f, first, cap, hc, rfl, fun m hm x w' h1 h2 => ?_⟩
    refine (hk x w' h1 h2).mono ?_
    rintro e w'' ⟨v', he, hb, hr⟩
    exact ⟨v', he, hb, Rep.down (by omega) hr⟩

theorem FnT.at_ {α : Type} {enc : α → List Value} {n : Nat} {F : Nat → Prop} {w : World} {f : FuncId} {first cap : List Value} {g : α → T R} (h : FnT P E enc n F w (.func (.func f) first.toArray cap.toArray) g) :
    callable P f = true ∧ ∀ m, m < n → FnAt P E enc m F w f first cap g := by
  obtain ⟨f', first', cap', hc, he, hf⟩ := h
  simp only [Value.func.injEq, Fn.func.injEq] at he
  obtain ⟨e1, e2, e3⟩ := he
  have e2' : first = first' := by simpa using congrArg Array.toList e2
  have e3' : cap = cap' := by simpa using congrArg Array.toList e3
  subst e1; subst e2'; subst e3'
  exact ⟨hc, hf⟩

/-- The end of a function that lays its result into a cell of its own. -/
theorem RepRes.fin {n : Nat} {t : T R} {F F1 : Nat → Prop} {w0 w1 w2 w3 : World} {r : Nat} {o : Obj} {v : Value} (hB : Below w0.heap.size w0 w3) (hr : Rep P E n t (grow F1 w1 w2) w2 v)
    (hu : Upd w2 w3 r o) (hF : ∀ b, F1 b → F b ∨ (w0.heap.size ≤ b ∧ b < w1.heap.size)) (hFr : ¬ F1 r) (hr1 : r < w1.heap.size) (h01 : w0.heap.size ≤ w1.heap.size) (h12 : w1.heap.size ≤ w2.heap.size) :
    RepRes P E n t F w0 (.returned v) w3 := by
  refine ⟨v, rfl, hB, Rep.mono ?_ ?_ (by rw [hu.size]; exact Nat.le_refl _) n t v hr⟩
  · rintro b (hb | ⟨hb1, hb2⟩)
    · rcases hF b hb with h | ⟨h1, h2⟩
      · exact .inl h
      · exact .inr ⟨h1, by rw [hu.size]; omega⟩
    · exact .inr ⟨by omega, by rw [hu.size]; omega⟩
  · rintro b (hb | ⟨hb1, hb2⟩)
    · exact hu.other b (fun e => hFr (e ▸ hb))
    · exact hu.other b (by omega)

theorem over_full : ∀ (l : List Value) (pre post : List Value), post.length = l.length → over (pre ++ post).toArray pre.length l = (pre ++ l).toArray
  | [], pre, post, h => by
    have : post = [] := List.eq_nil_of_length_eq_zero (by simpa using h)
    subst this; rfl
  | v :: l, pre, [], h => by simp at h
  | v :: l, pre, p :: post, h => by
    have ih := over_full l (pre ++ [v]) post (by simpa using h)
    simp only [over]
    have e : (pre ++ p :: post).toArray.setIfInBounds pre.length v = (pre ++ [v] ++ post).toArray := by
      simp
    rw [e]
    simpa using ih

theorem over_all {c c' : Array Value} (h : c.size = c'.size) : over c 0 c'.toList = c' := by
  have := over_full c'.toList [] c.toList (by simpa using h)
  simpa using this

theorem y_storep {a : Act} {w : World} {d : Option Tmp} {ty : TypeId} {pos : String} {aft : Array Edge} {N : Nat} {s : SL} (hfr : Fr a N s) {x y : Operand} {b : Nat} {t Et : TypeId} {c : Array Value} {v : Value}
    {Q : Value → World → Prop} (hv : Shape E v) (hx : lookO s x = .pointer (some ⟨b, 0, none⟩)) (hy : lookO s y = v) (h : w.heap[b]? = some (.cells c Et (0, 0))) (ht : sized P t (E.n + 6) = true) (hn : c.size = E.n + 6)
    (hr : ∀ w', Upd w w' b (.cells v.cells Et (0, 0)) → Q undef w') : Yields P ⟨d, .store t x y, ty, pos, aft, none⟩ a w Q := by
  obtain ⟨c', rfl, h1, h2⟩ := hv
  exact y_store hfr hx hy h (by simpa [Value.cells, h1] using ht) (by simp [Value.cells, h1, hn]) h2 (over_all (by simp [Value.cells, h1, hn])) hr

theorem Shape.cells {v : Value} (h : Shape E v) : v.cells.size = E.n + 6 ∧ v.cells.toList.all plainCell = true ∧ v = .agg v.cells := by
  obtain ⟨c, rfl, h1, h2⟩ := h
  exact ⟨h1, h2, rfl⟩

end
end Go.Proofs.Ytbbipmelhmgmfaa

/- Short words for what printed walks say often. -/
namespace Go.Proofs.Ytbbipmelhmgmfaa
open Go.RowKit
set_option linter.unusedVariables false
abbrev W (x : Int) : Int := IntKind.i64.wrap x

abbrev V (x : Int) : Int := IntKind.u64.wrap x

abbrev I (x : Int) : Value := .int .i64 x

abbrev U (x : Int) : Value := .int .u64 x

theorem bz {w : World} {α : Type} {v : α} : Below w.heap.size w w ∧ v = v := ⟨Below.refl _ _, rfl⟩

section
variable {P : Program} {Q : Exit → Act → World → Prop} {a : Act} {w : World}
theorem wn {ops : Array Oper} (h : Q .normal a w) : wpList P ops Q [] a w := h

theorem wsr {id : Nat} {l : List Oper} {y : Code} (h : wpList P l.toArray (Exit.then (y.wp P Q) Q) l a w) : (Code.seq (Code.region id l.toArray false) y).wp P Q a w := wp_seq (wp_region_lit h)

end
section
variable {P : Program} {ops : Array Oper} {rest : List Oper} {Q : Exit → Act → World → Prop} {a : Act} {w : World} {N : Nat} {s : SL}
theorem s0 {o : Oper} {j d : Nat} {want x y : Bool} (hfr : Fr a N s) (e : x = y) (hk : ∀ a, Fr a N (putS s o.dst undef) → wpList P ops Q rest a w) (hg : o.guard = some (j, want) := by rfl) (hj : (ops[j]?).bind (·.dst) = some d := by rfl) (hd : (Nat.ble (d + 1) N && dstIn N o.dst) = true := by rfl) (hv : look s d = .bool x := by rfl)
    (hn : (y == want) = false := by rfl) : wpList P ops Q (o :: rest) a w := seq_skip hfr hg hj hd (v := .bool y) (hv.trans (congrArg Value.bool e)) (by
  intro h
  have h2 : y = want := Option.some.inj h
  rw [h2] at hn
  simp at hn) hk

theorem s1 {o : Oper} {j d : Nat} {want x : Bool} (hfr : Fr a N s) (e : x = want) (hk : wpList P ops Q ({ o with guard := none } :: rest) a w) (hg : o.guard = some (j, want) := by rfl) (hj : (ops[j]?).bind (·.dst) = some d := by rfl) (hd : Nat.ble (d + 1) N = true := by rfl) (hv : look s d = .bool x := by rfl) : wpList P ops Q (o :: rest) a w :=
  seq_want hfr hg hj hd (hv.trans (congrArg Value.bool e)) hk

end
theorem ec {P : Program} {ops : Array Oper} {Φ : Nat → Value → World → Prop} {Ψ : Nat → World → Value → World → Prop} {full : List Oper} {a : Act} {w : World} {o : Oper} {l : List Oper} {i N : Nat} {s : SL} (r : Fr a N s)
    (h : ∀ a' u w', Below w.heap.size w w' → Deps Φ u w' o.after.toList → Fr a' N (putsS full u 0 s) → Yields P o a' w' fun v w'' => Below w'.heap.size w' w'' ∧ Ψ i w' v w'') (h2 : Each P ops Φ Ψ full a w l (i + 1)) (hd : (o.guard.isNone && dstsIn N full) = true := by rfl) : Each P ops Φ Ψ full a w (o :: l) i := each_consF r hd h h2

section
variable {P : Program} {L : List Oper} {a : Act} {w : World} {N : Nat} {s : SL}
theorem fc {fs : Nat → Fact w.heap.size (fun _ => False)} {o : Oper} {l : List Oper} {i : Nat} (r : Fr a N s)
    (h : ∀ a' g w', Below w.heap.size w w' → (∀ j, awaits o j = true → (fs j).ok g j w' ∧ w.heap.size ≤ (g j).lo ∧ (g j).hi ≤ w'.heap.size ∧ ∀ q, awaits o q = true → q ≠ j → (g j).hi ≤ (g q).lo ∨ (g q).hi ≤ (g j).lo) → Fr a' N (putsS L (fun j => (g j).v) 0 s) →
      Yields P o a' w' fun v w'' => (fs i).mk g v w' w'') (h2 : EachF P L fs a w l (i + 1)) (hd : (o.guard.isNone && dstsIn N L) = true := by rfl) : EachF P L fs a w (o :: l) i := eachF_cons r hd h h2

end
theorem New.all {w0 w w' : World} {b : Nat} {o : Obj} (n : New w w' b o) (hB : Below w0.heap.size w0 w) : b = w.heap.size ∧ w'.heap.size = b + 1 ∧ w'.heap[b]? = some o ∧ Below w0.heap.size w0 w' ∧ w0.heap.size ≤ w'.heap.size :=
  have h := hB.trans (n.below.mono hB.size)
  ⟨n.eq, n.size, n.at_, h, h.size⟩

theorem bon {w0 w w' : World} (hb : Below w.heap.size w w') (hB : Below w0.heap.size w0 w) : Below w0.heap.size w0 w' ∧ w0.heap.size ≤ w'.heap.size :=
  have h := hB.trans (hb.mono hB.size)
  ⟨h, h.size⟩

theorem Upd.on {w0 w w' : World} {b : Nat} {o : Obj} (u : Upd w w' b o) (hB : Below w0.heap.size w0 w) (h : w0.heap.size ≤ b) : Below w0.heap.size w0 w' ∧ w0.heap.size ≤ w'.heap.size :=
  have h := u.below hB h
  ⟨h, h.size⟩

theorem keep2 {w0 w w' : World} {d b : Nat} {o : Obj} (hB : Below w0.heap.size w0 w) (hb : Below w.heap.size { w with drawn := d } w') (h : w0.heap[b]? = some o) : w'.heap[b]? = some o := Eq.trans (show w'.heap[b]? = w.heap[b]? from hb.block b (Nat.lt_of_lt_of_le (lt_of_block h) hB.size)) (keep hB h)

theorem fgrow {F : Nat → Prop} {w0 w : World} (hF : ∀ b, F b → b < w0.heap.size) (hB : Below w0.heap.size w0 w) (r : Nat) : ∀ b, (fun b => F b ∨ (w0.heap.size ≤ b ∧ b < w.heap.size ∧ b ≠ r)) b → b < w.heap.size := by
  rintro b (h | h)
  · exact Nat.lt_of_lt_of_le (hF b h) hB.size
  · exact h.2.1

theorem rfin {R : Type} {P : Program} {E : Enc R} {n : Nat} {t : T R} {F : Nat → Prop} {w0 w1 w2 w3 : World} {r : Nat} {o : Obj} {v : Value} (hF : ∀ b, F b → b < w0.heap.size) (hB : Below w0.heap.size w0 w3) (hr : Rep P E n t (grow (fun b => F b ∨ (w0.heap.size ≤ b ∧ b < w1.heap.size ∧ b ≠ r)) w1 w2) w2 v)
    (hu : Upd w2 w3 r o) (hr1 : r < w1.heap.size) (h01 : w0.heap.size ≤ r) (h12 : w1.heap.size ≤ w2.heap.size) : RepRes P E n t F w0 (.returned v) w3 :=
  RepRes.fin hB hr hu (by rintro b (h | ⟨h1, h2, _⟩); exact .inl h; exact .inr ⟨h1, h2⟩) (by rintro (h | ⟨_, _, h⟩); (have := hF _ h; omega); exact h rfl) hr1 (by omega) h12

end Go.Proofs.Ytbbipmelhmgmfaa

/- Written by a program of ours (wip/gen.py): Go's structs as Lean's. -/
namespace Go.Proofs.Ytbbipmelhmgmfaa
open Go.RowKit
structure Plan where
  nodes : Int
  threads : Int
  retire : Int
  domains : Int
  buckets : Int
  gen : Int
  deriving DecidableEq

def planC (x : Plan) : List Value := [(.int .i64 x.nodes), (.int .i64 x.threads), (.int .i64 x.retire), (.int .i64 x.domains), (.int .i64 x.buckets), (.int .i64 x.gen)]

structure Bound where
  n : Int
  least : Int
  most : Int
  deriving DecidableEq

def boundC (x : Bound) : List Value := [(.int .i64 x.n), (.int .i64 x.least), (.int .i64 x.most)]

def boundsC (l : List Bound) : List Value := l.flatMap boundC

structure Access where
  op : Int
  at_ : Int
  a : Int
  b : Int
  deriving DecidableEq

def accessC (x : Access) : List Value := [(.int .i64 x.op), (.int .i64 x.at_), (.int .u64 x.a), (.int .u64 x.b)]

structure Cap where
  region : Int
  epoch : Int
  deriving DecidableEq

def capC (x : Cap) : List Value := [(.int .i64 x.region), (.int .u64 x.epoch)]

structure Field where
  at_ : Int
  bits : Int
  deriving DecidableEq

def fieldC (x : Field) : List Value := [(.int .i64 x.at_), (.int .i64 x.bits)]

def maxI (m n : Int) : Int := if n > m then n else m

def shrI (k : IntKind) (x y : Int) : Int := x.fdiv (2 ^ (min y.toNat k.bits))

def shlI (k : IntKind) (x y : Int) : Int := k.wrap (x * 2 ^ (min y.toNat k.bits))

def bits_and (k : IntKind) (x y : Int) : Int := k.wrap ((BitVec.ofInt k.bits x &&& BitVec.ofInt k.bits y).toNat)

def bits_or (k : IntKind) (x y : Int) : Int := k.wrap ((BitVec.ofInt k.bits x ||| BitVec.ofInt k.bits y).toNat)

def bits_andNot (k : IntKind) (x y : Int) : Int := k.wrap ((BitVec.ofInt k.bits x &&& ~~~(BitVec.ofInt k.bits y)).toNat)

theorem bin_shl {P : Program} {k k' : IntKind} {t : TypeId} {x y : Int} {w : World} (hy : 0 ≤ y) : (binOp .shl t (.int k x) (.int k' y)).run P w = .ok (.int k (shlI k x y)) w := by
  have h : ¬ y < 0 := by omega
  simp only [binOp, Op.shift, if_neg h]
  rfl

theorem bin_shr {P : Program} {k k' : IntKind} {t : TypeId} {x y : Int} {w : World} (hy : 0 ≤ y) : (binOp .shr t (.int k x) (.int k' y)).run P w = .ok (.int k (shrI k x y)) w := by
  have h : ¬ y < 0 := by omega
  simp only [binOp, Op.shift, if_neg h]
  rfl

theorem bin_rem {P : Program} {k : IntKind} {t : TypeId} {x y : Int} {w : World} (hy : y ≠ 0) : (binOp .rem t (.int k x) (.int k y)).run P w = .ok (.int k (x.tmod y)) w := by
  simp [binOp, Op.intDiv, hy]

end Go.Proofs.Ytbbipmelhmgmfaa

/- Written by a program of ours (wip/gen2.py): more of Go's structs as Lean's. -/
namespace Go.Proofs.Ytbbipmelhmgmfaa
open Go.RowKit

def u8E (x : Int) : List Value := [.int .u8 x]

end Go.Proofs.Ytbbipmelhmgmfaa

/- A memory of one region: the blocks that it lies in, and what they hold. -/
namespace Go.Proofs.Ytbbipmelhmgmfaa
open Go.RowKit

/-- The words of the one region, and how many accesses were done. -/
structure Mem where
  ws : List Int
  cnt : Int

/-- The blocks: the memory's, the list of regions', the region's, its words'. -/
structure MG where
  mb : Nat
  lb : Nat
  rb : Nat
  wb : Nat
  cap : Nat

def MG.bs (g : MG) : List Nat := [g.mb, g.lb, g.rb, g.wb]

structure MemAt (g : MG) (M : Mem) (w : World) : Prop where
  hdr : w.heap[g.mb]? = some (.cells #[.slice (some ⟨g.lb, 0, none⟩) 1 g.cap, .int .i64 M.cnt] 76 (0, 0))
  lst : ∃ cur, w.heap[g.lb]? = some (.cells cur 77 (0, 0)) ∧ cur[0]? = some (.pointer (some ⟨g.rb, 0, none⟩))
  reg : w.heap[g.rb]? = some (.cells #[.slice (some ⟨g.wb, 0, none⟩) M.ws.length M.ws.length, .int .u64 1] 80 (0, 0))
  wds : w.heap[g.wb]? = some (.cells (M.ws.flatMap u64).toArray 33 (0, 0))
  apart : g.mb ≠ g.lb ∧ g.mb ≠ g.rb ∧ g.mb ≠ g.wb ∧ g.lb ≠ g.rb ∧ g.lb ≠ g.wb ∧ g.rb ≠ g.wb

section
variable {g : MG} {M : Mem} {w w' w0 : World} {L : List Ck} {Z : Nat → Prop} {i : Nat}
theorem MemAt.st (h : ∀ b, b ∈ g.bs → w'.heap[b]? = w.heap[b]?) (hm : MemAt g M w) : MemAt g M w' := by
  obtain ⟨h1, ⟨cur, h2, h2'⟩, h3, h4, h5⟩ := hm
  exact ⟨(h _ (by simp [MG.bs])).trans h1, ⟨cur, (h _ (by simp [MG.bs])).trans h2, h2'⟩, (h _ (by simp [MG.bs])).trans h3, (h _ (by simp [MG.bs])).trans h4, h5⟩

theorem MemAt.lt (hm : MemAt g M w) : ∀ b, b ∈ g.bs → b < w.heap.size := by
  obtain ⟨h1, ⟨cur, h2, h2'⟩, h3, h4, h5⟩ := hm
  intro b hb
  simp only [MG.bs, List.mem_cons, List.not_mem_nil, or_false] at hb
  rcases hb with rfl | rfl | rfl | rfl
  · exact lt_of_block h1
  · exact lt_of_block h2
  · exact lt_of_block h3
  · exact lt_of_block h4

def memK (g : MG) (M : Mem) : Ck := ⟨g.bs, [], MemAt g M, fun _ _ h _ hm => hm.st fun b hb => h b (.inl hb)⟩

def memR (g : MG) (M : Mem) : Ck := ⟨[], g.bs, MemAt g M, fun _ _ h _ hm => hm.st fun b hb => h b (.inr hb)⟩

theorem Post.mem (h : Post Z L w0 w) (hi : L[i]? = some (memK g M)) : MemAt g M w := h.sep.get hi

theorem Post.memr (h : Post Z L w0 w) (hi : L[i]? = some (memR g M)) : MemAt g M w := h.sep.get hi

theorem sep_mem (hm : MemAt g M w) : Sep [memK g M] w :=
  ⟨hm, (fun b hb => by rcases hb with hb | hb; (exact hm.lt b hb); (cases hb)), (fun _ h => by cases h), trivial⟩

/-- The memory is another one in the same blocks. -/
theorem Post.memUpd {M' : Mem} {b : Nat} {o : Obj} (h : Post Z L w0 w) (hi : L[i]? = some (memK g M)) (hb : b ∈ g.bs) (hu : Upd w w' b o) (hm : MemAt g M' w') : Post Z (L.set i (memK g M')) w0 w' := by
  have := h.set (N := []) hi (c' := memK g M') ⟨⟨sep_mem hm, ⟨hu.os, hu.tape, hu.output, Nat.le_of_eq hu.size.symm, fun k _ hk => hu.other k fun e => hk (e ▸ hb)⟩, fun c hc b' hb' => by rcases List.mem_singleton.1 hc with rfl; exact .inl hb'⟩, fun c hc b' hb' => by rcases List.mem_singleton.1 hc with rfl; cases hb'⟩
  rwa [List.append_nil] at this

theorem MemAt.setCnt {c : Int} (hm : MemAt g M w) (hu : Upd w w' g.mb (.cells #[.slice (some ⟨g.lb, 0, none⟩) 1 g.cap, .int .i64 c] 76 (0, 0))) : MemAt g { M with cnt := c } w' := by
  obtain ⟨h1, ⟨cur, h2, h2'⟩, h3, h4, h5⟩ := hm
  obtain ⟨e1, e2, e3, _⟩ := id h5
  exact ⟨hu.at_, ⟨cur, (hu.other _ (Ne.symm e1)).trans h2, h2'⟩, (hu.other _ (Ne.symm e2)).trans h3, (hu.other _ (Ne.symm e3)).trans h4, h5⟩

theorem MemAt.setWord {ws : List Int} (hm : MemAt g M w) (hl : ws.length = M.ws.length) (hu : Upd w w' g.wb (.cells (ws.flatMap u64).toArray 33 (0, 0))) : MemAt g { M with ws := ws } w' := by
  obtain ⟨h1, ⟨cur, h2, h2'⟩, h3, h4, h5⟩ := hm
  obtain ⟨_, _, e1, _, e2, e3⟩ := id h5
  refine ⟨(hu.other _ e1).trans h1, ⟨cur, (hu.other _ e2).trans h2, h2'⟩, ?_, hu.at_, h5⟩
  show w'.heap[g.rb]? = some (.cells #[.slice (some ⟨g.wb, 0, none⟩) ws.length ws.length, .int .u64 1] 80 (0, 0))
  rw [hl]
  exact (hu.other _ e3).trans h3

theorem flat_u64 : ∀ (l : List Int), l.flatMap u64 = l.map (.int .u64)
  | [] => rfl
  | x :: l => by simp [List.flatMap_cons, u64, flat_u64 l]

theorem over_words {ws : List Int} {k : Nat} {v : Int} : over (ws.flatMap u64).toArray k [.int .u64 v] = ((ws.set k v).flatMap u64).toArray := by
  simp only [over, flat_u64, List.setIfInBounds_toArray, List.map_set]

theorem over_words1 {ws : List Int} {k : Nat} {v : Int} : over (ws.flatMap u64).toArray (0 + k * 1) (Value.int .u64 v).cells.toList = ((ws.set k v).flatMap u64).toArray := by
  rw [show 0 + k * 1 = k from by omega]
  exact over_words

theorem word_lt {ws : List Int} {y x : Int} {v : Int} (h : getI ws y = some x) : 0 + y.toNat * 1 + (Value.int .u64 v).cells.size ≤ (ws.flatMap u64).toArray.size := by
  obtain ⟨h0, h1, h2, _⟩ := getI_lt h
  rw [flat_u64]
  simp only [List.size_toArray, List.length_map]
  show 0 + y.toNat * 1 + 1 ≤ _
  omega

/-- It is 0. -/
def zeroI (x : Int) : Option Unit := if x = 0 then some () else none

theorem zeroI_eq {x : Int} {u : Unit} (h : zeroI x = some u) : x = 0 := by
  unfold zeroI at h
  split at h
  · assumption
  · cases h

/-- The memory with another word. -/
def Mem.put (M : Mem) (at_ v : Int) : Mem := { M with ws := M.ws.set at_.toNat v }

section
variable {P : Program} {a : Act} {d : Option Tmp} {ty : TypeId} {pos : String} {aft : Array Edge} {N : Nat} {s : SL} (hfr : Fr a N s)
include hfr
theorem y_nilCheck {x : Operand} {ad : Addr} {R : Value → World → Prop} (hx : lookO s x = .pointer (some ad)) (h : R (.pointer (some ad)) w) : Yields P ⟨d, .nilCheck x, ty, pos, aft, none⟩ a w R := by
  refine .of_run (v := .pointer (some ad)) (w' := w) ?_ h
  simp only [execOp, hfr.ev hx]
  rfl

theorem y_regLoad {x : Operand} {t : TypeId} {y : Int} {R : Value → World → Prop} (hm : MemAt g M w) (hx : lookO s x = .pointer (some ⟨g.lb, 0 + y.toNat * 1, none⟩)) (hy : y = 0) (ht : tyO P t = true) (h : R (.pointer (some ⟨g.rb, 0, none⟩)) w) :
    Yields P ⟨d, .load t x, ty, pos, aft, none⟩ a w R := by
  subst hy
  obtain ⟨cur, h2, h3⟩ := hm.lst
  exact y_load_one hfr hx h2 ht h3 h

theorem y_wordLoad {x : Operand} {t : TypeId} {y x0 : Int} {R : Value → World → Prop} (hm : MemAt g M w) (hi : getI M.ws y = some x0) (hx : lookO s x = .pointer (some ⟨g.wb, 0 + y.toNat * 1, none⟩)) (ht : tyO P t = true) (h : R (.int .u64 x0) w) :
    Yields P ⟨d, .load t x, ty, pos, aft, none⟩ a w R := by
  obtain ⟨h0, h1, h2, rfl⟩ := getI_lt hi
  refine y_load_one hfr hx hm.wds ht ?_ h
  rw [flat_u64]
  simp

end
end

/-! ### Programs as chunks -/
section
variable {R : Type} {P : Program} {E : Enc R} {w w' w0 : World} {L : List Ck} {Z : Nat → Prop} {i : Nat}
/-- A program's value: how deep it is known, its tree; the blocks that it reads. -/
def progK (P : Program) (E : Enc R) (x : Nat × T R) (v : Value) (F : List Nat) : Ck :=
  ⟨[], F, fun w => Rep P E x.1 x.2 (fun b => b ∈ F) w v, fun _ _ h hs hr => Rep.mono (fun _ h => h) (fun b hb => h b (.inr hb)) hs _ _ _ hr⟩

theorem Post.prog {x : Nat × T R} {v : Value} {F : List Nat} (h : Post Z L w0 w) (hi : L[i]? = some (progK P E x v F)) : Rep P E x.1 x.2 (fun b => b ∈ F) w v := h.sep.get hi

def rg (lo hi : Nat) : List Nat := List.range' lo (hi - lo)

theorem mem_rg {lo hi b : Nat} : b ∈ rg lo hi ↔ lo ≤ b ∧ b < hi := by
  simp only [rg, List.mem_range'_1]
  omega

theorem sep_prog {x : Nat × T R} {v : Value} {F : List Nat} (h : Rep P E x.1 x.2 (fun b => b ∈ F) w v) (hl : ∀ b, b ∈ F → b < w.heap.size) : Sep [progK P E x v F] w :=
  ⟨h, (fun b hb => by rcases hb with hb | hb; (cases hb); (exact hl b hb)), (fun _ h => by cases h), trivial⟩

theorem fresh_prog {n : Nat} {t : T R} {v : Value} (hr : Rep P E n t (grow No w w') w' v) : Fresh [progK P E (n, t) v (rg w.heap.size w'.heap.size)] w.heap.size w'.heap.size w' :=
  ⟨sep_prog (Rep.mono (fun b hb => mem_rg.2 (hb.resolve_left fun h => h)) (Same.refl _ _) (Nat.le_refl _) _ _ _ hr) fun b hb => (mem_rg.1 hb).2, fun c hc b hb => by
    rcases List.mem_singleton.1 hc with rfl
    rcases hb with hb | hb
    · cases hb
    · exact mem_rg.1 hb⟩

theorem Post.addProg {n : Nat} {t : T R} {v : Value} (h : Post Z L w0 w) (hb : Below w.heap.size w w') (hr : Rep P E n t (grow No w w') w' v) : Post Z (L ++ [progK P E (n, t) v (rg w.heap.size w'.heap.size)]) w0 w' :=
  h.addL (l := [([progK P E (n, t) v (rg w.heap.size w'.heap.size)], w.heap.size, w'.heap.size)]) hb ⟨fresh_prog hr, Nat.le_refl _, disj_nil, trivial⟩

/-- New chunks beside old ones. -/
theorem Sep.beside {N L : List Ck} {lo hi B : Nat} (h1 : Fresh N lo hi w) (h2 : Sep L w) (h3 : ∀ c, c ∈ L → ∀ b, c.has b → b < B) (hB : B ≤ lo) : Sep (N ++ L) w :=
  h1.1.append h2 fun c hc d hd => ⟨fun b hb hb' => by have := h1.2 c hc b (.inl hb); have := h3 d hd b hb'; omega, fun b hb hb' => by have := h1.2 c hc b hb'; have := h3 d hd b (.inl hb); omega⟩

theorem Chg.kept {S : Nat → Prop} (h : Chg S w w') : Kept w.heap.size S 0 0 w w' := ⟨h.os, h.tape, h.output, h.size, fun b hb => h.block b (by omega) (by rcases hb with hb | hb; exact hb.2; omega)⟩

def T.res (d : R) : T R → R
  | .done r => r
  | _ => d

theorem Rep.over_at {n : Nat} {F : Nat → Prop} {v : Value} : ∀ {t : T R}, Rep P E n t F w v → v.cells[0]? = some (.bool t.isDone)
  | .cut, h => by unfold Rep at h; exact h.elim
  | .done r, h => by unfold Rep at h; subst h; rfl
  | .act .., h => by obtain ⟨_, _, _, _, rfl, _⟩ := h.act_inv; rfl

theorem Rep.res_at {n : Nat} {F : Nat → Prop} {v : Value} {d : R} (hd : E.zero = E.cells d) : ∀ {t : T R}, Rep P E n t F w v → ((v.cells.toList.drop 1).take E.n) = E.cells (t.res d)
  | .cut, h => by unfold Rep at h; exact h.elim
  | .done r, h => by
    unfold Rep at h; subst h
    show ((E.cells r ++ _).take E.n) = E.cells r
    rw [← E.len r, List.take_left]
  | .act .., h => by
    obtain ⟨_, _, _, _, rfl, _⟩ := h.act_inv
    show ((E.zero ++ _).take E.n) = E.cells d
    rw [hd, ← E.len d, List.take_left]

theorem y_loadp {a : Act} {d : Option Tmp} {ty : TypeId} {pos : String} {aft : Array Edge} {N : Nat} {s : SL} (hfr : Fr a N s) {x : Operand} {b : Nat} {t Et : TypeId} {v : Value} {Q : Value → World → Prop} (hv : Shape E v)
    (hx : lookO s x = .pointer (some ⟨b, 0, none⟩)) (h : w.heap[b]? = some (.cells v.cells Et (0, 0))) (ht : tyA P t (E.n + 6) = true) (hr : Q v w) : Yields P ⟨d, .load t x, ty, pos, aft, none⟩ a w Q := by
  obtain ⟨c, rfl, h1, h2⟩ := hv
  have hl : c.toList.length = E.n + 6 := by simpa using h1
  refine y_load_agg hfr (cs := c.toList) (n := E.n + 6) hx h (by rw [hl]; exact ht) ?_ (by simpa using hr)
  show (c.toList.drop 0).take (E.n + 6) = c.toList
  rw [List.drop_zero, ← hl, List.take_length]

/-- The end of a step: the memory, and the program that goes on. -/
theorem Post.step {g : MG} {M : Mem} {x : Nat × T R} {v : Value} {F F' : List Nat} (h : Post Z L w0 w) (hi : L[i]? = some (memK g M)) (hr : Rep P E x.1 x.2 (fun b => b ∈ F') w v) (hl : ∀ b, b ∈ F' → b < w.heap.size)
    (hn : ∀ b, b ∈ F' → b ∉ g.bs) (hF : ∀ b, b ∈ F' → b ∈ F ∨ w0.heap.size ≤ b) : Done Z (fun b => b ∈ F) [memK g M, progK P E x v F'] w0 w := by
  have hm : Post Z [memK g M] w0 w := h.pick [i] (by simp [distinctN]) (by simp [hi])
  refine ⟨⟨⟨hm.sep.1, hm.sep.2.1, fun d hd => ?_, sep_prog hr hl⟩, hm.chg, fun c hc b hb => ?_⟩, fun c hc b hb => ?_⟩
  · rcases List.mem_singleton.1 hd with rfl
    exact ⟨fun b hb hb' => by rcases hb' with hb' | hb'; (cases hb'); (exact hn b hb' hb), fun b hb => by cases hb⟩
  · rcases List.mem_cons.1 hc with rfl | hc
    · exact hm.mine _ (List.mem_singleton.2 rfl) b hb
    · rcases List.mem_singleton.1 hc with rfl; cases hb
  · rcases List.mem_cons.1 hc with rfl | hc
    · cases hb
    · rcases List.mem_singleton.1 hc with rfl; exact hF b hb

end

section
variable {R : Type} {P : Program} {E : Enc R} {w w' w0 : World} {L : List Ck} {Z : Nat → Prop} {i : Nat}
/-- What a program's value tells of its access, and of what goes on. -/
def T.acc : T R → Access
  | .act op at_ a b _ => ⟨op, at_, a, b⟩
  | _ => ⟨0, 0, 0, 0⟩

def T.next : T R → Int → T R
  | .act _ _ _ _ k, x => k x
  | _, _ => .cut

theorem Rep.res_at1 {n : Nat} {F : Nat → Prop} {v x : Value} {d : R} {t : T R} (hd : E.zero = E.cells d) (hx : E.cells (t.res d) = [x]) (h : Rep P E n t F w v) : v.cells[1]? = some x := by
  have h2 := h.res_at hd
  rw [hx] at h2
  have h3 : ((v.cells.toList.drop 1).take E.n)[0]? = some x := by rw [h2]; rfl
  rw [List.getElem?_take] at h3
  split at h3
  · simpa using h3
  · cases h3

theorem Rep.acc_at {n : Nat} {F : Nat → Prop} {v : Value} {t : T R} (h : Rep P E n t F w v) (hd : t.isDone = false) : ((v.cells.toList.drop (1 + E.n)).take 4) = accessC t.acc := by
  cases t with
  | cut => unfold Rep at h; exact h.elim
  | done r => cases hd
  | act op at_ a b k =>
    obtain ⟨_, _, _, _, rfl, _⟩ := h.act_inv
    show (((.bool false :: (E.zero ++ _)) : List Value).drop (1 + E.n)).take 4 = _
    rw [Nat.add_comm, List.drop_succ_cons, ← E.zlen, List.drop_left]
    rfl

theorem Rep.next_at {n : Nat} {F : Nat → Prop} {v : Value} {t : T R} (h : Rep P E n t F w v) (hd : t.isDone = false) : ∃ (f : FuncId) (first cap : List Value), v.cells[5 + E.n]? = some (.func (.func f) first.toArray cap.toArray) ∧ FnT P E u64 n F w (.func (.func f) first.toArray cap.toArray) t.next := by
  cases t with
  | cut => unfold Rep at h; exact h.elim
  | done r => cases hd
  | act op at_ a b k =>
    obtain ⟨f, first, cap, _, rfl, hf⟩ := h.act_inv
    refine ⟨f, first, cap, ?_, hf⟩
    simp only [progCells, Value.cells, List.getElem?_toArray]
    rw [show 5 + E.n = (E.n + 4) + 1 from by omega, List.getElem?_cons_succ, List.getElem?_append_right (by rw [E.zlen]; omega), E.zlen]
    simp

/-- One step deeper. -/
def depthI : Nat → Option Nat
  | 0 => none
  | n + 1 => some n

theorem depthI_eq {n m : Nat} (h : depthI n = some m) : n = m + 1 := by
  cases n with
  | zero => cases h
  | succ n => exact congrArg (· + 1) (Option.some.inj h)

theorem Post.addProgF {n : Nat} {t : T R} {v v0 : Value} {x : Nat × T R} {F : List Nat} {k : Nat} (h : Post Z L w0 w) (hk : L[k]? = some (progK P E x v0 F)) (hb : Below w.heap.size w w') (hr : Rep P E n t (grow (fun b => b ∈ F) w w') w' v) :
    Post Z (L ++ [progK P E (n, t) v (F ++ rg w.heap.size w'.heap.size)]) w0 w' := by
  have hz := hb.size
  have hlt : ∀ b, b ∈ F → b < w.heap.size := fun b hb => h.sep.lt hk (.inr hb)
  have hl : ∀ b, b ∈ F ++ rg w.heap.size w'.heap.size → b < w'.heap.size := fun b hb => by
    rcases List.mem_append.1 hb with hb | hb
    · exact Nat.lt_of_lt_of_le (hlt b hb) hz
    · exact (mem_rg.1 hb).2
  have hr' : Rep P E n t (fun b => b ∈ F ++ rg w.heap.size w'.heap.size) w' v := Rep.mono (fun b hb => List.mem_append.2 (hb.imp id mem_rg.2)) (Same.refl _ _) (Nat.le_refl _) _ _ _ hr
  refine ⟨(h.sep.below hb).append (sep_prog (x := (n, t)) hr' hl) fun d hd e he => ?_, h.chg.trans (Chg.of_below hb) (fun _ _ h => h.elim), fun d hd b hb => ?_⟩
  · rcases List.mem_singleton.1 he with rfl
    refine ⟨fun b hb1 hb2 => ?_, fun b hb => by cases hb⟩
    rcases hb2 with hb2 | hb2
    · cases hb2
    · rcases List.mem_append.1 hb2 with hb2 | hb2
      · obtain ⟨j, hj⟩ := List.mem_iff_getElem?.1 hd
        by_cases hjk : j = k
        · subst hjk
          rw [hj] at hk
          obtain rfl := Option.some.inj hk
          cases hb1
        · exact (h.sep.clear hj hk hjk).1 b hb1 (.inr hb2)
      · have := (mem_rg.1 hb2).1
        have := (h.sep.ok d hd).2 b (.inl hb1)
        omega
  · rcases List.mem_append.1 hd with hd | hd
    · exact h.mine d hd b hb
    · rcases List.mem_singleton.1 hd with rfl; cases hb

def PrP (P : Program) (E : Enc R) (x : Nat × T R) : Value → Nat → Nat → World → Prop := fun v lo hi w => Fresh [progK P E x v (rg lo hi)] lo hi w

theorem PrP.st (x : Nat × T R) {B : Nat} {S : Nat → Prop} : ∀ v lo hi w1 w2, PrP P E x v lo hi w1 → Kept B S lo hi w1 w2 → PrP P E x v lo hi w2 := by
  rintro v lo hi w1 w2 ⟨hs, hb⟩ ⟨_, _, _, hz, hk⟩
  exact ⟨hs.keep hz fun c hc b hcb => hk b (.inr (hb c hc b hcb)), hb⟩

def guardI (b : Bool) : Option Unit := if b = true then some () else none

theorem guardI_eq {p : Prop} [Decidable p] {u : Unit} (h : guardI (decide p) = some u) : p := by
  unfold guardI at h
  split at h
  · rename_i h1; exact of_decide_eq_true h1
  · cases h

theorem ret_cell_tmp2 {fn : Func} {a : Act} {n : Nat} {s : SL} (h : Fr a n s) {R : Ending → World → Prop} {w : World} {t t' t2 : Tmp} {ty : TypeId} {b : Nat} {c : Array Value} {E : TypeId} {fz : Nat × Nat} {k : Nat} {v' v2 : Value} (hf : fn.results = #[.cell t ty, .tmp t', .tmp t2])
    (hv : look s t = .pointer (some ⟨b, 0, none⟩)) (hv' : look s t' = v') (hv2 : look s t2 = v2) (hb : w.heap[b]? = some (.cells c E fz)) (hk : c.size = k) (ht : tyA P ty k = true) (hR : R (.returned (.tuple #[.agg c, v', v2])) w) : bodyPost P fn R .ret a w := by
  refine ⟨h.defers, _, ?_, hR⟩
  subst hk; subst hv'; subst hv2
  have hl : (loadVar ty ⟨b, 0, none⟩).run P w = .ok (.agg c) w := by
    have := loadVar_agg (P := P) (t := ty) (lies_block hb (o := 0) (n := c.size) (cs := c.toList) (by rw [List.drop_zero]; exact List.take_of_length_le (by simp))) (by simpa using ht)
    simpa using this
  simp [results, hf, h.slot, hv, asAddr, hl]

end

/-! ### A memory that is made -/
section
variable {P : Program} {w w' w0 : World} {L : List Ck} {Z : Nat → Prop}
/-- One size alone, that may be. -/
def oneI : List Int → Option Int
  | [n] => if 0 ≤ n ∧ n ≤ 16777216 then some n else none
  | _ => none

theorem oneI_eq {l : List Int} {n : Int} (h : oneI l = some n) : l = [n] ∧ 0 ≤ n ∧ n ≤ 16777216 := by
  unfold oneI at h
  split at h
  · split at h
    · rename_i m h1
      obtain rfl := Option.some.inj h
      exact ⟨rfl, h1⟩
    · cases h
  · cases h

def zerosI (n : Int) : List Int := List.replicate n.toNat 0

def WB (n : Int) (wb : Nat) (w : World) : Prop := w.heap[wb]? = some (.cells ((zerosI n).flatMap u64).toArray 33 (0, 0))

def W6 (B : Nat) (n : Int) : Value → Nat → Nat → World → Prop := fun v _ _ w => ∃ wb, v = .slice (some ⟨wb, 0, none⟩) n.toNat n.toNat ∧ WB n wb w ∧ B ≤ wb

def W7 (B : Nat) (n : Int) : Value → Nat → Nat → World → Prop := fun v _ _ w => ∃ wb, v = .agg #[.slice (some ⟨wb, 0, none⟩) n.toNat n.toNat, .int .u64 1] ∧ WB n wb w ∧ B ≤ wb

def RB (n : Int) (wb rb : Nat) (w : World) : Prop := w.heap[rb]? = some (.cells #[.slice (some ⟨wb, 0, none⟩) n.toNat n.toNat, .int .u64 1] 80 (0, 0))

def W8 (B : Nat) (n : Int) : Value → Nat → Nat → World → Prop := fun v _ _ w => ∃ wb rb, v = .pointer (some ⟨rb, 0, none⟩) ∧ WB n wb w ∧ RB n wb rb w ∧ B ≤ wb ∧ wb < rb

def W9 (B : Nat) (n : Int) : Value → Nat → Nat → World → Prop := fun v _ _ w => ∃ wb rb lb, v = .slice (some ⟨lb, 0, none⟩) 1 1 ∧ WB n wb w ∧ RB n wb rb w ∧ w.heap[lb]? = some (.cells #[.pointer (some ⟨rb, 0, none⟩)] 77 (0, 0)) ∧ B ≤ wb ∧ wb < rb ∧ rb < lb

def LB (rb lb : Nat) (w : World) : Prop := ∃ cur, w.heap[lb]? = some (.cells cur 77 (0, 0)) ∧ cur[0]? = some (.pointer (some ⟨rb, 0, none⟩))

def W10 (B : Nat) (n : Int) : Value → Nat → Nat → World → Prop := fun v _ _ w => ∃ wb rb lb cap, v = .slice (some ⟨lb, 0, none⟩) 1 cap ∧ WB n wb w ∧ RB n wb rb w ∧ LB rb lb w ∧ B ≤ wb ∧ wb < rb ∧ rb < lb

def W13 (B b : Nat) (n : Int) : Value → Nat → Nat → World → Prop := fun v _ _ w => v = undef ∧ ∃ wb rb lb cap, MemAt ⟨b, lb, rb, wb, cap⟩ ⟨zerosI n, 0⟩ w ∧ B ≤ wb ∧ B ≤ rb ∧ B ≤ lb

theorem WB.st {n : Int} {wb B : Nat} {S : Nat → Prop} (h : WB n wb w) (hk : KeptW B S w w') (hB : B ≤ wb) : WB n wb w' := (hk.2.2.2.2 wb (lt_of_block h) (by omega)).trans h

theorem RB.st {n : Int} {wb rb B : Nat} {S : Nat → Prop} (h : RB n wb rb w) (hk : KeptW B S w w') (hB : B ≤ rb) : RB n wb rb w' := (hk.2.2.2.2 rb (lt_of_block h) (by omega)).trans h

theorem LB.st {rb lb B : Nat} {S : Nat → Prop} (h : LB rb lb w) (hk : KeptW B S w w') (hB : B ≤ lb) : LB rb lb w' := by
  obtain ⟨cur, h1, h2⟩ := h
  exact ⟨cur, (hk.2.2.2.2 lb (lt_of_block h1) (by omega)).trans h1, h2⟩

theorem KeptW.of_below {B : Nat} {S : Nat → Prop} (h : Below w.heap.size w w') : KeptW B S w w' := ⟨h.os, h.tape, h.output, h.size, fun b hb _ => h.block b hb⟩

theorem W6.st (B : Nat) (n : Int) {S : Nat → Prop} : ∀ v lo hi w1 w2, W6 B n v lo hi w1 → KeptW B S w1 w2 → W6 B n v lo hi w2 := by
  rintro v lo hi w1 w2 ⟨wb, h1, h2, h3⟩ hk
  exact ⟨wb, h1, h2.st hk h3, h3⟩

theorem W7.st (B : Nat) (n : Int) {S : Nat → Prop} : ∀ v lo hi w1 w2, W7 B n v lo hi w1 → KeptW B S w1 w2 → W7 B n v lo hi w2 := by
  rintro v lo hi w1 w2 ⟨wb, h1, h2, h3⟩ hk
  exact ⟨wb, h1, h2.st hk h3, h3⟩

theorem W8.st (B : Nat) (n : Int) {S : Nat → Prop} : ∀ v lo hi w1 w2, W8 B n v lo hi w1 → KeptW B S w1 w2 → W8 B n v lo hi w2 := by
  rintro v lo hi w1 w2 ⟨wb, rb, h1, h2, h3, h4, h5⟩ hk
  exact ⟨wb, rb, h1, h2.st hk h4, h3.st hk (by omega), h4, h5⟩

theorem W9.st (B : Nat) (n : Int) {S : Nat → Prop} : ∀ v lo hi w1 w2, W9 B n v lo hi w1 → KeptW B S w1 w2 → W9 B n v lo hi w2 := by
  rintro v lo hi w1 w2 ⟨wb, rb, lb, h1, h2, h3, h4, h5, h6, h7⟩ hk
  exact ⟨wb, rb, lb, h1, h2.st hk h5, h3.st hk (by omega), (hk.2.2.2.2 lb (lt_of_block h4) (by omega)).trans h4, h5, h6, h7⟩

theorem W10.st (B : Nat) (n : Int) {S : Nat → Prop} : ∀ v lo hi w1 w2, W10 B n v lo hi w1 → KeptW B S w1 w2 → W10 B n v lo hi w2 := by
  rintro v lo hi w1 w2 ⟨wb, rb, lb, cap, h1, h2, h3, h4, h5, h6, h7⟩ hk
  exact ⟨wb, rb, lb, cap, h1, h2.st hk h5, h3.st hk (by omega), h4.st hk (by omega), h5, h6, h7⟩

theorem W13.st (B b : Nat) (n : Int) : ∀ v lo hi w1 w2, W13 B b n v lo hi w1 → KeptW B (fun _ => False) w1 w2 → W13 B b n v lo hi w2 := by
  rintro v lo hi w1 w2 ⟨h0, wb, rb, lb, cap, h1, h2, h3, h4⟩ hk
  exact ⟨h0, wb, rb, lb, cap, h1.st (fun c hc => hk.2.2.2.2 c (h1.lt c hc) (fun _ h => h)), h2, h3, h4⟩

section
variable {a : Act} {d : Option Tmp} {ty : TypeId} {pos : String} {aft : Array Edge} {N : Nat} {s : SL} (hfr : Fr a N s)
include hfr
theorem y_makeWords {x y : Operand} {t : TypeId} {n : Int} {R : Value → World → Prop} (hT : rowTy P t 33 1 = true) (hz : zeroOf P 33 = some (.int .u64 0)) (hb : (match P.info? 33 with | some i => i.bytes == 8 | none => false) = true)
    (hx : lookO s x = .int .i64 n) (hy : lookO s y = .int .i64 n) (h0 : 0 ≤ n) (h1 : n ≤ 16777216)
    (hr : ∀ wb w', New w w' wb (.cells ((zerosI n).flatMap u64).toArray 33 (0, 0)) → R (.slice (some ⟨wb, 0, none⟩) n.toNat n.toNat) w') : Yields P ⟨d, .makeSlice t x y, ty, pos, aft, none⟩ a w R := by
  obtain ⟨ht, i, z, hi, hiz, hsz, _, _, _⟩ := rowTy_at hT
  have hzz : z = .int .u64 0 := by
    unfold zeroOf at hz
    rw [hi] at hz
    simp only [hiz] at hz
    exact Option.some.inj hz
  subst hzz
  rw [hi] at hb
  have hb8 : i.bytes = 8 := by simpa using hb
  have hr1 := run_makeSlice (P := P) (w := w) t 33 i (.int .u64 0) ht hi hiz .i64 .i64 n n h0 (Int.le_refl _) (by rw [hsz]; omega) (by rw [hb8]; omega) (by omega)
  have hc : madeCells (Value.int .u64 0).cells (n.toNat * i.size) = ((zerosI n).flatMap u64).toArray := by
    rw [hsz, flat_u64, zerosI, List.map_replicate]
    apply Array.ext
    · simp [madeCells]
    · intro j h1 h2
      simp only [madeCells, Array.size_map, Array.size_range] at h1
      simp only [madeCells, Array.getElem_map, Array.getElem_range, List.getElem_toArray, List.getElem_replicate]
      have : j % (Value.int IntKind.u64 0).cells.size = 0 := by
        show j % 1 = 0
        omega
      rw [this]
      rfl
  rw [hc] at hr1
  refine .of_run (v := .slice (some ⟨w.heap.size, 0, none⟩) n.toNat n.toNat) (w' := w.alloc (.cells ((zerosI n).flatMap u64).toArray 33)) ?_ (hr _ _ (New.of_alloc _ _))
  simp only [execOp, hfr.ev hx, hfr.ev hy, Sem.run_bind, hr1, Result.andThen_ok, Sem.run_pure]

theorem y_appendNil {x y : Operand} {t e : TypeId} {lb : Nat} {u : Value} {R : Value → World → Prop} (hT : rowTy P t e 1 = true) (hx : lookO s x = .slice none 0 0) (hy : lookO s y = .slice (some ⟨lb, 0, none⟩) 1 1) (hl : w.heap[lb]? = some (.cells #[u] e (0, 0)))
    (hr : ∀ b cap cur w', New w w' b (.cells cur e (0, 0)) → cur[0]? = some u → R (.slice (some ⟨b, 0, none⟩) 1 cap) w') : Yields P ⟨d, .call ⟨.builtin .append, #[x, y], #[t, t]⟩, ty, pos, aft, none⟩ a w R := by
  obtain ⟨ht, i, z, hi, hiz, hsz, _, hby, _⟩ := rowTy_at hT
  have hq := run_append_nil (P := P) w t ty e i z ht hi hiz ⟨lb, 0, none⟩ 1 1 [u] (by simp [hsz]) (fun j v hv => by
    rw [Addr.add_lit]
    simp only [World.cell?, hl]
    simpa using hv) (by omega) (by omega) (by omega)
  have hcur : ([u].toArray ++ Builtin.zeroCells z.cells (grownCap w 1 0 e - 1))[0]? = some u := by
    rw [Array.getElem?_append_left (by simp)]
    rfl
  refine .of_run (v := .slice (some ⟨w.heap.size, 0, none⟩) 1 (grownCap w 1 0 e)) (w' := w.drew.alloc (.cells ([u].toArray ++ Builtin.zeroCells z.cells (grownCap w 1 0 e - 1)) e)) ?_ (hr _ _ _ _ ⟨rfl, heap_alloc_new w.drew _, ⟨rfl, rfl, rfl, by simp, fun k hk => (heap_alloc_old (r := k) w.drew _ (by simpa using hk) : _)⟩, Array.size_push _⟩ hcur)
  have e2 : (#[x, y] : Array Operand).map a.eval = #[.slice none 0 0, .slice (some ⟨lb, 0, none⟩) 1 1] := hfr.evs (xs := [x, y]) (vs := [_, _]) (lc2 hx hy)
  simp only [execOp, resolve, e2, Sem.run_bind, Sem.run_pure, Result.andThen_ok, invoke, builtin, hq]

end
/-- The memory that was made is a chunk. -/
theorem Post.made {b : Nat} {n : Int} {cs : Array Value} {T : TypeId} {v : Value} {lo hi i : Nat} (h : Post Z L w0 w) (hi' : L[i]? = some (cellC b cs T)) (hk : Chg (fun k => k ∈ [b]) w w') (hm : W13 w.heap.size b n v lo hi w') : ∃ g : MG, g.mb = b ∧ Post Z (L.set i (memK g ⟨zerosI n, 0⟩)) w0 w' := by
  obtain ⟨_, wb, rb, lb, cap, h1, h2, h3, h4⟩ := hm
  refine ⟨⟨b, lb, rb, wb, cap⟩, rfl, ?_⟩
  have := h.set (N := []) hi' (c' := memK ⟨b, lb, rb, wb, cap⟩ ⟨zerosI n, 0⟩) ⟨⟨sep_mem h1, hk, fun c hc b' hb' => ?_⟩, fun c hc b' hb' => by rcases List.mem_singleton.1 hc with rfl; cases hb'⟩
  · rwa [List.append_nil] at this
  · rcases List.mem_singleton.1 hc with rfl
    simp only [memK, MG.bs, List.mem_cons, List.not_mem_nil, or_false] at hb'
    rcases hb' with rfl | rfl | rfl | rfl
    · exact .inl (List.mem_singleton.2 rfl)
    · exact .inr h4
    · exact .inr h3
    · exact .inr h2

end
end Go.Proofs.Ytbbipmelhmgmfaa

/-! ### An effect that hands on a program -/
namespace Go.Proofs.Ytbbipmelhmgmfaa
open Go.RowKit
section
variable {R : Type} {P : Program} {E : Enc R} {w w' w0 : World} {L : List Ck} {Z : Nat → Prop} {i k : Nat} {c c' e : Ck}
/-- What a call that changes a chunk, and hands on a program, comes to. -/
def EffR (P : Program) (E : Enc R) (B : Nat) (Y : List Nat) (c' : Ck) (x : Nat × T R) (u : Value) : Value → Nat → Nat → World → Prop :=
  fun v lo hi w => ∃ (y : Value) (F : List Nat), v = .tuple #[y, u] ∧ c'.ok w ∧ (∀ b, c'.has b → b < B) ∧ (∀ b, b ∈ Y → b < B) ∧ Rep P E x.1 x.2 (fun b => b ∈ F) w y ∧ ∀ b, b ∈ F → b ∉ c'.own ∧ (b ∈ Y ∨ (lo ≤ b ∧ b < hi))

theorem EffR.st {B : Nat} {Y : List Nat} {x : Nat × T R} {u : Value} : ∀ v lo hi w1 w2, EffR P E B Y c' x u v lo hi w1 → Kept B (fun _ => False) lo hi w1 w2 → EffR P E B Y c' x u v lo hi w2 := by
  rintro v lo hi w1 w2 ⟨y, F, hv, hc, hb, hY, hr, hF⟩ ⟨_, _, _, hz, hk⟩
  refine ⟨y, F, hv, c'.st _ _ (fun b h => hk b (.inl ⟨hb b h, fun h => h⟩)) hz hc, hb, hY, Rep.mono (fun _ h => h) (fun b hb' => ?_) hz _ _ _ hr, hF⟩
  rcases (hF b hb').2 with h | h
  · exact hk b (.inl ⟨hY b h, fun h => h⟩)
  · exact hk b (.inr h)

theorem EffR.of {B : Nat} {Y : List Nat} {x : Nat × T R} {u y : Value} {F : List Nat} (h : Done (fun b => b ∈ c.own) (fun b => b ∈ Y) [c', progK P E x y F] w w') (hlt : ∀ b, c'.has b → b < B) (hY : ∀ b, b ∈ Y → b < B) :
    EffR P E B Y c' x u (.tuple #[y, u]) w.heap.size w'.heap.size w' := by
  have hm : progK P E x y F ∈ [c', progK P E x y F] := List.mem_cons_of_mem _ (List.mem_singleton.2 rfl)
  refine ⟨y, F, rfl, h.sep.1, hlt, hY, h.sep.2.2.2.1, fun b hb => ⟨fun hc => (h.sep.2.2.1 _ (List.mem_singleton.2 rfl)).1 b hc (.inr hb), ?_⟩⟩
  rcases h.rest _ hm b hb with h1 | h1
  · exact .inl h1
  · exact .inr ⟨h1, (h.sep.ok _ hm).2 b (.inr hb)⟩

theorem Post.effR {l : List (List Ck × Nat × Nat)} {x : Nat × T R} {y : Value} {F : List Nat} {lo hi : Nat} (h : Post Z L w0 w) (hi' : L[i]? = some c) (hke : L[k]? = some e) (hoe : e.own = []) (hk : Chg (fun b => b ∈ c.own) w w') (hc : c'.ok w') (ho : c'.own = c.own) (hr : c'.ro = c.ro) (hr0 : c'.ro = [])
    (hrep : Rep P E x.1 x.2 (fun b => b ∈ F) w' y) (hF : ∀ b, b ∈ F → b ∉ c'.own ∧ (b ∈ e.ro ∨ (lo ≤ b ∧ b < hi))) (hlo : w.heap.size ≤ lo) (hhi : hi ≤ w'.heap.size) (hf : FreshL w.heap.size w' l) (hd : ∀ p, p ∈ l → hi ≤ p.2.1 ∨ p.2.2 ≤ lo) :
    Post Z (L.set i c' ++ (progK P E x y F :: l.flatMap fun q => q.1)) w0 w' := by
  have hn : ∀ d, d ∈ (l.flatMap fun q => q.1) → ∀ b, d.has b → w.heap.size ≤ b ∧ (hi ≤ b ∨ b < lo) := fun d hdm b hb => by
    obtain ⟨p, hp, hdp⟩ := List.mem_flatMap.1 hdm
    have h2 := hf.at_ p hp
    have := h2.1.2 d hdp b hb
    have := hd p hp
    omega
  have hlt : ∀ b, c'.has b → b < w.heap.size := fun b hb => h.sep.lt hi' (by rcases hb with hb | hb; exact .inl (ho ▸ hb); exact .inr (hr ▸ hb))
  have hFl : ∀ b, b ∈ F → b < w'.heap.size := fun b hb => by
    rcases (hF b hb).2 with h1 | h1
    · exact Nat.lt_of_lt_of_le (h.sep.lt hke (.inr h1)) hk.size
    · omega
  refine h.setR hi' hke hoe ⟨⟨⟨hc, fun b hb => Nat.lt_of_lt_of_le (hlt b hb) hk.size, fun d hdm => ?_, hrep, fun b hb => ?_, fun d hdm => ⟨fun b hb => (by cases hb), fun b hb hb' => ?_⟩, hf.sep⟩, hk, fun d hdm b hb => ?_⟩, fun d hdm b hb => ?_⟩
  · rcases List.mem_cons.1 hdm with rfl | hdm
    · exact ⟨fun b hb hb' => by rcases hb' with hb' | hb'; (cases hb'); (exact (hF b hb').1 hb), fun b hb => by cases hb⟩
    · exact ⟨fun b hb hb' => by have := hlt b (.inl hb); have := hn d hdm b hb'; omega, fun b hb hb' => by have := hlt b hb'; have := hn d hdm b (.inl hb); omega⟩
  · rcases hb with hb | hb
    · cases hb
    · exact hFl b hb
  · rcases hb' with hb' | hb'
    · cases hb'
    · have h1 := hn d hdm b (.inl hb)
      rcases (hF b hb').2 with h2 | h2
      · have := h.sep.lt hke (.inr h2); omega
      · omega
  · rcases List.mem_cons.1 hdm with rfl | hdm
    · exact .inl (ho ▸ hb)
    rcases List.mem_cons.1 hdm with rfl | hdm
    · cases hb
    · exact .inr (hn d hdm b (.inl hb)).1
  · rcases List.mem_cons.1 hdm with rfl | hdm
    · rw [hr0] at hb; cases hb
    rcases List.mem_cons.1 hdm with rfl | hdm
    · rcases (hF b hb).2 with h2 | h2
      · exact .inl h2
      · exact .inr (by omega)
    · exact .inr (hn d hdm b (.inr hb)).1

theorem tup_eq {a b u u' : Value} (h : Value.tuple #[a, u] = .tuple #[b, u']) : a = b := by
  simp only [Value.tuple.injEq, Array.mk.injEq, List.cons.injEq] at h
  exact h.1

end
end Go.Proofs.Ytbbipmelhmgmfaa

/-! ### Appending to a literal of nothing, in a region that draws -/
namespace Go.Proofs.Ytbbipmelhmgmfaa
open Go.RowKit
section
variable {α : Type} {P : Program} {T : TypeId} {sz : Nat} {f : α → List Value} {w w' : World} {ys zs : List α}
end
section
variable {α : Type} {P : Program} {T : TypeId} {sz : Nat} {f : α → List Value} {w : World} {ys : List α} {a : Act} {d : Option Tmp} {ty : TypeId} {pos : String} {aft : Array Edge} {N : Nat} {s : SL} (hfr : Fr a N s)
include hfr
end
end Go.Proofs.Ytbbipmelhmgmfaa
