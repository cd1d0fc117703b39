/- Some of our texts, one behind the other. -/
import Derived.Test.YtjkinpbfmihhdaaGreatCrM11
import Derived.Test.YtjkinpbfmihhdaaGreatCrM0
set_option linter.all false
/- Written by a program of ours (wip/gen.py): handles -/
set_option linter.unusedVariables false
set_option maxRecDepth 20000
set_option maxHeartbeats 2000000
namespace Go.Proofs.YtjkinpbfmihhdaaGreat
open Go.RowKit
theorem cl226 : callable Tryz.prog 226 = true := by kernel_rfl

theorem ta63 : tyA Tryz.prog 63 3 = true := by kernel_rfl

theorem ts63 : sized Tryz.prog 63 3 = true := by kernel_rfl

theorem tz63 : zeroOf Tryz.prog 63 = some (.agg (handleC (⟨0, 0, 0⟩ : Handle)).toArray) := by kernel_rfl

def D.zz07 (a0 : Int) (a1 : Int) (a2 : Int) : Handle × Bool := (bif (!((D.zz13 a0).2)) then ((⟨0, 0, 0⟩ : Handle), false) else (bif ((((D.zz13 a0).1).tenant) != a1) then ((⟨0, 0, 0⟩ : Handle), false) else (bif (decide ((((D.zz13 a0).1).index) ≥ a2)) then ((⟨0, 0, 0⟩ : Handle), false) else ((D.zz13 a0).1, true))))

theorem c_handle_Mine (w0 : World) 
    (a0 : Int) (a1 : Int) (a2 : Int) :
    Calls Tryz.prog 127 #[.int .u64 a0, .int .i64 a1, .int .i64 a2] w0 (PureRes (.tuple #[(.agg (handleC (D.zz07 a0 a1 a2).1).toArray), (.bool (D.zz07 a0 a1 a2).2)]) w0) := by
 refine enter Tryz.func127 rfl 31 rfl rfl fun fr r => ?_
 have hB := Below.refl w0.heap.size w0
 refine wsr ?_
 refine seq_new (.cells ((handleC (⟨0, 0, 0⟩ : Handle))).toArray 63 (0, 0)) r (fun R => y_alloc tz63) rfl fun fr b1 w2 n3 r => ?_
 obtain ⟨e_b1, z_w2, h_b1, hB, zB⟩ := n3.all hB
 refine seq_val (.bool false) r (fun R => zz04 r rfl) rfl fun fr r => ?_
 refine wn ?_
 refine wsr ?_
 refine seq_val (U a0) r (fun R => y_move r rfl) rfl fun fr r => ?_
 refine zz06 r (c_handle_Of w2 a0) (fun R hc => y_call r rfl cl226 hc) rfl ?_
 rintro _ w4 ⟨rfl, hb⟩
 refine ⟨_, rfl, fun fr r => ?_⟩
 have z_w4 := hb.size
 have h_b1 := keep hb h_b1
 obtain ⟨hB, zB⟩ := bon hb hB
 refine seq_val (.tuple #[(.agg (handleC (D.zz13 a0).1).toArray), (.bool (D.zz13 a0).2)]) r (fun R => y_move r rfl) rfl fun fr r => ?_
 refine seq_val (.agg (handleC (D.zz13 a0).1).toArray) r (fun R => zz0t r (vs := #[(.agg (handleC (D.zz13 a0).1).toArray), (.bool (D.zz13 a0).2)]) rfl rfl) rfl fun fr r => ?_
 refine seq_val (.bool (D.zz13 a0).2) r (fun R => zz0t r (vs := #[(.agg (handleC (D.zz13 a0).1).toArray), (.bool (D.zz13 a0).2)]) rfl rfl) rfl fun fr r => ?_
 refine seq_new (.cells ((handleC (⟨0, 0, 0⟩ : Handle))).toArray 63 (0, 0)) r (fun R => y_alloc tz63) rfl fun fr b5 w6 n7 r => ?_
 have h_b1 := keep n7.below h_b1
 obtain ⟨e_b5, z_w6, h_b5, hB, zB⟩ := n7.all hB
 refine seq_upd (.cells ((handleC ((D.zz13 a0).1))).toArray 63 (0, 0)) r (fun R => y_store r (o := 0) (v := (.agg (handleC (D.zz13 a0).1).toArray)) rfl rfl h_b5 ts63 (Nat.le_of_ble_eq_true rfl) rfl rfl) rfl fun fr w8 u9 r => ?_
 have z_w8 := u9.size
 have h_b1 := u9.keep h_b1 (by omega)
 have h_b5 := u9.at_
 obtain ⟨hB, zB⟩ := u9.on hB (by omega)
 refine seq_val (.bool (D.zz13 a0).2) r (fun R => zz04 r rfl) rfl fun fr r => ?_
 refine wn ?_
 refine wp_seq ?_
 refine wsr ?_
 refine seq_val (.bool (D.zz13 a0).2) r (fun R => y_move r rfl) rfl fun fr r => ?_
 refine seq_val (.bool (!((D.zz13 a0).2))) r (fun R => y_un r (u := (.bool (D.zz13 a0).2)) rfl rfl) rfl fun fr r => ?_
 refine seq_val (.bool (!((D.zz13 a0).2))) r (fun R => y_move r rfl) rfl fun fr r => ?_
 refine zz0r (!((D.zz13 a0).2)) (fun h10 => ?_) (fun h10 => ?_)
 ·
  refine s0 r h10 fun fr r => ?_
  refine s0 r h10 fun fr r => ?_
  refine s0 r h10 fun fr r => ?_
  refine s0 r h10 fun fr r => ?_
  refine seq_val (.bool true) r (fun R => y_pick r (b := true) (congrArg Value.bool h10) rfl) rfl fun fr r => ?_
  refine seq_val (.bool true) r (fun R => y_move r rfl) rfl fun fr r => ?_
  refine s0 r (rfl : true = _) fun fr r => ?_
  refine s0 r (rfl : true = _) fun fr r => ?_
  refine s0 r (rfl : true = _) fun fr r => ?_
  refine s0 r (rfl : true = _) fun fr r => ?_
  refine seq_val (.bool true) r (fun R => y_pick r (b := true) (congrArg Value.bool (rfl : true = _)) rfl) rfl fun fr r => ?_
  refine wn ?_
  refine wp_cond_split (t := true) (r.ev rfl) (fun _ => ?_) (fun h => absurd ((rfl : true = _).symm.trans h) (by decide))
  refine wsr ?_
  refine seq_val (.agg (handleC (⟨0, 0, 0⟩ : Handle)).toArray) r (fun R => y_build r (by kernel_rfl)) rfl fun fr r => ?_
  refine seq_upd (.cells ((handleC (⟨0, 0, 0⟩ : Handle))).toArray 63 (0, 0)) r (fun R => y_store r (o := 0) (v := (.agg (handleC (⟨0, 0, 0⟩ : Handle)).toArray)) rfl rfl h_b1 ts63 (Nat.le_of_ble_eq_true rfl) rfl rfl) rfl fun fr w11 u12 r => ?_
  have z_w11 := u12.size
  have h_b5 := u12.keep h_b5 (by omega)
  have h_b1 := u12.at_
  obtain ⟨hB, zB⟩ := u12.on hB (by omega)
  refine seq_val (.bool false) r (fun R => zz04 r rfl) rfl fun fr r => ?_
  refine wn ?_
  refine wp_ret ?_
  have hd : D.zz07 a0 a1 a2 = ((⟨0, 0, 0⟩ : Handle), false) := (cond_t h10).trans (rfl)
  refine zz21 r rfl rfl (v' := (.bool false)) rfl h_b1 (k := 3) rfl ta63 ?_
  rw [hd]
  exact ⟨rfl, hB⟩
 ·
  refine s1 r h10 ?_
  refine seq_val _ r (fun R => zz02 r (o := 0) rfl fo63_2) rfl fun fr r => ?_
  refine s1 r h10 ?_
  refine seq_val (I ((D.zz13 a0).1).tenant) r (fun R => zz01 r rfl h_b5 to3 rfl) rfl fun fr r => ?_
  refine s1 r h10 ?_
  refine seq_val (I a1) r (fun R => y_move r rfl) rfl fun fr r => ?_
  refine s1 r h10 ?_
  refine seq_val _ r (fun R => y_bin r rfl rfl rfl rfl) rfl fun fr r => ?_
  refine seq_val (.bool ((((D.zz13 a0).1).tenant) != a1)) r (fun R => y_pick r (b := false) (congrArg Value.bool h10) rfl) rfl fun fr r => ?_
  refine seq_val (.bool ((((D.zz13 a0).1).tenant) != a1)) r (fun R => y_move r rfl) rfl fun fr r => ?_
  refine zz0r ((((D.zz13 a0).1).tenant) != a1) (fun h13 => ?_) (fun h13 => ?_)
  ·
   refine s0 r h13 fun fr r => ?_
   refine s0 r h13 fun fr r => ?_
   refine s0 r h13 fun fr r => ?_
   refine s0 r h13 fun fr r => ?_
   refine seq_val (.bool true) r (fun R => y_pick r (b := true) (congrArg Value.bool h13) rfl) rfl fun fr r => ?_
   refine wn ?_
   refine wp_cond_split (t := true) (r.ev rfl) (fun _ => ?_) (fun h => absurd ((rfl : true = _).symm.trans h) (by decide))
   refine wsr ?_
   refine seq_val (.agg (handleC (⟨0, 0, 0⟩ : Handle)).toArray) r (fun R => y_build r (by kernel_rfl)) rfl fun fr r => ?_
   refine seq_upd (.cells ((handleC (⟨0, 0, 0⟩ : Handle))).toArray 63 (0, 0)) r (fun R => y_store r (o := 0) (v := (.agg (handleC (⟨0, 0, 0⟩ : Handle)).toArray)) rfl rfl h_b1 ts63 (Nat.le_of_ble_eq_true rfl) rfl rfl) rfl fun fr w14 u15 r => ?_
   have z_w14 := u15.size
   have h_b5 := u15.keep h_b5 (by omega)
   have h_b1 := u15.at_
   obtain ⟨hB, zB⟩ := u15.on hB (by omega)
   refine seq_val (.bool false) r (fun R => zz04 r rfl) rfl fun fr r => ?_
   refine wn ?_
   refine wp_ret ?_
   have hd : D.zz07 a0 a1 a2 = ((⟨0, 0, 0⟩ : Handle), false) := (cond_f h10).trans ((cond_t h13).trans (rfl))
   refine zz21 r rfl rfl (v' := (.bool false)) rfl h_b1 (k := 3) rfl ta63 ?_
   rw [hd]
   exact ⟨rfl, hB⟩
  ·
   refine s1 r h13 ?_
   refine seq_val _ r (fun R => zz02 r (o := 0) rfl fo63_0) rfl fun fr r => ?_
   refine s1 r h13 ?_
   refine seq_val (I ((D.zz13 a0).1).index) r (fun R => zz01 r rfl h_b5 to3 rfl) rfl fun fr r => ?_
   refine s1 r h13 ?_
   refine seq_val (I a2) r (fun R => y_move r rfl) rfl fun fr r => ?_
   refine s1 r h13 ?_
   refine seq_val _ r (fun R => y_bin r rfl rfl rfl rfl) rfl fun fr r => ?_
   refine seq_val (.bool (decide ((((D.zz13 a0).1).index) ≥ a2))) r (fun R => y_pick r (b := false) (congrArg Value.bool h13) rfl) rfl fun fr r => ?_
   refine wn ?_
   refine wp_cond_split (t := (decide ((((D.zz13 a0).1).index) ≥ a2))) (r.ev rfl) (fun h16 => ?_) (fun h16 => ?_)
   ·
    refine wsr ?_
    refine seq_val (.agg (handleC (⟨0, 0, 0⟩ : Handle)).toArray) r (fun R => y_build r (by kernel_rfl)) rfl fun fr r => ?_
    refine seq_upd (.cells ((handleC (⟨0, 0, 0⟩ : Handle))).toArray 63 (0, 0)) r (fun R => y_store r (o := 0) (v := (.agg (handleC (⟨0, 0, 0⟩ : Handle)).toArray)) rfl rfl h_b1 ts63 (Nat.le_of_ble_eq_true rfl) rfl rfl) rfl fun fr w17 u18 r => ?_
    have z_w17 := u18.size
    have h_b5 := u18.keep h_b5 (by omega)
    have h_b1 := u18.at_
    obtain ⟨hB, zB⟩ := u18.on hB (by omega)
    refine seq_val (.bool false) r (fun R => zz04 r rfl) rfl fun fr r => ?_
    refine wn ?_
    refine wp_ret ?_
    have hd : D.zz07 a0 a1 a2 = ((⟨0, 0, 0⟩ : Handle), false) := (cond_f h10).trans ((cond_f h13).trans ((cond_t h16).trans (rfl)))
    refine zz21 r rfl rfl (v' := (.bool false)) rfl h_b1 (k := 3) rfl ta63 ?_
    rw [hd]
    exact ⟨rfl, hB⟩
   ·
    refine wp_skip ?_
    refine wsr ?_
    refine seq_val (.agg (handleC (D.zz13 a0).1).toArray) r (fun R => zz03 r (cs := (handleC ((D.zz13 a0).1))) (n := 3) rfl h_b5 ta63 rfl) rfl fun fr r => ?_
    refine seq_upd (.cells ((handleC ((D.zz13 a0).1))).toArray 63 (0, 0)) r (fun R => y_store r (o := 0) (v := (.agg (handleC (D.zz13 a0).1).toArray)) rfl rfl h_b1 ts63 (Nat.le_of_ble_eq_true rfl) rfl rfl) rfl fun fr w19 u20 r => ?_
    have z_w19 := u20.size
    have h_b5 := u20.keep h_b5 (by omega)
    have h_b1 := u20.at_
    obtain ⟨hB, zB⟩ := u20.on hB (by omega)
    refine seq_val (.bool true) r (fun R => zz04 r rfl) rfl fun fr r => ?_
    refine wn ?_
    refine wp_ret ?_
    have hd : D.zz07 a0 a1 a2 = ((D.zz13 a0).1, true) := (cond_f h10).trans ((cond_f h13).trans ((cond_f h16).trans (rfl)))
    refine zz21 r rfl rfl (v' := (.bool true)) rfl h_b1 (k := 3) rfl ta63 ?_
    rw [hd]
    exact ⟨rfl, hB⟩

end Go.Proofs.YtjkinpbfmihhdaaGreat

/- Functions into trees that take a function into trees. -/
namespace Go.Proofs.YtjkinpbfmihhdaaGreat
open Go.RowKit

/-- A function value takes a number and a function of words, and stands for a function into trees, at all levels. -/
def FnHAt {R : Type} (P : Program) (E : Enc R) (F : Nat → Prop) (w : World) (f : FuncId) (first cap : List Value) (d : Int → (Int → T R) → T R) : Prop :=
  ∀ (m : Nat) (x : Int) {nf : FuncId} {n1 n2 : List Value} {g : Int → T R} (F' : Nat → Prop) (w' : World), (∀ b, F b → F' b) → Same F w w' → w.heap.size ≤ w'.heap.size → (∀ b, F' b → b < w'.heap.size) →
    FnT P E u64 m F' w' (.func (.func nf) n1.toArray n2.toArray) g → Calls P f (first ++ [Value.int .i64 x, Value.func (.func nf) n1.toArray n2.toArray] ++ cap).toArray w' (RepRes P E m (d x g) F' w')

def FnH {R : Type} (P : Program) (E : Enc R) (F : Nat → Prop) (w : World) (fv : Value) (d : Int → (Int → T R) → T R) : Prop :=
  ∃ (f : FuncId) (first cap : List Value), callable P f = true ∧ fv = .func (.func f) first.toArray cap.toArray ∧ FnHAt P E F w f first cap d

section
variable {R : Type} {P : Program} {E : Enc R}
theorem FnH.mono {F F' : Nat → Prop} {w w' : World} {fv : Value} {d : Int → (Int → T R) → T R} (h : FnH P E F w fv d)
    (hs : ∀ b, F b → F' b) (h1 : Same F w w') (h2 : w.heap.size ≤ w'.heap.size) : FnH P E F' w' fv d := by
  obtain ⟨f, first, cap, hc, hv, h⟩ := h
  exact ⟨f, first, cap, hc, hv, fun m x nf n1 n2 g F1 w1 k1 k2 k3 k4 k5 => h m x F1 w1 (fun b hb => k1 b (hs b hb)) (h1.trans (k2.sub hs)) (by omega) k4 k5⟩

theorem FnH.at_ {F : Nat → Prop} {w : World} {f : FuncId} {first cap : List Value} {d : Int → (Int → T R) → T R} (h : FnH P E F w (.func (.func f) first.toArray cap.toArray) d) :
    callable P f = true ∧ FnHAt P E F w f first cap d := by
  obtain ⟨f', first', cap', hc, he, hf⟩ := h
  simp only [Value.func.injEq, Fn.func.injEq] at he
  obtain ⟨e1, e2, e3⟩ := he
  have e2' : first = first' := by simpa using congrArg Array.toList e2
  have e3' : cap = cap' := by simpa using congrArg Array.toList e3
  subst e1; subst e2'; subst e3'
  exact ⟨hc, hf⟩

theorem y_callv2 {a : Act} {w : World} {d : Option Tmp} {ty : TypeId} {pos : String} {aft : Array Edge} {N : Nat} {s : SL} (hfr : Fr a N s)
    {x x1 x2 : Operand} {f : FuncId} {fs cs : List Value} {ts : Array TypeId} {v1 v2 : Value} {R : Value → World → Prop} (hx0 : lookO s x = .func (.func f) fs.toArray cs.toArray) (hx1 : lookO s x1 = v1) (hx2 : lookO s x2 = v2)
    (hf : callable P f = true) (hc : Calls P f (fs ++ [v1, v2] ++ cs).toArray w fun e w' => ∃ v, e = .returned v ∧ R v w') : Yields P ⟨d, .call ⟨.value x, #[x1, x2], ts⟩, ty, pos, aft, none⟩ a w R :=
  y_callv hfr (xs := [x1, x2]) hx0 (by rw [List.map_cons, List.map_cons, List.map_nil, hx1, hx2]) hf hc

end
end Go.Proofs.YtjkinpbfmihhdaaGreat
