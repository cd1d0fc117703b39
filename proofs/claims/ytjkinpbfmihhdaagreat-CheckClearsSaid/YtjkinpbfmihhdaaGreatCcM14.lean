/- Some of our texts, one behind the other. -/
import Derived.Test.YtjkinpbfmihhdaaGreatCcM4
import Derived.Test.YtjkinpbfmihhdaaGreatCcChecks
import Derived.Test.YtjkinpbfmihhdaaGreatCcM11
import Derived.Test.YtjkinpbfmihhdaaGreatCcM12
import Derived.Test.YtjkinpbfmihhdaaGreatCcM10
set_option linter.all false
/- A region that draws its order, with stores into two cells of ours beside values. -/
namespace Go.Proofs.YtjkinpbfmihhdaaGreat
open Go.RowKit

/-- What an operation comes to: a value, or a store into the k-th of some old blocks. -/
inductive FP where
  | val (c : Value)
  | put (k : Nat) (c : Array Value) (T : TypeId)

def FP.v : FP → Value
  | .val c => c
  | .put _ _ _ => undef

def FP.slot : FP → Option Nat
  | .put k _ _ => some k
  | .val _ => none

def FP.mk (bs : List Nat) (w' w'' : World) : FP → Prop
  | .val _ => Below w'.heap.size w' w''
  | .put k c T => ∃ b, bs[k]? = some b ∧ Upd w' w'' b (.cells c T (0, 0))

def fct : List FP → Nat → FP
  | [], _ => .val undef
  | f :: _, 0 => f
  | _ :: l, n + 1 => fct l n

section
variable {P : Program} {Q : Exit → Act → World → Prop} {L : List Oper} {a : Act} {w : World} {fl : List FP} {bs : List Nat}
structure PInv (L : List Oper) (fl : List FP) (bs : List Nat) (a : Act) (w0 : World) (listed : Array Bool) (g : Nat → Value) (a' : Act) (w' : World) : Prop where
  act : a' = puts L g 0 a
  closed : ∀ i o, L[i]? = some o → listed.getD i false = true → ∀ e, e ∈ o.after → Region.binds .any e = true → listed.getD e.on false = true
  os : w'.os = w0.os
  tape : w'.tape = w0.tape
  output : w'.output = w0.output
  size : w0.heap.size ≤ w'.heap.size
  old : ∀ b, b < w0.heap.size → b ∉ bs → w'.heap[b]? = w0.heap[b]?
  vals : ∀ i, i < L.length → listed.getD i false = true → g i = (fct fl i).v
  un : ∀ k b, bs[k]? = some b → (∀ i, i < L.length → listed.getD i false = true → (fct fl i).slot ≠ some k) → w'.heap[b]? = w0.heap[b]?
  done : ∀ i k c T b, i < L.length → listed.getD i false = true → fct fl i = .put k c T → bs[k]? = some b → w'.heap[b]? = some (.cells c T (0, 0))

variable {N : Nat} {s : SL}
end
/-! ### Chunks -/
section
variable {L : List Ck} {d : Ck} {w w' w0 : World} {i i1 i2 b1 b2 : Nat} {a1 a2 c1 c2 : Array Value} {T1 T2 S1 S2 : TypeId} {Z : Nat → Prop}
end
end Go.Proofs.YtjkinpbfmihhdaaGreat

/- Written by a program of ours (wip/gen.py): layer 13 -/
set_option linter.unusedVariables false
set_option maxRecDepth 20000
set_option maxHeartbeats 2000000
namespace Go.Proofs.YtjkinpbfmihhdaaGreat
open Go.RowKit
theorem cl29 : callable Tryz.prog 29 = true := by kernel_rfl

theorem cl30 : callable Tryz.prog 30 = true := by kernel_rfl

theorem cl32 : callable Tryz.prog 32 = true := by kernel_rfl

theorem cl33 : callable Tryz.prog 33 = true := by kernel_rfl

theorem cl34 : callable Tryz.prog 34 = true := by kernel_rfl

theorem cl36 : callable Tryz.prog 36 = true := by kernel_rfl

theorem cl40 : callable Tryz.prog 40 = true := by kernel_rfl

theorem fo32_0 : fieldOff Tryz.prog 32 0 0 = true := by kernel_rfl

theorem fo32_1 : fieldOff Tryz.prog 32 1 1 = true := by kernel_rfl

theorem fo61_0 : fieldOff Tryz.prog 61 0 0 = true := by kernel_rfl

theorem fo61_2 : fieldOff Tryz.prog 61 2 2 = true := by kernel_rfl

theorem fo61_3 : fieldOff Tryz.prog 61 3 3 = true := by kernel_rfl

theorem fo61_4 : fieldOff Tryz.prog 61 4 4 = true := by kernel_rfl

theorem fo61_5 : fieldOff Tryz.prog 61 5 5 = true := by kernel_rfl

def D.zz1e  : Plan := (⟨2, 1, 4, 0, 1, 1⟩ : Plan)

theorem zz5z (w0 : World) 
     :
    Calls Tryz.prog 40 #[] w0 (PureRes (.agg (planC D.zz1e).toArray) w0) := by
 refine enter Tryz.func40 rfl 2 rfl rfl fun fr r => ?_
 have hB := Below.refl w0.heap.size w0
 refine wsr ?_
 refine seq_new (.cells ((planC (⟨0, 0, 0, 0, 0, 0⟩ : Plan))).toArray 25 (0, 0)) r (fun R => y_alloc tz25) rfl fun fr b1 w2 n3 r => ?_
 obtain ⟨e_b1, z_w2, h_b1, hB, zB⟩ := n3.all hB
 refine wn ?_
 refine wsr ?_
 refine seq_val (.agg (planC (⟨2, 1, 4, 0, 1, 1⟩ : Plan)).toArray) r (fun R => y_build r (by kernel_rfl)) rfl fun fr r => ?_
 refine seq_upd (.cells ((planC (⟨2, 1, 4, 0, 1, 1⟩ : Plan))).toArray 25 (0, 0)) r (fun R => y_store r (o := 0) (v := (.agg (planC (⟨2, 1, 4, 0, 1, 1⟩ : Plan)).toArray)) rfl rfl h_b1 ts25 (Nat.le_of_ble_eq_true rfl) rfl rfl) rfl fun fr w4 u5 r => ?_
 have z_w4 := u5.size
 have h_b1 := u5.at_
 obtain ⟨hB, zB⟩ := u5.on hB (by omega)
 refine wn ?_
 refine wp_ret ?_
 refine zz0b r rfl rfl h_b1 (k := 6) rfl ta25 ?_
 exact ⟨rfl, hB⟩

def D.zz2y (fu : Nat)  : Option (Bool) := ((D.zz2r fu D.zz1e).bind (fun (x2 : Mem) => ((D.zz3s fu x2 0).bind (fun (x11 : Cap) => ((D.zz5w fu (fu, (D.zz36 (fu + 1) (⟨D.zz1e, 0, 0⟩ : Seat))) x2 x11 99).bind (fun (x13 : Res × Int × Bool × Mem) => (Option.bind (bif x13.2.2.1 then (bif (x13.1.e == 0) then (some (decide (x13.1.v > 0))) else (some false)) else (some false)) (fun (x24 : Bool) => (some x24)))))))))

theorem zz5q {fu : Nat} (w0 : World) {res : Bool} (hD : D.zz2y fu  = some res) :
    Calls Tryz.prog 27 #[] w0 (PureRes (.bool res) w0) := by
 refine enter Tryz.func27 rfl 31 rfl rfl fun fr r => ?_
 have hP : Post No [] w0 w0 := Post.nil w0
 unfold D.zz2y at hD
 refine wsr ?_
 refine seq_val (.bool false) r (fun R => zz03 r rfl) rfl fun fr r => ?_
 refine wn ?_
 refine wsr ?_
 refine zz06 r (zz5z w0 ) (fun R hc => y_call r rfl cl40 hc) rfl ?_
 rintro _ w1 ⟨rfl, hb⟩
 refine ⟨_, rfl, fun fr r => ?_⟩
 have hP : Post No [] w0 w1 := hP.below hb
 obtain ⟨x2, hx2, hD⟩ := zz0k hD
 refine zz06 r (zz66 w1 D.zz1e hx2) (fun R hc => y_call r rfl cl28 hc) rfl ?_
 rintro _ w3 ⟨mg4, rfl, hq⟩
 refine ⟨_, rfl, fun fr r => ?_⟩
 have hP : Post No [memK mg4 x2] w0 w3 := hP.add hq
 refine seq_val (.pointer (some ⟨mg4.mb, 0, none⟩)) r (fun R => zz03 r rfl) rfl fun fr r => ?_
 refine wn ?_
 refine wp_seq ?_
 refine wsr ?_
 refine seq_val (.pointer (some ⟨mg4.mb, 0, none⟩)) r (fun R => y_move r rfl) rfl fun fr r => ?_
 refine seq_val _ r (fun R => y_bin r rfl rfl rfl rfl) rfl fun fr r => ?_
 refine wn ?_
 refine wp_cond_split (t := false) (r.ev rfl) (fun h => absurd ((rfl : false = _).symm.trans h) (by decide)) (fun _ => ?_)
 refine wp_skip ?_
 refine wsr ?_
 refine zz06 r (zz5z w3 ) (fun R hc => y_call r rfl cl40 hc) rfl ?_
 rintro _ w6 ⟨rfl, hb⟩
 refine ⟨_, rfl, fun fr r => ?_⟩
 have hP : Post No [memK mg4 x2] w0 w6 := hP.below hb
 refine seq_val (.agg (seatC (⟨D.zz1e, 0, 0⟩ : Seat)).toArray) r (fun R => y_build r (by kernel_rfl)) rfl fun fr r => ?_
 refine zz06 r (zzbp (F := No) (n := fu) (j := fu + 1) (fun _ h => h.elim) (by omega) (⟨D.zz1e, 0, 0⟩ : Seat)) (fun R hc => y_call r rfl cl30 hc) rfl ?_
 rintro _ w7 ⟨v8, rfl, hb, hr9⟩
 refine ⟨_, rfl, fun fr r => ?_⟩
 have hP : Post No [memK mg4 x2, progK Tryz.prog encRes (fu, (D.zz36 (fu + 1) (⟨D.zz1e, 0, 0⟩ : Seat))) v8 (rg w6.heap.size w7.heap.size)] w0 w7 := hP.addProg hb hr9
 refine seq_val (.pointer (some ⟨mg4.mb, 0, none⟩)) r (fun R => y_move r rfl) rfl fun fr r => ?_
 refine seq_val (.pointer (some ⟨mg4.mb, 0, none⟩)) r (fun R => y_move r rfl) rfl fun fr r => ?_
 obtain ⟨x11, hx11, hD⟩ := zz0k hD
 refine zz06 r (zz60 w7 x2 (hP.mem (i := 0) rfl) 0 hx11) (fun R hc => y_call r rfl cl31 hc) rfl ?_
 rintro _ w12 ⟨rfl, hb⟩
 refine ⟨_, rfl, fun fr r => ?_⟩
 have hP : Post No [memK mg4 x2, progK Tryz.prog encRes (fu, (D.zz36 (fu + 1) (⟨D.zz1e, 0, 0⟩ : Seat))) v8 (rg w6.heap.size w7.heap.size)] w0 w12 := hP.below hb
 obtain ⟨x13, hx13, hD⟩ := zz0k hD
 refine zz06 r (zz9b w12 (fu, (D.zz36 (fu + 1) (⟨D.zz1e, 0, 0⟩ : Seat))) x2 x11 99 (hP.sep.pk [1, 0] rfl rfl) hx13) (fun R hc => y_call r rfl cl29 hc) rfl ?_
 rintro _ w14 ⟨rfl, hq⟩
 refine ⟨_, rfl, fun fr r => ?_⟩
 have hP : Post No [memK mg4 x13.2.2.2, progK Tryz.prog encRes (fu, (D.zz36 (fu + 1) (⟨D.zz1e, 0, 0⟩ : Seat))) v8 (rg w6.heap.size w7.heap.size)] w0 w14 := hP.setN (i := 0) rfl hq
 refine seq_val (.tuple #[(.agg (resC x13.1).toArray), (I x13.2.1), (.bool x13.2.2.1)]) r (fun R => y_move r rfl) rfl fun fr r => ?_
 refine seq_val (.agg (resC x13.1).toArray) r (fun R => zz1c r (vs := #[(.agg (resC x13.1).toArray), (I x13.2.1), (.bool x13.2.2.1)]) rfl rfl) rfl fun fr r => ?_
 refine seq_val (I x13.2.1) r (fun R => zz1c r (vs := #[(.agg (resC x13.1).toArray), (I x13.2.1), (.bool x13.2.2.1)]) rfl rfl) rfl fun fr r => ?_
 refine seq_val (.bool x13.2.2.1) r (fun R => zz1c r (vs := #[(.agg (resC x13.1).toArray), (I x13.2.1), (.bool x13.2.2.1)]) rfl rfl) rfl fun fr r => ?_
 refine seq_new (.cells ((resC (⟨0, 0⟩ : Res))).toArray 32 (0, 0)) r (fun R => y_alloc tz32) rfl fun fr b15 w16 n17 r => ?_
 have hP : Post No [memK mg4 x13.2.2.2, progK Tryz.prog encRes (fu, (D.zz36 (fu + 1) (⟨D.zz1e, 0, 0⟩ : Seat))) v8 (rg w6.heap.size w7.heap.size), cellC b15 ((resC (⟨0, 0⟩ : Res))).toArray 32] w0 w16 := hP.new n17
 refine seq_upd (.cells ((resC x13.1)).toArray 32 (0, 0)) r (fun R => y_store r (o := 0) (v := (.agg (resC x13.1).toArray)) rfl rfl (hP.cell (i := 2) rfl) ts32 (Nat.le_of_ble_eq_true rfl) rfl rfl) rfl fun fr w19 u20 r => ?_
 have hP : Post No [memK mg4 x13.2.2.2, progK Tryz.prog encRes (fu, (D.zz36 (fu + 1) (⟨D.zz1e, 0, 0⟩ : Seat))) v8 (rg w6.heap.size w7.heap.size), cellC b15 ((resC x13.1)).toArray 32] w0 w19 := hP.upd (i := 2) rfl u20
 refine seq_val (I x13.2.1) r (fun R => zz03 r rfl) rfl fun fr r => ?_
 refine seq_val (.bool x13.2.2.1) r (fun R => zz03 r rfl) rfl fun fr r => ?_
 refine wn ?_
 refine wp_seq ?_
 have hP : Post No [memK mg4 x13.2.2.2, cellC b15 ((resC x13.1)).toArray 32] w0 w19 := hP.pick [0, 2] rfl rfl
 refine zz2w (N := 31) (Y := Bool) (G := Unit) (fun x γ => [(1, (.pointer (some ⟨mg4.mb, 0, none⟩))), (8, (.bool false)), (2, (.pointer (some ⟨b15, 0, none⟩))), (4, (.bool x13.2.2.1)), (0, (.bool x))]) (fun x γ w => Post No [memK mg4 x13.2.2.2, cellC b15 ((resC x13.1)).toArray 32] w0 w) hD ?_ ?_
 ·
  rintro y21 RPy21 nxy21 hD
  refine wp_region_lit ?_
  refine seq_val (.bool x13.2.2.1) r (fun R => y_move r rfl) rfl fun fr r => ?_
  refine seq_val (.bool x13.2.2.1) r (fun R => y_move r rfl) rfl fun fr r => ?_
  refine zz0p x13.2.2.1 (fun h22 => ?_) (fun h22 => ?_)
  ·
   have hD := (cond_t h22).symm.trans hD
   refine s1 r h22 ?_
   refine seq_val _ r (fun R => zz02 r (o := 0) rfl fo32_0) rfl fun fr r => ?_
   refine s1 r h22 ?_
   refine seq_val (I x13.1.e) r (fun R => zz00 r rfl (hP.cell (i := 1) rfl) to30 rfl) rfl fun fr r => ?_
   refine s1 r h22 ?_
   refine seq_val _ r (fun R => y_bin r rfl rfl rfl rfl) rfl fun fr r => ?_
   refine seq_val (.bool (x13.1.e == 0)) r (fun R => y_pick r (b := true) (congrArg Value.bool h22) rfl) rfl fun fr r => ?_
   refine seq_val (.bool (x13.1.e == 0)) r (fun R => y_move r rfl) rfl fun fr r => ?_
   refine zz0p (x13.1.e == 0) (fun h23 => ?_) (fun h23 => ?_)
   ·
    have hD := (cond_t h23).symm.trans hD
    refine s1 r h23 ?_
    refine seq_val _ r (fun R => zz02 r (o := 0) rfl fo32_1) rfl fun fr r => ?_
    refine s1 r h23 ?_
    refine seq_val (U x13.1.v) r (fun R => zz00 r rfl (hP.cell (i := 1) rfl) to22 rfl) rfl fun fr r => ?_
    refine s1 r h23 ?_
    refine seq_val _ r (fun R => y_bin r rfl rfl rfl rfl) rfl fun fr r => ?_
    refine seq_val (.bool (decide (x13.1.v > 0))) r (fun R => y_pick r (b := true) (congrArg Value.bool h23) rfl) rfl fun fr r => ?_
    refine seq_val (.bool (decide (x13.1.v > 0))) r (fun R => zz03 r rfl) rfl fun fr r => ?_
    refine wn ?_
    exact nxy21 (decide (x13.1.v > 0)) () _ _ _ hD r (hs_cons rfl (hs_cons rfl (hs_cons rfl (hs_cons rfl (hs_cons rfl hs_nil))))) (hP.pick [0, 1] rfl rfl)
   ·
    have hD := (cond_f h23).symm.trans hD
    refine s0 r h23 fun fr r => ?_
    refine s0 r h23 fun fr r => ?_
    refine s0 r h23 fun fr r => ?_
    refine seq_val (.bool false) r (fun R => y_pick r (b := false) (congrArg Value.bool h23) rfl) rfl fun fr r => ?_
    refine seq_val (.bool false) r (fun R => zz03 r rfl) rfl fun fr r => ?_
    refine wn ?_
    exact nxy21 false () _ _ _ hD r (hs_cons rfl (hs_cons rfl (hs_cons rfl (hs_cons rfl (hs_cons rfl hs_nil))))) (hP.pick [0, 1] rfl rfl)
  ·
   have hD := (cond_f h22).symm.trans hD
   refine s0 r h22 fun fr r => ?_
   refine s0 r h22 fun fr r => ?_
   refine s0 r h22 fun fr r => ?_
   refine seq_val (.bool false) r (fun R => y_pick r (b := false) (congrArg Value.bool h22) rfl) rfl fun fr r => ?_
   refine seq_val (.bool false) r (fun R => y_move r rfl) rfl fun fr r => ?_
   refine s0 r (rfl : false = _) fun fr r => ?_
   refine s0 r (rfl : false = _) fun fr r => ?_
   refine s0 r (rfl : false = _) fun fr r => ?_
   refine seq_val (.bool false) r (fun R => y_pick r (b := false) (congrArg Value.bool (rfl : false = _)) rfl) rfl fun fr r => ?_
   refine seq_val (.bool false) r (fun R => zz03 r rfl) rfl fun fr r => ?_
   refine wn ?_
   exact nxy21 false () _ _ _ hD r (hs_cons rfl (hs_cons rfl (hs_cons rfl (hs_cons rfl (hs_cons rfl hs_nil))))) (hP.pick [0, 1] rfl rfl)
 ·
  rintro x24 γ25 fr w26 g r hP hD
  have hP : Post No [memK mg4 x13.2.2.2, cellC b15 ((resC x13.1)).toArray 32] w0 w26 := hP
  refine wp_ret ?_
  have hv : x24 = res := Option.some.inj hD
  try dsimp only [Exit.then, Exit.inBlock]
  refine ret_tmp (fn := Tryz.f27) r (t := 0) rfl (v := (.bool x24)) rfl ?_
  subst hv
  exact ⟨rfl, hP.chg.below⟩

def D.zz1m (a0 : Plan) : Bool := (bif (D.zz1l a0) then (D.zz0i a0) else false)

theorem zz9q (w0 : World) 
    (a0 : Plan) :
    Calls Tryz.prog 35 #[.agg (planC a0).toArray] w0 (PureRes (.bool (D.zz1m a0)) w0) := by
 refine enter Tryz.func35 rfl 9 rfl rfl fun fr r => ?_
 have hB := Below.refl w0.heap.size w0
 refine wsr ?_
 refine seq_new (.cells ((planC a0)).toArray 25 (0, 0)) r (fun R => y_box r (v := (.agg (planC a0).toArray)) rfl) rfl fun fr b1 w2 n3 r => ?_
 obtain ⟨e_b1, z_w2, h_b1, hB, zB⟩ := n3.all hB
 refine seq_val (.bool false) r (fun R => zz03 r rfl) rfl fun fr r => ?_
 refine wn ?_
 refine wsr ?_
 refine seq_val (.agg (planC a0).toArray) r (fun R => zz05 r (cs := (planC a0)) (n := 6) rfl h_b1 ta25 rfl) rfl fun fr r => ?_
 refine zz06 r (zz9s w2 a0) (fun R hc => y_call r rfl cl39 hc) rfl ?_
 rintro _ w4 ⟨rfl, hb⟩
 refine ⟨_, rfl, fun fr r => ?_⟩
 have z_w4 := hb.size
 have h_b1 := keep hb h_b1
 obtain ⟨hB, zB⟩ := bon hb hB
 refine seq_val (.bool (D.zz1l a0)) r (fun R => y_move r rfl) rfl fun fr r => ?_
 refine zz0p (D.zz1l a0) (fun h5 => ?_) (fun h5 => ?_)
 ·
  refine s1 r h5 ?_
  refine seq_val (.agg (planC a0).toArray) r (fun R => zz05 r (cs := (planC a0)) (n := 6) rfl h_b1 ta25 rfl) rfl fun fr r => ?_
  refine s1 r h5 ?_
  refine zz06 r (zz5j w4 a0) (fun R hc => y_call r rfl cl45 hc) rfl ?_
  rintro _ w6 ⟨rfl, hb⟩
  refine ⟨_, rfl, fun fr r => ?_⟩
  have z_w6 := hb.size
  have h_b1 := keep hb h_b1
  obtain ⟨hB, zB⟩ := bon hb hB
  refine seq_val (.bool (D.zz0i a0)) r (fun R => y_pick r (b := true) (congrArg Value.bool h5) rfl) rfl fun fr r => ?_
  refine seq_val (.bool (D.zz0i a0)) r (fun R => zz03 r rfl) rfl fun fr r => ?_
  refine wn ?_
  refine wp_ret ?_
  have hd : D.zz1m a0 = (D.zz0i a0) := (cond_t h5).trans (rfl)
  refine ret_tmp r rfl rfl ?_
  rw [hd]
  exact ⟨rfl, hB⟩
 ·
  refine s0 r h5 fun fr r => ?_
  refine s0 r h5 fun fr r => ?_
  refine seq_val (.bool false) r (fun R => y_pick r (b := false) (congrArg Value.bool h5) rfl) rfl fun fr r => ?_
  refine seq_val (.bool false) r (fun R => zz03 r rfl) rfl fun fr r => ?_
  refine wn ?_
  refine wp_ret ?_
  have hd : D.zz1m a0 = false := (cond_f h5).trans (rfl)
  refine ret_tmp r rfl rfl ?_
  rw [hd]
  exact ⟨rfl, hB⟩

def D.zz18 (j : Nat) (a0 : Seat) (a1 : OpR) : T Res := (bif (a1.code == 1) then (D.zz36 j a0) else (bif (a1.code == 2) then (D.zz3a j a0 a1.h) else (bif (a1.code == 3) then (D.zz91 a0 a1.h a1.f) else (bif (a1.code == 4) then (D.zz7y a0 a1.h a1.f a1.a) else (D.zz7c a0 a1.h a1.f a1.a a1.b)))))

theorem zz90 {n : Nat} {F : Nat → Prop} {j : Nat} {w0 : World} (hF : ∀ b, F b → b < w0.heap.size) (hj : n < j)
    (a0 : Seat) (a1 : OpR) :
    Calls Tryz.prog 43 #[.agg (seatC a0).toArray, .agg (opRC a1).toArray] w0 (RepRes Tryz.prog encRes n (D.zz18 j a0 a1) F w0) := by
 refine enter Tryz.func43 rfl 45 rfl rfl fun fr r => ?_
 have hB := Below.refl w0.heap.size w0
 refine wsr ?_
 refine seq_new (.cells ((seatC a0)).toArray 29 (0, 0)) r (fun R => y_box r (v := (.agg (seatC a0).toArray)) rfl) rfl fun fr b1 w2 n3 r => ?_
 obtain ⟨e_b1, z_w2, h_b1, hB, zB⟩ := n3.all hB
 refine seq_new (.cells ((opRC a1)).toArray 61 (0, 0)) r (fun R => y_box r (v := (.agg (opRC a1).toArray)) rfl) rfl fun fr b4 w5 n6 r => ?_
 have h_b1 := keep n6.below h_b1
 obtain ⟨e_b4, z_w5, h_b4, hB, zB⟩ := n6.all hB
 refine seq_new (.cells (progCells false encRes.zero 0 0 0 0 .nilFunc) 39 (0, 0)) r (fun R => y_alloc tz39) rfl fun fr b7 w8 n9 r => ?_
 have h_b1 := keep n9.below h_b1
 have h_b4 := keep n9.below h_b4
 obtain ⟨e_b7, z_w8, h_b7, hB, zB⟩ := n9.all hB
 refine wn ?_
 refine wp_seq ?_
 refine wsr ?_
 refine seq_val _ r (fun R => zz02 r (o := 0) rfl fo61_0) rfl fun fr r => ?_
 refine seq_val (I a1.code) r (fun R => zz00 r rfl h_b4 to3 rfl) rfl fun fr r => ?_
 refine wn ?_
 refine wp_block ?_
 refine wsr ?_
 refine seq_val _ r (fun R => y_bin r rfl rfl rfl rfl) rfl fun fr r => ?_
 refine seq_val (.bool (a1.code == 1)) r (fun R => zz03 r rfl) rfl fun fr r => ?_
 refine wn ?_
 refine wp_cond_split (t := (a1.code == 1)) (r.ev rfl) (fun h10 => ?_) (fun h10 => ?_)
 ·
  refine wsr ?_
  refine seq_val (.agg (seatC a0).toArray) r (fun R => zz05 r (cs := (seatC a0)) (n := 8) rfl h_b1 ta29 rfl) rfl fun fr r => ?_
  have hF1 := fgrow hF hB b7
  refine zz06 r (zzbp (j := j) (F := (fun b => F b ∨ (w0.heap.size ≤ b ∧ b < w8.heap.size ∧ b ≠ b7))) (n := n) hF1 (by omega) a0) (fun R hc => y_call r rfl cl30 hc) rfl ?_
  rintro _ w11 ⟨v12, rfl, hb, hr13⟩
  refine ⟨_, rfl, fun fr r => ?_⟩
  have z_w11 := hb.size
  have h_b1 := keep hb h_b1
  have h_b4 := keep hb h_b4
  have h_b7 := keep hb h_b7
  obtain ⟨hB, zB⟩ := bon hb hB
  refine seq_upd (.cells v12.cells 39 (0, 0)) r (fun R => zz0d r hr13.shape rfl rfl h_b7 ts39 rfl) rfl fun fr w14 u15 r => ?_
  have z_w14 := u15.size
  have h_b1 := u15.keep h_b1 (by omega)
  have h_b4 := u15.keep h_b4 (by omega)
  have h_b7 := u15.at_
  obtain ⟨hB, zB⟩ := u15.on hB (by omega)
  refine wn ?_
  refine wp_ret ?_
  have hd : D.zz18 j a0 a1 = (D.zz36 j a0) := (cond_t h10).trans (rfl)
  have hs := hr13.shape.cells
  refine zz0b r rfl rfl h_b7 (k := 8) hs.1 ta39 ?_
  rw [← hs.2.2, hd]
  exact rfin hF hB hr13 u15 (by omega) (by omega) (by omega)
 ·
  refine wsr ?_
  refine seq_val _ r (fun R => y_bin r rfl rfl rfl rfl) rfl fun fr r => ?_
  refine seq_val (.bool (a1.code == 2)) r (fun R => zz03 r rfl) rfl fun fr r => ?_
  refine wn ?_
  refine wp_cond_split (t := (a1.code == 2)) (r.ev rfl) (fun h16 => ?_) (fun h16 => ?_)
  ·
   refine wsr ?_
   refine seq_val (.agg (seatC a0).toArray) r (fun R => zz05 r (cs := (seatC a0)) (n := 8) rfl h_b1 ta29 rfl) rfl fun fr r => ?_
   refine seq_val _ r (fun R => zz02 r (o := 0) rfl fo61_3) rfl fun fr r => ?_
   refine seq_val (U a1.h) r (fun R => zz00 r rfl h_b4 to22 rfl) rfl fun fr r => ?_
   have hF1 := fgrow hF hB b7
   refine zz06 r (zzdm (j := j) (F := (fun b => F b ∨ (w0.heap.size ≤ b ∧ b < w8.heap.size ∧ b ≠ b7))) (n := n) hF1 (by omega) a0 a1.h) (fun R hc => y_call r rfl cl36 hc) rfl ?_
   rintro _ w17 ⟨v18, rfl, hb, hr19⟩
   refine ⟨_, rfl, fun fr r => ?_⟩
   have z_w17 := hb.size
   have h_b1 := keep hb h_b1
   have h_b4 := keep hb h_b4
   have h_b7 := keep hb h_b7
   obtain ⟨hB, zB⟩ := bon hb hB
   refine seq_upd (.cells v18.cells 39 (0, 0)) r (fun R => zz0d r hr19.shape rfl rfl h_b7 ts39 rfl) rfl fun fr w20 u21 r => ?_
   have z_w20 := u21.size
   have h_b1 := u21.keep h_b1 (by omega)
   have h_b4 := u21.keep h_b4 (by omega)
   have h_b7 := u21.at_
   obtain ⟨hB, zB⟩ := u21.on hB (by omega)
   refine wn ?_
   refine wp_ret ?_
   have hd : D.zz18 j a0 a1 = (D.zz3a j a0 a1.h) := (cond_f h10).trans ((cond_t h16).trans (rfl))
   have hs := hr19.shape.cells
   refine zz0b r rfl rfl h_b7 (k := 8) hs.1 ta39 ?_
   rw [← hs.2.2, hd]
   exact rfin hF hB hr19 u21 (by omega) (by omega) (by omega)
  ·
   refine wsr ?_
   refine seq_val _ r (fun R => y_bin r rfl rfl rfl rfl) rfl fun fr r => ?_
   refine seq_val (.bool (a1.code == 3)) r (fun R => zz03 r rfl) rfl fun fr r => ?_
   refine wn ?_
   refine wp_cond_split (t := (a1.code == 3)) (r.ev rfl) (fun h22 => ?_) (fun h22 => ?_)
   ·
    refine wsr ?_
    refine seq_val (.agg (seatC a0).toArray) r (fun R => zz05 r (cs := (seatC a0)) (n := 8) rfl h_b1 ta29 rfl) rfl fun fr r => ?_
    refine seq_val _ r (fun R => zz02 r (o := 0) rfl fo61_3) rfl fun fr r => ?_
    refine seq_val (U a1.h) r (fun R => zz00 r rfl h_b4 to22 rfl) rfl fun fr r => ?_
    refine seq_val _ r (fun R => zz02 r (o := 0) rfl fo61_2) rfl fun fr r => ?_
    refine seq_val (I a1.f) r (fun R => zz00 r rfl h_b4 to3 rfl) rfl fun fr r => ?_
    have hF1 := fgrow hF hB b7
    refine zz06 r (zzdf (F := (fun b => F b ∨ (w0.heap.size ≤ b ∧ b < w8.heap.size ∧ b ≠ b7))) (n := n) hF1 a0 a1.h a1.f) (fun R hc => y_call r rfl cl33 hc) rfl ?_
    rintro _ w23 ⟨v24, rfl, hb, hr25⟩
    refine ⟨_, rfl, fun fr r => ?_⟩
    have z_w23 := hb.size
    have h_b1 := keep hb h_b1
    have h_b4 := keep hb h_b4
    have h_b7 := keep hb h_b7
    obtain ⟨hB, zB⟩ := bon hb hB
    refine seq_upd (.cells v24.cells 39 (0, 0)) r (fun R => zz0d r hr25.shape rfl rfl h_b7 ts39 rfl) rfl fun fr w26 u27 r => ?_
    have z_w26 := u27.size
    have h_b1 := u27.keep h_b1 (by omega)
    have h_b4 := u27.keep h_b4 (by omega)
    have h_b7 := u27.at_
    obtain ⟨hB, zB⟩ := u27.on hB (by omega)
    refine wn ?_
    refine wp_ret ?_
    have hd : D.zz18 j a0 a1 = (D.zz91 a0 a1.h a1.f) := (cond_f h10).trans ((cond_f h16).trans ((cond_t h22).trans (rfl)))
    have hs := hr25.shape.cells
    refine zz0b r rfl rfl h_b7 (k := 8) hs.1 ta39 ?_
    rw [← hs.2.2, hd]
    exact rfin hF hB hr25 u27 (by omega) (by omega) (by omega)
   ·
    refine wsr ?_
    refine seq_val _ r (fun R => y_bin r rfl rfl rfl rfl) rfl fun fr r => ?_
    refine seq_val (.bool (a1.code == 4)) r (fun R => zz03 r rfl) rfl fun fr r => ?_
    refine wn ?_
    refine wp_cond_split (t := (a1.code == 4)) (r.ev rfl) (fun h28 => ?_) (fun h28 => ?_)
    ·
     refine wsr ?_
     refine seq_val (.agg (seatC a0).toArray) r (fun R => zz05 r (cs := (seatC a0)) (n := 8) rfl h_b1 ta29 rfl) rfl fun fr r => ?_
     refine seq_val _ r (fun R => zz02 r (o := 0) rfl fo61_3) rfl fun fr r => ?_
     refine seq_val (U a1.h) r (fun R => zz00 r rfl h_b4 to22 rfl) rfl fun fr r => ?_
     refine seq_val _ r (fun R => zz02 r (o := 0) rfl fo61_2) rfl fun fr r => ?_
     refine seq_val (I a1.f) r (fun R => zz00 r rfl h_b4 to3 rfl) rfl fun fr r => ?_
     refine seq_val _ r (fun R => zz02 r (o := 0) rfl fo61_4) rfl fun fr r => ?_
     refine seq_val (U a1.a) r (fun R => zz00 r rfl h_b4 to22 rfl) rfl fun fr r => ?_
     have hF1 := fgrow hF hB b7
     refine zz06 r (zzci (F := (fun b => F b ∨ (w0.heap.size ≤ b ∧ b < w8.heap.size ∧ b ≠ b7))) (n := n) hF1 a0 a1.h a1.f a1.a) (fun R hc => y_call r rfl cl32 hc) rfl ?_
     rintro _ w29 ⟨v30, rfl, hb, hr31⟩
     refine ⟨_, rfl, fun fr r => ?_⟩
     have z_w29 := hb.size
     have h_b1 := keep hb h_b1
     have h_b4 := keep hb h_b4
     have h_b7 := keep hb h_b7
     obtain ⟨hB, zB⟩ := bon hb hB
     refine seq_upd (.cells v30.cells 39 (0, 0)) r (fun R => zz0d r hr31.shape rfl rfl h_b7 ts39 rfl) rfl fun fr w32 u33 r => ?_
     have z_w32 := u33.size
     have h_b1 := u33.keep h_b1 (by omega)
     have h_b4 := u33.keep h_b4 (by omega)
     have h_b7 := u33.at_
     obtain ⟨hB, zB⟩ := u33.on hB (by omega)
     refine wn ?_
     refine wp_ret ?_
     have hd : D.zz18 j a0 a1 = (D.zz7y a0 a1.h a1.f a1.a) := (cond_f h10).trans ((cond_f h16).trans ((cond_f h22).trans ((cond_t h28).trans (rfl))))
     have hs := hr31.shape.cells
     refine zz0b r rfl rfl h_b7 (k := 8) hs.1 ta39 ?_
     rw [← hs.2.2, hd]
     exact rfin hF hB hr31 u33 (by omega) (by omega) (by omega)
    ·
     refine wp_skip ?_
     refine wsr ?_
     refine seq_val (.agg (seatC a0).toArray) r (fun R => zz05 r (cs := (seatC a0)) (n := 8) rfl h_b1 ta29 rfl) rfl fun fr r => ?_
     refine seq_val _ r (fun R => zz02 r (o := 0) rfl fo61_3) rfl fun fr r => ?_
     refine seq_val (U a1.h) r (fun R => zz00 r rfl h_b4 to22 rfl) rfl fun fr r => ?_
     refine seq_val _ r (fun R => zz02 r (o := 0) rfl fo61_2) rfl fun fr r => ?_
     refine seq_val (I a1.f) r (fun R => zz00 r rfl h_b4 to3 rfl) rfl fun fr r => ?_
     refine seq_val _ r (fun R => zz02 r (o := 0) rfl fo61_4) rfl fun fr r => ?_
     refine seq_val (U a1.a) r (fun R => zz00 r rfl h_b4 to22 rfl) rfl fun fr r => ?_
     refine seq_val _ r (fun R => zz02 r (o := 0) rfl fo61_5) rfl fun fr r => ?_
     refine seq_val (U a1.b) r (fun R => zz00 r rfl h_b4 to22 rfl) rfl fun fr r => ?_
     have hF1 := fgrow hF hB b7
     refine zz06 r (zzdg (F := (fun b => F b ∨ (w0.heap.size ≤ b ∧ b < w8.heap.size ∧ b ≠ b7))) (n := n) hF1 a0 a1.h a1.f a1.a a1.b) (fun R hc => y_call r rfl cl34 hc) rfl ?_
     rintro _ w34 ⟨v35, rfl, hb, hr36⟩
     refine ⟨_, rfl, fun fr r => ?_⟩
     have z_w34 := hb.size
     have h_b1 := keep hb h_b1
     have h_b4 := keep hb h_b4
     have h_b7 := keep hb h_b7
     obtain ⟨hB, zB⟩ := bon hb hB
     refine seq_upd (.cells v35.cells 39 (0, 0)) r (fun R => zz0d r hr36.shape rfl rfl h_b7 ts39 rfl) rfl fun fr w37 u38 r => ?_
     have z_w37 := u38.size
     have h_b1 := u38.keep h_b1 (by omega)
     have h_b4 := u38.keep h_b4 (by omega)
     have h_b7 := u38.at_
     obtain ⟨hB, zB⟩ := u38.on hB (by omega)
     refine wn ?_
     refine wp_ret ?_
     have hd : D.zz18 j a0 a1 = (D.zz7c a0 a1.h a1.f a1.a a1.b) := (cond_f h10).trans ((cond_f h16).trans ((cond_f h22).trans ((cond_f h28).trans (rfl))))
     have hs := hr36.shape.cells
     refine zz0b r rfl rfl h_b7 (k := 8) hs.1 ta39 ?_
     rw [← hs.2.2, hd]
     exact rfin hF hB hr36 u38 (by omega) (by omega) (by omega)

end Go.Proofs.YtjkinpbfmihhdaaGreat

/- Handles and their words, in numbers. -/
namespace Go.Proofs.YtjkinpbfmihhdaaGreat
open Go.RowKit

def U64 (w : Int) : Prop := 0 ≤ w ∧ w < 18446744073709551616

theorem f_hI : D.zz0c hIdx = true := by decide

theorem f_hG : D.zz0c hGen = true := by decide

theorem f_hT : D.zz0c hTen = true := by decide

theorem f_hS : D.zz0c hSeal = true := by decide

theorem m_hI : D.zz0a hIdx = 1048575 := by decide +kernel

theorem m_hG : D.zz0a hGen = 1073741823 := by decide +kernel

theorem m_hT : D.zz0a hTen = 63 := by decide +kernel

theorem m_hS : D.zz0a hSeal = 63 := by decide +kernel

theorem k_hI : D.zz0e hIdx = 1048575 := by decide +kernel

theorem k_hG : D.zz0e hGen = 1125899905794048 := by decide +kernel

theorem k_hT : D.zz0e hTen = 70931694131085312 := by decide +kernel

theorem k_hS : D.zz0e hSeal = 18158513697557839872 := by decide +kernel

theorem get_low {w : Int} (hw : U64 w) (a b : Nat) (ha : a < 64) (hb : b < 64) (hF : D.zz0c ⟨a, b⟩ = true) (hM : D.zz0a ⟨a, b⟩ = ((2 ^ b - 1 : Nat) : Int)) :
    D.zz09 ⟨a, b⟩ w = w / ((2 ^ a : Nat) : Int) % ((2 ^ b : Nat) : Int) := by
  obtain ⟨h0, h1⟩ := hw
  unfold D.zz09
  rw [hF, hM]
  simp only [Bool.not_true, cond_false]
  have hp : (0 : Int) < ((2 ^ a : Nat) : Int) := by have := Nat.pow_pos (n := a) (show 0 < 2 by omega); omega
  have e : shrI .u64 w (a : Int) = w / ((2 ^ a : Nat) : Int) := by rw [shrN a (by omega)]; norm_cast
  have hd : w / ((2 ^ a : Nat) : Int) ≤ w := Int.ediv_le_self _ h0
  have hd0 : 0 ≤ w / ((2 ^ a : Nat) : Int) := Int.ediv_nonneg h0 (by omega)
  show zz2m .u64 (shrI .u64 w (a : Int)) _ = _
  rw [e, and_low hd0 (by omega) b hb]

theorem get_hI {w : Int} (hw : U64 w) : D.zz09 hIdx w = w % 1048576 := by
  have := get_low hw 0 20 (by omega) (by omega) f_hI m_hI
  rw [show ((2 ^ 0 : Nat) : Int) = 1 from rfl, Int.ediv_one] at this
  exact this

theorem get_hG {w : Int} (hw : U64 w) : D.zz09 hGen w = w / 1048576 % 1073741824 := get_low hw 20 30 (by omega) (by omega) f_hG m_hG

theorem get_hT {w : Int} (hw : U64 w) : D.zz09 hTen w = w / 1125899906842624 % 64 := get_low hw 50 6 (by omega) (by omega) f_hT m_hT

theorem get_hS {w : Int} (hw : U64 w) : D.zz09 hSeal w = w / 288230376151711744 := by
  have := get_low hw 58 6 (by omega) (by omega) f_hS m_hS
  have h2 : D.zz09 hSeal w = w / 288230376151711744 % 64 := this
  have := hw.1
  have := hw.2
  omega

/-- What no field takes. -/
theorem hrest {w : Int} (hw : U64 w) : zz0z .u64 (zz0z .u64 (zz0z .u64 (zz0z .u64 w (D.zz0e hIdx)) (D.zz0e hGen)) (D.zz0e hTen)) (D.zz0e hSeal) = w / 72057594037927936 % 4 * 72057594037927936 := by
  obtain ⟨h0, h1⟩ := hw
  rw [k_hI, k_hG, k_hT, k_hS]
  have hx : ∀ {x : Nat} {y : Int}, x ≤ w.toNat → 0 ≤ y → y < 18446744073709551616 → zz0z .u64 (x : Int) y = ((x &&& (18446744073709551615 - y.toNat) : Nat) : Int) := fun {x y} hx hy0 hy1 => by
    have := zz65 (x := (x : Int)) (y := y) (by omega) (by omega) hy0 hy1
    rw [Int.toNat_natCast] at this
    exact this
  obtain ⟨v, rfl⟩ : ∃ v : Nat, w = (v : Int) := ⟨w.toNat, by omega⟩
  have l1 : v &&& (18446744073709551615 - (1048575 : Int).toNat) ≤ v := Nat.and_le_left
  have l2 : (v &&& (18446744073709551615 - (1048575 : Int).toNat)) &&& (18446744073709551615 - (1125899905794048 : Int).toNat) ≤ v := Nat.le_trans Nat.and_le_left l1
  have l3 : ((v &&& (18446744073709551615 - (1048575 : Int).toNat)) &&& (18446744073709551615 - (1125899905794048 : Int).toNat)) &&& (18446744073709551615 - (70931694131085312 : Int).toNat) ≤ v := Nat.le_trans Nat.and_le_left l2
  rw [hx (by omega) (by omega) (by omega), hx (by omega) (by omega) (by omega), hx (by omega) (by omega) (by omega), hx (by omega) (by omega) (by omega)]
  rw [Nat.and_assoc, Nat.and_assoc, Nat.and_assoc]
  have hK : (18446744073709551615 - (1048575 : Int).toNat) &&& ((18446744073709551615 - (1125899905794048 : Int).toNat) &&& ((18446744073709551615 - (70931694131085312 : Int).toNat) &&& (18446744073709551615 - (18158513697557839872 : Int).toNat))) = 3 * 2 ^ 56 := by decide +kernel
  rw [hK]
  have : v &&& 3 * 2 ^ 56 = v / 2 ^ 56 % 4 * 2 ^ 56 := by
    apply Nat.eq_of_testBit_eq
    intro i
    rw [Nat.testBit_and, Nat.testBit_mul_two_pow, Nat.testBit_mul_two_pow, show (4 : Nat) = 2 ^ 2 from rfl, Nat.testBit_mod_two_pow, Nat.testBit_div_two_pow]
    by_cases hi : 56 ≤ i
    · rw [show i - 56 + 56 = i by omega]
      have h3 : Nat.testBit 3 (i - 56) = decide (i - 56 < 2) := by
        rw [show (3 : Nat) = 2 ^ 2 - 1 from rfl, Nat.testBit_two_pow_sub_one]
      rw [h3]
      simp [hi, Bool.and_comm]
    · simp [hi]
  rw [this]
  show ((v / 72057594037927936 % 4 * 72057594037927936 : Nat) : Int) = _
  omega

/-- A word's handle, told in numbers. -/
def hof (w : Int) : Handle × Bool := if w / 72057594037927936 % 4 = 0 ∧ w / 288230376151711744 = 42 then (⟨w % 1048576, w / 1048576 % 1073741824, w / 1125899906842624 % 64⟩, true) else (⟨0, 0, 0⟩, false)

theorem hof_eq {w : Int} (hw : U64 w) : D.zz12 w = hof w := by
  have h : St.D.zz12 10 w = some (hof w) := by
    unfold St.D.zz12
    show (St.D.zz2s 10 [hIdx, hGen, hTen, hSeal] w).bind _ = _
    rw [hsplit, hrest hw, get_hI hw, get_hG hw, get_hT hw, get_hS hw]
    unfold hof
    by_cases h1 : w / 72057594037927936 % 4 = 0
    · rw [h1, show (((0 : Int) * 72057594037927936 != 0) = false) from rfl]
      show (bif (w / 288230376151711744 != 42) then some ((⟨0, 0, 0⟩ : Handle), false) else some ((⟨IntKind.i64.wrap (w % 1048576), IntKind.i64.wrap (w / 1048576 % 1073741824), IntKind.i64.wrap (w / 1125899906842624 % 64)⟩ : Handle), true)) = _
      rw [wrap_id (by omega) (by omega), wrap_id (by omega) (by omega), wrap_id (by omega) (by omega)]
      by_cases h2 : w / 288230376151711744 = 42
      · rw [h2, if_pos ⟨rfl, rfl⟩]; rfl
      · rw [if_neg (fun h => h2 h.2), show (w / 288230376151711744 != 42) = true from by simpa using h2]; rfl
    · rw [if_neg (fun h => h1 h.1), show (w / 72057594037927936 % 4 * 72057594037927936 != 0) = true from by simp; omega]
      rfl
  unfold D.zz12
  rw [h]; rfl

/-- A handle that is formed. -/
structure HF (h : Handle) : Prop where
  i0 : 0 ≤ h.index
  i1 : h.index < 1048576
  g0 : 0 ≤ h.gen
  g1 : h.gen ≤ 1073741823
  t0 : 0 ≤ h.tenant
  t1 : h.tenant < 64

theorem zzcy {h : Handle} (hf : HF h) : D.zz0w h = true := by
  obtain ⟨h1, h2, h3, h4, h5, h6⟩ := hf
  unfold D.zz0w
  simp only [ge_iff_le, h1, h2, h3, h4, h5, h6, decide_true, cond_true]

theorem zzgd {u : Int} (h0 : 0 ≤ u) (h1 : u < 288230376151711744) : D.zz0m hSeal u 42 = 12105675798371893248 + u := by
  unfold D.zz0m
  rw [f_hS, m_hS, k_hS]
  show bits_or .u64 (zz0z .u64 u 18158513697557839872) (shlI .u64 (zz2m .u64 42 63) 58) = _
  rw [zz65 h0 (by omega) (by omega) (by omega), show 18446744073709551615 - (18158513697557839872 : Int).toNat = 2 ^ 58 - 1 from rfl, Nat.and_two_pow_sub_one_eq_mod, show shlI .u64 (zz2m .u64 42 63) 58 = 12105675798371893248 from by decide +kernel]
  obtain ⟨x, rfl⟩ : ∃ x : Nat, u = (x : Int) := ⟨u.toNat, by omega⟩
  have hx : x < 2 ^ 58 := by omega
  rw [Int.toNat_natCast, Nat.mod_eq_of_lt hx, or_eq (by omega) (by omega) (by omega) (by omega), Int.toNat_natCast, show (12105675798371893248 : Int).toNat = 2 ^ 58 * 42 from rfl, Nat.or_comm, ← Nat.two_pow_add_eq_or_of_lt hx]
  show ((288230376151711744 * 42 + x : Nat) : Int) = _
  omega

/-- A handle's word, in numbers. -/
theorem zzfe {h : Handle} (hf : HF h) : D.zz0u h = h.index + h.gen * 1048576 + h.tenant * 1125899906842624 + 12105675798371893248 := by
  have hh := zzcy hf
  obtain ⟨h1, h2, h3, h4, h5, h6⟩ := hf
  have hw : St.D.zz0u 10 h = some (h.index + h.gen * 1048576 + h.tenant * 1125899906842624 + 12105675798371893248) := by
    unfold St.D.zz0u
    rw [hh]
    show (((St.D.zz38 10 [hIdx, hGen, hTen, hSeal] [IntKind.u64.wrap h.index, IntKind.u64.wrap h.gen, IntKind.u64.wrap h.tenant, 42]).bind (fun (x17 : Int × Int) => (some x17.1)))) = _
    rw [hpack, zz2o h1 (by omega), zz2o h3 (by omega), zz2o h5 (by omega), m_hI, m_hG, m_hT, m_hS, show decide (h.index > 1048575) = false from by simp; omega, show decide (h.gen > 1073741823) = false from by simp; omega, show decide (h.tenant > 63) = false from by simp; omega]
    rw [show decide ((42 : Int) > 63) = false from rfl]
    simp only [cond_false, Option.bind_some]
    rw [show D.zz0m hIdx 0 h.index = h.index * ((2 ^ 0 : Nat) : Int) + 0 from put_at 0 20 (by omega) (by decide) h1 (by omega) (by omega) f_hI m_hI k_hI]
    rw [show D.zz0m hGen (h.index * ((2 ^ 0 : Nat) : Int) + 0) h.gen = h.gen * ((2 ^ 20 : Nat) : Int) + (h.index * ((2 ^ 0 : Nat) : Int) + 0) from put_at 20 30 (by omega) (by omega) h3 (by omega) (by omega) f_hG m_hG k_hG]
    rw [show D.zz0m hTen (h.gen * ((2 ^ 20 : Nat) : Int) + (h.index * ((2 ^ 0 : Nat) : Int) + 0)) h.tenant = h.tenant * ((2 ^ 50 : Nat) : Int) + (h.gen * ((2 ^ 20 : Nat) : Int) + (h.index * ((2 ^ 0 : Nat) : Int) + 0)) from put_at 50 6 (by omega) (by omega) h5 (by omega) (by omega) f_hT m_hT k_hT]
    rw [zzgd (by omega) (by omega)]
    congr 1
    omega
  unfold D.zz0u
  rw [hw]; rfl

theorem zzd2 {w : Int} (hw : U64 w) {t n : Int} {h : Handle} (hm : D.zz08 w t n = (h, true)) : 0 ≤ h.index ∧ h.index < n ∧ 0 ≤ h.gen ∧ h.gen ≤ 1073741823 := by
  unfold D.zz08 at hm
  rw [hof_eq hw] at hm
  have h0 := hw.1
  unfold hof at hm
  by_cases e : w / 72057594037927936 % 4 = 0 ∧ w / 288230376151711744 = 42
  · rw [if_pos e] at hm
    cases h1 : (w / 1125899906842624 % 64 != t) <;> simp only [h1, Bool.not_true, cond_false, cond_true] at hm
    · cases h2 : decide (w % 1048576 ≥ n) <;> simp only [h2, cond_false, cond_true] at hm
      · simp only [Prod.mk.injEq, and_true] at hm
        rw [← hm]
        simp only [decide_eq_false_iff_not] at h2
        simp only
        omega
      · simp at hm
    · simp at hm
  · rw [if_neg e] at hm
    simp at hm

end Go.Proofs.YtjkinpbfmihhdaaGreat

/- Nodes by handles, alone: what reading, writing, swapping, granting and dropping come to, without the code. -/
set_option linter.unusedVariables false
namespace Go.Proofs.YtjkinpbfmihhdaaGreat
open Go.RowKit

theorem runR {t : T Res} {M : Mem} {ws' : List Int} {n : Nat} {most : Int} {r : Res} {fu : Nat} (h : Runs t M.ws n r ws') (hm : (n : Int) ≤ most) (hm2 : most ≤ 1000000) (hn : n < fu) : ∃ c, D.zz5w fu (fu, t) M cap0 most = some (r, (n : Int), true, ⟨ws', c⟩) := by
  have h2 := runG_eq (z := (⟨0, 0⟩ : Res)) (fu := fu) (d := fu) (most := most) h hm hm2 (Nat.le_of_lt hn) hn
  exact h2

theorem zz6p {at_ : Int} {f : Int → T Res} {ws ws' : List Int} {n : Nat} {r : Res} (h0 : 0 ≤ at_) (h1 : at_ < ws.length) (h : Runs (f (rd ws at_)) ws n r ws') : Runs (D.zz30 at_ f) ws (n + 1) r ws' := Runs.load h0 h1 h

theorem zzea {at_ w : Int} {f : Unit → T Res} {ws ws' : List Int} {n : Nat} {r : Res} (h0 : 0 ≤ at_) (h1 : at_ < ws.length) (h : Runs (f ()) (ws.set at_.toNat w) n r ws') : Runs (D.zz6y at_ w f) ws (n + 1) r ws' := Runs.store h0 h1 h

theorem zzb9 {at_ was w : Int} {f : Bool → T Res} {ws ws' : List Int} {n : Nat} {r : Res} (h0 : 0 ≤ at_) (h1 : at_ < ws.length) (h : Runs (f (rd ws at_ == was)) (if rd ws at_ = was then ws.set at_.toNat w else ws) n r ws') : Runs (D.zz5b at_ was w f) ws (n + 1) r ws' := by
  refine Runs.act (op := 2) (by omega) (getI_rd h0 h1) ?_
  have : acted 2 at_ was w (rd ws at_) ws = (if rd ws at_ = was then ws.set at_.toNat w else ws) := by simp [acted]
  rw [this]
  exact h

theorem zz3d {s : Seat} : D.zz0n s = true ↔ PF s.p ∧ (0 ≤ s.tenant ∧ s.tenant < 64) ∧ (0 ≤ s.thread ∧ s.thread < s.p.threads) := by
  unfold D.zz0n
  rw [← zz7q]
  cases D.zz0v s.p <;> cases h1 : decide (s.tenant ≥ 0) <;> cases h2 : decide (s.tenant < 64) <;> cases h3 : decide (s.thread ≥ 0) <;> (try simp_all) <;> (try omega)

/-- The words hold the same but for one place. -/
def Put1 (ws ws' : List Int) (a v : Int) : Prop := ws'.length = ws.length ∧ ∀ j, 0 ≤ j → rd ws' j = if j = a then v else rd ws j

def Eq1 (ws ws' : List Int) : Prop := ws'.length = ws.length ∧ ∀ j, 0 ≤ j → rd ws' j = rd ws j

/-- The place of a thread's first hazard. -/
def hp0 (p : Plan) (t : Int) : Int := D.zz0f p + t * 3

/-- The place of a node's field. -/
def fp (p : Plan) (n f : Int) : Int := sp p n + 2 + f

section
variable {s : Seat} (hs : D.zz0n s = true) {ws : List Int} (hl : Len s.p ws) {w f : Int} {h : Handle} (hm : D.zz08 w s.tenant s.p.nodes = (h, true)) (hn : 0 ≤ h.index ∧ h.index < s.p.nodes)
include hs hl hm hn
theorem zzg4 (hf : 0 ≤ f ∧ f < 3) {do_ : Int → (Int → T Res) → T Res} (hx : rd ws (sp s.p h.index) ≠ D.zz07 (D.zz13 h)) : Runs (D.zz29 s w f do_) ws 1 ⟨3, 0⟩ ws := by
  obtain ⟨hp, _, _⟩ := zz3d.1 hs
  obtain ⟨q1, q2, q3⟩ := sp_in hp hn
  unfold Len at hl
  unfold D.zz29
  rw [hs, hm, show decide (f < 0) = false from by simp; omega, show decide (f ≥ 3) = false from by simp; omega]
  simp only [Bool.not_true, cond_false]
  rw [q3]
  refine zz6p (by omega) (by omega) ?_
  unfold D.zz44
  rw [show (rd ws (sp s.p h.index) != D.zz07 (D.zz13 h)) = true from by simpa using hx]
  exact .done _ _

theorem hp0_in : 0 < hp0 s.p s.thread ∧ hp0 s.p s.thread + 3 ≤ D.zz0j s.p ∧ D.zz0j s.p < D.zz04 s.p ∧ D.zz04 s.p ≤ sp s.p h.index ∧ sp s.p h.index + 5 ≤ D.zz0s s.p := by
  obtain ⟨hp, _, ht⟩ := zz3d.1 hs
  obtain ⟨g1, g2, g3, g4⟩ := hz_in hp
  unfold hp0 sp
  omega

theorem zzae (hf : 0 ≤ f ∧ f < 3) {do_ : Int → (Int → T Res) → T Res} (hx : rd ws (sp s.p h.index) = D.zz07 (D.zz13 h)) {m : Nat} {r : Res} {ws' : List Int}
    (hr : Runs (do_ (fp s.p h.index f) (fun x => D.zz27 (fun x => D.zz3k s x) x)) (ws.set (hp0 s.p s.thread).toNat (h.index + 1)) m r ws') : Runs (D.zz29 s w f do_) ws (m + 3) r ws' := by
  obtain ⟨hp, _, ht⟩ := zz3d.1 hs
  obtain ⟨q1, q2, q3⟩ := sp_in hp hn
  obtain ⟨z1, z2, z3, z4, z5⟩ := hp0_in hs hl hm hn
  have hN := zz2b hp
  have hnn := hp.n2
  have hl0 := hl
  unfold Len at hl
  unfold D.zz29
  rw [hs, hm, show decide (f < 0) = false from by simp; omega, show decide (f ≥ 3) = false from by simp; omega]
  simp only [Bool.not_true, cond_false]
  rw [q3]
  refine zz6p (by omega) (by omega) ?_
  unfold D.zz44
  rw [show (rd ws (sp s.p h.index) != D.zz07 (D.zz13 h)) = false from by simpa using hx]
  simp only [cond_false]
  have h1 := zze1 hp hl0 ht (s := 0) (n := h.index) (by omega) (by omega)
  rw [show D.zz0f s.p + s.thread * 3 + 0 = hp0 s.p s.thread from by unfold hp0; omega] at h1
  refine (Runs.bind (g := fun _ => D.zz4d (sp s.p h.index) (D.zz07 (D.zz13 h)) (fun x => D.zz3k s x) do_ s h f) h1 (m := m + 1) ?_).cast (by omega)
  unfold D.zz4d
  refine zz6p (by omega) (by rw [List.length_set]; omega) ?_
  rw [rd_set (by omega) (by omega) (by omega), if_neg (by omega)]
  unfold D.zz3j
  rw [show (rd ws (sp s.p h.index) != D.zz07 (D.zz13 h)) = false from by simpa using hx, fl_at hp hn hf]
  exact hr
omit hm in

theorem zz8x {u : List Int} (hu : u.length = ws.length) {v : Int} : Runs (D.zz27 (fun x => D.zz3k s x) v) u 1 ⟨0, v⟩ (u.set (hp0 s.p s.thread).toNat 0) := by
  obtain ⟨hp, _, ht⟩ := zz3d.1 hs
  unfold D.zz27 D.zz3k
  have h1 := zze1 hp (ws := u) (by unfold Len at *; omega) ht (s := 0) (n := -1) (by omega) (by omega)
  rw [show D.zz0f s.p + s.thread * 3 + 0 = hp0 s.p s.thread from by unfold hp0; omega] at h1
  refine (Runs.bind (g := fun _ => D.zz6z ⟨0, v⟩) h1 (m := 0) ?_).cast (by omega)
  exact .done _ _

theorem zzfm (hf : 0 ≤ f ∧ f < 3) (hz : rd ws (hp0 s.p s.thread) = 0) (hx : rd ws (sp s.p h.index) = D.zz07 (D.zz13 h)) : ∃ ws', Runs (D.zz91 s w f) ws 5 ⟨0, rd ws (fp s.p h.index f)⟩ ws' ∧ Eq1 ws ws' := by
  obtain ⟨z1, z2, z3, z4, z5⟩ := hp0_in hs hl hm hn
  have hl0 := hl
  unfold Len at hl
  have hfp : fp s.p h.index f = sp s.p h.index + 2 + f := rfl
  refine ⟨(ws.set (hp0 s.p s.thread).toNat (h.index + 1)).set (hp0 s.p s.thread).toNat 0, ?_, by simp, fun j hj => ?_⟩
  · refine zzae hs hl0 hm hn hf hx (m := 2) ?_
    unfold D.zz8m
    refine zz6p (by omega) (by rw [List.length_set]; omega) ?_
    rw [rd_set (by omega) (by omega) (by omega), if_neg (by omega)]
    exact zz8x hs hl0 hn (by simp)
  · rw [rd_set (by omega) (by rw [List.length_set]; omega) hj, rd_set (by omega) (by omega) hj]
    split
    · rename_i e; rw [e, hz]
    · rfl

theorem zzev (hf : 0 ≤ f ∧ f < 3) (hz : rd ws (hp0 s.p s.thread) = 0) (hx : rd ws (sp s.p h.index) = D.zz07 (D.zz13 h)) (v : Int) : ∃ ws', Runs (D.zz7y s w f v) ws 5 ⟨0, 0⟩ ws' ∧ Put1 ws ws' (fp s.p h.index f) v := by
  obtain ⟨z1, z2, z3, z4, z5⟩ := hp0_in hs hl hm hn
  have hl0 := hl
  unfold Len at hl
  have hfp : fp s.p h.index f = sp s.p h.index + 2 + f := rfl
  refine ⟨((ws.set (hp0 s.p s.thread).toNat (h.index + 1)).set (fp s.p h.index f).toNat v).set (hp0 s.p s.thread).toNat 0, ?_, by simp, fun j hj => ?_⟩
  · refine zzae hs hl0 hm hn hf hx (m := 2) ?_
    unfold D.zz7f
    refine zzea (by omega) (by rw [List.length_set]; omega) ?_
    unfold D.zz6g
    exact zz8x hs hl0 hn (by simp)
  · rw [rd_set (by omega) (by simp; omega) hj, rd_set (by omega) (by simp; omega) hj, rd_set (by omega) (by omega) hj]
    by_cases e : j = hp0 s.p s.thread
    · rw [if_pos e, if_neg (by omega), e, hz]
    · rw [if_neg e, if_neg e]

theorem zzfh (hf : 0 ≤ f ∧ f < 3) (hz : rd ws (hp0 s.p s.thread) = 0) (hx : rd ws (sp s.p h.index) = D.zz07 (D.zz13 h)) (was v : Int) :
    (rd ws (fp s.p h.index f) = was → ∃ ws', Runs (D.zz7c s w f was v) ws 5 ⟨0, 1⟩ ws' ∧ Put1 ws ws' (fp s.p h.index f) v) ∧ (rd ws (fp s.p h.index f) ≠ was → ∃ ws', Runs (D.zz7c s w f was v) ws 5 ⟨0, 0⟩ ws' ∧ Eq1 ws ws') := by
  obtain ⟨z1, z2, z3, z4, z5⟩ := hp0_in hs hl hm hn
  have hl0 := hl
  unfold Len at hl
  have hfp : fp s.p h.index f = sp s.p h.index + 2 + f := rfl
  have hr : rd (ws.set (hp0 s.p s.thread).toNat (h.index + 1)) (fp s.p h.index f) = rd ws (fp s.p h.index f) := by rw [rd_set (by omega) (by omega) (by omega), if_neg (by omega)]
  constructor
  · intro e
    refine ⟨((ws.set (hp0 s.p s.thread).toNat (h.index + 1)).set (fp s.p h.index f).toNat v).set (hp0 s.p s.thread).toNat 0, ?_, by simp, fun j hj => ?_⟩
    · refine zzae hs hl0 hm hn hf hx (m := 2) ?_
      unfold D.zz6t
      refine zzb9 (by omega) (by rw [List.length_set]; omega) ?_
      rw [hr, if_pos e, show (rd ws (fp s.p h.index f) == was) = true from by simpa using e]
      unfold D.zz3p
      exact zz8x hs hl0 hn (by simp)
    · rw [rd_set (by omega) (by simp; omega) hj, rd_set (by omega) (by simp; omega) hj, rd_set (by omega) (by omega) hj]
      by_cases e : j = hp0 s.p s.thread
      · rw [if_pos e, if_neg (by omega), e, hz]
      · rw [if_neg e, if_neg e]
  · intro e
    refine ⟨(ws.set (hp0 s.p s.thread).toNat (h.index + 1)).set (hp0 s.p s.thread).toNat 0, ?_, by simp, fun j hj => ?_⟩
    · refine zzae hs hl0 hm hn hf hx (m := 2) ?_
      unfold D.zz6t
      refine zzb9 (by omega) (by rw [List.length_set]; omega) ?_
      rw [hr, if_neg e, show (rd ws (fp s.p h.index f) == was) = false from by simpa using e]
      unfold D.zz3p
      exact zz8x hs hl0 hn (by simp)
    · rw [rd_set (by omega) (by rw [List.length_set]; omega) hj, rd_set (by omega) (by omega) hj]
      split
      · rename_i e; rw [e, hz]
      · rfl

end
end Go.Proofs.YtjkinpbfmihhdaaGreat

/- Nodes by handles, alone: granting and dropping; what is laid out at first. -/
set_option linter.unusedVariables false
namespace Go.Proofs.YtjkinpbfmihhdaaGreat
open Go.RowKit

theorem PoolAt.start {p : Plan} (hp : PF p) {ws : List Int} (h : LaidAt p ws) {t : Int} (ht : 0 ≤ t ∧ t < p.threads) : PoolAt p t ws ⟨allN p, [], fun _ => ⟨0, 0, 0⟩⟩ 0 := by
  have hN := zz2b hp
  have hF := zzdx hp h
  refine ⟨hF, zzej hp h ht, List.nodup_nil, fun _ h => (by cases h), fun n n0 n1 => zzcx hp h ⟨n0, n1⟩, fun j j0 j1 => laid_hz hp h j0 j1, fun n f hn f0 f1 => ?_⟩
  have hr := hF.range n hn
  exact h.zero _ (by unfold sp; omega) fun m _ _ => by unfold sp; omega

section
variable {s : Seat} (hs : D.zz0n s = true) (hnn : s.p.nodes ≤ 1000) {ws : List Int} {P : Pool} {g : Int} (h : PoolAt s.p s.thread ws P g) (hg : g < 900000)
include hs hnn h hg
theorem zzfy (J : Nat) (hJ : 1100 < J) : ∃ (m : Nat) (ws' : List Int) (g' : Int), m ≤ 70 * P.rt.length + 10 ∧ g' ≤ g + P.rt.length + 1 ∧
    Runs (D.zz36 J s) ws m (if (P.grant s.p.gen 0).2.e = 0 then ⟨0, D.zz0u ⟨(P.grant s.p.gen 0).2.node, (P.grant s.p.gen 0).2.gen, s.tenant⟩⟩ else ⟨(P.grant s.p.gen 0).2.e, 0⟩) ws' ∧ PoolAt s.p s.thread ws' (P.grant s.p.gen 0).1 g' ∧ KeptP s.p s.thread P ws ws' := by
  obtain ⟨hp, _, ht⟩ := zz3d.1 hs
  obtain ⟨m, ws', g', hm, hg', hr, hP, hk⟩ := h.grant hp hnn ht (k := 0) (by omega) hg J hJ
  refine ⟨m, ws', g', hm, hg', ?_, hP, hk⟩
  unfold D.zz36
  rw [hs]
  simp only [Bool.not_true, cond_false]
  refine (Runs.bind (g := fun x => D.zz52 s x) hr (m := 0) ?_).cast (by omega)
  unfold D.zz52
  split
  · rename_i e
    rw [show ((P.grant s.p.gen 0).2.e != 0) = false from by simpa using e]
    exact .done _ _
  · rename_i e
    rw [show ((P.grant s.p.gen 0).2.e != 0) = true from by simpa using e]
    exact .done _ _

theorem zzfl (J : Nat) (hJ : 1100 < J) {w : Int} {hd : Handle} (hm : D.zz08 w s.tenant s.p.nodes = (hd, true)) (hn : 0 ≤ hd.index ∧ hd.index < s.p.nodes) (hgn : 0 ≤ hd.gen ∧ hd.gen ≤ 1073741823) (hx : P.st hd.index = ⟨hd.gen, 1, 0⟩) (hnr : hd.index ∉ P.rt) (hnf : hd.index ∉ P.fr) :
    ∃ (m : Nat) (ws' : List Int) (g' : Int), m ≤ 70 * P.rt.length + 12 ∧ g' ≤ g + P.rt.length ∧ Runs (D.zz3a J s w) ws m ⟨0, 0⟩ ws' ∧
      PoolAt s.p s.thread ws' ((⟨P.fr, P.rt, fun q => if q = hd.index then ⟨hd.gen, 2, 0⟩ else P.st q⟩ : Pool).stash s.p.retire s.p.gen hd.index) g' ∧ ws'.length = ws.length ∧
      ∀ j, 0 < j → (∀ n, n ∈ P.fr ∨ n ∈ P.rt → ¬ ofNode s.p n j) → ¬ (rb s.p s.thread ≤ j ∧ j < rb s.p s.thread + 1 + s.p.retire) → j ≠ sp s.p hd.index → rd ws' j = rd ws j := by
  obtain ⟨hp, _, ht⟩ := zz3d.1 hs
  obtain ⟨q1, q2, q3⟩ := sp_in hp hn
  obtain ⟨p1, p2, p3⟩ := rb_in hp ht
  obtain ⟨z1, z2, z3, z4⟩ := hz_in hp
  have hN := zz2b hp
  have hl := h.free.len
  have hst := (h.st hd.index hn.1 hn.2)
  have hwd : rd ws (sp s.p hd.index) = D.zz07 ⟨hd.gen, 1, 0⟩ := by rw [hst.1, hx]
  have hsp : D.zz04 s.p ≤ sp s.p hd.index := by unfold sp; omega
  generalize hu : ws.set (sp s.p hd.index).toNat (D.zz07 ⟨hd.gen, 2, 0⟩) = u
  have hul : u.length = ws.length := by rw [← hu, List.length_set]
  have hur : ∀ j, 0 ≤ j → rd u j = if j = sp s.p hd.index then D.zz07 ⟨hd.gen, 2, 0⟩ else rd ws j := fun j hj => by rw [← hu]; exact rd_set (by omega) (by omega) hj
  have hPu : PoolAt s.p s.thread u ⟨P.fr, P.rt, fun q => if q = hd.index then ⟨hd.gen, 2, 0⟩ else P.st q⟩ g := by
    refine h.keep hp ht hul (by rw [hur 0 (by omega), if_neg (by omega)]) (fun j j0 j1 => by rw [hur j (by omega), if_neg (by omega)]) (fun n f hn' f0 f1 => ?_) (fun j j0 j1 => by rw [hur _ (by omega), if_neg (by omega)]) (fun n n0 n1 => ?_)
    · have hr := h.free.range n hn'
      have hne : n ≠ hd.index := fun e => hnf (e ▸ hn')
      rw [hur _ (by unfold sp; omega), if_neg (by unfold sp; omega)]
    · by_cases e : n = hd.index
      · subst e
        show StAt s.p u hd.index (if hd.index = hd.index then _ else _)
        rw [if_pos rfl]
        refine ⟨by rw [hur _ (by omega), if_pos rfl], hgn.1, hgn.2, by show (0 : Int) ≤ 2; omega, by show (2 : Int) ≤ 3; omega, by show (0 : Int) ≤ 0; omega, by show (0 : Int) ≤ 2; omega⟩
      · show StAt s.p u n (if n = hd.index then _ else _)
        rw [if_neg e]
        have := h.st n n0 n1
        exact ⟨by rw [hur _ (by unfold sp; omega), if_neg (by unfold sp; omega)]; exact this.1, this.2⟩
  obtain ⟨m, ws', g', hm', hg', hr, hP, hk⟩ := hPu.stash hp hnn ht hn hnr hnf hg J hJ
  refine ⟨m + 2, ws', g', by simp only at hm'; omega, hg', ?_, hP, by rw [hk.1, hul], fun j j0 h1 h2 h3 => ?_⟩
  · unfold D.zz3a
    rw [hs, hm]
    simp only [Bool.not_true, cond_false]
    rw [q3]
    refine zz6p (n := m + 1) (by omega) (by omega) ?_
    unfold D.zz43
    rw [hwd]
    rw [show (D.zz07 ⟨hd.gen, 1, 0⟩ != D.zz07 (D.zz13 hd)) = false from by simp [D.zz13]]
    simp only [cond_false]
    refine zzb9 (by omega) (by omega) ?_
    rw [hwd, if_pos rfl, show (D.zz07 ⟨hd.gen, 1, 0⟩ == D.zz07 ⟨hd.gen, 1, 0⟩) = true from by simp]
    unfold D.zz3o
    simp only [Bool.not_true, cond_false]
    have hu' : ws.set (sp s.p hd.index).toNat (D.zz07 (D.zz1n (D.zz13 hd))) = u := hu
    rw [hu']
    refine (Runs.bind (g := fun x => D.zz4l x) hr (m := 0) ?_).cast (by omega)
    exact .done _ _
  · rw [hk.2 j j0 h1 h2, hur j (by omega), if_neg h3]

end
end Go.Proofs.YtjkinpbfmihhdaaGreat

/- Nodes by handles, alone: whatever operations are done, by whatever words. -/
set_option linter.unusedVariables false
set_option linter.unusedSectionVars false
namespace Go.Proofs.YtjkinpbfmihhdaaGreat
open Go.RowKit

theorem zzfb {P : Pool} {m n : Int} (hd : P.rt.Nodup) (h : n ∈ (P.scan m).fr) : (n ∈ P.rt ∧ (D.zz0g (P.st n) m).mode ≠ 3) ∨ n ∈ P.fr := by
  unfold Pool.scan at h
  rw [back_fr m _ _ (List.pairwise_reverse.2 (hd.imp fun h e => h e.symm))] at h
  have : ∀ (k L : List Int), n ∈ k.foldl (fun l n => if (D.zz0g (P.st n) m).mode = 3 then l else n :: l) L → (n ∈ k ∧ (D.zz0g (P.st n) m).mode ≠ 3) ∨ n ∈ L := by
    intro k
    induction k with
    | nil => exact fun L h => .inr h
    | cons a k ih =>
      intro L h
      rcases ih _ h with h | h
      · exact .inl ⟨List.mem_cons_of_mem _ h.1, h.2⟩
      · replace h : n ∈ (if (D.zz0g (P.st a) m).mode = 3 then L else a :: L) := h
        split at h
        · exact .inr h
        · rename_i hne
          rcases List.mem_cons.1 h with rfl | h
          · exact .inl ⟨List.mem_cons_self .., hne⟩
          · exact .inr h
  rcases this _ _ h with h | h
  · exact .inl ⟨List.mem_reverse.1 h.1, h.2⟩
  · exact .inr h

theorem zzeh (s : State) (m : Int) : (D.zz0g s m).mode = 3 ∨ (D.zz0g s m).mode = 0 := by
  unfold D.zz0g
  cases decide (s.gen ≥ m)
  · exact .inr rfl
  · exact .inl rfl

theorem scan_rt (P : Pool) (m : Int) : (P.scan m).rt = [] := back_rt _ _ _

/-- What is free is free, what is retired is retired. -/
structure ModesP (P : Pool) : Prop where
  mf : ∀ n, n ∈ P.fr → (P.st n).mode = 0
  mr : ∀ n, n ∈ P.rt → (P.st n).mode = 2

theorem ModesP.scan {P : Pool} (h : ModesP P) (hd : P.rt.Nodup) (m : Int) : ModesP (P.scan m) := by
  refine ⟨fun n hn => ?_, fun n hn => by rw [scan_rt] at hn; cases hn⟩
  have hst : (P.scan m).st n = if n ∈ P.rt then D.zz0g (P.st n) m else P.st n := by
    unfold Pool.scan
    rw [back_st _ _ _ (List.pairwise_reverse.2 (hd.imp fun h e => h e.symm))]
    simp only [List.mem_reverse]
  rw [hst]
  rcases zzfb hd hn with ⟨h1, h2⟩ | h1
  · rw [if_pos h1]
    exact (zzeh _ _).resolve_left h2
  · by_cases h2 : n ∈ P.rt
    · have := h.mr n h2
      have := h.mf n h1
      omega
    · rw [if_neg h2]; exact h.mf n h1

theorem ModesP.out {P : Pool} (h : ModesP P) (hn : P.fr.Nodup) (hd : ∀ n, n ∈ P.rt → n ∉ P.fr) (k : Int) : ModesP (P.out k).1 := by
  obtain ⟨fr, rt, st⟩ := P
  cases fr with
  | nil => exact h
  | cons n l =>
    have hnl := (List.nodup_cons.1 hn).1
    refine ⟨fun q hq => ?_, fun q hq => ?_⟩
    · have hne : q ≠ n := fun e => hnl (e ▸ hq)
      show (if q = n then _ else st q).mode = 0
      rw [if_neg hne]
      exact h.mf q (List.mem_cons_of_mem _ hq)
    · have hne : q ≠ n := fun e => hd q hq (e ▸ List.mem_cons_self ..)
      show (if q = n then _ else st q).mode = 2
      rw [if_neg hne]
      exact h.mr q hq

theorem ModesP.stash {P : Pool} (h : ModesP P) (hd : P.rt.Nodup) {room m n : Int} (hn : (P.st n).mode = 2) (hr : n ∉ P.rt) : ModesP (P.stash room m n) := by
  unfold Pool.stash
  split
  · refine ⟨h.mf, fun q hq => ?_⟩
    rcases List.mem_append.1 hq with hq | hq
    · exact h.mr q hq
    · rw [List.mem_singleton.1 hq]; exact hn
  · have hs := h.scan hd m
    refine ⟨hs.mf, fun q hq => ?_⟩
    rcases List.mem_append.1 hq with hq | hq
    · exact hs.mr q hq
    · rw [List.mem_singleton.1 hq]
      show ((P.scan m).st n).mode = 2
      rw [scan_st hr hd]; exact hn

structure BoxAt (p : Plan) (t : Int) (ws : List Int) (P : Pool) (g : Int) : Prop where
  pool : PoolAt p t ws P g
  modes : ModesP P

theorem swd_inj {s t : State} (hs : SF s) (ht : SF t) (h : D.zz07 s = D.zz07 t) : s = t := by
  rw [zzc3 hs, zzc3 ht] at h
  unfold swd at h
  obtain ⟨a, b, c⟩ := s
  obtain ⟨a', b', c'⟩ := t
  obtain ⟨h1, h2, h3, h4, h5, h6⟩ := hs
  obtain ⟨k1, k2, k3, k4, k5, k6⟩ := ht
  simp only at *
  have e1 : a = a' := by omega
  have e2 : b = b' := by omega
  have e3 : c = c' := by omega
  rw [e1, e2, e3]

theorem zzff (h : Handle) : U64 (D.zz0u h) := by
  cases hf : D.zz0w h
  · have : St.D.zz0u 10 h = some 0 := by
      unfold St.D.zz0u
      rw [hf]; rfl
    unfold D.zz0u
    rw [this]
    exact ⟨by decide, by decide⟩
  · have hF : HF h := by
      unfold D.zz0w at hf
      cases h1 : decide (h.index ≥ 0) <;> rw [h1] at hf
      · cases hf
      cases h2 : decide (h.index < 1048576) <;> rw [h2] at hf
      · cases hf
      cases h3 : decide (h.gen ≥ 0) <;> rw [h3] at hf
      · cases hf
      cases h4 : decide (h.gen ≤ 1073741823) <;> rw [h4] at hf
      · cases hf
      cases h5 : decide (h.tenant ≥ 0) <;> rw [h5] at hf
      · cases hf
      simp only [decide_eq_true_eq] at h1 h2 h3 h4 h5
      have h6 : h.tenant < 64 := by simpa using hf
      exact ⟨h1, h2, h3, h4, h5, h6⟩
    rw [zzfe hF]
    obtain ⟨h1, h2, h3, h4, h5, h6⟩ := hF
    exact ⟨by omega, by omega⟩

theorem live_SF {h : Handle} (hg : 0 ≤ h.gen ∧ h.gen ≤ 1073741823) : SF (D.zz13 h) := ⟨hg.1, hg.2, by show (0 : Int) ≤ 1; omega, by show (1 : Int) ≤ 3; omega, by show (0 : Int) ≤ 0; omega, by show (0 : Int) ≤ 2; omega⟩

/-- A field of a node that isn't free is changed. -/
theorem PoolAt.putf {p : Plan} (hp : PF p) {t : Int} (ht : 0 ≤ t ∧ t < p.threads) {ws ws' : List Int} {P : Pool} {g n f : Int} (h : PoolAt p t ws P g) (hn : 0 ≤ n ∧ n < p.nodes) (hnf : n ∉ P.fr) (hf : 0 ≤ f ∧ f < 3) (hl : ws'.length = ws.length)
    (ho : ∀ j, 0 ≤ j → j ≠ fp p n f → rd ws' j = rd ws j) : PoolAt p t ws' P g := by
  obtain ⟨z1, z2, z3, z4⟩ := hz_in hp
  obtain ⟨p1, p2, p3⟩ := rb_in hp ht
  have hfp : fp p n f = D.zz04 p + n * 5 + 2 + f := rfl
  refine h.keep hp ht (st := P.st) hl (ho 0 (by omega) (by omega)) (fun j j0 j1 => ho j (by omega) (by omega)) (fun q e hq e0 e1 => ?_) (fun j j0 j1 => ho _ (by omega) (by omega)) (fun q q0 q1 => ?_)
  · have hr := h.free.range q hq
    have hne : q ≠ n := fun e => hnf (e ▸ hq)
    exact ho _ (by unfold sp; omega) (by unfold sp; omega)
  · have := h.st q q0 q1
    exact ⟨by rw [ho _ (by unfold sp; omega) (by unfold sp; omega)]; exact this.1, this.2⟩

theorem PoolAt.same {p : Plan} (hp : PF p) {t : Int} (ht : 0 ≤ t ∧ t < p.threads) {ws ws' : List Int} {P : Pool} {g : Int} (h : PoolAt p t ws P g) (he : Eq1 ws ws') : PoolAt p t ws' P g := by
  obtain ⟨z1, z2, z3, z4⟩ := hz_in hp
  obtain ⟨p1, p2, p3⟩ := rb_in hp ht
  refine h.keep hp ht (st := P.st) he.1 (he.2 0 (by omega)) (fun j j0 j1 => he.2 j (by omega)) (fun q e hq e0 e1 => ?_) (fun j j0 j1 => he.2 _ (by omega)) (fun q q0 q1 => ?_)
  · have hr := h.free.range q hq
    exact he.2 _ (by unfold sp; omega)
  · have := h.st q q0 q1
    exact ⟨by rw [he.2 _ (by unfold sp; omega)]; exact this.1, this.2⟩

theorem BoxAt.put {p : Plan} (hp : PF p) {t : Int} (ht : 0 ≤ t ∧ t < p.threads) {ws ws' : List Int} {P : Pool} {g n f : Int} (h : BoxAt p t ws P g) (hn : 0 ≤ n ∧ n < p.nodes) (hnf : n ∉ P.fr) (hf : 0 ≤ f ∧ f < 3) (hl : ws'.length = ws.length)
    (ho : ∀ j, 0 ≤ j → j ≠ fp p n f → rd ws' j = rd ws j) : BoxAt p t ws' P g := ⟨h.pool.putf hp ht hn hnf hf hl ho, h.modes⟩

theorem BoxAt.same {p : Plan} (hp : PF p) {t : Int} (ht : 0 ≤ t ∧ t < p.threads) {ws ws' : List Int} {P : Pool} {g : Int} (h : BoxAt p t ws P g) (he : Eq1 ws ws') : BoxAt p t ws' P g := ⟨h.pool.same hp ht he, h.modes⟩

section
variable {s : Seat} (hs : D.zz0n s = true) (hnn : s.p.nodes ≤ 40) (hrr : s.p.retire ≤ 40) {ws : List Int} {P : Pool} {g : Int} (h : BoxAt s.p s.thread ws P g) (hg : g < 800000)
include hs hnn hrr h hg
theorem box_new (J : Nat) (hJ : 1100 < J) : ∃ (m : Nat) (r : Res) (ws' : List Int) (P' : Pool) (g' : Int), m ≤ 3000 ∧ g' ≤ g + 50 ∧ Runs (D.zz36 J s) ws m r ws' ∧ BoxAt s.p s.thread ws' P' g' ∧ U64 r.v := by
  obtain ⟨hp, _, ht⟩ := zz3d.1 hs
  obtain ⟨m, ws', g', hm, hg', hr, hP, hk⟩ := zzfy hs (by omega) h.pool (by omega) J hJ
  have hrm := h.pool.ret.room
  refine ⟨m, _, ws', _, g', by omega, by omega, hr, ⟨hP, ?_⟩, ?_⟩
  · have hnod := h.pool.free.nodup
    unfold Pool.grant
    split
    · have hfr : ∀ n, n ∈ (P.scan s.p.gen).rt → n ∉ (P.scan s.p.gen).fr := fun n hn => by rw [scan_rt] at hn; cases hn
      refine (h.modes.scan h.pool.nod s.p.gen).out ?_ hfr 0
      by_cases hnil : (P.scan s.p.gen).fr = []
      · rw [hnil]; exact List.nodup_nil
      · have hsc := h.pool.scan hp (by omega) ht (by omega) J hJ
        obtain ⟨_, _, _, _, _, _, hS, _⟩ := hsc
        exact hS.free.nodup
    · exact h.modes.out hnod h.pool.dis 0
  · split
    · exact zzff _
    · exact ⟨Int.le_refl 0, by show (0 : Int) < 18446744073709551616; omega⟩

theorem box_bad (J : Nat) {w : Int} (hm : (D.zz08 w s.tenant s.p.nodes).2 = false) : Runs (D.zz3a J s w) ws 0 ⟨3, 0⟩ ws := by
  unfold D.zz3a
  rw [hs, hm]
  exact .done _ _

theorem zzgc (J : Nat) (hJ : 1100 < J) {w : Int} (hw : U64 w) : ∃ (m : Nat) (r : Res) (ws' : List Int) (P' : Pool) (g' : Int), m ≤ 3000 ∧ g' ≤ g + 50 ∧ Runs (D.zz3a J s w) ws m r ws' ∧ BoxAt s.p s.thread ws' P' g' := by
  obtain ⟨hp, _, ht⟩ := zz3d.1 hs
  have hrm := h.pool.ret.room
  cases hm : D.zz08 w s.tenant s.p.nodes with
  | mk hd b =>
    cases b with
    | false => exact ⟨0, _, ws, P, g, by omega, by omega, box_bad hs hnn hrr h hg J (by rw [hm]), h⟩
    | true =>
      obtain ⟨n0, n1, g0, g1⟩ := zzd2 hw hm
      obtain ⟨q1, q2, q3⟩ := sp_in hp ⟨n0, n1⟩
      have hst := h.pool.st hd.index n0 n1
      have hl := h.pool.free.len
      by_cases hx : P.st hd.index = D.zz13 hd
      · have hmode : (P.st hd.index).mode = 1 := by rw [hx]; rfl
        have hnr : hd.index ∉ P.rt := fun hc => by have := h.modes.mr _ hc; omega
        have hnf : hd.index ∉ P.fr := fun hc => by have := h.modes.mf _ hc; omega
        obtain ⟨m, ws', g', hm', hg', hr, hP, _, _⟩ := zzfl hs (by omega) h.pool (by omega) J hJ hm ⟨n0, n1⟩ ⟨g0, g1⟩ hx hnr hnf
        refine ⟨m, _, ws', _, g', by omega, by omega, hr, hP, ?_⟩
        refine ModesP.stash (P := ⟨P.fr, P.rt, fun q => if q = hd.index then ⟨hd.gen, 2, 0⟩ else P.st q⟩) ⟨fun q hq => ?_, fun q hq => ?_⟩ h.pool.nod ?_ hnr
        · have hne : q ≠ hd.index := fun e => hnf (e ▸ hq)
          show (if q = hd.index then _ else P.st q).mode = 0
          rw [if_neg hne]; exact h.modes.mf q hq
        · have hne : q ≠ hd.index := fun e => hnr (e ▸ hq)
          show (if q = hd.index then _ else P.st q).mode = 2
          rw [if_neg hne]; exact h.modes.mr q hq
        · show (if hd.index = hd.index then (⟨hd.gen, 2, 0⟩ : State) else P.st hd.index).mode = 2
          rw [if_pos rfl]
      · refine ⟨1, ⟨3, 0⟩, ws, P, g, by omega, by omega, ?_, h⟩
        have hne : rd ws (sp s.p hd.index) ≠ D.zz07 (D.zz13 hd) := fun e => hx (swd_inj hst.2 (live_SF ⟨g0, g1⟩) (hst.1.symm.trans e))
        unfold D.zz3a
        rw [hs, hm]
        simp only [Bool.not_true, cond_false]
        rw [q3]
        refine zz6p (by omega) (by omega) ?_
        unfold D.zz43
        rw [show (rd ws (sp s.p hd.index) != D.zz07 (D.zz13 hd)) = true from by simpa using hne]
        exact .done _ _

/-- Operations on fields: whatever they do with a field of a node that is live. -/
theorem zzde {w f : Int} (hw : U64 w) {do_ : Int → (Int → T Res) → T Res}
    (hdo : ∀ hd, D.zz08 w s.tenant s.p.nodes = (hd, true) → (0 ≤ hd.index ∧ hd.index < s.p.nodes) → (0 ≤ f ∧ f < 3) → rd ws (hp0 s.p s.thread) = 0 → rd ws (sp s.p hd.index) = D.zz07 (D.zz13 hd) → ∃ r ws', Runs (D.zz29 s w f do_) ws 5 r ws' ∧ ws'.length = ws.length ∧ ∀ j, 0 ≤ j → j ≠ fp s.p hd.index f → rd ws' j = rd ws j) :
    ∃ (m : Nat) (r : Res) (ws' : List Int) (P' : Pool) (g' : Int), m ≤ 3000 ∧ g' ≤ g + 50 ∧ Runs (D.zz29 s w f do_) ws m r ws' ∧ BoxAt s.p s.thread ws' P' g' := by
  obtain ⟨hp, _, ht⟩ := zz3d.1 hs
  by_cases hf : 0 ≤ f ∧ f < 3
  · cases hm : D.zz08 w s.tenant s.p.nodes with
    | mk hd b =>
      cases b with
      | false =>
        refine ⟨0, ⟨3, 0⟩, ws, P, g, by omega, by omega, ?_, h⟩
        unfold D.zz29
        rw [hs, hm, show decide (f < 0) = false from by simp; omega, show decide (f ≥ 3) = false from by simp; omega]
        exact .done _ _
      | true =>
        obtain ⟨n0, n1, g0, g1⟩ := zzd2 hw hm
        have hst := h.pool.st hd.index n0 n1
        have hl := h.pool.free.len
        by_cases hx : P.st hd.index = D.zz13 hd
        · have hmode : (P.st hd.index).mode = 1 := by rw [hx]; rfl
          have hnf : hd.index ∉ P.fr := fun hc => by have := h.modes.mf _ hc; omega
          have hz : rd ws (hp0 s.p s.thread) = 0 := by
            have := h.pool.hz (s.thread * 3) (by omega) (by omega)
            exact this
          obtain ⟨r, ws', hr, hl', ho⟩ := hdo hd hm ⟨n0, n1⟩ hf hz (by rw [hst.1, hx])
          exact ⟨5, r, ws', P, g, by omega, by omega, hr, h.put hp ht ⟨n0, n1⟩ hnf hf hl' ho⟩
        · have hne : rd ws (sp s.p hd.index) ≠ D.zz07 (D.zz13 hd) := fun e => hx (swd_inj hst.2 (live_SF ⟨g0, g1⟩) (hst.1.symm.trans e))
          exact ⟨1, ⟨3, 0⟩, ws, P, g, by omega, by omega, zzg4 hs hl hm ⟨n0, n1⟩ hf hne, h⟩
  · refine ⟨0, ⟨1, 0⟩, ws, P, g, by omega, by omega, ?_, h⟩
    unfold D.zz29
    rw [hs]
    simp only [Bool.not_true, cond_false]
    cases h1 : decide (f < 0)
    · simp only [decide_eq_false_iff_not] at h1
      rw [show decide (f ≥ 3) = true from by simp; omega]
      exact .done _ _
    · exact .done _ _

theorem zzfu (J : Nat) (hJ : 1100 < J) (o : OpR) (hw : U64 o.h) : ∃ (m : Nat) (r : Res) (ws' : List Int) (P' : Pool) (g' : Int), m ≤ 3000 ∧ g' ≤ g + 50 ∧ Runs (D.zz18 J s o) ws m r ws' ∧ BoxAt s.p s.thread ws' P' g' ∧ ((o.code == 1) = true → U64 r.v) := by
  have hl := h.pool.free.len
  unfold D.zz18
  cases c1 : (o.code == 1)
  case true =>
    obtain ⟨m, r, ws', P', g', q1, q2, q3, q4, q5⟩ := box_new hs hnn hrr h hg J hJ
    exact ⟨m, r, ws', P', g', q1, q2, q3, q4, fun _ => q5⟩
  simp only [cond_false]
  have key : ∀ {t : T Res}, (∃ (m : Nat) (r : Res) (ws' : List Int) (P' : Pool) (g' : Int), m ≤ 3000 ∧ g' ≤ g + 50 ∧ Runs t ws m r ws' ∧ BoxAt s.p s.thread ws' P' g') → ∃ (m : Nat) (r : Res) (ws' : List Int) (P' : Pool) (g' : Int), m ≤ 3000 ∧ g' ≤ g + 50 ∧ Runs t ws m r ws' ∧ BoxAt s.p s.thread ws' P' g' ∧ (false = true → U64 r.v) := by
    rintro t ⟨m, r, ws', P', g', q1, q2, q3, q4⟩
    exact ⟨m, r, ws', P', g', q1, q2, q3, q4, fun h => by cases h⟩
  cases c2 : (o.code == 2)
  case true => exact key (zzgc hs hnn hrr h hg J hJ hw)
  simp only [cond_false]
  cases c3 : (o.code == 3)
  case true =>
    refine key (zzde hs hnn hrr h hg hw fun hd hm hn hf hz hx => ?_)
    obtain ⟨ws', hr, he⟩ := zzfm hs hl hm hn hf hz hx
    exact ⟨_, ws', hr, he.1, fun j j0 _ => he.2 j j0⟩
  simp only [cond_false]
  cases c4 : (o.code == 4)
  case true =>
    refine key (zzde hs hnn hrr h hg hw fun hd hm hn hf hz hx => ?_)
    obtain ⟨ws', hr, he⟩ := zzev hs hl hm hn hf hz hx o.a
    exact ⟨_, ws', hr, he.1, fun j j0 hne => by rw [he.2 j j0, if_neg hne]⟩
  simp only [cond_false]
  refine key (zzde hs hnn hrr h hg hw fun hd hm hn hf hz hx => ?_)
  obtain ⟨y1, y2⟩ := zzfh hs hl hm hn hf hz hx o.a o.b
  by_cases e : rd ws (fp s.p hd.index o.f) = o.a
  · obtain ⟨ws', hr, he⟩ := y1 e
    exact ⟨_, ws', hr, he.1, fun j j0 hne => by rw [he.2 j j0, if_neg hne]⟩
  · obtain ⟨ws', hr, he⟩ := y2 e
    exact ⟨_, ws', hr, he.1, fun j j0 _ => he.2 j j0⟩

end
end Go.Proofs.YtjkinpbfmihhdaaGreat
