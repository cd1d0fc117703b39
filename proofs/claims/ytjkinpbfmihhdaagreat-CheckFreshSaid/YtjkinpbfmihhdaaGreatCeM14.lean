/- Some of our texts, one behind the other. -/
import Derived.Test.YtjkinpbfmihhdaaGreatCeM4
import Derived.Test.YtjkinpbfmihhdaaGreatCeChecks
import Derived.Test.YtjkinpbfmihhdaaGreatCeM11
import Derived.Test.YtjkinpbfmihhdaaGreatCeM12
import Derived.Test.YtjkinpbfmihhdaaGreatCeM10
set_option linter.all false
/- A region that draws its order, with stores into two cells of ours beside values. -/
namespace Go.Proofs.YtjkinpbfmihhdaaGreat
open Go.RowKit

/-- What an operation comes to: a value, or a store into the k-th of some old blocks. -/
inductive FP where
  | val (c : Value)
  | put (k : Nat) (c : Array Value) (T : TypeId)

def FP.v : FP → Value
  | .val c => c
  | .put _ _ _ => undef

def FP.slot : FP → Option Nat
  | .put k _ _ => some k
  | .val _ => none

def FP.mk (bs : List Nat) (w' w'' : World) : FP → Prop
  | .val _ => Below w'.heap.size w' w''
  | .put k c T => ∃ b, bs[k]? = some b ∧ Upd w' w'' b (.cells c T (0, 0))

def fct : List FP → Nat → FP
  | [], _ => .val undef
  | f :: _, 0 => f
  | _ :: l, n + 1 => fct l n

section
variable {P : Program} {Q : Exit → Act → World → Prop} {L : List Oper} {a : Act} {w : World} {fl : List FP} {bs : List Nat}
structure PInv (L : List Oper) (fl : List FP) (bs : List Nat) (a : Act) (w0 : World) (listed : Array Bool) (g : Nat → Value) (a' : Act) (w' : World) : Prop where
  act : a' = puts L g 0 a
  closed : ∀ i o, L[i]? = some o → listed.getD i false = true → ∀ e, e ∈ o.after → Region.binds .any e = true → listed.getD e.on false = true
  os : w'.os = w0.os
  tape : w'.tape = w0.tape
  output : w'.output = w0.output
  size : w0.heap.size ≤ w'.heap.size
  old : ∀ b, b < w0.heap.size → b ∉ bs → w'.heap[b]? = w0.heap[b]?
  vals : ∀ i, i < L.length → listed.getD i false = true → g i = (fct fl i).v
  un : ∀ k b, bs[k]? = some b → (∀ i, i < L.length → listed.getD i false = true → (fct fl i).slot ≠ some k) → w'.heap[b]? = w0.heap[b]?
  done : ∀ i k c T b, i < L.length → listed.getD i false = true → fct fl i = .put k c T → bs[k]? = some b → w'.heap[b]? = some (.cells c T (0, 0))

variable {N : Nat} {s : SL}
end
/-! ### Chunks -/
section
variable {L : List Ck} {d : Ck} {w w' w0 : World} {i i1 i2 b1 b2 : Nat} {a1 a2 c1 c2 : Array Value} {T1 T2 S1 S2 : TypeId} {Z : Nat → Prop}
end
end Go.Proofs.YtjkinpbfmihhdaaGreat

/- Written by a program of ours (wip/gen.py): layer 13 -/
set_option linter.unusedVariables false
set_option maxRecDepth 20000
set_option maxHeartbeats 2000000
namespace Go.Proofs.YtjkinpbfmihhdaaGreat
open Go.RowKit
theorem cl29 : callable Tryz.prog 29 = true := by kernel_rfl

theorem cl30 : callable Tryz.prog 30 = true := by kernel_rfl

theorem cl32 : callable Tryz.prog 32 = true := by kernel_rfl

theorem cl33 : callable Tryz.prog 33 = true := by kernel_rfl

theorem cl36 : callable Tryz.prog 36 = true := by kernel_rfl

theorem cl40 : callable Tryz.prog 40 = true := by kernel_rfl

theorem fo32_0 : fieldOff Tryz.prog 32 0 0 = true := by kernel_rfl

theorem fo32_1 : fieldOff Tryz.prog 32 1 1 = true := by kernel_rfl

def D.zz1e  : Plan := (⟨2, 1, 4, 0, 1, 1⟩ : Plan)

theorem zz5o (w0 : World) 
     :
    Calls Tryz.prog 40 #[] w0 (PureRes (.agg (planC D.zz1e).toArray) w0) := by
 refine enter Tryz.func40 rfl 2 rfl rfl fun fr r => ?_
 have hB := Below.refl w0.heap.size w0
 refine wsr ?_
 refine seq_new (.cells ((planC (⟨0, 0, 0, 0, 0, 0⟩ : Plan))).toArray 25 (0, 0)) r (fun R => y_alloc tz25) rfl fun fr b1 w2 n3 r => ?_
 obtain ⟨e_b1, z_w2, h_b1, hB, zB⟩ := n3.all hB
 refine wn ?_
 refine wsr ?_
 refine seq_val (.agg (planC (⟨2, 1, 4, 0, 1, 1⟩ : Plan)).toArray) r (fun R => y_build r (by kernel_rfl)) rfl fun fr r => ?_
 refine seq_upd (.cells ((planC (⟨2, 1, 4, 0, 1, 1⟩ : Plan))).toArray 25 (0, 0)) r (fun R => y_store r (o := 0) (v := (.agg (planC (⟨2, 1, 4, 0, 1, 1⟩ : Plan)).toArray)) rfl rfl h_b1 ts25 (Nat.le_of_ble_eq_true rfl) rfl rfl) rfl fun fr w4 u5 r => ?_
 have z_w4 := u5.size
 have h_b1 := u5.at_
 obtain ⟨hB, zB⟩ := u5.on hB (by omega)
 refine wn ?_
 refine wp_ret ?_
 refine zz0c r rfl rfl h_b1 (k := 6) rfl ta25 ?_
 exact ⟨rfl, hB⟩

def D.zz32 (fu : Nat)  : Option (Bool) := ((D.zz2w fu D.zz1e).bind (fun (x2 : Mem) => ((D.zz23 fu x2 0).bind (fun (x11 : Cap) => ((D.zz30 fu (fu, (D.zz2f (fu + 1) (⟨D.zz1e, 0, 0⟩ : Seat))) x2 x11 99).bind (fun (x13 : Res × Int × Bool × Mem) => (Option.bind (bif x13.2.2.1 then (bif (x13.1.e == 0) then (some (decide (x13.1.v > 0))) else (some false)) else (some false)) (fun (x24 : Bool) => (some x24)))))))))

theorem zz5r {fu : Nat} (w0 : World) {res : Bool} (hD : D.zz32 fu  = some res) :
    Calls Tryz.prog 27 #[] w0 (PureRes (.bool res) w0) := by
 refine enter Tryz.func27 rfl 31 rfl rfl fun fr r => ?_
 have hP : Post No [] w0 w0 := Post.nil w0
 unfold D.zz32 at hD
 refine wsr ?_
 refine seq_val (.bool false) r (fun R => zz03 r rfl) rfl fun fr r => ?_
 refine wn ?_
 refine wsr ?_
 refine zz06 r (zz5o w0 ) (fun R hc => y_call r rfl cl40 hc) rfl ?_
 rintro _ w1 ⟨rfl, hb⟩
 refine ⟨_, rfl, fun fr r => ?_⟩
 have hP : Post No [] w0 w1 := hP.below hb
 obtain ⟨x2, hx2, hD⟩ := zz0j hD
 refine zz06 r (zz64 w1 D.zz1e hx2) (fun R hc => y_call r rfl cl28 hc) rfl ?_
 rintro _ w3 ⟨mg4, rfl, hq⟩
 refine ⟨_, rfl, fun fr r => ?_⟩
 have hP : Post No [memK mg4 x2] w0 w3 := hP.add hq
 refine seq_val (.pointer (some ⟨mg4.mb, 0, none⟩)) r (fun R => zz03 r rfl) rfl fun fr r => ?_
 refine wn ?_
 refine wp_seq ?_
 refine wsr ?_
 refine seq_val (.pointer (some ⟨mg4.mb, 0, none⟩)) r (fun R => y_move r rfl) rfl fun fr r => ?_
 refine seq_val _ r (fun R => y_bin r rfl rfl rfl rfl) rfl fun fr r => ?_
 refine wn ?_
 refine wp_cond_split (t := false) (r.ev rfl) (fun h => absurd ((rfl : false = _).symm.trans h) (by decide)) (fun _ => ?_)
 refine wp_skip ?_
 refine wsr ?_
 refine zz06 r (zz5o w3 ) (fun R hc => y_call r rfl cl40 hc) rfl ?_
 rintro _ w6 ⟨rfl, hb⟩
 refine ⟨_, rfl, fun fr r => ?_⟩
 have hP : Post No [memK mg4 x2] w0 w6 := hP.below hb
 refine seq_val (.agg (seatC (⟨D.zz1e, 0, 0⟩ : Seat)).toArray) r (fun R => y_build r (by kernel_rfl)) rfl fun fr r => ?_
 refine zz06 r (c_check_New (F := No) (n := fu) (j := fu + 1) (fun _ h => h.elim) (by omega) (⟨D.zz1e, 0, 0⟩ : Seat)) (fun R hc => y_call r rfl cl30 hc) rfl ?_
 rintro _ w7 ⟨v8, rfl, hb, hr9⟩
 refine ⟨_, rfl, fun fr r => ?_⟩
 have hP : Post No [memK mg4 x2, progK Tryz.prog encRes (fu, (D.zz2f (fu + 1) (⟨D.zz1e, 0, 0⟩ : Seat))) v8 (rg w6.heap.size w7.heap.size)] w0 w7 := hP.addProg hb hr9
 refine seq_val (.pointer (some ⟨mg4.mb, 0, none⟩)) r (fun R => y_move r rfl) rfl fun fr r => ?_
 refine seq_val (.pointer (some ⟨mg4.mb, 0, none⟩)) r (fun R => y_move r rfl) rfl fun fr r => ?_
 obtain ⟨x11, hx11, hD⟩ := zz0j hD
 refine zz06 r (zz2a w7 x2 (hP.mem (i := 0) rfl) 0 hx11) (fun R hc => y_call r rfl cl31 hc) rfl ?_
 rintro _ w12 ⟨rfl, hb⟩
 refine ⟨_, rfl, fun fr r => ?_⟩
 have hP : Post No [memK mg4 x2, progK Tryz.prog encRes (fu, (D.zz2f (fu + 1) (⟨D.zz1e, 0, 0⟩ : Seat))) v8 (rg w6.heap.size w7.heap.size)] w0 w12 := hP.below hb
 obtain ⟨x13, hx13, hD⟩ := zz0j hD
 refine zz06 r (zz37 w12 (fu, (D.zz2f (fu + 1) (⟨D.zz1e, 0, 0⟩ : Seat))) x2 x11 99 (hP.sep.pk [1, 0] rfl rfl) hx13) (fun R hc => y_call r rfl cl29 hc) rfl ?_
 rintro _ w14 ⟨rfl, hq⟩
 refine ⟨_, rfl, fun fr r => ?_⟩
 have hP : Post No [memK mg4 x13.2.2.2, progK Tryz.prog encRes (fu, (D.zz2f (fu + 1) (⟨D.zz1e, 0, 0⟩ : Seat))) v8 (rg w6.heap.size w7.heap.size)] w0 w14 := hP.setN (i := 0) rfl hq
 refine seq_val (.tuple #[(.agg (resC x13.1).toArray), (I x13.2.1), (.bool x13.2.2.1)]) r (fun R => y_move r rfl) rfl fun fr r => ?_
 refine seq_val (.agg (resC x13.1).toArray) r (fun R => zz0x r (vs := #[(.agg (resC x13.1).toArray), (I x13.2.1), (.bool x13.2.2.1)]) rfl rfl) rfl fun fr r => ?_
 refine seq_val (I x13.2.1) r (fun R => zz0x r (vs := #[(.agg (resC x13.1).toArray), (I x13.2.1), (.bool x13.2.2.1)]) rfl rfl) rfl fun fr r => ?_
 refine seq_val (.bool x13.2.2.1) r (fun R => zz0x r (vs := #[(.agg (resC x13.1).toArray), (I x13.2.1), (.bool x13.2.2.1)]) rfl rfl) rfl fun fr r => ?_
 refine seq_new (.cells ((resC (⟨0, 0⟩ : Res))).toArray 32 (0, 0)) r (fun R => y_alloc tz32) rfl fun fr b15 w16 n17 r => ?_
 have hP : Post No [memK mg4 x13.2.2.2, progK Tryz.prog encRes (fu, (D.zz2f (fu + 1) (⟨D.zz1e, 0, 0⟩ : Seat))) v8 (rg w6.heap.size w7.heap.size), cellC b15 ((resC (⟨0, 0⟩ : Res))).toArray 32] w0 w16 := hP.new n17
 refine seq_upd (.cells ((resC x13.1)).toArray 32 (0, 0)) r (fun R => y_store r (o := 0) (v := (.agg (resC x13.1).toArray)) rfl rfl (hP.cell (i := 2) rfl) ts32 (Nat.le_of_ble_eq_true rfl) rfl rfl) rfl fun fr w19 u20 r => ?_
 have hP : Post No [memK mg4 x13.2.2.2, progK Tryz.prog encRes (fu, (D.zz2f (fu + 1) (⟨D.zz1e, 0, 0⟩ : Seat))) v8 (rg w6.heap.size w7.heap.size), cellC b15 ((resC x13.1)).toArray 32] w0 w19 := hP.upd (i := 2) rfl u20
 refine seq_val (I x13.2.1) r (fun R => zz03 r rfl) rfl fun fr r => ?_
 refine seq_val (.bool x13.2.2.1) r (fun R => zz03 r rfl) rfl fun fr r => ?_
 refine wn ?_
 refine wp_seq ?_
 have hP : Post No [memK mg4 x13.2.2.2, cellC b15 ((resC x13.1)).toArray 32] w0 w19 := hP.pick [0, 2] rfl rfl
 refine zz3i (N := 31) (Y := Bool) (G := Unit) (fun x γ => [(1, (.pointer (some ⟨mg4.mb, 0, none⟩))), (8, (.bool false)), (2, (.pointer (some ⟨b15, 0, none⟩))), (4, (.bool x13.2.2.1)), (0, (.bool x))]) (fun x γ w => Post No [memK mg4 x13.2.2.2, cellC b15 ((resC x13.1)).toArray 32] w0 w) hD ?_ ?_
 ·
  rintro y21 RPy21 nxy21 hD
  refine wp_region_lit ?_
  refine seq_val (.bool x13.2.2.1) r (fun R => y_move r rfl) rfl fun fr r => ?_
  refine seq_val (.bool x13.2.2.1) r (fun R => y_move r rfl) rfl fun fr r => ?_
  refine zz0q x13.2.2.1 (fun h22 => ?_) (fun h22 => ?_)
  ·
   have hD := (cond_t h22).symm.trans hD
   refine s1 r h22 ?_
   refine seq_val _ r (fun R => zz02 r (o := 0) rfl fo32_0) rfl fun fr r => ?_
   refine s1 r h22 ?_
   refine seq_val (I x13.1.e) r (fun R => zz01 r rfl (hP.cell (i := 1) rfl) to30 rfl) rfl fun fr r => ?_
   refine s1 r h22 ?_
   refine seq_val _ r (fun R => y_bin r rfl rfl rfl rfl) rfl fun fr r => ?_
   refine seq_val (.bool (x13.1.e == 0)) r (fun R => y_pick r (b := true) (congrArg Value.bool h22) rfl) rfl fun fr r => ?_
   refine seq_val (.bool (x13.1.e == 0)) r (fun R => y_move r rfl) rfl fun fr r => ?_
   refine zz0q (x13.1.e == 0) (fun h23 => ?_) (fun h23 => ?_)
   ·
    have hD := (cond_t h23).symm.trans hD
    refine s1 r h23 ?_
    refine seq_val _ r (fun R => zz02 r (o := 0) rfl fo32_1) rfl fun fr r => ?_
    refine s1 r h23 ?_
    refine seq_val (U x13.1.v) r (fun R => zz01 r rfl (hP.cell (i := 1) rfl) to22 rfl) rfl fun fr r => ?_
    refine s1 r h23 ?_
    refine seq_val _ r (fun R => y_bin r rfl rfl rfl rfl) rfl fun fr r => ?_
    refine seq_val (.bool (decide (x13.1.v > 0))) r (fun R => y_pick r (b := true) (congrArg Value.bool h23) rfl) rfl fun fr r => ?_
    refine seq_val (.bool (decide (x13.1.v > 0))) r (fun R => zz03 r rfl) rfl fun fr r => ?_
    refine wn ?_
    exact nxy21 (decide (x13.1.v > 0)) () _ _ _ hD r (hs_cons rfl (hs_cons rfl (hs_cons rfl (hs_cons rfl (hs_cons rfl hs_nil))))) (hP.pick [0, 1] rfl rfl)
   ·
    have hD := (cond_f h23).symm.trans hD
    refine s0 r h23 fun fr r => ?_
    refine s0 r h23 fun fr r => ?_
    refine s0 r h23 fun fr r => ?_
    refine seq_val (.bool false) r (fun R => y_pick r (b := false) (congrArg Value.bool h23) rfl) rfl fun fr r => ?_
    refine seq_val (.bool false) r (fun R => zz03 r rfl) rfl fun fr r => ?_
    refine wn ?_
    exact nxy21 false () _ _ _ hD r (hs_cons rfl (hs_cons rfl (hs_cons rfl (hs_cons rfl (hs_cons rfl hs_nil))))) (hP.pick [0, 1] rfl rfl)
  ·
   have hD := (cond_f h22).symm.trans hD
   refine s0 r h22 fun fr r => ?_
   refine s0 r h22 fun fr r => ?_
   refine s0 r h22 fun fr r => ?_
   refine seq_val (.bool false) r (fun R => y_pick r (b := false) (congrArg Value.bool h22) rfl) rfl fun fr r => ?_
   refine seq_val (.bool false) r (fun R => y_move r rfl) rfl fun fr r => ?_
   refine s0 r (rfl : false = _) fun fr r => ?_
   refine s0 r (rfl : false = _) fun fr r => ?_
   refine s0 r (rfl : false = _) fun fr r => ?_
   refine seq_val (.bool false) r (fun R => y_pick r (b := false) (congrArg Value.bool (rfl : false = _)) rfl) rfl fun fr r => ?_
   refine seq_val (.bool false) r (fun R => zz03 r rfl) rfl fun fr r => ?_
   refine wn ?_
   exact nxy21 false () _ _ _ hD r (hs_cons rfl (hs_cons rfl (hs_cons rfl (hs_cons rfl (hs_cons rfl hs_nil))))) (hP.pick [0, 1] rfl rfl)
 ·
  rintro x24 γ25 fr w26 g r hP hD
  have hP : Post No [memK mg4 x13.2.2.2, cellC b15 ((resC x13.1)).toArray 32] w0 w26 := hP
  refine wp_ret ?_
  have hv : x24 = res := Option.some.inj hD
  try dsimp only [Exit.then, Exit.inBlock]
  refine ret_tmp (fn := Tryz.f27) r (t := 0) rfl (v := (.bool x24)) rfl ?_
  subst hv
  exact ⟨rfl, hP.chg.below⟩

def D.zz1r (a0 : Plan) : Bool := (bif (D.zz1k a0) then (D.zz0i a0) else false)

theorem c_cubiclelaw13_few (w0 : World) 
    (a0 : Plan) :
    Calls Tryz.prog 35 #[.agg (planC a0).toArray] w0 (PureRes (.bool (D.zz1r a0)) w0) := by
 refine enter Tryz.func35 rfl 9 rfl rfl fun fr r => ?_
 have hB := Below.refl w0.heap.size w0
 refine wsr ?_
 refine seq_new (.cells ((planC a0)).toArray 25 (0, 0)) r (fun R => y_box r (v := (.agg (planC a0).toArray)) rfl) rfl fun fr b1 w2 n3 r => ?_
 obtain ⟨e_b1, z_w2, h_b1, hB, zB⟩ := n3.all hB
 refine seq_val (.bool false) r (fun R => zz03 r rfl) rfl fun fr r => ?_
 refine wn ?_
 refine wsr ?_
 refine seq_val (.agg (planC a0).toArray) r (fun R => zz05 r (cs := (planC a0)) (n := 6) rfl h_b1 ta25 rfl) rfl fun fr r => ?_
 refine zz06 r (c_cubicleref06_Few w2 a0) (fun R hc => y_call r rfl cl39 hc) rfl ?_
 rintro _ w4 ⟨rfl, hb⟩
 refine ⟨_, rfl, fun fr r => ?_⟩
 have z_w4 := hb.size
 have h_b1 := keep hb h_b1
 obtain ⟨hB, zB⟩ := bon hb hB
 refine seq_val (.bool (D.zz1k a0)) r (fun R => y_move r rfl) rfl fun fr r => ?_
 refine zz0q (D.zz1k a0) (fun h5 => ?_) (fun h5 => ?_)
 ·
  refine s1 r h5 ?_
  refine seq_val (.agg (planC a0).toArray) r (fun R => zz05 r (cs := (planC a0)) (n := 6) rfl h_b1 ta25 rfl) rfl fun fr r => ?_
  refine s1 r h5 ?_
  refine zz06 r (zz5j w4 a0) (fun R hc => y_call r rfl cl45 hc) rfl ?_
  rintro _ w6 ⟨rfl, hb⟩
  refine ⟨_, rfl, fun fr r => ?_⟩
  have z_w6 := hb.size
  have h_b1 := keep hb h_b1
  obtain ⟨hB, zB⟩ := bon hb hB
  refine seq_val (.bool (D.zz0i a0)) r (fun R => y_pick r (b := true) (congrArg Value.bool h5) rfl) rfl fun fr r => ?_
  refine seq_val (.bool (D.zz0i a0)) r (fun R => zz03 r rfl) rfl fun fr r => ?_
  refine wn ?_
  refine wp_ret ?_
  have hd : D.zz1r a0 = (D.zz0i a0) := (cond_t h5).trans (rfl)
  refine ret_tmp r rfl rfl ?_
  rw [hd]
  exact ⟨rfl, hB⟩
 ·
  refine s0 r h5 fun fr r => ?_
  refine s0 r h5 fun fr r => ?_
  refine seq_val (.bool false) r (fun R => y_pick r (b := false) (congrArg Value.bool h5) rfl) rfl fun fr r => ?_
  refine seq_val (.bool false) r (fun R => zz03 r rfl) rfl fun fr r => ?_
  refine wn ?_
  refine wp_ret ?_
  have hd : D.zz1r a0 = false := (cond_f h5).trans (rfl)
  refine ret_tmp r rfl rfl ?_
  rw [hd]
  exact ⟨rfl, hB⟩

end Go.Proofs.YtjkinpbfmihhdaaGreat

/- Handles and their words, in numbers. -/
namespace Go.Proofs.YtjkinpbfmihhdaaGreat
open Go.RowKit

def U64 (w : Int) : Prop := 0 ≤ w ∧ w < 18446744073709551616

theorem f_hI : D.zz0b hIdx = true := by decide

theorem f_hG : D.zz0b hGen = true := by decide

theorem f_hT : D.zz0b hTen = true := by decide

theorem f_hS : D.zz0b hSeal = true := by decide

theorem m_hI : D.zz0a hIdx = 1048575 := by decide +kernel

theorem m_hG : D.zz0a hGen = 1073741823 := by decide +kernel

theorem m_hT : D.zz0a hTen = 63 := by decide +kernel

theorem m_hS : D.zz0a hSeal = 63 := by decide +kernel

theorem k_hI : D.zz0d hIdx = 1048575 := by decide +kernel

theorem k_hG : D.zz0d hGen = 1125899905794048 := by decide +kernel

theorem k_hT : D.zz0d hTen = 70931694131085312 := by decide +kernel

theorem k_hS : D.zz0d hSeal = 18158513697557839872 := by decide +kernel

theorem get_low {w : Int} (hw : U64 w) (a b : Nat) (ha : a < 64) (hb : b < 64) (hF : D.zz0b ⟨a, b⟩ = true) (hM : D.zz0a ⟨a, b⟩ = ((2 ^ b - 1 : Nat) : Int)) :
    D.zz09 ⟨a, b⟩ w = w / ((2 ^ a : Nat) : Int) % ((2 ^ b : Nat) : Int) := by
  obtain ⟨h0, h1⟩ := hw
  unfold D.zz09
  rw [hF, hM]
  simp only [Bool.not_true, cond_false]
  have hp : (0 : Int) < ((2 ^ a : Nat) : Int) := by have := Nat.pow_pos (n := a) (show 0 < 2 by omega); omega
  have e : shrI .u64 w (a : Int) = w / ((2 ^ a : Nat) : Int) := by rw [shrN a (by omega)]; norm_cast
  have hd : w / ((2 ^ a : Nat) : Int) ≤ w := Int.ediv_le_self _ h0
  have hd0 : 0 ≤ w / ((2 ^ a : Nat) : Int) := Int.ediv_nonneg h0 (by omega)
  show zz2q .u64 (shrI .u64 w (a : Int)) _ = _
  rw [e, and_low hd0 (by omega) b hb]

theorem get_hI {w : Int} (hw : U64 w) : D.zz09 hIdx w = w % 1048576 := by
  have := get_low hw 0 20 (by omega) (by omega) f_hI m_hI
  rw [show ((2 ^ 0 : Nat) : Int) = 1 from rfl, Int.ediv_one] at this
  exact this

theorem get_hG {w : Int} (hw : U64 w) : D.zz09 hGen w = w / 1048576 % 1073741824 := get_low hw 20 30 (by omega) (by omega) f_hG m_hG

theorem get_hT {w : Int} (hw : U64 w) : D.zz09 hTen w = w / 1125899906842624 % 64 := get_low hw 50 6 (by omega) (by omega) f_hT m_hT

theorem get_hS {w : Int} (hw : U64 w) : D.zz09 hSeal w = w / 288230376151711744 := by
  have := get_low hw 58 6 (by omega) (by omega) f_hS m_hS
  have h2 : D.zz09 hSeal w = w / 288230376151711744 % 64 := this
  have := hw.1
  have := hw.2
  omega

/-- What no field takes. -/
theorem hrest {w : Int} (hw : U64 w) : zz0z .u64 (zz0z .u64 (zz0z .u64 (zz0z .u64 w (D.zz0d hIdx)) (D.zz0d hGen)) (D.zz0d hTen)) (D.zz0d hSeal) = w / 72057594037927936 % 4 * 72057594037927936 := by
  obtain ⟨h0, h1⟩ := hw
  rw [k_hI, k_hG, k_hT, k_hS]
  have hx : ∀ {x : Nat} {y : Int}, x ≤ w.toNat → 0 ≤ y → y < 18446744073709551616 → zz0z .u64 (x : Int) y = ((x &&& (18446744073709551615 - y.toNat) : Nat) : Int) := fun {x y} hx hy0 hy1 => by
    have := zz63 (x := (x : Int)) (y := y) (by omega) (by omega) hy0 hy1
    rw [Int.toNat_natCast] at this
    exact this
  obtain ⟨v, rfl⟩ : ∃ v : Nat, w = (v : Int) := ⟨w.toNat, by omega⟩
  have l1 : v &&& (18446744073709551615 - (1048575 : Int).toNat) ≤ v := Nat.and_le_left
  have l2 : (v &&& (18446744073709551615 - (1048575 : Int).toNat)) &&& (18446744073709551615 - (1125899905794048 : Int).toNat) ≤ v := Nat.le_trans Nat.and_le_left l1
  have l3 : ((v &&& (18446744073709551615 - (1048575 : Int).toNat)) &&& (18446744073709551615 - (1125899905794048 : Int).toNat)) &&& (18446744073709551615 - (70931694131085312 : Int).toNat) ≤ v := Nat.le_trans Nat.and_le_left l2
  rw [hx (by omega) (by omega) (by omega), hx (by omega) (by omega) (by omega), hx (by omega) (by omega) (by omega), hx (by omega) (by omega) (by omega)]
  rw [Nat.and_assoc, Nat.and_assoc, Nat.and_assoc]
  have hK : (18446744073709551615 - (1048575 : Int).toNat) &&& ((18446744073709551615 - (1125899905794048 : Int).toNat) &&& ((18446744073709551615 - (70931694131085312 : Int).toNat) &&& (18446744073709551615 - (18158513697557839872 : Int).toNat))) = 3 * 2 ^ 56 := by decide +kernel
  rw [hK]
  have : v &&& 3 * 2 ^ 56 = v / 2 ^ 56 % 4 * 2 ^ 56 := by
    apply Nat.eq_of_testBit_eq
    intro i
    rw [Nat.testBit_and, Nat.testBit_mul_two_pow, Nat.testBit_mul_two_pow, show (4 : Nat) = 2 ^ 2 from rfl, Nat.testBit_mod_two_pow, Nat.testBit_div_two_pow]
    by_cases hi : 56 ≤ i
    · rw [show i - 56 + 56 = i by omega]
      have h3 : Nat.testBit 3 (i - 56) = decide (i - 56 < 2) := by
        rw [show (3 : Nat) = 2 ^ 2 - 1 from rfl, Nat.testBit_two_pow_sub_one]
      rw [h3]
      simp [hi, Bool.and_comm]
    · simp [hi]
  rw [this]
  show ((v / 72057594037927936 % 4 * 72057594037927936 : Nat) : Int) = _
  omega

/-- A word's handle, told in numbers. -/
def hof (w : Int) : Handle × Bool := if w / 72057594037927936 % 4 = 0 ∧ w / 288230376151711744 = 42 then (⟨w % 1048576, w / 1048576 % 1073741824, w / 1125899906842624 % 64⟩, true) else (⟨0, 0, 0⟩, false)

theorem hof_eq {w : Int} (hw : U64 w) : D.zz12 w = hof w := by
  have h : St.D.zz12 10 w = some (hof w) := by
    unfold St.D.zz12
    show (St.D.zz2u 10 [hIdx, hGen, hTen, hSeal] w).bind _ = _
    rw [hsplit, hrest hw, get_hI hw, get_hG hw, get_hT hw, get_hS hw]
    unfold hof
    by_cases h1 : w / 72057594037927936 % 4 = 0
    · rw [h1, show (((0 : Int) * 72057594037927936 != 0) = false) from rfl]
      show (bif (w / 288230376151711744 != 42) then some ((⟨0, 0, 0⟩ : Handle), false) else some ((⟨IntKind.i64.wrap (w % 1048576), IntKind.i64.wrap (w / 1048576 % 1073741824), IntKind.i64.wrap (w / 1125899906842624 % 64)⟩ : Handle), true)) = _
      rw [wrap_id (by omega) (by omega), wrap_id (by omega) (by omega), wrap_id (by omega) (by omega)]
      by_cases h2 : w / 288230376151711744 = 42
      · rw [h2, if_pos ⟨rfl, rfl⟩]; rfl
      · rw [if_neg (fun h => h2 h.2), show (w / 288230376151711744 != 42) = true from by simpa using h2]; rfl
    · rw [if_neg (fun h => h1 h.1), show (w / 72057594037927936 % 4 * 72057594037927936 != 0) = true from by simp; omega]
      rfl
  unfold D.zz12
  rw [h]; rfl

/-- A handle that is formed. -/
structure HF (h : Handle) : Prop where
  i0 : 0 ≤ h.index
  i1 : h.index < 1048576
  g0 : 0 ≤ h.gen
  g1 : h.gen ≤ 1073741823
  t0 : 0 ≤ h.tenant
  t1 : h.tenant < 64

theorem handle_formed {h : Handle} (hf : HF h) : D.zz11 h = true := by
  obtain ⟨h1, h2, h3, h4, h5, h6⟩ := hf
  unfold D.zz11
  simp only [ge_iff_le, h1, h2, h3, h4, h5, h6, decide_true, cond_true]

theorem put_seal {u : Int} (h0 : 0 ≤ u) (h1 : u < 288230376151711744) : D.zz0m hSeal u 42 = 12105675798371893248 + u := by
  unfold D.zz0m
  rw [f_hS, m_hS, k_hS]
  show bits_or .u64 (zz0z .u64 u 18158513697557839872) (shlI .u64 (zz2q .u64 42 63) 58) = _
  rw [zz63 h0 (by omega) (by omega) (by omega), show 18446744073709551615 - (18158513697557839872 : Int).toNat = 2 ^ 58 - 1 from rfl, Nat.and_two_pow_sub_one_eq_mod, show shlI .u64 (zz2q .u64 42 63) 58 = 12105675798371893248 from by decide +kernel]
  obtain ⟨x, rfl⟩ : ∃ x : Nat, u = (x : Int) := ⟨u.toNat, by omega⟩
  have hx : x < 2 ^ 58 := by omega
  rw [Int.toNat_natCast, Nat.mod_eq_of_lt hx, or_eq (by omega) (by omega) (by omega) (by omega), Int.toNat_natCast, show (12105675798371893248 : Int).toNat = 2 ^ 58 * 42 from rfl, Nat.or_comm, ← Nat.two_pow_add_eq_or_of_lt hx]
  show ((288230376151711744 * 42 + x : Nat) : Int) = _
  omega

/-- A handle's word, in numbers. -/
theorem hword_val {h : Handle} (hf : HF h) : D.zz0u h = h.index + h.gen * 1048576 + h.tenant * 1125899906842624 + 12105675798371893248 := by
  have hh := handle_formed hf
  obtain ⟨h1, h2, h3, h4, h5, h6⟩ := hf
  have hw : St.D.zz0u 10 h = some (h.index + h.gen * 1048576 + h.tenant * 1125899906842624 + 12105675798371893248) := by
    unfold St.D.zz0u
    rw [hh]
    show (((St.D.zz3e 10 [hIdx, hGen, hTen, hSeal] [IntKind.u64.wrap h.index, IntKind.u64.wrap h.gen, IntKind.u64.wrap h.tenant, 42]).bind (fun (x17 : Int × Int) => (some x17.1)))) = _
    rw [hpack, zz2o h1 (by omega), zz2o h3 (by omega), zz2o h5 (by omega), m_hI, m_hG, m_hT, m_hS, show decide (h.index > 1048575) = false from by simp; omega, show decide (h.gen > 1073741823) = false from by simp; omega, show decide (h.tenant > 63) = false from by simp; omega]
    rw [show decide ((42 : Int) > 63) = false from rfl]
    simp only [cond_false, Option.bind_some]
    rw [show D.zz0m hIdx 0 h.index = h.index * ((2 ^ 0 : Nat) : Int) + 0 from put_at 0 20 (by omega) (by decide) h1 (by omega) (by omega) f_hI m_hI k_hI]
    rw [show D.zz0m hGen (h.index * ((2 ^ 0 : Nat) : Int) + 0) h.gen = h.gen * ((2 ^ 20 : Nat) : Int) + (h.index * ((2 ^ 0 : Nat) : Int) + 0) from put_at 20 30 (by omega) (by omega) h3 (by omega) (by omega) f_hG m_hG k_hG]
    rw [show D.zz0m hTen (h.gen * ((2 ^ 20 : Nat) : Int) + (h.index * ((2 ^ 0 : Nat) : Int) + 0)) h.tenant = h.tenant * ((2 ^ 50 : Nat) : Int) + (h.gen * ((2 ^ 20 : Nat) : Int) + (h.index * ((2 ^ 0 : Nat) : Int) + 0)) from put_at 50 6 (by omega) (by omega) h5 (by omega) (by omega) f_hT m_hT k_hT]
    rw [put_seal (by omega) (by omega)]
    congr 1
    omega
  unfold D.zz0u
  rw [hw]; rfl

theorem of_hword {h : Handle} (hf : HF h) : D.zz12 (D.zz0u h) = (h, true) := by
  rw [hword_val hf]
  obtain ⟨h1, h2, h3, h4, h5, h6⟩ := hf
  rw [hof_eq ⟨by omega, by omega⟩]
  unfold hof
  rw [if_pos (by omega)]
  obtain ⟨a, b, c⟩ := h
  simp only at *
  rw [show (a + b * 1048576 + c * 1125899906842624 + 12105675798371893248) % 1048576 = a from by omega, show (a + b * 1048576 + c * 1125899906842624 + 12105675798371893248) / 1048576 % 1073741824 = b from by omega, show (a + b * 1048576 + c * 1125899906842624 + 12105675798371893248) / 1125899906842624 % 64 = c from by omega]

theorem mine_hword {h : Handle} (hf : HF h) {t n : Int} (ht : h.tenant = t) (hn : h.index < n) : D.zz08 (D.zz0u h) t n = (h, true) := by
  unfold D.zz08
  rw [of_hword hf, show (h.tenant != t) = false from by simpa using ht, show decide (h.index ≥ n) = false from by simp; omega]
  rfl

end Go.Proofs.YtjkinpbfmihhdaaGreat

/- Nodes by handles, alone: what reading, writing, swapping, granting and dropping come to, without the code. -/
set_option linter.unusedVariables false
namespace Go.Proofs.YtjkinpbfmihhdaaGreat
open Go.RowKit

theorem runR {t : T Res} {M : Mem} {ws' : List Int} {n : Nat} {most : Int} {r : Res} {fu : Nat} (h : Runs t M.ws n r ws') (hm : (n : Int) ≤ most) (hm2 : most ≤ 1000000) (hn : n < fu) : ∃ c, D.zz30 fu (fu, t) M cap0 most = some (r, (n : Int), true, ⟨ws', c⟩) := by
  have h2 := runG_eq (z := (⟨0, 0⟩ : Res)) (fu := fu) (d := fu) (most := most) h hm hm2 (Nat.le_of_lt hn) hn
  exact h2

theorem load_runsR {at_ : Int} {f : Int → T Res} {ws ws' : List Int} {n : Nat} {r : Res} (h0 : 0 ≤ at_) (h1 : at_ < ws.length) (h : Runs (f (rd ws at_)) ws n r ws') : Runs (D.zz33 at_ f) ws (n + 1) r ws' := Runs.load h0 h1 h

theorem store_runsR {at_ w : Int} {f : Unit → T Res} {ws ws' : List Int} {n : Nat} {r : Res} (h0 : 0 ≤ at_) (h1 : at_ < ws.length) (h : Runs (f ()) (ws.set at_.toNat w) n r ws') : Runs (D.zz6w at_ w f) ws (n + 1) r ws' := Runs.store h0 h1 h

theorem swap_runsR {at_ was w : Int} {f : Bool → T Res} {ws ws' : List Int} {n : Nat} {r : Res} (h0 : 0 ≤ at_) (h1 : at_ < ws.length) (h : Runs (f (rd ws at_ == was)) (if rd ws at_ = was then ws.set at_.toNat w else ws) n r ws') : Runs (D.zz65 at_ was w f) ws (n + 1) r ws' := by
  refine Runs.act (op := 2) (by omega) (getI_rd h0 h1) ?_
  have : acted 2 at_ was w (rd ws at_) ws = (if rd ws at_ = was then ws.set at_.toNat w else ws) := by simp [acted]
  rw [this]
  exact h

theorem zz52 {s : Seat} : D.zz0n s = true ↔ PF s.p ∧ (0 ≤ s.tenant ∧ s.tenant < 64) ∧ (0 ≤ s.thread ∧ s.thread < s.p.threads) := by
  unfold D.zz0n
  rw [← plan_formed]
  cases D.zz0v s.p <;> cases h1 : decide (s.tenant ≥ 0) <;> cases h2 : decide (s.tenant < 64) <;> cases h3 : decide (s.thread ≥ 0) <;> (try simp_all) <;> (try omega)

/-- The words hold the same but for one place. -/
def Put1 (ws ws' : List Int) (a v : Int) : Prop := ws'.length = ws.length ∧ ∀ j, 0 ≤ j → rd ws' j = if j = a then v else rd ws j

def Eq1 (ws ws' : List Int) : Prop := ws'.length = ws.length ∧ ∀ j, 0 ≤ j → rd ws' j = rd ws j

/-- The place of a thread's first hazard. -/
def hp0 (p : Plan) (t : Int) : Int := D.zz0f p + t * 3

/-- The place of a node's field. -/
def fp (p : Plan) (n f : Int) : Int := sp p n + 2 + f

section
variable {s : Seat} (hs : D.zz0n s = true) {ws : List Int} (hl : Len s.p ws) {w f : Int} {h : Handle} (hm : D.zz08 w s.tenant s.p.nodes = (h, true)) (hn : 0 ≤ h.index ∧ h.index < s.p.nodes)
include hs hl hm hn
theorem look_bad (hf : 0 ≤ f ∧ f < 3) {do_ : Int → (Int → T Res) → T Res} (hx : rd ws (sp s.p h.index) ≠ D.zz07 (D.zz1b h)) : Runs (D.zz3c s w f do_) ws 1 ⟨3, 0⟩ ws := by
  obtain ⟨hp, _, _⟩ := zz52.1 hs
  obtain ⟨q1, q2, q3⟩ := sp_in hp hn
  unfold Len at hl
  unfold D.zz3c
  rw [hs, hm, show decide (f < 0) = false from by simp; omega, show decide (f ≥ 3) = false from by simp; omega]
  simp only [Bool.not_true, cond_false]
  rw [q3]
  refine load_runsR (by omega) (by omega) ?_
  unfold D.zz40
  rw [show (rd ws (sp s.p h.index) != D.zz07 (D.zz1b h)) = true from by simpa using hx]
  exact .done _ _

theorem hp0_in : 0 < hp0 s.p s.thread ∧ hp0 s.p s.thread + 3 ≤ D.zz0k s.p ∧ D.zz0k s.p < D.zz04 s.p ∧ D.zz04 s.p ≤ sp s.p h.index ∧ sp s.p h.index + 5 ≤ D.zz0s s.p := by
  obtain ⟨hp, _, ht⟩ := zz52.1 hs
  obtain ⟨g1, g2, g3, g4⟩ := hz_in hp
  unfold hp0 sp
  omega

theorem look_good (hf : 0 ≤ f ∧ f < 3) {do_ : Int → (Int → T Res) → T Res} (hx : rd ws (sp s.p h.index) = D.zz07 (D.zz1b h)) {m : Nat} {r : Res} {ws' : List Int}
    (hr : Runs (do_ (fp s.p h.index f) (fun x => D.zz29 (fun x => D.zz3k s x) x)) (ws.set (hp0 s.p s.thread).toNat (h.index + 1)) m r ws') : Runs (D.zz3c s w f do_) ws (m + 3) r ws' := by
  obtain ⟨hp, _, ht⟩ := zz52.1 hs
  obtain ⟨q1, q2, q3⟩ := sp_in hp hn
  obtain ⟨z1, z2, z3, z4, z5⟩ := hp0_in hs hl hm hn
  have hN := zz2b hp
  have hnn := hp.n2
  have hl0 := hl
  unfold Len at hl
  unfold D.zz3c
  rw [hs, hm, show decide (f < 0) = false from by simp; omega, show decide (f ≥ 3) = false from by simp; omega]
  simp only [Bool.not_true, cond_false]
  rw [q3]
  refine load_runsR (by omega) (by omega) ?_
  unfold D.zz40
  rw [show (rd ws (sp s.p h.index) != D.zz07 (D.zz1b h)) = false from by simpa using hx]
  simp only [cond_false]
  have h1 := hset_runs hp hl0 ht (s := 0) (n := h.index) (by omega) (by omega)
  rw [show D.zz0f s.p + s.thread * 3 + 0 = hp0 s.p s.thread from by unfold hp0; omega] at h1
  refine (Runs.bind (g := fun _ => D.zz4f (sp s.p h.index) (D.zz07 (D.zz1b h)) (fun x => D.zz3k s x) do_ s h f) h1 (m := m + 1) ?_).cast (by omega)
  unfold D.zz4f
  refine load_runsR (by omega) (by rw [List.length_set]; omega) ?_
  rw [rd_set (by omega) (by omega) (by omega), if_neg (by omega)]
  unfold D.zz3m
  rw [show (rd ws (sp s.p h.index) != D.zz07 (D.zz1b h)) = false from by simpa using hx, fl_at hp hn hf]
  exact hr
omit hm in

theorem leave_runs {u : List Int} (hu : u.length = ws.length) {v : Int} : Runs (D.zz29 (fun x => D.zz3k s x) v) u 1 ⟨0, v⟩ (u.set (hp0 s.p s.thread).toNat 0) := by
  obtain ⟨hp, _, ht⟩ := zz52.1 hs
  unfold D.zz29 D.zz3k
  have h1 := hset_runs hp (ws := u) (by unfold Len at *; omega) ht (s := 0) (n := -1) (by omega) (by omega)
  rw [show D.zz0f s.p + s.thread * 3 + 0 = hp0 s.p s.thread from by unfold hp0; omega] at h1
  refine (Runs.bind (g := fun _ => D.zz6x ⟨0, v⟩) h1 (m := 0) ?_).cast (by omega)
  exact .done _ _

theorem read_runs (hf : 0 ≤ f ∧ f < 3) (hz : rd ws (hp0 s.p s.thread) = 0) (hx : rd ws (sp s.p h.index) = D.zz07 (D.zz1b h)) : ∃ ws', Runs (D.zz19 s w f) ws 5 ⟨0, rd ws (fp s.p h.index f)⟩ ws' ∧ Eq1 ws ws' := by
  obtain ⟨z1, z2, z3, z4, z5⟩ := hp0_in hs hl hm hn
  have hl0 := hl
  unfold Len at hl
  have hfp : fp s.p h.index f = sp s.p h.index + 2 + f := rfl
  refine ⟨(ws.set (hp0 s.p s.thread).toNat (h.index + 1)).set (hp0 s.p s.thread).toNat 0, ?_, by simp, fun j hj => ?_⟩
  · refine look_good hs hl0 hm hn hf hx (m := 2) ?_
    unfold D.zz6r
    refine load_runsR (by omega) (by rw [List.length_set]; omega) ?_
    rw [rd_set (by omega) (by omega) (by omega), if_neg (by omega)]
    exact leave_runs hs hl0 hn (by simp)
  · rw [rd_set (by omega) (by rw [List.length_set]; omega) hj, rd_set (by omega) (by omega) hj]
    split
    · rename_i e; rw [e, hz]
    · rfl

theorem write_runs (hf : 0 ≤ f ∧ f < 3) (hz : rd ws (hp0 s.p s.thread) = 0) (hx : rd ws (sp s.p h.index) = D.zz07 (D.zz1b h)) (v : Int) : ∃ ws', Runs (D.zz2c s w f v) ws 5 ⟨0, 0⟩ ws' ∧ Put1 ws ws' (fp s.p h.index f) v := by
  obtain ⟨z1, z2, z3, z4, z5⟩ := hp0_in hs hl hm hn
  have hl0 := hl
  unfold Len at hl
  have hfp : fp s.p h.index f = sp s.p h.index + 2 + f := rfl
  refine ⟨((ws.set (hp0 s.p s.thread).toNat (h.index + 1)).set (fp s.p h.index f).toNat v).set (hp0 s.p s.thread).toNat 0, ?_, by simp, fun j hj => ?_⟩
  · refine look_good hs hl0 hm hn hf hx (m := 2) ?_
    unfold D.check_Write_1
    refine store_runsR (by omega) (by rw [List.length_set]; omega) ?_
    unfold D.zz69
    exact leave_runs hs hl0 hn (by simp)
  · rw [rd_set (by omega) (by simp; omega) hj, rd_set (by omega) (by simp; omega) hj, rd_set (by omega) (by omega) hj]
    by_cases e : j = hp0 s.p s.thread
    · rw [if_pos e, if_neg (by omega), e, hz]
    · rw [if_neg e, if_neg e]

end
end Go.Proofs.YtjkinpbfmihhdaaGreat

/- Nodes by handles, alone: granting and dropping; what is laid out at first. -/
set_option linter.unusedVariables false
namespace Go.Proofs.YtjkinpbfmihhdaaGreat
open Go.RowKit

theorem PoolAt.start {p : Plan} (hp : PF p) {ws : List Int} (h : LaidAt p ws) {t : Int} (ht : 0 ≤ t ∧ t < p.threads) : PoolAt p t ws ⟨allN p, [], fun _ => ⟨0, 0, 0⟩⟩ 0 := by
  have hN := zz2b hp
  have hF := laid_free hp h
  refine ⟨hF, laid_ret hp h ht, List.nodup_nil, fun _ h => (by cases h), fun n n0 n1 => laid_state hp h ⟨n0, n1⟩, fun j j0 j1 => laid_hz hp h j0 j1, fun n f hn f0 f1 => ?_⟩
  have hr := hF.range n hn
  exact h.zero _ (by unfold sp; omega) fun m _ _ => by unfold sp; omega

section
variable {s : Seat} (hs : D.zz0n s = true) (hnn : s.p.nodes ≤ 1000) {ws : List Int} {P : Pool} {g : Int} (h : PoolAt s.p s.thread ws P g) (hg : g < 900000)
include hs hnn h hg
theorem drop_runs (J : Nat) (hJ : 1100 < J) {w : Int} {hd : Handle} (hm : D.zz08 w s.tenant s.p.nodes = (hd, true)) (hn : 0 ≤ hd.index ∧ hd.index < s.p.nodes) (hgn : 0 ≤ hd.gen ∧ hd.gen ≤ 1073741823) (hx : P.st hd.index = ⟨hd.gen, 1, 0⟩) (hnr : hd.index ∉ P.rt) (hnf : hd.index ∉ P.fr) :
    ∃ (m : Nat) (ws' : List Int) (g' : Int), m ≤ 70 * P.rt.length + 12 ∧ g' ≤ g + P.rt.length ∧ Runs (D.zz27 J s w) ws m ⟨0, 0⟩ ws' ∧
      PoolAt s.p s.thread ws' ((⟨P.fr, P.rt, fun q => if q = hd.index then ⟨hd.gen, 2, 0⟩ else P.st q⟩ : Pool).stash s.p.retire s.p.gen hd.index) g' ∧ ws'.length = ws.length ∧
      ∀ j, 0 < j → (∀ n, n ∈ P.fr ∨ n ∈ P.rt → ¬ ofNode s.p n j) → ¬ (rb s.p s.thread ≤ j ∧ j < rb s.p s.thread + 1 + s.p.retire) → j ≠ sp s.p hd.index → rd ws' j = rd ws j := by
  obtain ⟨hp, _, ht⟩ := zz52.1 hs
  obtain ⟨q1, q2, q3⟩ := sp_in hp hn
  obtain ⟨p1, p2, p3⟩ := rb_in hp ht
  obtain ⟨z1, z2, z3, z4⟩ := hz_in hp
  have hN := zz2b hp
  have hl := h.free.len
  have hst := (h.st hd.index hn.1 hn.2)
  have hwd : rd ws (sp s.p hd.index) = D.zz07 ⟨hd.gen, 1, 0⟩ := by rw [hst.1, hx]
  have hsp : D.zz04 s.p ≤ sp s.p hd.index := by unfold sp; omega
  generalize hu : ws.set (sp s.p hd.index).toNat (D.zz07 ⟨hd.gen, 2, 0⟩) = u
  have hul : u.length = ws.length := by rw [← hu, List.length_set]
  have hur : ∀ j, 0 ≤ j → rd u j = if j = sp s.p hd.index then D.zz07 ⟨hd.gen, 2, 0⟩ else rd ws j := fun j hj => by rw [← hu]; exact rd_set (by omega) (by omega) hj
  have hPu : PoolAt s.p s.thread u ⟨P.fr, P.rt, fun q => if q = hd.index then ⟨hd.gen, 2, 0⟩ else P.st q⟩ g := by
    refine h.keep hp ht hul (by rw [hur 0 (by omega), if_neg (by omega)]) (fun j j0 j1 => by rw [hur j (by omega), if_neg (by omega)]) (fun n f hn' f0 f1 => ?_) (fun j j0 j1 => by rw [hur _ (by omega), if_neg (by omega)]) (fun n n0 n1 => ?_)
    · have hr := h.free.range n hn'
      have hne : n ≠ hd.index := fun e => hnf (e ▸ hn')
      rw [hur _ (by unfold sp; omega), if_neg (by unfold sp; omega)]
    · by_cases e : n = hd.index
      · subst e
        show StAt s.p u hd.index (if hd.index = hd.index then _ else _)
        rw [if_pos rfl]
        refine ⟨by rw [hur _ (by omega), if_pos rfl], hgn.1, hgn.2, by show (0 : Int) ≤ 2; omega, by show (2 : Int) ≤ 3; omega, by show (0 : Int) ≤ 0; omega, by show (0 : Int) ≤ 2; omega⟩
      · show StAt s.p u n (if n = hd.index then _ else _)
        rw [if_neg e]
        have := h.st n n0 n1
        exact ⟨by rw [hur _ (by unfold sp; omega), if_neg (by unfold sp; omega)]; exact this.1, this.2⟩
  obtain ⟨m, ws', g', hm', hg', hr, hP, hk⟩ := hPu.stash hp hnn ht hn hnr hnf hg J hJ
  refine ⟨m + 2, ws', g', by simp only at hm'; omega, hg', ?_, hP, by rw [hk.1, hul], fun j j0 h1 h2 h3 => ?_⟩
  · unfold D.zz27
    rw [hs, hm]
    simp only [Bool.not_true, cond_false]
    rw [q3]
    refine load_runsR (n := m + 1) (by omega) (by omega) ?_
    unfold D.zz4t
    rw [hwd]
    rw [show (D.zz07 ⟨hd.gen, 1, 0⟩ != D.zz07 (D.zz1b hd)) = false from by simp [D.zz1b]]
    simp only [cond_false]
    refine swap_runsR (by omega) (by omega) ?_
    rw [hwd, if_pos rfl, show (D.zz07 ⟨hd.gen, 1, 0⟩ == D.zz07 ⟨hd.gen, 1, 0⟩) = true from by simp]
    unfold D.zz3p
    simp only [Bool.not_true, cond_false]
    have hu' : ws.set (sp s.p hd.index).toNat (D.zz07 (D.zz1l (D.zz1b hd))) = u := hu
    rw [hu']
    refine (Runs.bind (g := fun x => D.zz4k x) hr (m := 0) ?_).cast (by omega)
    exact .done _ _
  · rw [hk.2 j j0 h1 h2, hur j (by omega), if_neg h3]

end
end Go.Proofs.YtjkinpbfmihhdaaGreat

/- Nodes by handles, alone: whatever operations are done, by whatever words. -/
set_option linter.unusedVariables false
set_option linter.unusedSectionVars false
namespace Go.Proofs.YtjkinpbfmihhdaaGreat
open Go.RowKit

theorem scan_sub2 {P : Pool} {m n : Int} (hd : P.rt.Nodup) (h : n ∈ (P.scan m).fr) : (n ∈ P.rt ∧ (D.zz0g (P.st n) m).mode ≠ 3) ∨ n ∈ P.fr := by
  unfold Pool.scan at h
  rw [back_fr m _ _ (List.pairwise_reverse.2 (hd.imp fun h e => h e.symm))] at h
  have : ∀ (k L : List Int), n ∈ k.foldl (fun l n => if (D.zz0g (P.st n) m).mode = 3 then l else n :: l) L → (n ∈ k ∧ (D.zz0g (P.st n) m).mode ≠ 3) ∨ n ∈ L := by
    intro k
    induction k with
    | nil => exact fun L h => .inr h
    | cons a k ih =>
      intro L h
      rcases ih _ h with h | h
      · exact .inl ⟨List.mem_cons_of_mem _ h.1, h.2⟩
      · replace h : n ∈ (if (D.zz0g (P.st a) m).mode = 3 then L else a :: L) := h
        split at h
        · exact .inr h
        · rename_i hne
          rcases List.mem_cons.1 h with rfl | h
          · exact .inl ⟨List.mem_cons_self .., hne⟩
          · exact .inr h
  rcases this _ _ h with h | h
  · exact .inl ⟨List.mem_reverse.1 h.1, h.2⟩
  · exact .inr h

theorem freed_mode (s : State) (m : Int) : (D.zz0g s m).mode = 3 ∨ (D.zz0g s m).mode = 0 := by
  unfold D.zz0g
  cases decide (s.gen ≥ m)
  · exact .inr rfl
  · exact .inl rfl

theorem scan_rt (P : Pool) (m : Int) : (P.scan m).rt = [] := back_rt _ _ _

/-- What is free is free, what is retired is retired. -/
structure ModesP (P : Pool) : Prop where
  mf : ∀ n, n ∈ P.fr → (P.st n).mode = 0
  mr : ∀ n, n ∈ P.rt → (P.st n).mode = 2

theorem ModesP.scan {P : Pool} (h : ModesP P) (hd : P.rt.Nodup) (m : Int) : ModesP (P.scan m) := by
  refine ⟨fun n hn => ?_, fun n hn => by rw [scan_rt] at hn; cases hn⟩
  have hst : (P.scan m).st n = if n ∈ P.rt then D.zz0g (P.st n) m else P.st n := by
    unfold Pool.scan
    rw [back_st _ _ _ (List.pairwise_reverse.2 (hd.imp fun h e => h e.symm))]
    simp only [List.mem_reverse]
  rw [hst]
  rcases scan_sub2 hd hn with ⟨h1, h2⟩ | h1
  · rw [if_pos h1]
    exact (freed_mode _ _).resolve_left h2
  · by_cases h2 : n ∈ P.rt
    · have := h.mr n h2
      have := h.mf n h1
      omega
    · rw [if_neg h2]; exact h.mf n h1

theorem ModesP.out {P : Pool} (h : ModesP P) (hn : P.fr.Nodup) (hd : ∀ n, n ∈ P.rt → n ∉ P.fr) (k : Int) : ModesP (P.out k).1 := by
  obtain ⟨fr, rt, st⟩ := P
  cases fr with
  | nil => exact h
  | cons n l =>
    have hnl := (List.nodup_cons.1 hn).1
    refine ⟨fun q hq => ?_, fun q hq => ?_⟩
    · have hne : q ≠ n := fun e => hnl (e ▸ hq)
      show (if q = n then _ else st q).mode = 0
      rw [if_neg hne]
      exact h.mf q (List.mem_cons_of_mem _ hq)
    · have hne : q ≠ n := fun e => hd q hq (e ▸ List.mem_cons_self ..)
      show (if q = n then _ else st q).mode = 2
      rw [if_neg hne]
      exact h.mr q hq

theorem ModesP.stash {P : Pool} (h : ModesP P) (hd : P.rt.Nodup) {room m n : Int} (hn : (P.st n).mode = 2) (hr : n ∉ P.rt) : ModesP (P.stash room m n) := by
  unfold Pool.stash
  split
  · refine ⟨h.mf, fun q hq => ?_⟩
    rcases List.mem_append.1 hq with hq | hq
    · exact h.mr q hq
    · rw [List.mem_singleton.1 hq]; exact hn
  · have hs := h.scan hd m
    refine ⟨hs.mf, fun q hq => ?_⟩
    rcases List.mem_append.1 hq with hq | hq
    · exact hs.mr q hq
    · rw [List.mem_singleton.1 hq]
      show ((P.scan m).st n).mode = 2
      rw [scan_st hr hd]; exact hn

structure BoxAt (p : Plan) (t : Int) (ws : List Int) (P : Pool) (g : Int) : Prop where
  pool : PoolAt p t ws P g
  modes : ModesP P

theorem swd_inj {s t : State} (hs : SF s) (ht : SF t) (h : D.zz07 s = D.zz07 t) : s = t := by
  rw [word_val hs, word_val ht] at h
  unfold swd at h
  obtain ⟨a, b, c⟩ := s
  obtain ⟨a', b', c'⟩ := t
  obtain ⟨h1, h2, h3, h4, h5, h6⟩ := hs
  obtain ⟨k1, k2, k3, k4, k5, k6⟩ := ht
  simp only at *
  have e1 : a = a' := by omega
  have e2 : b = b' := by omega
  have e3 : c = c' := by omega
  rw [e1, e2, e3]

theorem live_SF {h : Handle} (hg : 0 ≤ h.gen ∧ h.gen ≤ 1073741823) : SF (D.zz1b h) := ⟨hg.1, hg.2, by show (0 : Int) ≤ 1; omega, by show (1 : Int) ≤ 3; omega, by show (0 : Int) ≤ 0; omega, by show (0 : Int) ≤ 2; omega⟩

/-- A field of a node that isn't free is changed. -/
theorem PoolAt.putf {p : Plan} (hp : PF p) {t : Int} (ht : 0 ≤ t ∧ t < p.threads) {ws ws' : List Int} {P : Pool} {g n f : Int} (h : PoolAt p t ws P g) (hn : 0 ≤ n ∧ n < p.nodes) (hnf : n ∉ P.fr) (hf : 0 ≤ f ∧ f < 3) (hl : ws'.length = ws.length)
    (ho : ∀ j, 0 ≤ j → j ≠ fp p n f → rd ws' j = rd ws j) : PoolAt p t ws' P g := by
  obtain ⟨z1, z2, z3, z4⟩ := hz_in hp
  obtain ⟨p1, p2, p3⟩ := rb_in hp ht
  have hfp : fp p n f = D.zz04 p + n * 5 + 2 + f := rfl
  refine h.keep hp ht (st := P.st) hl (ho 0 (by omega) (by omega)) (fun j j0 j1 => ho j (by omega) (by omega)) (fun q e hq e0 e1 => ?_) (fun j j0 j1 => ho _ (by omega) (by omega)) (fun q q0 q1 => ?_)
  · have hr := h.free.range q hq
    have hne : q ≠ n := fun e => hnf (e ▸ hq)
    exact ho _ (by unfold sp; omega) (by unfold sp; omega)
  · have := h.st q q0 q1
    exact ⟨by rw [ho _ (by unfold sp; omega) (by unfold sp; omega)]; exact this.1, this.2⟩

theorem PoolAt.same {p : Plan} (hp : PF p) {t : Int} (ht : 0 ≤ t ∧ t < p.threads) {ws ws' : List Int} {P : Pool} {g : Int} (h : PoolAt p t ws P g) (he : Eq1 ws ws') : PoolAt p t ws' P g := by
  obtain ⟨z1, z2, z3, z4⟩ := hz_in hp
  obtain ⟨p1, p2, p3⟩ := rb_in hp ht
  refine h.keep hp ht (st := P.st) he.1 (he.2 0 (by omega)) (fun j j0 j1 => he.2 j (by omega)) (fun q e hq e0 e1 => ?_) (fun j j0 j1 => he.2 _ (by omega)) (fun q q0 q1 => ?_)
  · have hr := h.free.range q hq
    exact he.2 _ (by unfold sp; omega)
  · have := h.st q q0 q1
    exact ⟨by rw [he.2 _ (by unfold sp; omega)]; exact this.1, this.2⟩

theorem BoxAt.put {p : Plan} (hp : PF p) {t : Int} (ht : 0 ≤ t ∧ t < p.threads) {ws ws' : List Int} {P : Pool} {g n f : Int} (h : BoxAt p t ws P g) (hn : 0 ≤ n ∧ n < p.nodes) (hnf : n ∉ P.fr) (hf : 0 ≤ f ∧ f < 3) (hl : ws'.length = ws.length)
    (ho : ∀ j, 0 ≤ j → j ≠ fp p n f → rd ws' j = rd ws j) : BoxAt p t ws' P g := ⟨h.pool.putf hp ht hn hnf hf hl ho, h.modes⟩

theorem BoxAt.same {p : Plan} (hp : PF p) {t : Int} (ht : 0 ≤ t ∧ t < p.threads) {ws ws' : List Int} {P : Pool} {g : Int} (h : BoxAt p t ws P g) (he : Eq1 ws ws') : BoxAt p t ws' P g := ⟨h.pool.same hp ht he, h.modes⟩

section
variable {s : Seat} (hs : D.zz0n s = true) (hnn : s.p.nodes ≤ 40) (hrr : s.p.retire ≤ 40) {ws : List Int} {P : Pool} {g : Int} (h : BoxAt s.p s.thread ws P g) (hg : g < 800000)
include hs hnn hrr h hg
end
end Go.Proofs.YtjkinpbfmihhdaaGreat
