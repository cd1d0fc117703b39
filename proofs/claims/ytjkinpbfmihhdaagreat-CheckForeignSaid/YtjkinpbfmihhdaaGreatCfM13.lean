/- Some of our texts, one behind the other. -/
import Derived.Test.YtjkinpbfmihhdaaGreatCfMem
import Derived.Test.YtjkinpbfmihhdaaGreatCfChecks
import Derived.Test.YtjkinpbfmihhdaaGreatCfM4
import Derived.Test.YtjkinpbfmihhdaaGreatCfM9
/- A region that draws its order, with stores into two cells of ours beside values. -/
namespace Go.Proofs.YtjkinpbfmihhdaaGreat
open Go.RowKit

/-- What an operation comes to: a value, or a store into the k-th of some old blocks. -/
inductive FP where
  | val (c : Value)
  | put (k : Nat) (c : Array Value) (T : TypeId)

def FP.v : FP → Value
  | .val c => c
  | .put _ _ _ => undef

def FP.slot : FP → Option Nat
  | .put k _ _ => some k
  | .val _ => none

def FP.mk (bs : List Nat) (w' w'' : World) : FP → Prop
  | .val _ => Below w'.heap.size w' w''
  | .put k c T => ∃ b, bs[k]? = some b ∧ Upd w' w'' b (.cells c T (0, 0))

def fct : List FP → Nat → FP
  | [], _ => .val undef
  | f :: _, 0 => f
  | _ :: l, n + 1 => fct l n

section
variable {P : Program} {Q : Exit → Act → World → Prop} {L : List Oper} {a : Act} {w : World} {fl : List FP} {bs : List Nat}
structure PInv (L : List Oper) (fl : List FP) (bs : List Nat) (a : Act) (w0 : World) (listed : Array Bool) (g : Nat → Value) (a' : Act) (w' : World) : Prop where
  act : a' = puts L g 0 a
  closed : ∀ i o, L[i]? = some o → listed.getD i false = true → ∀ e, e ∈ o.after → Region.binds .any e = true → listed.getD e.on false = true
  os : w'.os = w0.os
  tape : w'.tape = w0.tape
  output : w'.output = w0.output
  size : w0.heap.size ≤ w'.heap.size
  old : ∀ b, b < w0.heap.size → b ∉ bs → w'.heap[b]? = w0.heap[b]?
  vals : ∀ i, i < L.length → listed.getD i false = true → g i = (fct fl i).v
  un : ∀ k b, bs[k]? = some b → (∀ i, i < L.length → listed.getD i false = true → (fct fl i).slot ≠ some k) → w'.heap[b]? = w0.heap[b]?
  done : ∀ i k c T b, i < L.length → listed.getD i false = true → fct fl i = .put k c T → bs[k]? = some b → w'.heap[b]? = some (.cells c T (0, 0))

variable {N : Nat} {s : SL}
end
/-! ### Chunks -/
section
variable {L : List Ck} {d : Ck} {w w' w0 : World} {i i1 i2 b1 b2 : Nat} {a1 a2 c1 c2 : Array Value} {T1 T2 S1 S2 : TypeId} {Z : Nat → Prop}
end
end Go.Proofs.YtjkinpbfmihhdaaGreat

/- Written by a program of ours (wip/gen.py): layer 13 -/
set_option linter.unusedVariables false
set_option maxRecDepth 20000
set_option maxHeartbeats 2000000
namespace Go.Proofs.YtjkinpbfmihhdaaGreat
open Go.RowKit
theorem cl137 : callable Tryz.prog 137 = true := by kernel_rfl

theorem cl140 : callable Tryz.prog 140 = true := by kernel_rfl

theorem cl236 : callable Tryz.prog 236 = true := by kernel_rfl

theorem cl28 : callable Tryz.prog 28 = true := by kernel_rfl

theorem cl29 : callable Tryz.prog 29 = true := by kernel_rfl

theorem cl30 : callable Tryz.prog 30 = true := by kernel_rfl

theorem cl32 : callable Tryz.prog 32 = true := by kernel_rfl

theorem cl33 : callable Tryz.prog 33 = true := by kernel_rfl

theorem cl34 : callable Tryz.prog 34 = true := by kernel_rfl

theorem cl36 : callable Tryz.prog 36 = true := by kernel_rfl

theorem cl39 : callable Tryz.prog 39 = true := by kernel_rfl

theorem cl40 : callable Tryz.prog 40 = true := by kernel_rfl

theorem fo32_0 : fieldOff Tryz.prog 32 0 0 = true := by kernel_rfl

theorem fo32_1 : fieldOff Tryz.prog 32 1 1 = true := by kernel_rfl

theorem fo61_0 : fieldOff Tryz.prog 61 0 0 = true := by kernel_rfl

theorem fo61_2 : fieldOff Tryz.prog 61 2 2 = true := by kernel_rfl

theorem fo61_3 : fieldOff Tryz.prog 61 3 3 = true := by kernel_rfl

theorem fo61_4 : fieldOff Tryz.prog 61 4 4 = true := by kernel_rfl

theorem fo61_5 : fieldOff Tryz.prog 61 5 5 = true := by kernel_rfl

theorem ts25 : sized Tryz.prog 25 6 = true := by kernel_rfl

theorem tz25 : zeroOf Tryz.prog 25 = some (.agg (planC (⟨0, 0, 0, 0, 0, 0⟩ : Plan)).toArray) := by kernel_rfl

def D.cubiclelaw13_Small  : Plan := (⟨2, 1, 4, 0, 1, 1⟩ : Plan)

theorem c_cubiclelaw13_Small (w0 : World) 
     :
    Calls Tryz.prog 40 #[] w0 (PureRes (.agg (planC D.cubiclelaw13_Small).toArray) w0) := by
 refine enter Tryz.func40 rfl 2 rfl rfl fun fr r => ?_
 have hB := Below.refl w0.heap.size w0
 refine wsr ?_
 refine seq_new (.cells ((planC (⟨0, 0, 0, 0, 0, 0⟩ : Plan))).toArray 25 (0, 0)) r (fun R => y_alloc tz25) rfl fun fr b1 w2 n3 r => ?_
 obtain ⟨e_b1, z_w2, h_b1, hB, zB⟩ := n3.all hB
 refine wn ?_
 refine wsr ?_
 refine seq_val (.agg (planC (⟨2, 1, 4, 0, 1, 1⟩ : Plan)).toArray) r (fun R => y_build r (by kernel_rfl)) rfl fun fr r => ?_
 refine seq_upd (.cells ((planC (⟨2, 1, 4, 0, 1, 1⟩ : Plan))).toArray 25 (0, 0)) r (fun R => y_store r (o := 0) (v := (.agg (planC (⟨2, 1, 4, 0, 1, 1⟩ : Plan)).toArray)) rfl rfl h_b1 ts25 (Nat.le_of_ble_eq_true rfl) rfl rfl) rfl fun fr w4 u5 r => ?_
 have z_w4 := u5.size
 have h_b1 := u5.at_
 obtain ⟨hB, zB⟩ := u5.on hB (by omega)
 refine wn ?_
 refine wp_ret ?_
 refine ret_cell r rfl rfl h_b1 (k := 6) rfl ta25 ?_
 exact ⟨rfl, hB⟩

def D.cubiclelaw13_awake (fu : Nat)  : Option (Bool) := ((D.cubiclelaw09_Laid fu D.cubiclelaw13_Small).bind (fun (x2 : Mem) => ((D.mem_Memory_Cap fu x2 0).bind (fun (x11 : Cap) => ((D.prog_Run_Res fu (fu, (D.check_New (fu + 1) (⟨D.cubiclelaw13_Small, 0, 0⟩ : Seat))) x2 x11 99).bind (fun (x13 : Res × Int × Bool × Mem) => (Option.bind (bif x13.2.2.1 then (bif (x13.1.e == 0) then (some (decide (x13.1.v > 0))) else (some false)) else (some false)) (fun (x24 : Bool) => (some x24)))))))))

theorem c_cubiclelaw13_awake {fu : Nat} (w0 : World) {res : Bool} (hD : D.cubiclelaw13_awake fu  = some res) :
    Calls Tryz.prog 27 #[] w0 (PureRes (.bool res) w0) := by
 refine enter Tryz.func27 rfl 31 rfl rfl fun fr r => ?_
 have hP : Post No [] w0 w0 := Post.nil w0
 unfold D.cubiclelaw13_awake at hD
 refine wsr ?_
 refine seq_val (.bool false) r (fun R => y_assign r rfl) rfl fun fr r => ?_
 refine wn ?_
 refine wsr ?_
 refine seq_call r (c_cubiclelaw13_Small w0 ) (fun R hc => y_call r rfl cl40 hc) rfl ?_
 rintro _ w1 ⟨rfl, hb⟩
 refine ⟨_, rfl, fun fr r => ?_⟩
 have hP : Post No [] w0 w1 := hP.below hb
 obtain ⟨x2, hx2, hD⟩ := bindD_elim hD
 refine seq_call r (c_cubiclelaw09_Laid w1 D.cubiclelaw13_Small hx2) (fun R hc => y_call r rfl cl28 hc) rfl ?_
 rintro _ w3 ⟨mg4, rfl, hq⟩
 refine ⟨_, rfl, fun fr r => ?_⟩
 have hP : Post No [memK mg4 x2] w0 w3 := hP.add hq
 refine seq_val (.pointer (some ⟨mg4.mb, 0, none⟩)) r (fun R => y_assign r rfl) rfl fun fr r => ?_
 refine wn ?_
 refine wp_seq ?_
 refine wsr ?_
 refine seq_val (.pointer (some ⟨mg4.mb, 0, none⟩)) r (fun R => y_move r rfl) rfl fun fr r => ?_
 refine seq_val _ r (fun R => y_bin r rfl rfl rfl rfl) rfl fun fr r => ?_
 refine wn ?_
 refine wp_cond_split (t := false) (r.ev rfl) (fun h => absurd ((rfl : false = _).symm.trans h) (by decide)) (fun _ => ?_)
 refine wp_skip ?_
 refine wsr ?_
 refine seq_call r (c_cubiclelaw13_Small w3 ) (fun R hc => y_call r rfl cl40 hc) rfl ?_
 rintro _ w6 ⟨rfl, hb⟩
 refine ⟨_, rfl, fun fr r => ?_⟩
 have hP : Post No [memK mg4 x2] w0 w6 := hP.below hb
 refine seq_val (.agg (seatC (⟨D.cubiclelaw13_Small, 0, 0⟩ : Seat)).toArray) r (fun R => y_build r (by kernel_rfl)) rfl fun fr r => ?_
 refine seq_call r (c_check_New (F := No) (n := fu) (j := fu + 1) (fun _ h => h.elim) (by omega) (⟨D.cubiclelaw13_Small, 0, 0⟩ : Seat)) (fun R hc => y_call r rfl cl30 hc) rfl ?_
 rintro _ w7 ⟨v8, rfl, hb, hr9⟩
 refine ⟨_, rfl, fun fr r => ?_⟩
 have hP : Post No [memK mg4 x2, progK Tryz.prog encRes (fu, (D.check_New (fu + 1) (⟨D.cubiclelaw13_Small, 0, 0⟩ : Seat))) v8 (rg w6.heap.size w7.heap.size)] w0 w7 := hP.addProg hb hr9
 refine seq_val (.pointer (some ⟨mg4.mb, 0, none⟩)) r (fun R => y_move r rfl) rfl fun fr r => ?_
 refine seq_val (.pointer (some ⟨mg4.mb, 0, none⟩)) r (fun R => y_move r rfl) rfl fun fr r => ?_
 obtain ⟨x11, hx11, hD⟩ := bindD_elim hD
 refine seq_call r (c_mem_Memory_Cap w7 x2 (hP.mem (i := 0) rfl) 0 hx11) (fun R hc => y_call r rfl cl31 hc) rfl ?_
 rintro _ w12 ⟨rfl, hb⟩
 refine ⟨_, rfl, fun fr r => ?_⟩
 have hP : Post No [memK mg4 x2, progK Tryz.prog encRes (fu, (D.check_New (fu + 1) (⟨D.cubiclelaw13_Small, 0, 0⟩ : Seat))) v8 (rg w6.heap.size w7.heap.size)] w0 w12 := hP.below hb
 obtain ⟨x13, hx13, hD⟩ := bindD_elim hD
 refine seq_call r (c_prog_Run_Res w12 (fu, (D.check_New (fu + 1) (⟨D.cubiclelaw13_Small, 0, 0⟩ : Seat))) x2 x11 99 (hP.sep.pk [1, 0] rfl rfl) hx13) (fun R hc => y_call r rfl cl29 hc) rfl ?_
 rintro _ w14 ⟨rfl, hq⟩
 refine ⟨_, rfl, fun fr r => ?_⟩
 have hP : Post No [memK mg4 x13.2.2.2, progK Tryz.prog encRes (fu, (D.check_New (fu + 1) (⟨D.cubiclelaw13_Small, 0, 0⟩ : Seat))) v8 (rg w6.heap.size w7.heap.size)] w0 w14 := hP.setN (i := 0) rfl hq
 refine seq_val (.tuple #[(.agg (resC x13.1).toArray), (I x13.2.1), (.bool x13.2.2.1)]) r (fun R => y_move r rfl) rfl fun fr r => ?_
 refine seq_val (.agg (resC x13.1).toArray) r (fun R => y_extract r (vs := #[(.agg (resC x13.1).toArray), (I x13.2.1), (.bool x13.2.2.1)]) rfl rfl) rfl fun fr r => ?_
 refine seq_val (I x13.2.1) r (fun R => y_extract r (vs := #[(.agg (resC x13.1).toArray), (I x13.2.1), (.bool x13.2.2.1)]) rfl rfl) rfl fun fr r => ?_
 refine seq_val (.bool x13.2.2.1) r (fun R => y_extract r (vs := #[(.agg (resC x13.1).toArray), (I x13.2.1), (.bool x13.2.2.1)]) rfl rfl) rfl fun fr r => ?_
 refine seq_new (.cells ((resC (⟨0, 0⟩ : Res))).toArray 32 (0, 0)) r (fun R => y_alloc tz32) rfl fun fr b15 w16 n17 r => ?_
 have hP : Post No [memK mg4 x13.2.2.2, progK Tryz.prog encRes (fu, (D.check_New (fu + 1) (⟨D.cubiclelaw13_Small, 0, 0⟩ : Seat))) v8 (rg w6.heap.size w7.heap.size), cellC b15 ((resC (⟨0, 0⟩ : Res))).toArray 32] w0 w16 := hP.new n17
 refine seq_upd (.cells ((resC x13.1)).toArray 32 (0, 0)) r (fun R => y_store r (o := 0) (v := (.agg (resC x13.1).toArray)) rfl rfl (hP.cell (i := 2) rfl) ts32 (Nat.le_of_ble_eq_true rfl) rfl rfl) rfl fun fr w19 u20 r => ?_
 have hP : Post No [memK mg4 x13.2.2.2, progK Tryz.prog encRes (fu, (D.check_New (fu + 1) (⟨D.cubiclelaw13_Small, 0, 0⟩ : Seat))) v8 (rg w6.heap.size w7.heap.size), cellC b15 ((resC x13.1)).toArray 32] w0 w19 := hP.upd (i := 2) rfl u20
 refine seq_val (I x13.2.1) r (fun R => y_assign r rfl) rfl fun fr r => ?_
 refine seq_val (.bool x13.2.2.1) r (fun R => y_assign r rfl) rfl fun fr r => ?_
 refine wn ?_
 refine wp_seq ?_
 have hP : Post No [memK mg4 x13.2.2.2, cellC b15 ((resC x13.1)).toArray 32] w0 w19 := hP.pick [0, 2] rfl rfl
 refine wp_joinG (N := 31) (Y := Bool) (G := Unit) (fun x γ => [(1, (.pointer (some ⟨mg4.mb, 0, none⟩))), (8, (.bool false)), (2, (.pointer (some ⟨b15, 0, none⟩))), (4, (.bool x13.2.2.1)), (0, (.bool x))]) (fun x γ w => Post No [memK mg4 x13.2.2.2, cellC b15 ((resC x13.1)).toArray 32] w0 w) hD ?_ ?_
 ·
  rintro y21 RPy21 nxy21 hD
  refine wp_region_lit ?_
  refine seq_val (.bool x13.2.2.1) r (fun R => y_move r rfl) rfl fun fr r => ?_
  refine seq_val (.bool x13.2.2.1) r (fun R => y_move r rfl) rfl fun fr r => ?_
  refine seq_split x13.2.2.1 (fun h22 => ?_) (fun h22 => ?_)
  ·
   have hD := (cond_t h22).symm.trans hD
   refine s1 r h22 ?_
   refine seq_val _ r (fun R => y_fieldAddr r (o := 0) rfl fo32_0) rfl fun fr r => ?_
   refine s1 r h22 ?_
   refine seq_val (I x13.1.e) r (fun R => y_load_one r rfl (hP.cell (i := 1) rfl) to30 rfl) rfl fun fr r => ?_
   refine s1 r h22 ?_
   refine seq_val _ r (fun R => y_bin r rfl rfl rfl rfl) rfl fun fr r => ?_
   refine seq_val (.bool (x13.1.e == 0)) r (fun R => y_pick r (b := true) (congrArg Value.bool h22) rfl) rfl fun fr r => ?_
   refine seq_val (.bool (x13.1.e == 0)) r (fun R => y_move r rfl) rfl fun fr r => ?_
   refine seq_split (x13.1.e == 0) (fun h23 => ?_) (fun h23 => ?_)
   ·
    have hD := (cond_t h23).symm.trans hD
    refine s1 r h23 ?_
    refine seq_val _ r (fun R => y_fieldAddr r (o := 0) rfl fo32_1) rfl fun fr r => ?_
    refine s1 r h23 ?_
    refine seq_val (U x13.1.v) r (fun R => y_load_one r rfl (hP.cell (i := 1) rfl) to22 rfl) rfl fun fr r => ?_
    refine s1 r h23 ?_
    refine seq_val _ r (fun R => y_bin r rfl rfl rfl rfl) rfl fun fr r => ?_
    refine seq_val (.bool (decide (x13.1.v > 0))) r (fun R => y_pick r (b := true) (congrArg Value.bool h23) rfl) rfl fun fr r => ?_
    refine seq_val (.bool (decide (x13.1.v > 0))) r (fun R => y_assign r rfl) rfl fun fr r => ?_
    refine wn ?_
    exact nxy21 (decide (x13.1.v > 0)) () _ _ _ hD r (hs_cons rfl (hs_cons rfl (hs_cons rfl (hs_cons rfl (hs_cons rfl hs_nil))))) (hP.pick [0, 1] rfl rfl)
   ·
    have hD := (cond_f h23).symm.trans hD
    refine s0 r h23 fun fr r => ?_
    refine s0 r h23 fun fr r => ?_
    refine s0 r h23 fun fr r => ?_
    refine seq_val (.bool false) r (fun R => y_pick r (b := false) (congrArg Value.bool h23) rfl) rfl fun fr r => ?_
    refine seq_val (.bool false) r (fun R => y_assign r rfl) rfl fun fr r => ?_
    refine wn ?_
    exact nxy21 false () _ _ _ hD r (hs_cons rfl (hs_cons rfl (hs_cons rfl (hs_cons rfl (hs_cons rfl hs_nil))))) (hP.pick [0, 1] rfl rfl)
  ·
   have hD := (cond_f h22).symm.trans hD
   refine s0 r h22 fun fr r => ?_
   refine s0 r h22 fun fr r => ?_
   refine s0 r h22 fun fr r => ?_
   refine seq_val (.bool false) r (fun R => y_pick r (b := false) (congrArg Value.bool h22) rfl) rfl fun fr r => ?_
   refine seq_val (.bool false) r (fun R => y_move r rfl) rfl fun fr r => ?_
   refine s0 r (rfl : false = _) fun fr r => ?_
   refine s0 r (rfl : false = _) fun fr r => ?_
   refine s0 r (rfl : false = _) fun fr r => ?_
   refine seq_val (.bool false) r (fun R => y_pick r (b := false) (congrArg Value.bool (rfl : false = _)) rfl) rfl fun fr r => ?_
   refine seq_val (.bool false) r (fun R => y_assign r rfl) rfl fun fr r => ?_
   refine wn ?_
   exact nxy21 false () _ _ _ hD r (hs_cons rfl (hs_cons rfl (hs_cons rfl (hs_cons rfl (hs_cons rfl hs_nil))))) (hP.pick [0, 1] rfl rfl)
 ·
  rintro x24 γ25 fr w26 g r hP hD
  have hP : Post No [memK mg4 x13.2.2.2, cellC b15 ((resC x13.1)).toArray 32] w0 w26 := hP
  refine wp_ret ?_
  have hv : x24 = res := Option.some.inj hD
  try dsimp only [Exit.then, Exit.inBlock]
  refine ret_tmp (fn := Tryz.f27) r (t := 0) rfl (v := (.bool x24)) rfl ?_
  subst hv
  exact ⟨rfl, hP.chg.below⟩

def D.cubicleref08_Formed (a0 : Handle) : Bool := (bif (decide (a0.index ≥ 0)) then (bif (decide (a0.index < 1048576)) then (bif (decide (a0.gen ≥ 0)) then (bif (decide (a0.gen < 1073741824)) then (bif (decide (a0.tenant ≥ 0)) then (decide (a0.tenant < 64)) else false) else false) else false) else false) else false)

theorem c_cubicleref08_Formed (w0 : World) 
    (a0 : Handle) :
    Calls Tryz.prog 236 #[.agg (handleC a0).toArray] w0 (PureRes (.bool (D.cubicleref08_Formed a0)) w0) := by
 refine enter Tryz.func236 rfl 31 rfl rfl fun fr r => ?_
 have hB := Below.refl w0.heap.size w0
 refine wsr ?_
 refine seq_new (.cells ((handleC a0)).toArray 63 (0, 0)) r (fun R => y_box r (v := (.agg (handleC a0).toArray)) rfl) rfl fun fr b1 w2 n3 r => ?_
 obtain ⟨e_b1, z_w2, h_b1, hB, zB⟩ := n3.all hB
 refine seq_val (.bool false) r (fun R => y_assign r rfl) rfl fun fr r => ?_
 refine wn ?_
 refine wsr ?_
 refine seq_val _ r (fun R => y_fieldAddr r (o := 0) rfl fo63_0) rfl fun fr r => ?_
 refine seq_val (I a0.index) r (fun R => y_load_one r rfl h_b1 to3 rfl) rfl fun fr r => ?_
 refine seq_val _ r (fun R => y_bin r rfl rfl rfl rfl) rfl fun fr r => ?_
 refine seq_val (.bool (decide (a0.index ≥ 0))) r (fun R => y_move r rfl) rfl fun fr r => ?_
 refine seq_split (decide (a0.index ≥ 0)) (fun h4 => ?_) (fun h4 => ?_)
 ·
  refine s1 r h4 ?_
  refine seq_val _ r (fun R => y_fieldAddr r (o := 0) rfl fo63_0) rfl fun fr r => ?_
  refine s1 r h4 ?_
  refine seq_val (I a0.index) r (fun R => y_load_one r rfl h_b1 to3 rfl) rfl fun fr r => ?_
  refine s1 r h4 ?_
  refine seq_val _ r (fun R => y_bin r rfl rfl rfl rfl) rfl fun fr r => ?_
  refine seq_val (.bool (decide (a0.index < 1048576))) r (fun R => y_pick r (b := true) (congrArg Value.bool h4) rfl) rfl fun fr r => ?_
  refine seq_val (.bool (decide (a0.index < 1048576))) r (fun R => y_move r rfl) rfl fun fr r => ?_
  refine seq_split (decide (a0.index < 1048576)) (fun h5 => ?_) (fun h5 => ?_)
  ·
   refine s1 r h5 ?_
   refine seq_val _ r (fun R => y_fieldAddr r (o := 0) rfl fo63_1) rfl fun fr r => ?_
   refine s1 r h5 ?_
   refine seq_val (I a0.gen) r (fun R => y_load_one r rfl h_b1 to3 rfl) rfl fun fr r => ?_
   refine s1 r h5 ?_
   refine seq_val _ r (fun R => y_bin r rfl rfl rfl rfl) rfl fun fr r => ?_
   refine seq_val (.bool (decide (a0.gen ≥ 0))) r (fun R => y_pick r (b := true) (congrArg Value.bool h5) rfl) rfl fun fr r => ?_
   refine seq_val (.bool (decide (a0.gen ≥ 0))) r (fun R => y_move r rfl) rfl fun fr r => ?_
   refine seq_split (decide (a0.gen ≥ 0)) (fun h6 => ?_) (fun h6 => ?_)
   ·
    refine s1 r h6 ?_
    refine seq_val _ r (fun R => y_fieldAddr r (o := 0) rfl fo63_1) rfl fun fr r => ?_
    refine s1 r h6 ?_
    refine seq_val (I a0.gen) r (fun R => y_load_one r rfl h_b1 to3 rfl) rfl fun fr r => ?_
    refine s1 r h6 ?_
    refine seq_val _ r (fun R => y_bin r rfl rfl rfl rfl) rfl fun fr r => ?_
    refine seq_val (.bool (decide (a0.gen < 1073741824))) r (fun R => y_pick r (b := true) (congrArg Value.bool h6) rfl) rfl fun fr r => ?_
    refine seq_val (.bool (decide (a0.gen < 1073741824))) r (fun R => y_move r rfl) rfl fun fr r => ?_
    refine seq_split (decide (a0.gen < 1073741824)) (fun h7 => ?_) (fun h7 => ?_)
    ·
     refine s1 r h7 ?_
     refine seq_val _ r (fun R => y_fieldAddr r (o := 0) rfl fo63_2) rfl fun fr r => ?_
     refine s1 r h7 ?_
     refine seq_val (I a0.tenant) r (fun R => y_load_one r rfl h_b1 to3 rfl) rfl fun fr r => ?_
     refine s1 r h7 ?_
     refine seq_val _ r (fun R => y_bin r rfl rfl rfl rfl) rfl fun fr r => ?_
     refine seq_val (.bool (decide (a0.tenant ≥ 0))) r (fun R => y_pick r (b := true) (congrArg Value.bool h7) rfl) rfl fun fr r => ?_
     refine seq_val (.bool (decide (a0.tenant ≥ 0))) r (fun R => y_move r rfl) rfl fun fr r => ?_
     refine seq_split (decide (a0.tenant ≥ 0)) (fun h8 => ?_) (fun h8 => ?_)
     ·
      refine s1 r h8 ?_
      refine seq_val _ r (fun R => y_fieldAddr r (o := 0) rfl fo63_2) rfl fun fr r => ?_
      refine s1 r h8 ?_
      refine seq_val (I a0.tenant) r (fun R => y_load_one r rfl h_b1 to3 rfl) rfl fun fr r => ?_
      refine s1 r h8 ?_
      refine seq_val _ r (fun R => y_bin r rfl rfl rfl rfl) rfl fun fr r => ?_
      refine seq_val (.bool (decide (a0.tenant < 64))) r (fun R => y_pick r (b := true) (congrArg Value.bool h8) rfl) rfl fun fr r => ?_
      refine seq_val (.bool (decide (a0.tenant < 64))) r (fun R => y_assign r rfl) rfl fun fr r => ?_
      refine wn ?_
      refine wp_ret ?_
      have hd : D.cubicleref08_Formed a0 = (decide (a0.tenant < 64)) := (cond_t h4).trans ((cond_t h5).trans ((cond_t h6).trans ((cond_t h7).trans ((cond_t h8).trans (rfl)))))
      refine ret_tmp r rfl rfl ?_
      rw [hd]
      exact ⟨rfl, hB⟩
     ·
      refine s0 r h8 fun fr r => ?_
      refine s0 r h8 fun fr r => ?_
      refine s0 r h8 fun fr r => ?_
      refine seq_val (.bool false) r (fun R => y_pick r (b := false) (congrArg Value.bool h8) rfl) rfl fun fr r => ?_
      refine seq_val (.bool false) r (fun R => y_assign r rfl) rfl fun fr r => ?_
      refine wn ?_
      refine wp_ret ?_
      have hd : D.cubicleref08_Formed a0 = false := (cond_t h4).trans ((cond_t h5).trans ((cond_t h6).trans ((cond_t h7).trans ((cond_f h8).trans (rfl)))))
      refine ret_tmp r rfl rfl ?_
      rw [hd]
      exact ⟨rfl, hB⟩
    ·
     refine s0 r h7 fun fr r => ?_
     refine s0 r h7 fun fr r => ?_
     refine s0 r h7 fun fr r => ?_
     refine seq_val (.bool false) r (fun R => y_pick r (b := false) (congrArg Value.bool h7) rfl) rfl fun fr r => ?_
     refine seq_val (.bool false) r (fun R => y_move r rfl) rfl fun fr r => ?_
     refine s0 r (rfl : false = _) fun fr r => ?_
     refine s0 r (rfl : false = _) fun fr r => ?_
     refine s0 r (rfl : false = _) fun fr r => ?_
     refine seq_val (.bool false) r (fun R => y_pick r (b := false) (congrArg Value.bool (rfl : false = _)) rfl) rfl fun fr r => ?_
     refine seq_val (.bool false) r (fun R => y_assign r rfl) rfl fun fr r => ?_
     refine wn ?_
     refine wp_ret ?_
     have hd : D.cubicleref08_Formed a0 = false := (cond_t h4).trans ((cond_t h5).trans ((cond_t h6).trans ((cond_f h7).trans (rfl))))
     refine ret_tmp r rfl rfl ?_
     rw [hd]
     exact ⟨rfl, hB⟩
   ·
    refine s0 r h6 fun fr r => ?_
    refine s0 r h6 fun fr r => ?_
    refine s0 r h6 fun fr r => ?_
    refine seq_val (.bool false) r (fun R => y_pick r (b := false) (congrArg Value.bool h6) rfl) rfl fun fr r => ?_
    refine seq_val (.bool false) r (fun R => y_move r rfl) rfl fun fr r => ?_
    refine s0 r (rfl : false = _) fun fr r => ?_
    refine s0 r (rfl : false = _) fun fr r => ?_
    refine s0 r (rfl : false = _) fun fr r => ?_
    refine seq_val (.bool false) r (fun R => y_pick r (b := false) (congrArg Value.bool (rfl : false = _)) rfl) rfl fun fr r => ?_
    refine seq_val (.bool false) r (fun R => y_move r rfl) rfl fun fr r => ?_
    refine s0 r (rfl : false = _) fun fr r => ?_
    refine s0 r (rfl : false = _) fun fr r => ?_
    refine s0 r (rfl : false = _) fun fr r => ?_
    refine seq_val (.bool false) r (fun R => y_pick r (b := false) (congrArg Value.bool (rfl : false = _)) rfl) rfl fun fr r => ?_
    refine seq_val (.bool false) r (fun R => y_assign r rfl) rfl fun fr r => ?_
    refine wn ?_
    refine wp_ret ?_
    have hd : D.cubicleref08_Formed a0 = false := (cond_t h4).trans ((cond_t h5).trans ((cond_f h6).trans (rfl)))
    refine ret_tmp r rfl rfl ?_
    rw [hd]
    exact ⟨rfl, hB⟩
  ·
   refine s0 r h5 fun fr r => ?_
   refine s0 r h5 fun fr r => ?_
   refine s0 r h5 fun fr r => ?_
   refine seq_val (.bool false) r (fun R => y_pick r (b := false) (congrArg Value.bool h5) rfl) rfl fun fr r => ?_
   refine seq_val (.bool false) r (fun R => y_move r rfl) rfl fun fr r => ?_
   refine s0 r (rfl : false = _) fun fr r => ?_
   refine s0 r (rfl : false = _) fun fr r => ?_
   refine s0 r (rfl : false = _) fun fr r => ?_
   refine seq_val (.bool false) r (fun R => y_pick r (b := false) (congrArg Value.bool (rfl : false = _)) rfl) rfl fun fr r => ?_
   refine seq_val (.bool false) r (fun R => y_move r rfl) rfl fun fr r => ?_
   refine s0 r (rfl : false = _) fun fr r => ?_
   refine s0 r (rfl : false = _) fun fr r => ?_
   refine s0 r (rfl : false = _) fun fr r => ?_
   refine seq_val (.bool false) r (fun R => y_pick r (b := false) (congrArg Value.bool (rfl : false = _)) rfl) rfl fun fr r => ?_
   refine seq_val (.bool false) r (fun R => y_move r rfl) rfl fun fr r => ?_
   refine s0 r (rfl : false = _) fun fr r => ?_
   refine s0 r (rfl : false = _) fun fr r => ?_
   refine s0 r (rfl : false = _) fun fr r => ?_
   refine seq_val (.bool false) r (fun R => y_pick r (b := false) (congrArg Value.bool (rfl : false = _)) rfl) rfl fun fr r => ?_
   refine seq_val (.bool false) r (fun R => y_assign r rfl) rfl fun fr r => ?_
   refine wn ?_
   refine wp_ret ?_
   have hd : D.cubicleref08_Formed a0 = false := (cond_t h4).trans ((cond_f h5).trans (rfl))
   refine ret_tmp r rfl rfl ?_
   rw [hd]
   exact ⟨rfl, hB⟩
 ·
  refine s0 r h4 fun fr r => ?_
  refine s0 r h4 fun fr r => ?_
  refine s0 r h4 fun fr r => ?_
  refine seq_val (.bool false) r (fun R => y_pick r (b := false) (congrArg Value.bool h4) rfl) rfl fun fr r => ?_
  refine seq_val (.bool false) r (fun R => y_move r rfl) rfl fun fr r => ?_
  refine s0 r (rfl : false = _) fun fr r => ?_
  refine s0 r (rfl : false = _) fun fr r => ?_
  refine s0 r (rfl : false = _) fun fr r => ?_
  refine seq_val (.bool false) r (fun R => y_pick r (b := false) (congrArg Value.bool (rfl : false = _)) rfl) rfl fun fr r => ?_
  refine seq_val (.bool false) r (fun R => y_move r rfl) rfl fun fr r => ?_
  refine s0 r (rfl : false = _) fun fr r => ?_
  refine s0 r (rfl : false = _) fun fr r => ?_
  refine s0 r (rfl : false = _) fun fr r => ?_
  refine seq_val (.bool false) r (fun R => y_pick r (b := false) (congrArg Value.bool (rfl : false = _)) rfl) rfl fun fr r => ?_
  refine seq_val (.bool false) r (fun R => y_move r rfl) rfl fun fr r => ?_
  refine s0 r (rfl : false = _) fun fr r => ?_
  refine s0 r (rfl : false = _) fun fr r => ?_
  refine s0 r (rfl : false = _) fun fr r => ?_
  refine seq_val (.bool false) r (fun R => y_pick r (b := false) (congrArg Value.bool (rfl : false = _)) rfl) rfl fun fr r => ?_
  refine seq_val (.bool false) r (fun R => y_move r rfl) rfl fun fr r => ?_
  refine s0 r (rfl : false = _) fun fr r => ?_
  refine s0 r (rfl : false = _) fun fr r => ?_
  refine s0 r (rfl : false = _) fun fr r => ?_
  refine seq_val (.bool false) r (fun R => y_pick r (b := false) (congrArg Value.bool (rfl : false = _)) rfl) rfl fun fr r => ?_
  refine seq_val (.bool false) r (fun R => y_assign r rfl) rfl fun fr r => ?_
  refine wn ?_
  refine wp_ret ?_
  have hd : D.cubicleref08_Formed a0 = false := (cond_f h4).trans (rfl)
  refine ret_tmp r rfl rfl ?_
  rw [hd]
  exact ⟨rfl, hB⟩

def D.cubicleref08_Word (a0 : Handle) : Int := (bif (!(D.cubicleref08_Formed a0)) then 0 else (IntKind.u64.wrap ((IntKind.u64.wrap ((IntKind.u64.wrap ((IntKind.u64.wrap a0.index) + (shlI .u64 (IntKind.u64.wrap a0.gen) 20))) + (shlI .u64 (IntKind.u64.wrap a0.tenant) 50))) + 12105675798371893248)))

theorem c_cubicleref08_Word (w0 : World) 
    (a0 : Handle) :
    Calls Tryz.prog 140 #[.agg (handleC a0).toArray] w0 (PureRes (.int .u64 (D.cubicleref08_Word a0)) w0) := by
 refine enter Tryz.func140 rfl 20 rfl rfl fun fr r => ?_
 have hB := Below.refl w0.heap.size w0
 refine wsr ?_
 refine seq_new (.cells ((handleC a0)).toArray 63 (0, 0)) r (fun R => y_box r (v := (.agg (handleC a0).toArray)) rfl) rfl fun fr b1 w2 n3 r => ?_
 obtain ⟨e_b1, z_w2, h_b1, hB, zB⟩ := n3.all hB
 refine seq_val (U 0) r (fun R => y_assign r rfl) rfl fun fr r => ?_
 refine wn ?_
 refine wp_seq ?_
 refine wsr ?_
 refine seq_val (.agg (handleC a0).toArray) r (fun R => y_load_agg r (cs := (handleC a0)) (n := 3) rfl h_b1 ta63 rfl) rfl fun fr r => ?_
 refine seq_call r (c_cubicleref08_Formed w2 a0) (fun R hc => y_call r rfl cl236 hc) rfl ?_
 rintro _ w4 ⟨rfl, hb⟩
 refine ⟨_, rfl, fun fr r => ?_⟩
 have z_w4 := hb.size
 have h_b1 := keep hb h_b1
 obtain ⟨hB, zB⟩ := bon hb hB
 refine seq_val (.bool (!(D.cubicleref08_Formed a0))) r (fun R => y_un r (u := (.bool (D.cubicleref08_Formed a0))) rfl rfl) rfl fun fr r => ?_
 refine wn ?_
 refine wp_cond_split (t := (!(D.cubicleref08_Formed a0))) (r.ev rfl) (fun h5 => ?_) (fun h5 => ?_)
 ·
  refine wsr ?_
  refine seq_val (U 0) r (fun R => y_assign r rfl) rfl fun fr r => ?_
  refine wn ?_
  refine wp_ret ?_
  have hd : D.cubicleref08_Word a0 = 0 := (cond_t h5).trans (rfl)
  refine ret_tmp r rfl rfl ?_
  rw [hd]
  exact ⟨rfl, hB⟩
 ·
  refine wp_skip ?_
  refine wsr ?_
  refine seq_val _ r (fun R => y_fieldAddr r (o := 0) rfl fo63_0) rfl fun fr r => ?_
  refine seq_val (I a0.index) r (fun R => y_load_one r rfl h_b1 to3 rfl) rfl fun fr r => ?_
  refine seq_val (U (V a0.index)) r (fun R => y_convert r rfl ti3 ti22) rfl fun fr r => ?_
  refine seq_val _ r (fun R => y_fieldAddr r (o := 0) rfl fo63_1) rfl fun fr r => ?_
  refine seq_val (I a0.gen) r (fun R => y_load_one r rfl h_b1 to3 rfl) rfl fun fr r => ?_
  refine seq_val (U (V a0.gen)) r (fun R => y_convert r rfl ti3 ti22) rfl fun fr r => ?_
  refine seq_val _ r (fun R => y_bin r rfl rfl rfl (bin_shl (by first | assumption | decide))) rfl fun fr r => ?_
  refine seq_val _ r (fun R => y_bin r rfl rfl rfl rfl) rfl fun fr r => ?_
  refine seq_val _ r (fun R => y_fieldAddr r (o := 0) rfl fo63_2) rfl fun fr r => ?_
  refine seq_val (I a0.tenant) r (fun R => y_load_one r rfl h_b1 to3 rfl) rfl fun fr r => ?_
  refine seq_val (U (V a0.tenant)) r (fun R => y_convert r rfl ti3 ti22) rfl fun fr r => ?_
  refine seq_val _ r (fun R => y_bin r rfl rfl rfl (bin_shl (by first | assumption | decide))) rfl fun fr r => ?_
  refine seq_val _ r (fun R => y_bin r rfl rfl rfl rfl) rfl fun fr r => ?_
  refine seq_val _ r (fun R => y_bin r rfl rfl rfl rfl) rfl fun fr r => ?_
  refine seq_val (U (V ((V ((V ((V a0.index) + (shlI .u64 (V a0.gen) 20))) + (shlI .u64 (V a0.tenant) 50))) + 12105675798371893248))) r (fun R => y_assign r rfl) rfl fun fr r => ?_
  refine wn ?_
  refine wp_ret ?_
  have hd : D.cubicleref08_Word a0 = (V ((V ((V ((V a0.index) + (shlI .u64 (V a0.gen) 20))) + (shlI .u64 (V a0.tenant) 50))) + 12105675798371893248)) := (cond_f h5).trans (rfl)
  refine ret_tmp r rfl rfl ?_
  rw [hd]
  exact ⟨rfl, hB⟩

def D.cubicleref08_Of (a0 : Int) : Handle × Bool := (bif ((D.cubicleref08_Word (⟨(IntKind.i64.wrap (a0.tmod 1048576)), (IntKind.i64.wrap ((shrI .u64 a0 20).tmod 1073741824)), (IntKind.i64.wrap ((shrI .u64 a0 50).tmod 64))⟩ : Handle)) != a0) then ((⟨0, 0, 0⟩ : Handle), false) else ((⟨(IntKind.i64.wrap (a0.tmod 1048576)), (IntKind.i64.wrap ((shrI .u64 a0 20).tmod 1073741824)), (IntKind.i64.wrap ((shrI .u64 a0 50).tmod 64))⟩ : Handle), true))

theorem c_cubicleref08_Of (w0 : World) 
    (a0 : Int) :
    Calls Tryz.prog 137 #[.int .u64 a0] w0 (PureRes (.tuple #[(.agg (handleC (D.cubicleref08_Of a0).1).toArray), (.bool (D.cubicleref08_Of a0).2)]) w0) := by
 refine enter Tryz.func137 rfl 23 rfl rfl fun fr r => ?_
 have hB := Below.refl w0.heap.size w0
 refine wsr ?_
 refine seq_new (.cells ((handleC (⟨0, 0, 0⟩ : Handle))).toArray 63 (0, 0)) r (fun R => y_alloc tz63) rfl fun fr b1 w2 n3 r => ?_
 obtain ⟨e_b1, z_w2, h_b1, hB, zB⟩ := n3.all hB
 refine seq_val (.bool false) r (fun R => y_assign r rfl) rfl fun fr r => ?_
 refine wn ?_
 refine wsr ?_
 refine seq_val (U a0) r (fun R => y_move r rfl) rfl fun fr r => ?_
 refine seq_val _ r (fun R => y_bin r rfl rfl rfl rfl) rfl fun fr r => ?_
 refine seq_val (I (W (a0.tmod 1048576))) r (fun R => y_convert r rfl ti22 ti3) rfl fun fr r => ?_
 refine seq_val (U a0) r (fun R => y_move r rfl) rfl fun fr r => ?_
 refine seq_val _ r (fun R => y_bin r rfl rfl rfl (bin_shr (by first | assumption | decide))) rfl fun fr r => ?_
 refine seq_val _ r (fun R => y_bin r rfl rfl rfl rfl) rfl fun fr r => ?_
 refine seq_val (I (W ((shrI .u64 a0 20).tmod 1073741824))) r (fun R => y_convert r rfl ti22 ti3) rfl fun fr r => ?_
 refine seq_val (U a0) r (fun R => y_move r rfl) rfl fun fr r => ?_
 refine seq_val _ r (fun R => y_bin r rfl rfl rfl (bin_shr (by first | assumption | decide))) rfl fun fr r => ?_
 refine seq_val _ r (fun R => y_bin r rfl rfl rfl rfl) rfl fun fr r => ?_
 refine seq_val (I (W ((shrI .u64 a0 50).tmod 64))) r (fun R => y_convert r rfl ti22 ti3) rfl fun fr r => ?_
 refine seq_val (.agg (handleC (⟨(W (a0.tmod 1048576)), (W ((shrI .u64 a0 20).tmod 1073741824)), (W ((shrI .u64 a0 50).tmod 64))⟩ : Handle)).toArray) r (fun R => y_build r (by kernel_rfl)) rfl fun fr r => ?_
 refine seq_new (.cells ((handleC (⟨0, 0, 0⟩ : Handle))).toArray 63 (0, 0)) r (fun R => y_alloc tz63) rfl fun fr b4 w5 n6 r => ?_
 have h_b1 := keep n6.below h_b1
 obtain ⟨e_b4, z_w5, h_b4, hB, zB⟩ := n6.all hB
 refine seq_upd (.cells ((handleC (⟨(W (a0.tmod 1048576)), (W ((shrI .u64 a0 20).tmod 1073741824)), (W ((shrI .u64 a0 50).tmod 64))⟩ : Handle))).toArray 63 (0, 0)) r (fun R => y_store r (o := 0) (v := (.agg (handleC (⟨(W (a0.tmod 1048576)), (W ((shrI .u64 a0 20).tmod 1073741824)), (W ((shrI .u64 a0 50).tmod 64))⟩ : Handle)).toArray)) rfl rfl h_b4 ts63 (Nat.le_of_ble_eq_true rfl) rfl rfl) rfl fun fr w7 u8 r => ?_
 have z_w7 := u8.size
 have h_b1 := u8.keep h_b1 (by omega)
 have h_b4 := u8.at_
 obtain ⟨hB, zB⟩ := u8.on hB (by omega)
 refine wn ?_
 refine wp_seq ?_
 refine wsr ?_
 refine seq_val (.agg (handleC (⟨(W (a0.tmod 1048576)), (W ((shrI .u64 a0 20).tmod 1073741824)), (W ((shrI .u64 a0 50).tmod 64))⟩ : Handle)).toArray) r (fun R => y_load_agg r (cs := (handleC (⟨(W (a0.tmod 1048576)), (W ((shrI .u64 a0 20).tmod 1073741824)), (W ((shrI .u64 a0 50).tmod 64))⟩ : Handle))) (n := 3) rfl h_b4 ta63 rfl) rfl fun fr r => ?_
 refine seq_call r (c_cubicleref08_Word w7 (⟨(W (a0.tmod 1048576)), (W ((shrI .u64 a0 20).tmod 1073741824)), (W ((shrI .u64 a0 50).tmod 64))⟩ : Handle)) (fun R hc => y_call r rfl cl140 hc) rfl ?_
 rintro _ w9 ⟨rfl, hb⟩
 refine ⟨_, rfl, fun fr r => ?_⟩
 have z_w9 := hb.size
 have h_b1 := keep hb h_b1
 have h_b4 := keep hb h_b4
 obtain ⟨hB, zB⟩ := bon hb hB
 refine seq_val (U a0) r (fun R => y_move r rfl) rfl fun fr r => ?_
 refine seq_val _ r (fun R => y_bin r rfl rfl rfl rfl) rfl fun fr r => ?_
 refine wn ?_
 refine wp_cond_split (t := ((D.cubicleref08_Word (⟨(W (a0.tmod 1048576)), (W ((shrI .u64 a0 20).tmod 1073741824)), (W ((shrI .u64 a0 50).tmod 64))⟩ : Handle)) != a0)) (r.ev rfl) (fun h10 => ?_) (fun h10 => ?_)
 ·
  refine wsr ?_
  refine seq_val (.agg (handleC (⟨0, 0, 0⟩ : Handle)).toArray) r (fun R => y_build r (by kernel_rfl)) rfl fun fr r => ?_
  refine seq_upd (.cells ((handleC (⟨0, 0, 0⟩ : Handle))).toArray 63 (0, 0)) r (fun R => y_store r (o := 0) (v := (.agg (handleC (⟨0, 0, 0⟩ : Handle)).toArray)) rfl rfl h_b1 ts63 (Nat.le_of_ble_eq_true rfl) rfl rfl) rfl fun fr w11 u12 r => ?_
  have z_w11 := u12.size
  have h_b4 := u12.keep h_b4 (by omega)
  have h_b1 := u12.at_
  obtain ⟨hB, zB⟩ := u12.on hB (by omega)
  refine seq_val (.bool false) r (fun R => y_assign r rfl) rfl fun fr r => ?_
  refine wn ?_
  refine wp_ret ?_
  have hd : D.cubicleref08_Of a0 = ((⟨0, 0, 0⟩ : Handle), false) := (cond_t h10).trans (rfl)
  refine ret_cell_tmp r rfl rfl (v' := (.bool false)) rfl h_b1 (k := 3) rfl ta63 ?_
  rw [hd]
  exact ⟨rfl, hB⟩
 ·
  refine wp_skip ?_
  refine wsr ?_
  refine seq_val (.agg (handleC (⟨(W (a0.tmod 1048576)), (W ((shrI .u64 a0 20).tmod 1073741824)), (W ((shrI .u64 a0 50).tmod 64))⟩ : Handle)).toArray) r (fun R => y_load_agg r (cs := (handleC (⟨(W (a0.tmod 1048576)), (W ((shrI .u64 a0 20).tmod 1073741824)), (W ((shrI .u64 a0 50).tmod 64))⟩ : Handle))) (n := 3) rfl h_b4 ta63 rfl) rfl fun fr r => ?_
  refine seq_upd (.cells ((handleC (⟨(W (a0.tmod 1048576)), (W ((shrI .u64 a0 20).tmod 1073741824)), (W ((shrI .u64 a0 50).tmod 64))⟩ : Handle))).toArray 63 (0, 0)) r (fun R => y_store r (o := 0) (v := (.agg (handleC (⟨(W (a0.tmod 1048576)), (W ((shrI .u64 a0 20).tmod 1073741824)), (W ((shrI .u64 a0 50).tmod 64))⟩ : Handle)).toArray)) rfl rfl h_b1 ts63 (Nat.le_of_ble_eq_true rfl) rfl rfl) rfl fun fr w13 u14 r => ?_
  have z_w13 := u14.size
  have h_b4 := u14.keep h_b4 (by omega)
  have h_b1 := u14.at_
  obtain ⟨hB, zB⟩ := u14.on hB (by omega)
  refine seq_val (.bool true) r (fun R => y_assign r rfl) rfl fun fr r => ?_
  refine wn ?_
  refine wp_ret ?_
  have hd : D.cubicleref08_Of a0 = ((⟨(W (a0.tmod 1048576)), (W ((shrI .u64 a0 20).tmod 1073741824)), (W ((shrI .u64 a0 50).tmod 64))⟩ : Handle), true) := (cond_f h10).trans (rfl)
  refine ret_cell_tmp r rfl rfl (v' := (.bool true)) rfl h_b1 (k := 3) rfl ta63 ?_
  rw [hd]
  exact ⟨rfl, hB⟩

def D.cubicleref08_Mine (a0 : Int) (a1 : Int) (a2 : Int) : Handle × Bool := (bif (!((D.cubicleref08_Of a0).2)) then ((⟨0, 0, 0⟩ : Handle), false) else (bif ((((D.cubicleref08_Of a0).1).tenant) != a1) then ((⟨0, 0, 0⟩ : Handle), false) else (bif (decide ((((D.cubicleref08_Of a0).1).index) ≥ a2)) then ((⟨0, 0, 0⟩ : Handle), false) else ((D.cubicleref08_Of a0).1, true))))

theorem c_cubicleref08_Mine (w0 : World) 
    (a0 : Int) (a1 : Int) (a2 : Int) :
    Calls Tryz.prog 42 #[.int .u64 a0, .int .i64 a1, .int .i64 a2] w0 (PureRes (.tuple #[(.agg (handleC (D.cubicleref08_Mine a0 a1 a2).1).toArray), (.bool (D.cubicleref08_Mine a0 a1 a2).2)]) w0) := by
 refine enter Tryz.func42 rfl 31 rfl rfl fun fr r => ?_
 have hB := Below.refl w0.heap.size w0
 refine wsr ?_
 refine seq_new (.cells ((handleC (⟨0, 0, 0⟩ : Handle))).toArray 63 (0, 0)) r (fun R => y_alloc tz63) rfl fun fr b1 w2 n3 r => ?_
 obtain ⟨e_b1, z_w2, h_b1, hB, zB⟩ := n3.all hB
 refine seq_val (.bool false) r (fun R => y_assign r rfl) rfl fun fr r => ?_
 refine wn ?_
 refine wsr ?_
 refine seq_val (U a0) r (fun R => y_move r rfl) rfl fun fr r => ?_
 refine seq_call r (c_cubicleref08_Of w2 a0) (fun R hc => y_call r rfl cl137 hc) rfl ?_
 rintro _ w4 ⟨rfl, hb⟩
 refine ⟨_, rfl, fun fr r => ?_⟩
 have z_w4 := hb.size
 have h_b1 := keep hb h_b1
 obtain ⟨hB, zB⟩ := bon hb hB
 refine seq_val (.tuple #[(.agg (handleC (D.cubicleref08_Of a0).1).toArray), (.bool (D.cubicleref08_Of a0).2)]) r (fun R => y_move r rfl) rfl fun fr r => ?_
 refine seq_val (.agg (handleC (D.cubicleref08_Of a0).1).toArray) r (fun R => y_extract r (vs := #[(.agg (handleC (D.cubicleref08_Of a0).1).toArray), (.bool (D.cubicleref08_Of a0).2)]) rfl rfl) rfl fun fr r => ?_
 refine seq_val (.bool (D.cubicleref08_Of a0).2) r (fun R => y_extract r (vs := #[(.agg (handleC (D.cubicleref08_Of a0).1).toArray), (.bool (D.cubicleref08_Of a0).2)]) rfl rfl) rfl fun fr r => ?_
 refine seq_new (.cells ((handleC (⟨0, 0, 0⟩ : Handle))).toArray 63 (0, 0)) r (fun R => y_alloc tz63) rfl fun fr b5 w6 n7 r => ?_
 have h_b1 := keep n7.below h_b1
 obtain ⟨e_b5, z_w6, h_b5, hB, zB⟩ := n7.all hB
 refine seq_upd (.cells ((handleC ((D.cubicleref08_Of a0).1))).toArray 63 (0, 0)) r (fun R => y_store r (o := 0) (v := (.agg (handleC (D.cubicleref08_Of a0).1).toArray)) rfl rfl h_b5 ts63 (Nat.le_of_ble_eq_true rfl) rfl rfl) rfl fun fr w8 u9 r => ?_
 have z_w8 := u9.size
 have h_b1 := u9.keep h_b1 (by omega)
 have h_b5 := u9.at_
 obtain ⟨hB, zB⟩ := u9.on hB (by omega)
 refine seq_val (.bool (D.cubicleref08_Of a0).2) r (fun R => y_assign r rfl) rfl fun fr r => ?_
 refine wn ?_
 refine wp_seq ?_
 refine wsr ?_
 refine seq_val (.bool (D.cubicleref08_Of a0).2) r (fun R => y_move r rfl) rfl fun fr r => ?_
 refine seq_val (.bool (!((D.cubicleref08_Of a0).2))) r (fun R => y_un r (u := (.bool (D.cubicleref08_Of a0).2)) rfl rfl) rfl fun fr r => ?_
 refine seq_val (.bool (!((D.cubicleref08_Of a0).2))) r (fun R => y_move r rfl) rfl fun fr r => ?_
 refine seq_split (!((D.cubicleref08_Of a0).2)) (fun h10 => ?_) (fun h10 => ?_)
 ·
  refine s0 r h10 fun fr r => ?_
  refine s0 r h10 fun fr r => ?_
  refine s0 r h10 fun fr r => ?_
  refine s0 r h10 fun fr r => ?_
  refine seq_val (.bool true) r (fun R => y_pick r (b := true) (congrArg Value.bool h10) rfl) rfl fun fr r => ?_
  refine seq_val (.bool true) r (fun R => y_move r rfl) rfl fun fr r => ?_
  refine s0 r (rfl : true = _) fun fr r => ?_
  refine s0 r (rfl : true = _) fun fr r => ?_
  refine s0 r (rfl : true = _) fun fr r => ?_
  refine s0 r (rfl : true = _) fun fr r => ?_
  refine seq_val (.bool true) r (fun R => y_pick r (b := true) (congrArg Value.bool (rfl : true = _)) rfl) rfl fun fr r => ?_
  refine wn ?_
  refine wp_cond_split (t := true) (r.ev rfl) (fun _ => ?_) (fun h => absurd ((rfl : true = _).symm.trans h) (by decide))
  refine wsr ?_
  refine seq_val (.agg (handleC (⟨0, 0, 0⟩ : Handle)).toArray) r (fun R => y_build r (by kernel_rfl)) rfl fun fr r => ?_
  refine seq_upd (.cells ((handleC (⟨0, 0, 0⟩ : Handle))).toArray 63 (0, 0)) r (fun R => y_store r (o := 0) (v := (.agg (handleC (⟨0, 0, 0⟩ : Handle)).toArray)) rfl rfl h_b1 ts63 (Nat.le_of_ble_eq_true rfl) rfl rfl) rfl fun fr w11 u12 r => ?_
  have z_w11 := u12.size
  have h_b5 := u12.keep h_b5 (by omega)
  have h_b1 := u12.at_
  obtain ⟨hB, zB⟩ := u12.on hB (by omega)
  refine seq_val (.bool false) r (fun R => y_assign r rfl) rfl fun fr r => ?_
  refine wn ?_
  refine wp_ret ?_
  have hd : D.cubicleref08_Mine a0 a1 a2 = ((⟨0, 0, 0⟩ : Handle), false) := (cond_t h10).trans (rfl)
  refine ret_cell_tmp r rfl rfl (v' := (.bool false)) rfl h_b1 (k := 3) rfl ta63 ?_
  rw [hd]
  exact ⟨rfl, hB⟩
 ·
  refine s1 r h10 ?_
  refine seq_val _ r (fun R => y_fieldAddr r (o := 0) rfl fo63_2) rfl fun fr r => ?_
  refine s1 r h10 ?_
  refine seq_val (I ((D.cubicleref08_Of a0).1).tenant) r (fun R => y_load_one r rfl h_b5 to3 rfl) rfl fun fr r => ?_
  refine s1 r h10 ?_
  refine seq_val (I a1) r (fun R => y_move r rfl) rfl fun fr r => ?_
  refine s1 r h10 ?_
  refine seq_val _ r (fun R => y_bin r rfl rfl rfl rfl) rfl fun fr r => ?_
  refine seq_val (.bool ((((D.cubicleref08_Of a0).1).tenant) != a1)) r (fun R => y_pick r (b := false) (congrArg Value.bool h10) rfl) rfl fun fr r => ?_
  refine seq_val (.bool ((((D.cubicleref08_Of a0).1).tenant) != a1)) r (fun R => y_move r rfl) rfl fun fr r => ?_
  refine seq_split ((((D.cubicleref08_Of a0).1).tenant) != a1) (fun h13 => ?_) (fun h13 => ?_)
  ·
   refine s0 r h13 fun fr r => ?_
   refine s0 r h13 fun fr r => ?_
   refine s0 r h13 fun fr r => ?_
   refine s0 r h13 fun fr r => ?_
   refine seq_val (.bool true) r (fun R => y_pick r (b := true) (congrArg Value.bool h13) rfl) rfl fun fr r => ?_
   refine wn ?_
   refine wp_cond_split (t := true) (r.ev rfl) (fun _ => ?_) (fun h => absurd ((rfl : true = _).symm.trans h) (by decide))
   refine wsr ?_
   refine seq_val (.agg (handleC (⟨0, 0, 0⟩ : Handle)).toArray) r (fun R => y_build r (by kernel_rfl)) rfl fun fr r => ?_
   refine seq_upd (.cells ((handleC (⟨0, 0, 0⟩ : Handle))).toArray 63 (0, 0)) r (fun R => y_store r (o := 0) (v := (.agg (handleC (⟨0, 0, 0⟩ : Handle)).toArray)) rfl rfl h_b1 ts63 (Nat.le_of_ble_eq_true rfl) rfl rfl) rfl fun fr w14 u15 r => ?_
   have z_w14 := u15.size
   have h_b5 := u15.keep h_b5 (by omega)
   have h_b1 := u15.at_
   obtain ⟨hB, zB⟩ := u15.on hB (by omega)
   refine seq_val (.bool false) r (fun R => y_assign r rfl) rfl fun fr r => ?_
   refine wn ?_
   refine wp_ret ?_
   have hd : D.cubicleref08_Mine a0 a1 a2 = ((⟨0, 0, 0⟩ : Handle), false) := (cond_f h10).trans ((cond_t h13).trans (rfl))
   refine ret_cell_tmp r rfl rfl (v' := (.bool false)) rfl h_b1 (k := 3) rfl ta63 ?_
   rw [hd]
   exact ⟨rfl, hB⟩
  ·
   refine s1 r h13 ?_
   refine seq_val _ r (fun R => y_fieldAddr r (o := 0) rfl fo63_0) rfl fun fr r => ?_
   refine s1 r h13 ?_
   refine seq_val (I ((D.cubicleref08_Of a0).1).index) r (fun R => y_load_one r rfl h_b5 to3 rfl) rfl fun fr r => ?_
   refine s1 r h13 ?_
   refine seq_val (I a2) r (fun R => y_move r rfl) rfl fun fr r => ?_
   refine s1 r h13 ?_
   refine seq_val _ r (fun R => y_bin r rfl rfl rfl rfl) rfl fun fr r => ?_
   refine seq_val (.bool (decide ((((D.cubicleref08_Of a0).1).index) ≥ a2))) r (fun R => y_pick r (b := false) (congrArg Value.bool h13) rfl) rfl fun fr r => ?_
   refine wn ?_
   refine wp_cond_split (t := (decide ((((D.cubicleref08_Of a0).1).index) ≥ a2))) (r.ev rfl) (fun h16 => ?_) (fun h16 => ?_)
   ·
    refine wsr ?_
    refine seq_val (.agg (handleC (⟨0, 0, 0⟩ : Handle)).toArray) r (fun R => y_build r (by kernel_rfl)) rfl fun fr r => ?_
    refine seq_upd (.cells ((handleC (⟨0, 0, 0⟩ : Handle))).toArray 63 (0, 0)) r (fun R => y_store r (o := 0) (v := (.agg (handleC (⟨0, 0, 0⟩ : Handle)).toArray)) rfl rfl h_b1 ts63 (Nat.le_of_ble_eq_true rfl) rfl rfl) rfl fun fr w17 u18 r => ?_
    have z_w17 := u18.size
    have h_b5 := u18.keep h_b5 (by omega)
    have h_b1 := u18.at_
    obtain ⟨hB, zB⟩ := u18.on hB (by omega)
    refine seq_val (.bool false) r (fun R => y_assign r rfl) rfl fun fr r => ?_
    refine wn ?_
    refine wp_ret ?_
    have hd : D.cubicleref08_Mine a0 a1 a2 = ((⟨0, 0, 0⟩ : Handle), false) := (cond_f h10).trans ((cond_f h13).trans ((cond_t h16).trans (rfl)))
    refine ret_cell_tmp r rfl rfl (v' := (.bool false)) rfl h_b1 (k := 3) rfl ta63 ?_
    rw [hd]
    exact ⟨rfl, hB⟩
   ·
    refine wp_skip ?_
    refine wsr ?_
    refine seq_val (.agg (handleC (D.cubicleref08_Of a0).1).toArray) r (fun R => y_load_agg r (cs := (handleC ((D.cubicleref08_Of a0).1))) (n := 3) rfl h_b5 ta63 rfl) rfl fun fr r => ?_
    refine seq_upd (.cells ((handleC ((D.cubicleref08_Of a0).1))).toArray 63 (0, 0)) r (fun R => y_store r (o := 0) (v := (.agg (handleC (D.cubicleref08_Of a0).1).toArray)) rfl rfl h_b1 ts63 (Nat.le_of_ble_eq_true rfl) rfl rfl) rfl fun fr w19 u20 r => ?_
    have z_w19 := u20.size
    have h_b5 := u20.keep h_b5 (by omega)
    have h_b1 := u20.at_
    obtain ⟨hB, zB⟩ := u20.on hB (by omega)
    refine seq_val (.bool true) r (fun R => y_assign r rfl) rfl fun fr r => ?_
    refine wn ?_
    refine wp_ret ?_
    have hd : D.cubicleref08_Mine a0 a1 a2 = ((D.cubicleref08_Of a0).1, true) := (cond_f h10).trans ((cond_f h13).trans ((cond_f h16).trans (rfl)))
    refine ret_cell_tmp r rfl rfl (v' := (.bool true)) rfl h_b1 (k := 3) rfl ta63 ?_
    rw [hd]
    exact ⟨rfl, hB⟩

def D.cubiclelaw13_Made (j : Nat) (a0 : Seat) (a1 : OpR) : T Res := (bif (a1.code == 1) then (D.check_New j a0) else (bif (a1.code == 2) then (D.check_Drop j a0 a1.h) else (bif (a1.code == 3) then (D.check_Read a0 a1.h a1.f) else (bif (a1.code == 4) then (D.check_Write a0 a1.h a1.f a1.a) else (D.check_Swap a0 a1.h a1.f a1.a a1.b)))))

theorem c_cubiclelaw13_Made {n : Nat} {F : Nat → Prop} {j : Nat} {w0 : World} (hF : ∀ b, F b → b < w0.heap.size) (hj : n < j)
    (a0 : Seat) (a1 : OpR) :
    Calls Tryz.prog 43 #[.agg (seatC a0).toArray, .agg (opRC a1).toArray] w0 (RepRes Tryz.prog encRes n (D.cubiclelaw13_Made j a0 a1) F w0) := by
 refine enter Tryz.func43 rfl 45 rfl rfl fun fr r => ?_
 have hB := Below.refl w0.heap.size w0
 refine wsr ?_
 refine seq_new (.cells ((seatC a0)).toArray 29 (0, 0)) r (fun R => y_box r (v := (.agg (seatC a0).toArray)) rfl) rfl fun fr b1 w2 n3 r => ?_
 obtain ⟨e_b1, z_w2, h_b1, hB, zB⟩ := n3.all hB
 refine seq_new (.cells ((opRC a1)).toArray 61 (0, 0)) r (fun R => y_box r (v := (.agg (opRC a1).toArray)) rfl) rfl fun fr b4 w5 n6 r => ?_
 have h_b1 := keep n6.below h_b1
 obtain ⟨e_b4, z_w5, h_b4, hB, zB⟩ := n6.all hB
 refine seq_new (.cells (progCells false encRes.zero 0 0 0 0 .nilFunc) 39 (0, 0)) r (fun R => y_alloc tz39) rfl fun fr b7 w8 n9 r => ?_
 have h_b1 := keep n9.below h_b1
 have h_b4 := keep n9.below h_b4
 obtain ⟨e_b7, z_w8, h_b7, hB, zB⟩ := n9.all hB
 refine wn ?_
 refine wp_seq ?_
 refine wsr ?_
 refine seq_val _ r (fun R => y_fieldAddr r (o := 0) rfl fo61_0) rfl fun fr r => ?_
 refine seq_val (I a1.code) r (fun R => y_load_one r rfl h_b4 to3 rfl) rfl fun fr r => ?_
 refine wn ?_
 refine wp_block ?_
 refine wsr ?_
 refine seq_val _ r (fun R => y_bin r rfl rfl rfl rfl) rfl fun fr r => ?_
 refine seq_val (.bool (a1.code == 1)) r (fun R => y_assign r rfl) rfl fun fr r => ?_
 refine wn ?_
 refine wp_cond_split (t := (a1.code == 1)) (r.ev rfl) (fun h10 => ?_) (fun h10 => ?_)
 ·
  refine wsr ?_
  refine seq_val (.agg (seatC a0).toArray) r (fun R => y_load_agg r (cs := (seatC a0)) (n := 8) rfl h_b1 ta29 rfl) rfl fun fr r => ?_
  have hF1 := fgrow hF hB b7
  refine seq_call r (c_check_New (j := j) (F := (fun b => F b ∨ (w0.heap.size ≤ b ∧ b < w8.heap.size ∧ b ≠ b7))) (n := n) hF1 (by omega) a0) (fun R hc => y_call r rfl cl30 hc) rfl ?_
  rintro _ w11 ⟨v12, rfl, hb, hr13⟩
  refine ⟨_, rfl, fun fr r => ?_⟩
  have z_w11 := hb.size
  have h_b1 := keep hb h_b1
  have h_b4 := keep hb h_b4
  have h_b7 := keep hb h_b7
  obtain ⟨hB, zB⟩ := bon hb hB
  refine seq_upd (.cells v12.cells 39 (0, 0)) r (fun R => y_storep r hr13.shape rfl rfl h_b7 ts39 rfl) rfl fun fr w14 u15 r => ?_
  have z_w14 := u15.size
  have h_b1 := u15.keep h_b1 (by omega)
  have h_b4 := u15.keep h_b4 (by omega)
  have h_b7 := u15.at_
  obtain ⟨hB, zB⟩ := u15.on hB (by omega)
  refine wn ?_
  refine wp_ret ?_
  have hd : D.cubiclelaw13_Made j a0 a1 = (D.check_New j a0) := (cond_t h10).trans (rfl)
  have hs := hr13.shape.cells
  refine ret_cell r rfl rfl h_b7 (k := 8) hs.1 ta39 ?_
  rw [← hs.2.2, hd]
  exact rfin hF hB hr13 u15 (by omega) (by omega) (by omega)
 ·
  refine wsr ?_
  refine seq_val _ r (fun R => y_bin r rfl rfl rfl rfl) rfl fun fr r => ?_
  refine seq_val (.bool (a1.code == 2)) r (fun R => y_assign r rfl) rfl fun fr r => ?_
  refine wn ?_
  refine wp_cond_split (t := (a1.code == 2)) (r.ev rfl) (fun h16 => ?_) (fun h16 => ?_)
  ·
   refine wsr ?_
   refine seq_val (.agg (seatC a0).toArray) r (fun R => y_load_agg r (cs := (seatC a0)) (n := 8) rfl h_b1 ta29 rfl) rfl fun fr r => ?_
   refine seq_val _ r (fun R => y_fieldAddr r (o := 0) rfl fo61_3) rfl fun fr r => ?_
   refine seq_val (U a1.h) r (fun R => y_load_one r rfl h_b4 to22 rfl) rfl fun fr r => ?_
   have hF1 := fgrow hF hB b7
   refine seq_call r (c_check_Drop (j := j) (F := (fun b => F b ∨ (w0.heap.size ≤ b ∧ b < w8.heap.size ∧ b ≠ b7))) (n := n) hF1 (by omega) a0 a1.h) (fun R hc => y_call r rfl cl36 hc) rfl ?_
   rintro _ w17 ⟨v18, rfl, hb, hr19⟩
   refine ⟨_, rfl, fun fr r => ?_⟩
   have z_w17 := hb.size
   have h_b1 := keep hb h_b1
   have h_b4 := keep hb h_b4
   have h_b7 := keep hb h_b7
   obtain ⟨hB, zB⟩ := bon hb hB
   refine seq_upd (.cells v18.cells 39 (0, 0)) r (fun R => y_storep r hr19.shape rfl rfl h_b7 ts39 rfl) rfl fun fr w20 u21 r => ?_
   have z_w20 := u21.size
   have h_b1 := u21.keep h_b1 (by omega)
   have h_b4 := u21.keep h_b4 (by omega)
   have h_b7 := u21.at_
   obtain ⟨hB, zB⟩ := u21.on hB (by omega)
   refine wn ?_
   refine wp_ret ?_
   have hd : D.cubiclelaw13_Made j a0 a1 = (D.check_Drop j a0 a1.h) := (cond_f h10).trans ((cond_t h16).trans (rfl))
   have hs := hr19.shape.cells
   refine ret_cell r rfl rfl h_b7 (k := 8) hs.1 ta39 ?_
   rw [← hs.2.2, hd]
   exact rfin hF hB hr19 u21 (by omega) (by omega) (by omega)
  ·
   refine wsr ?_
   refine seq_val _ r (fun R => y_bin r rfl rfl rfl rfl) rfl fun fr r => ?_
   refine seq_val (.bool (a1.code == 3)) r (fun R => y_assign r rfl) rfl fun fr r => ?_
   refine wn ?_
   refine wp_cond_split (t := (a1.code == 3)) (r.ev rfl) (fun h22 => ?_) (fun h22 => ?_)
   ·
    refine wsr ?_
    refine seq_val (.agg (seatC a0).toArray) r (fun R => y_load_agg r (cs := (seatC a0)) (n := 8) rfl h_b1 ta29 rfl) rfl fun fr r => ?_
    refine seq_val _ r (fun R => y_fieldAddr r (o := 0) rfl fo61_3) rfl fun fr r => ?_
    refine seq_val (U a1.h) r (fun R => y_load_one r rfl h_b4 to22 rfl) rfl fun fr r => ?_
    refine seq_val _ r (fun R => y_fieldAddr r (o := 0) rfl fo61_2) rfl fun fr r => ?_
    refine seq_val (I a1.f) r (fun R => y_load_one r rfl h_b4 to3 rfl) rfl fun fr r => ?_
    have hF1 := fgrow hF hB b7
    refine seq_call r (c_check_Read (F := (fun b => F b ∨ (w0.heap.size ≤ b ∧ b < w8.heap.size ∧ b ≠ b7))) (n := n) hF1 a0 a1.h a1.f) (fun R hc => y_call r rfl cl33 hc) rfl ?_
    rintro _ w23 ⟨v24, rfl, hb, hr25⟩
    refine ⟨_, rfl, fun fr r => ?_⟩
    have z_w23 := hb.size
    have h_b1 := keep hb h_b1
    have h_b4 := keep hb h_b4
    have h_b7 := keep hb h_b7
    obtain ⟨hB, zB⟩ := bon hb hB
    refine seq_upd (.cells v24.cells 39 (0, 0)) r (fun R => y_storep r hr25.shape rfl rfl h_b7 ts39 rfl) rfl fun fr w26 u27 r => ?_
    have z_w26 := u27.size
    have h_b1 := u27.keep h_b1 (by omega)
    have h_b4 := u27.keep h_b4 (by omega)
    have h_b7 := u27.at_
    obtain ⟨hB, zB⟩ := u27.on hB (by omega)
    refine wn ?_
    refine wp_ret ?_
    have hd : D.cubiclelaw13_Made j a0 a1 = (D.check_Read a0 a1.h a1.f) := (cond_f h10).trans ((cond_f h16).trans ((cond_t h22).trans (rfl)))
    have hs := hr25.shape.cells
    refine ret_cell r rfl rfl h_b7 (k := 8) hs.1 ta39 ?_
    rw [← hs.2.2, hd]
    exact rfin hF hB hr25 u27 (by omega) (by omega) (by omega)
   ·
    refine wsr ?_
    refine seq_val _ r (fun R => y_bin r rfl rfl rfl rfl) rfl fun fr r => ?_
    refine seq_val (.bool (a1.code == 4)) r (fun R => y_assign r rfl) rfl fun fr r => ?_
    refine wn ?_
    refine wp_cond_split (t := (a1.code == 4)) (r.ev rfl) (fun h28 => ?_) (fun h28 => ?_)
    ·
     refine wsr ?_
     refine seq_val (.agg (seatC a0).toArray) r (fun R => y_load_agg r (cs := (seatC a0)) (n := 8) rfl h_b1 ta29 rfl) rfl fun fr r => ?_
     refine seq_val _ r (fun R => y_fieldAddr r (o := 0) rfl fo61_3) rfl fun fr r => ?_
     refine seq_val (U a1.h) r (fun R => y_load_one r rfl h_b4 to22 rfl) rfl fun fr r => ?_
     refine seq_val _ r (fun R => y_fieldAddr r (o := 0) rfl fo61_2) rfl fun fr r => ?_
     refine seq_val (I a1.f) r (fun R => y_load_one r rfl h_b4 to3 rfl) rfl fun fr r => ?_
     refine seq_val _ r (fun R => y_fieldAddr r (o := 0) rfl fo61_4) rfl fun fr r => ?_
     refine seq_val (U a1.a) r (fun R => y_load_one r rfl h_b4 to22 rfl) rfl fun fr r => ?_
     have hF1 := fgrow hF hB b7
     refine seq_call r (c_check_Write (F := (fun b => F b ∨ (w0.heap.size ≤ b ∧ b < w8.heap.size ∧ b ≠ b7))) (n := n) hF1 a0 a1.h a1.f a1.a) (fun R hc => y_call r rfl cl32 hc) rfl ?_
     rintro _ w29 ⟨v30, rfl, hb, hr31⟩
     refine ⟨_, rfl, fun fr r => ?_⟩
     have z_w29 := hb.size
     have h_b1 := keep hb h_b1
     have h_b4 := keep hb h_b4
     have h_b7 := keep hb h_b7
     obtain ⟨hB, zB⟩ := bon hb hB
     refine seq_upd (.cells v30.cells 39 (0, 0)) r (fun R => y_storep r hr31.shape rfl rfl h_b7 ts39 rfl) rfl fun fr w32 u33 r => ?_
     have z_w32 := u33.size
     have h_b1 := u33.keep h_b1 (by omega)
     have h_b4 := u33.keep h_b4 (by omega)
     have h_b7 := u33.at_
     obtain ⟨hB, zB⟩ := u33.on hB (by omega)
     refine wn ?_
     refine wp_ret ?_
     have hd : D.cubiclelaw13_Made j a0 a1 = (D.check_Write a0 a1.h a1.f a1.a) := (cond_f h10).trans ((cond_f h16).trans ((cond_f h22).trans ((cond_t h28).trans (rfl))))
     have hs := hr31.shape.cells
     refine ret_cell r rfl rfl h_b7 (k := 8) hs.1 ta39 ?_
     rw [← hs.2.2, hd]
     exact rfin hF hB hr31 u33 (by omega) (by omega) (by omega)
    ·
     refine wp_skip ?_
     refine wsr ?_
     refine seq_val (.agg (seatC a0).toArray) r (fun R => y_load_agg r (cs := (seatC a0)) (n := 8) rfl h_b1 ta29 rfl) rfl fun fr r => ?_
     refine seq_val _ r (fun R => y_fieldAddr r (o := 0) rfl fo61_3) rfl fun fr r => ?_
     refine seq_val (U a1.h) r (fun R => y_load_one r rfl h_b4 to22 rfl) rfl fun fr r => ?_
     refine seq_val _ r (fun R => y_fieldAddr r (o := 0) rfl fo61_2) rfl fun fr r => ?_
     refine seq_val (I a1.f) r (fun R => y_load_one r rfl h_b4 to3 rfl) rfl fun fr r => ?_
     refine seq_val _ r (fun R => y_fieldAddr r (o := 0) rfl fo61_4) rfl fun fr r => ?_
     refine seq_val (U a1.a) r (fun R => y_load_one r rfl h_b4 to22 rfl) rfl fun fr r => ?_
     refine seq_val _ r (fun R => y_fieldAddr r (o := 0) rfl fo61_5) rfl fun fr r => ?_
     refine seq_val (U a1.b) r (fun R => y_load_one r rfl h_b4 to22 rfl) rfl fun fr r => ?_
     have hF1 := fgrow hF hB b7
     refine seq_call r (c_check_Swap (F := (fun b => F b ∨ (w0.heap.size ≤ b ∧ b < w8.heap.size ∧ b ≠ b7))) (n := n) hF1 a0 a1.h a1.f a1.a a1.b) (fun R hc => y_call r rfl cl34 hc) rfl ?_
     rintro _ w34 ⟨v35, rfl, hb, hr36⟩
     refine ⟨_, rfl, fun fr r => ?_⟩
     have z_w34 := hb.size
     have h_b1 := keep hb h_b1
     have h_b4 := keep hb h_b4
     have h_b7 := keep hb h_b7
     obtain ⟨hB, zB⟩ := bon hb hB
     refine seq_upd (.cells v35.cells 39 (0, 0)) r (fun R => y_storep r hr36.shape rfl rfl h_b7 ts39 rfl) rfl fun fr w37 u38 r => ?_
     have z_w37 := u38.size
     have h_b1 := u38.keep h_b1 (by omega)
     have h_b4 := u38.keep h_b4 (by omega)
     have h_b7 := u38.at_
     obtain ⟨hB, zB⟩ := u38.on hB (by omega)
     refine wn ?_
     refine wp_ret ?_
     have hd : D.cubiclelaw13_Made j a0 a1 = (D.check_Swap a0 a1.h a1.f a1.a a1.b) := (cond_f h10).trans ((cond_f h16).trans ((cond_f h22).trans ((cond_f h28).trans (rfl))))
     have hs := hr36.shape.cells
     refine ret_cell r rfl rfl h_b7 (k := 8) hs.1 ta39 ?_
     rw [← hs.2.2, hd]
     exact rfin hF hB hr36 u38 (by omega) (by omega) (by omega)

end Go.Proofs.YtjkinpbfmihhdaaGreat

/- Handles and their words, in numbers. -/
namespace Go.Proofs.YtjkinpbfmihhdaaGreat
open Go.RowKit

def U64 (w : Int) : Prop := 0 ≤ w ∧ w < 18446744073709551616

theorem f_hI : D.field_Field_Formed hIdx = true := by decide

theorem f_hG : D.field_Field_Formed hGen = true := by decide

theorem f_hT : D.field_Field_Formed hTen = true := by decide

theorem f_hS : D.field_Field_Formed hSeal = true := by decide

theorem m_hI : D.field_Field_Most hIdx = 1048575 := by decide +kernel

theorem m_hG : D.field_Field_Most hGen = 1073741823 := by decide +kernel

theorem m_hT : D.field_Field_Most hTen = 63 := by decide +kernel

theorem m_hS : D.field_Field_Most hSeal = 63 := by decide +kernel

theorem k_hI : D.field_Field_mask hIdx = 1048575 := by decide +kernel

theorem k_hG : D.field_Field_mask hGen = 1125899905794048 := by decide +kernel

theorem k_hT : D.field_Field_mask hTen = 70931694131085312 := by decide +kernel

theorem k_hS : D.field_Field_mask hSeal = 18158513697557839872 := by decide +kernel

theorem get_low {w : Int} (hw : U64 w) (a b : Nat) (ha : a < 64) (hb : b < 64) (hF : D.field_Field_Formed ⟨a, b⟩ = true) (hM : D.field_Field_Most ⟨a, b⟩ = ((2 ^ b - 1 : Nat) : Int)) :
    D.field_Field_Get ⟨a, b⟩ w = w / ((2 ^ a : Nat) : Int) % ((2 ^ b : Nat) : Int) := by
  obtain ⟨h0, h1⟩ := hw
  unfold D.field_Field_Get
  rw [hF, hM]
  simp only [Bool.not_true, cond_false]
  have hp : (0 : Int) < ((2 ^ a : Nat) : Int) := by have := Nat.pow_pos (n := a) (show 0 < 2 by omega); omega
  have e : shrI .u64 w (a : Int) = w / ((2 ^ a : Nat) : Int) := by rw [shrN a (by omega)]; norm_cast
  have hd : w / ((2 ^ a : Nat) : Int) ≤ w := Int.ediv_le_self _ h0
  have hd0 : 0 ≤ w / ((2 ^ a : Nat) : Int) := Int.ediv_nonneg h0 (by omega)
  show bits_and .u64 (shrI .u64 w (a : Int)) _ = _
  rw [e, and_low hd0 (by omega) b hb]

theorem get_hI {w : Int} (hw : U64 w) : D.field_Field_Get hIdx w = w % 1048576 := by
  have := get_low hw 0 20 (by omega) (by omega) f_hI m_hI
  rw [show ((2 ^ 0 : Nat) : Int) = 1 from rfl, Int.ediv_one] at this
  exact this

theorem get_hG {w : Int} (hw : U64 w) : D.field_Field_Get hGen w = w / 1048576 % 1073741824 := get_low hw 20 30 (by omega) (by omega) f_hG m_hG

theorem get_hT {w : Int} (hw : U64 w) : D.field_Field_Get hTen w = w / 1125899906842624 % 64 := get_low hw 50 6 (by omega) (by omega) f_hT m_hT

theorem get_hS {w : Int} (hw : U64 w) : D.field_Field_Get hSeal w = w / 288230376151711744 := by
  have := get_low hw 58 6 (by omega) (by omega) f_hS m_hS
  have h2 : D.field_Field_Get hSeal w = w / 288230376151711744 % 64 := this
  have := hw.1
  have := hw.2
  omega

/-- What no field takes. -/
theorem hrest {w : Int} (hw : U64 w) : bits_andNot .u64 (bits_andNot .u64 (bits_andNot .u64 (bits_andNot .u64 w (D.field_Field_mask hIdx)) (D.field_Field_mask hGen)) (D.field_Field_mask hTen)) (D.field_Field_mask hSeal) = w / 72057594037927936 % 4 * 72057594037927936 := by
  obtain ⟨h0, h1⟩ := hw
  rw [k_hI, k_hG, k_hT, k_hS]
  have hx : ∀ {x : Nat} {y : Int}, x ≤ w.toNat → 0 ≤ y → y < 18446744073709551616 → bits_andNot .u64 (x : Int) y = ((x &&& (18446744073709551615 - y.toNat) : Nat) : Int) := fun {x y} hx hy0 hy1 => by
    have := andNot_eq (x := (x : Int)) (y := y) (by omega) (by omega) hy0 hy1
    rw [Int.toNat_natCast] at this
    exact this
  obtain ⟨v, rfl⟩ : ∃ v : Nat, w = (v : Int) := ⟨w.toNat, by omega⟩
  have l1 : v &&& (18446744073709551615 - (1048575 : Int).toNat) ≤ v := Nat.and_le_left
  have l2 : (v &&& (18446744073709551615 - (1048575 : Int).toNat)) &&& (18446744073709551615 - (1125899905794048 : Int).toNat) ≤ v := Nat.le_trans Nat.and_le_left l1
  have l3 : ((v &&& (18446744073709551615 - (1048575 : Int).toNat)) &&& (18446744073709551615 - (1125899905794048 : Int).toNat)) &&& (18446744073709551615 - (70931694131085312 : Int).toNat) ≤ v := Nat.le_trans Nat.and_le_left l2
  rw [hx (by omega) (by omega) (by omega), hx (by omega) (by omega) (by omega), hx (by omega) (by omega) (by omega), hx (by omega) (by omega) (by omega)]
  rw [Nat.and_assoc, Nat.and_assoc, Nat.and_assoc]
  have hK : (18446744073709551615 - (1048575 : Int).toNat) &&& ((18446744073709551615 - (1125899905794048 : Int).toNat) &&& ((18446744073709551615 - (70931694131085312 : Int).toNat) &&& (18446744073709551615 - (18158513697557839872 : Int).toNat))) = 3 * 2 ^ 56 := by decide +kernel
  rw [hK]
  have : v &&& 3 * 2 ^ 56 = v / 2 ^ 56 % 4 * 2 ^ 56 := by
    apply Nat.eq_of_testBit_eq
    intro i
    rw [Nat.testBit_and, Nat.testBit_mul_two_pow, Nat.testBit_mul_two_pow, show (4 : Nat) = 2 ^ 2 from rfl, Nat.testBit_mod_two_pow, Nat.testBit_div_two_pow]
    by_cases hi : 56 ≤ i
    · rw [show i - 56 + 56 = i by omega]
      have h3 : Nat.testBit 3 (i - 56) = decide (i - 56 < 2) := by
        rw [show (3 : Nat) = 2 ^ 2 - 1 from rfl, Nat.testBit_two_pow_sub_one]
      rw [h3]
      simp [hi, Bool.and_comm]
    · simp [hi]
  rw [this]
  show ((v / 72057594037927936 % 4 * 72057594037927936 : Nat) : Int) = _
  omega

/-- A word's handle, told in numbers. -/
def hof (w : Int) : Handle × Bool := if w / 72057594037927936 % 4 = 0 ∧ w / 288230376151711744 = 42 then (⟨w % 1048576, w / 1048576 % 1073741824, w / 1125899906842624 % 64⟩, true) else (⟨0, 0, 0⟩, false)

theorem hof_eq {w : Int} (hw : U64 w) : D.handle_Of w = hof w := by
  have h : St.D.handle_Of 10 w = some (hof w) := by
    unfold St.D.handle_Of
    show (St.D.field_Split 10 [hIdx, hGen, hTen, hSeal] w).bind _ = _
    rw [hsplit, hrest hw, get_hI hw, get_hG hw, get_hT hw, get_hS hw]
    unfold hof
    by_cases h1 : w / 72057594037927936 % 4 = 0
    · rw [h1, show (((0 : Int) * 72057594037927936 != 0) = false) from rfl]
      show (bif (w / 288230376151711744 != 42) then some ((⟨0, 0, 0⟩ : Handle), false) else some ((⟨IntKind.i64.wrap (w % 1048576), IntKind.i64.wrap (w / 1048576 % 1073741824), IntKind.i64.wrap (w / 1125899906842624 % 64)⟩ : Handle), true)) = _
      rw [wrap_id (by omega) (by omega), wrap_id (by omega) (by omega), wrap_id (by omega) (by omega)]
      by_cases h2 : w / 288230376151711744 = 42
      · rw [h2, if_pos ⟨rfl, rfl⟩]; rfl
      · rw [if_neg (fun h => h2 h.2), show (w / 288230376151711744 != 42) = true from by simpa using h2]; rfl
    · rw [if_neg (fun h => h1 h.1), show (w / 72057594037927936 % 4 * 72057594037927936 != 0) = true from by simp; omega]
      rfl
  unfold D.handle_Of
  rw [h]; rfl

theorem ref08_of {w : Int} (hw : U64 w) : D.cubicleref08_Of w = hof w := by
  obtain ⟨h0, h1⟩ := hw
  unfold D.cubicleref08_Of
  have e20 : shrI .u64 w 20 = w / 1048576 := shrN (w := w) 20 (by omega)
  have e50 : shrI .u64 w 50 = w / 1125899906842624 := shrN (w := w) 50 (by omega)
  rw [e20, e50, Int.tmod_eq_emod_of_nonneg h0, Int.tmod_eq_emod_of_nonneg (by omega), Int.tmod_eq_emod_of_nonneg (by omega), wrap_id (by omega) (by omega), wrap_id (by omega) (by omega), wrap_id (by omega) (by omega)]
  have hF : D.cubicleref08_Formed ⟨w % 1048576, w / 1048576 % 1073741824, w / 1125899906842624 % 64⟩ = true := by
    unfold D.cubicleref08_Formed
    rw [show decide (w % 1048576 ≥ 0) = true from by simp; omega, show decide (w % 1048576 < 1048576) = true from by simp; omega, show decide (w / 1048576 % 1073741824 ≥ 0) = true from by simp; omega, show decide (w / 1048576 % 1073741824 < 1073741824) = true from by simp; omega,
      show decide (w / 1125899906842624 % 64 ≥ 0) = true from by simp; omega, show decide (w / 1125899906842624 % 64 < 64) = true from by simp; omega]
    rfl
  have hW : D.cubicleref08_Word ⟨w % 1048576, w / 1048576 % 1073741824, w / 1125899906842624 % 64⟩ = w % 1048576 + w / 1048576 % 1073741824 * 1048576 + w / 1125899906842624 % 64 * 1125899906842624 + 12105675798371893248 := by
    unfold D.cubicleref08_Word
    rw [hF]
    have s20 : ∀ x : Int, 0 ≤ x → x < 1073741824 → shlI .u64 x 20 = x * 1048576 := fun x x0 x1 => by
      show IntKind.u64.wrap (x * 1048576) = _
      exact wrapu_id (by omega) (by omega)
    have s50 : ∀ x : Int, 0 ≤ x → x < 64 → shlI .u64 x 50 = x * 1125899906842624 := fun x x0 x1 => by
      show IntKind.u64.wrap (x * 1125899906842624) = _
      exact wrapu_id (by omega) (by omega)
    simp only [Bool.not_true, cond_false]
    rw [wrapu_id (x := w % 1048576) (by omega) (by omega), wrapu_id (x := w / 1048576 % 1073741824) (by omega) (by omega), wrapu_id (x := w / 1125899906842624 % 64) (by omega) (by omega), s20 _ (by omega) (by omega), s50 _ (by omega) (by omega),
      wrapu_id (x := w % 1048576 + w / 1048576 % 1073741824 * 1048576) (by omega) (by omega), wrapu_id (x := w % 1048576 + w / 1048576 % 1073741824 * 1048576 + w / 1125899906842624 % 64 * 1125899906842624) (by omega) (by omega), wrapu_id (by omega) (by omega)]
  rw [hW]
  unfold hof
  by_cases h : w / 72057594037927936 % 4 = 0 ∧ w / 288230376151711744 = 42
  · rw [if_pos h, show (w % 1048576 + w / 1048576 % 1073741824 * 1048576 + w / 1125899906842624 % 64 * 1125899906842624 + 12105675798371893248 != w) = false from by simp; omega]
    rfl
  · rw [if_neg h, show (w % 1048576 + w / 1048576 % 1073741824 * 1048576 + w / 1125899906842624 % 64 * 1125899906842624 + 12105675798371893248 != w) = true from by simp; omega]
    rfl

theorem mine_eq {w : Int} (hw : U64 w) (t n : Int) : D.handle_Mine w t n = D.cubicleref08_Mine w t n := by
  unfold D.handle_Mine D.cubicleref08_Mine
  rw [hof_eq hw, ref08_of hw]

/-- A handle that is formed. -/
structure HF (h : Handle) : Prop where
  i0 : 0 ≤ h.index
  i1 : h.index < 1048576
  g0 : 0 ≤ h.gen
  g1 : h.gen ≤ 1073741823
  t0 : 0 ≤ h.tenant
  t1 : h.tenant < 64

end Go.Proofs.YtjkinpbfmihhdaaGreat
