/- Some of our texts, one behind the other. -/
import Derived.Test.YtjkinpbfmihhdaaGreatCgMem
import Derived.Test.YtjkinpbfmihhdaaGreatCgChecks
import Derived.Test.YtjkinpbfmihhdaaGreatCgM2
import Derived.Test.YtjkinpbfmihhdaaGreatCgM3
import Derived.WalkKit
import Derived.ProofKit
import Derived.OpenShut
import Derived.ShutString
import Derived.ChangeOld
import Derived.Below
import Derived.Carry
import Derived.SizedLaws
import Derived.Deep.Slices
import Derived.Deep.Fields
import Derived.ChangeSame
import Derived.Test.YtjkinpbfmihhdaaGreatRows
set_option linter.all false
/- A region that draws its order, with stores into two cells of ours beside values. -/
namespace Go.Proofs.YtjkinpbfmihhdaaGreat
open Go.RowKit

/-- What an operation comes to: a value, or a store into the k-th of some old blocks. -/
inductive FP where
  | val (c : Value)
  | put (k : Nat) (c : Array Value) (T : TypeId)

def FP.v : FP → Value
  | .val c => c
  | .put _ _ _ => undef

def FP.slot : FP → Option Nat
  | .put k _ _ => some k
  | .val _ => none

def FP.mk (bs : List Nat) (w' w'' : World) : FP → Prop
  | .val _ => Below w'.heap.size w' w''
  | .put k c T => ∃ b, bs[k]? = some b ∧ Upd w' w'' b (.cells c T (0, 0))

def fct : List FP → Nat → FP
  | [], _ => .val undef
  | f :: _, 0 => f
  | _ :: l, n + 1 => fct l n

section
variable {P : Program} {Q : Exit → Act → World → Prop} {L : List Oper} {a : Act} {w : World} {fl : List FP} {bs : List Nat}
structure PInv (L : List Oper) (fl : List FP) (bs : List Nat) (a : Act) (w0 : World) (listed : Array Bool) (g : Nat → Value) (a' : Act) (w' : World) : Prop where
  act : a' = puts L g 0 a
  closed : ∀ i o, L[i]? = some o → listed.getD i false = true → ∀ e, e ∈ o.after → Region.binds .any e = true → listed.getD e.on false = true
  os : w'.os = w0.os
  tape : w'.tape = w0.tape
  output : w'.output = w0.output
  size : w0.heap.size ≤ w'.heap.size
  old : ∀ b, b < w0.heap.size → b ∉ bs → w'.heap[b]? = w0.heap[b]?
  vals : ∀ i, i < L.length → listed.getD i false = true → g i = (fct fl i).v
  un : ∀ k b, bs[k]? = some b → (∀ i, i < L.length → listed.getD i false = true → (fct fl i).slot ≠ some k) → w'.heap[b]? = w0.heap[b]?
  done : ∀ i k c T b, i < L.length → listed.getD i false = true → fct fl i = .put k c T → bs[k]? = some b → w'.heap[b]? = some (.cells c T (0, 0))

variable {N : Nat} {s : SL}
end
/-! ### Chunks -/
section
variable {L : List Ck} {d : Ck} {w w' w0 : World} {i i1 i2 b1 b2 : Nat} {a1 a2 c1 c2 : Array Value} {T1 T2 S1 S2 : TypeId} {Z : Nat → Prop}
end
end Go.Proofs.YtjkinpbfmihhdaaGreat

/- Written by a program of ours (wip/gen.py): layer 13 -/
set_option linter.unusedVariables false
set_option maxRecDepth 20000
set_option maxHeartbeats 2000000
namespace Go.Proofs.YtjkinpbfmihhdaaGreat
open Go.RowKit
theorem cl28 : callable Tryz.prog 28 = true := by kernel_rfl

theorem cl29 : callable Tryz.prog 29 = true := by kernel_rfl

theorem cl30 : callable Tryz.prog 30 = true := by kernel_rfl

theorem cl32 : callable Tryz.prog 32 = true := by kernel_rfl

theorem cl33 : callable Tryz.prog 33 = true := by kernel_rfl

theorem cl36 : callable Tryz.prog 36 = true := by kernel_rfl

theorem cl40 : callable Tryz.prog 40 = true := by kernel_rfl

theorem fo32_0 : fieldOff Tryz.prog 32 0 0 = true := by kernel_rfl

theorem fo32_1 : fieldOff Tryz.prog 32 1 1 = true := by kernel_rfl

theorem ts25 : sized Tryz.prog 25 6 = true := by kernel_rfl

theorem tz25 : zeroOf Tryz.prog 25 = some (.agg (planC (⟨0, 0, 0, 0, 0, 0⟩ : Plan)).toArray) := by kernel_rfl

def D.cubiclelaw13_Small  : Plan := (⟨2, 1, 4, 0, 1, 1⟩ : Plan)

theorem c_cubiclelaw13_Small (w0 : World) 
     :
    Calls Tryz.prog 40 #[] w0 (PureRes (.agg (planC D.cubiclelaw13_Small).toArray) w0) := by
 refine enter Tryz.func40 rfl 2 rfl rfl fun fr r => ?_
 have hB := Below.refl w0.heap.size w0
 refine wsr ?_
 refine seq_new (.cells ((planC (⟨0, 0, 0, 0, 0, 0⟩ : Plan))).toArray 25 (0, 0)) r (fun R => y_alloc tz25) rfl fun fr b1 w2 n3 r => ?_
 obtain ⟨e_b1, z_w2, h_b1, hB, zB⟩ := n3.all hB
 refine wn ?_
 refine wsr ?_
 refine seq_val (.agg (planC (⟨2, 1, 4, 0, 1, 1⟩ : Plan)).toArray) r (fun R => y_build r (by kernel_rfl)) rfl fun fr r => ?_
 refine seq_upd (.cells ((planC (⟨2, 1, 4, 0, 1, 1⟩ : Plan))).toArray 25 (0, 0)) r (fun R => y_store r (o := 0) (v := (.agg (planC (⟨2, 1, 4, 0, 1, 1⟩ : Plan)).toArray)) rfl rfl h_b1 ts25 (Nat.le_of_ble_eq_true rfl) rfl rfl) rfl fun fr w4 u5 r => ?_
 have z_w4 := u5.size
 have h_b1 := u5.at_
 obtain ⟨hB, zB⟩ := u5.on hB (by omega)
 refine wn ?_
 refine wp_ret ?_
 refine ret_cell r rfl rfl h_b1 (k := 6) rfl ta25 ?_
 exact ⟨rfl, hB⟩

def D.cubiclelaw13_awake (fu : Nat)  : Option (Bool) := ((D.cubiclelaw09_Laid fu D.cubiclelaw13_Small).bind (fun (x2 : Mem) => ((D.mem_Memory_Cap fu x2 0).bind (fun (x11 : Cap) => ((D.prog_Run_Res fu (fu, (D.check_New (fu + 1) (⟨D.cubiclelaw13_Small, 0, 0⟩ : Seat))) x2 x11 99).bind (fun (x13 : Res × Int × Bool × Mem) => (Option.bind (bif x13.2.2.1 then (bif (x13.1.e == 0) then (some (decide (x13.1.v > 0))) else (some false)) else (some false)) (fun (x24 : Bool) => (some x24)))))))))

theorem c_cubiclelaw13_awake {fu : Nat} (w0 : World) {res : Bool} (hD : D.cubiclelaw13_awake fu  = some res) :
    Calls Tryz.prog 27 #[] w0 (PureRes (.bool res) w0) := by
 refine enter Tryz.func27 rfl 31 rfl rfl fun fr r => ?_
 have hP : Post No [] w0 w0 := Post.nil w0
 unfold D.cubiclelaw13_awake at hD
 refine wsr ?_
 refine seq_val (.bool false) r (fun R => y_assign r rfl) rfl fun fr r => ?_
 refine wn ?_
 refine wsr ?_
 refine seq_call r (c_cubiclelaw13_Small w0 ) (fun R hc => y_call r rfl cl40 hc) rfl ?_
 rintro _ w1 ⟨rfl, hb⟩
 refine ⟨_, rfl, fun fr r => ?_⟩
 have hP : Post No [] w0 w1 := hP.below hb
 obtain ⟨x2, hx2, hD⟩ := bindD_elim hD
 refine seq_call r (c_cubiclelaw09_Laid w1 D.cubiclelaw13_Small hx2) (fun R hc => y_call r rfl cl28 hc) rfl ?_
 rintro _ w3 ⟨mg4, rfl, hq⟩
 refine ⟨_, rfl, fun fr r => ?_⟩
 have hP : Post No [memK mg4 x2] w0 w3 := hP.add hq
 refine seq_val (.pointer (some ⟨mg4.mb, 0, none⟩)) r (fun R => y_assign r rfl) rfl fun fr r => ?_
 refine wn ?_
 refine wp_seq ?_
 refine wsr ?_
 refine seq_val (.pointer (some ⟨mg4.mb, 0, none⟩)) r (fun R => y_move r rfl) rfl fun fr r => ?_
 refine seq_val _ r (fun R => y_bin r rfl rfl rfl rfl) rfl fun fr r => ?_
 refine wn ?_
 refine wp_cond_split (t := false) (r.ev rfl) (fun h => absurd ((rfl : false = _).symm.trans h) (by decide)) (fun _ => ?_)
 refine wp_skip ?_
 refine wsr ?_
 refine seq_call r (c_cubiclelaw13_Small w3 ) (fun R hc => y_call r rfl cl40 hc) rfl ?_
 rintro _ w6 ⟨rfl, hb⟩
 refine ⟨_, rfl, fun fr r => ?_⟩
 have hP : Post No [memK mg4 x2] w0 w6 := hP.below hb
 refine seq_val (.agg (seatC (⟨D.cubiclelaw13_Small, 0, 0⟩ : Seat)).toArray) r (fun R => y_build r (by kernel_rfl)) rfl fun fr r => ?_
 refine seq_call r (c_check_New (F := No) (n := fu) (j := fu + 1) (fun _ h => h.elim) (by omega) (⟨D.cubiclelaw13_Small, 0, 0⟩ : Seat)) (fun R hc => y_call r rfl cl30 hc) rfl ?_
 rintro _ w7 ⟨v8, rfl, hb, hr9⟩
 refine ⟨_, rfl, fun fr r => ?_⟩
 have hP : Post No [memK mg4 x2, progK Tryz.prog encRes (fu, (D.check_New (fu + 1) (⟨D.cubiclelaw13_Small, 0, 0⟩ : Seat))) v8 (rg w6.heap.size w7.heap.size)] w0 w7 := hP.addProg hb hr9
 refine seq_val (.pointer (some ⟨mg4.mb, 0, none⟩)) r (fun R => y_move r rfl) rfl fun fr r => ?_
 refine seq_val (.pointer (some ⟨mg4.mb, 0, none⟩)) r (fun R => y_move r rfl) rfl fun fr r => ?_
 obtain ⟨x11, hx11, hD⟩ := bindD_elim hD
 refine seq_call r (c_mem_Memory_Cap w7 x2 (hP.mem (i := 0) rfl) 0 hx11) (fun R hc => y_call r rfl cl31 hc) rfl ?_
 rintro _ w12 ⟨rfl, hb⟩
 refine ⟨_, rfl, fun fr r => ?_⟩
 have hP : Post No [memK mg4 x2, progK Tryz.prog encRes (fu, (D.check_New (fu + 1) (⟨D.cubiclelaw13_Small, 0, 0⟩ : Seat))) v8 (rg w6.heap.size w7.heap.size)] w0 w12 := hP.below hb
 obtain ⟨x13, hx13, hD⟩ := bindD_elim hD
 refine seq_call r (c_prog_Run_Res w12 (fu, (D.check_New (fu + 1) (⟨D.cubiclelaw13_Small, 0, 0⟩ : Seat))) x2 x11 99 (hP.sep.pk [1, 0] rfl rfl) hx13) (fun R hc => y_call r rfl cl29 hc) rfl ?_
 rintro _ w14 ⟨rfl, hq⟩
 refine ⟨_, rfl, fun fr r => ?_⟩
 have hP : Post No [memK mg4 x13.2.2.2, progK Tryz.prog encRes (fu, (D.check_New (fu + 1) (⟨D.cubiclelaw13_Small, 0, 0⟩ : Seat))) v8 (rg w6.heap.size w7.heap.size)] w0 w14 := hP.setN (i := 0) rfl hq
 refine seq_val (.tuple #[(.agg (resC x13.1).toArray), (I x13.2.1), (.bool x13.2.2.1)]) r (fun R => y_move r rfl) rfl fun fr r => ?_
 refine seq_val (.agg (resC x13.1).toArray) r (fun R => y_extract r (vs := #[(.agg (resC x13.1).toArray), (I x13.2.1), (.bool x13.2.2.1)]) rfl rfl) rfl fun fr r => ?_
 refine seq_val (I x13.2.1) r (fun R => y_extract r (vs := #[(.agg (resC x13.1).toArray), (I x13.2.1), (.bool x13.2.2.1)]) rfl rfl) rfl fun fr r => ?_
 refine seq_val (.bool x13.2.2.1) r (fun R => y_extract r (vs := #[(.agg (resC x13.1).toArray), (I x13.2.1), (.bool x13.2.2.1)]) rfl rfl) rfl fun fr r => ?_
 refine seq_new (.cells ((resC (⟨0, 0⟩ : Res))).toArray 32 (0, 0)) r (fun R => y_alloc tz32) rfl fun fr b15 w16 n17 r => ?_
 have hP : Post No [memK mg4 x13.2.2.2, progK Tryz.prog encRes (fu, (D.check_New (fu + 1) (⟨D.cubiclelaw13_Small, 0, 0⟩ : Seat))) v8 (rg w6.heap.size w7.heap.size), cellC b15 ((resC (⟨0, 0⟩ : Res))).toArray 32] w0 w16 := hP.new n17
 refine seq_upd (.cells ((resC x13.1)).toArray 32 (0, 0)) r (fun R => y_store r (o := 0) (v := (.agg (resC x13.1).toArray)) rfl rfl (hP.cell (i := 2) rfl) ts32 (Nat.le_of_ble_eq_true rfl) rfl rfl) rfl fun fr w19 u20 r => ?_
 have hP : Post No [memK mg4 x13.2.2.2, progK Tryz.prog encRes (fu, (D.check_New (fu + 1) (⟨D.cubiclelaw13_Small, 0, 0⟩ : Seat))) v8 (rg w6.heap.size w7.heap.size), cellC b15 ((resC x13.1)).toArray 32] w0 w19 := hP.upd (i := 2) rfl u20
 refine seq_val (I x13.2.1) r (fun R => y_assign r rfl) rfl fun fr r => ?_
 refine seq_val (.bool x13.2.2.1) r (fun R => y_assign r rfl) rfl fun fr r => ?_
 refine wn ?_
 refine wp_seq ?_
 have hP : Post No [memK mg4 x13.2.2.2, cellC b15 ((resC x13.1)).toArray 32] w0 w19 := hP.pick [0, 2] rfl rfl
 refine wp_joinG (N := 31) (Y := Bool) (G := Unit) (fun x γ => [(1, (.pointer (some ⟨mg4.mb, 0, none⟩))), (8, (.bool false)), (2, (.pointer (some ⟨b15, 0, none⟩))), (4, (.bool x13.2.2.1)), (0, (.bool x))]) (fun x γ w => Post No [memK mg4 x13.2.2.2, cellC b15 ((resC x13.1)).toArray 32] w0 w) hD ?_ ?_
 ·
  rintro y21 RPy21 nxy21 hD
  refine wp_region_lit ?_
  refine seq_val (.bool x13.2.2.1) r (fun R => y_move r rfl) rfl fun fr r => ?_
  refine seq_val (.bool x13.2.2.1) r (fun R => y_move r rfl) rfl fun fr r => ?_
  refine seq_split x13.2.2.1 (fun h22 => ?_) (fun h22 => ?_)
  ·
   have hD := (cond_t h22).symm.trans hD
   refine s1 r h22 ?_
   refine seq_val _ r (fun R => y_fieldAddr r (o := 0) rfl fo32_0) rfl fun fr r => ?_
   refine s1 r h22 ?_
   refine seq_val (I x13.1.e) r (fun R => y_load_one r rfl (hP.cell (i := 1) rfl) to30 rfl) rfl fun fr r => ?_
   refine s1 r h22 ?_
   refine seq_val _ r (fun R => y_bin r rfl rfl rfl rfl) rfl fun fr r => ?_
   refine seq_val (.bool (x13.1.e == 0)) r (fun R => y_pick r (b := true) (congrArg Value.bool h22) rfl) rfl fun fr r => ?_
   refine seq_val (.bool (x13.1.e == 0)) r (fun R => y_move r rfl) rfl fun fr r => ?_
   refine seq_split (x13.1.e == 0) (fun h23 => ?_) (fun h23 => ?_)
   ·
    have hD := (cond_t h23).symm.trans hD
    refine s1 r h23 ?_
    refine seq_val _ r (fun R => y_fieldAddr r (o := 0) rfl fo32_1) rfl fun fr r => ?_
    refine s1 r h23 ?_
    refine seq_val (U x13.1.v) r (fun R => y_load_one r rfl (hP.cell (i := 1) rfl) to22 rfl) rfl fun fr r => ?_
    refine s1 r h23 ?_
    refine seq_val _ r (fun R => y_bin r rfl rfl rfl rfl) rfl fun fr r => ?_
    refine seq_val (.bool (decide (x13.1.v > 0))) r (fun R => y_pick r (b := true) (congrArg Value.bool h23) rfl) rfl fun fr r => ?_
    refine seq_val (.bool (decide (x13.1.v > 0))) r (fun R => y_assign r rfl) rfl fun fr r => ?_
    refine wn ?_
    exact nxy21 (decide (x13.1.v > 0)) () _ _ _ hD r (hs_cons rfl (hs_cons rfl (hs_cons rfl (hs_cons rfl (hs_cons rfl hs_nil))))) (hP.pick [0, 1] rfl rfl)
   ·
    have hD := (cond_f h23).symm.trans hD
    refine s0 r h23 fun fr r => ?_
    refine s0 r h23 fun fr r => ?_
    refine s0 r h23 fun fr r => ?_
    refine seq_val (.bool false) r (fun R => y_pick r (b := false) (congrArg Value.bool h23) rfl) rfl fun fr r => ?_
    refine seq_val (.bool false) r (fun R => y_assign r rfl) rfl fun fr r => ?_
    refine wn ?_
    exact nxy21 false () _ _ _ hD r (hs_cons rfl (hs_cons rfl (hs_cons rfl (hs_cons rfl (hs_cons rfl hs_nil))))) (hP.pick [0, 1] rfl rfl)
  ·
   have hD := (cond_f h22).symm.trans hD
   refine s0 r h22 fun fr r => ?_
   refine s0 r h22 fun fr r => ?_
   refine s0 r h22 fun fr r => ?_
   refine seq_val (.bool false) r (fun R => y_pick r (b := false) (congrArg Value.bool h22) rfl) rfl fun fr r => ?_
   refine seq_val (.bool false) r (fun R => y_move r rfl) rfl fun fr r => ?_
   refine s0 r (rfl : false = _) fun fr r => ?_
   refine s0 r (rfl : false = _) fun fr r => ?_
   refine s0 r (rfl : false = _) fun fr r => ?_
   refine seq_val (.bool false) r (fun R => y_pick r (b := false) (congrArg Value.bool (rfl : false = _)) rfl) rfl fun fr r => ?_
   refine seq_val (.bool false) r (fun R => y_assign r rfl) rfl fun fr r => ?_
   refine wn ?_
   exact nxy21 false () _ _ _ hD r (hs_cons rfl (hs_cons rfl (hs_cons rfl (hs_cons rfl (hs_cons rfl hs_nil))))) (hP.pick [0, 1] rfl rfl)
 ·
  rintro x24 γ25 fr w26 g r hP hD
  have hP : Post No [memK mg4 x13.2.2.2, cellC b15 ((resC x13.1)).toArray 32] w0 w26 := hP
  refine wp_ret ?_
  have hv : x24 = res := Option.some.inj hD
  try dsimp only [Exit.then, Exit.inBlock]
  refine ret_tmp (fn := Tryz.f27) r (t := 0) rfl (v := (.bool x24)) rfl ?_
  subst hv
  exact ⟨rfl, hP.chg.below⟩

end Go.Proofs.YtjkinpbfmihhdaaGreat

/- Written by a program of ours (wip/gen.py): a law -/
set_option linter.unusedVariables false
set_option maxRecDepth 20000
set_option maxHeartbeats 2000000
namespace Go.Proofs.YtjkinpbfmihhdaaGreat.Wk
open Go.RowKit
theorem cl27 : callable Tryz.prog 27 = true := by kernel_rfl

theorem eg32 : Tryz.prog.eqGuardType Tryz.prog.depth 32 = false := by kernel_rfl

theorem eqs32 (x y : Res) (w : World) : (binOp .eql 32 (.agg (resC x).toArray) (.agg (resC y).toArray)).run Tryz.prog w = .ok (.bool (x == y)) w ∧ (binOp .neq 32 (.agg (resC x).toArray) (.agg (resC y).toArray)).run Tryz.prog w = .ok (.bool (!(x == y))) w :=
  eq_ints [(.i64, x.e, y.e), (.u64, x.v, y.v)] (by kernel_rfl) (by kernel_rfl) (by kernel_rfl) (by kernel_rfl) (by cases x; cases y; rw [Bool.eq_iff_iff]; simp)

theorem ti5 : intTy Tryz.prog 5 .u8 = true := by kernel_rfl

theorem ts29 : sized Tryz.prog 29 8 = true := by kernel_rfl

theorem tz29 : zeroOf Tryz.prog 29 = some (.agg (seatC (⟨(⟨0, 0, 0, 0, 0, 0⟩ : Plan), 0, 0⟩ : Seat)).toArray) := by kernel_rfl

def D.cubiclelaw13_CheckGuarded (fu : Nat) (a0 : Int) (a1 : Int) (a2 : Int) : Option (Bool) := ((D.cubiclelaw13_awake fu ).bind (fun (x1 : Bool) => (bif (!x1) then (some false) else ((D.cubiclelaw09_Laid fu (⟨3, 2, 7, 0, 1, 100⟩ : Plan)).bind (fun (x13 : Mem) => ((D.mem_Memory_Cap fu x13 0).bind (fun (x21 : Cap) => ((D.prog_Run_Res fu (fu, (D.check_New (fu + 1) (⟨(⟨3, 2, 7, 0, 1, 100⟩ : Plan), 0, 0⟩ : Seat))) x13 x21 99).bind (fun (x23 : Res × Int × Bool × Mem) => ((D.mem_Memory_Cap fu x23.2.2.2 0).bind (fun (x35 : Cap) => ((D.prog_Run_Res fu (fu, (D.check_Write (⟨(⟨3, 2, 7, 0, 1, 100⟩ : Plan), 0, 0⟩ : Seat) x23.1.v 2 a0)) x23.2.2.2 x35 99).bind (fun (x37 : Res × Int × Bool × Mem) => (loopThen (fun (x49 : Int × Mem × (Nat × T Res)) => (bif (decide (x49.1 < (IntKind.i64.wrap (a1.tmod 6)))) then ((D.mem_Memory_Cap fu x49.2.1 0).bind (fun (x54 : Cap) => ((D.prog_Prog_Res_Step fu x49.2.2 x49.2.1 x54).bind (fun (x55 : (Nat × T Res) × Bool × Mem) => (some (Lp.next ((IntKind.i64.wrap (x49.1 + 1)), x55.2.2, x55.1))))))) else (some (Lp.brk (x49.1, x49.2.1, x49.2.2))))) fu (0, x37.2.2.2, (fu, (D.check_Read (⟨(⟨3, 2, 7, 0, 1, 100⟩ : Plan), 0, 0⟩ : Seat) x23.1.v 2))) (fun (x63 : Int × Mem × (Nat × T Res)) => ((D.mem_Memory_Cap fu x63.2.1 0).bind (fun (x70 : Cap) => ((D.prog_Run_Res fu (fu, (D.check_Drop (fu + 1) (⟨(⟨3, 2, 7, 0, 1, 100⟩ : Plan), 0, 1⟩ : Seat) x23.1.v)) x63.2.1 x70 999).bind (fun (x72 : Res × Int × Bool × Mem) => (loopThen (fun (x80 : Int × Mem) => (bif (decide (x80.1 < (IntKind.i64.wrap (1 + (IntKind.i64.wrap (a2.tmod 3)))))) then ((D.mem_Memory_Cap fu x80.2 0).bind (fun (x89 : Cap) => ((D.prog_Run_Res fu (fu, (D.check_New (fu + 1) (⟨(⟨3, 2, 7, 0, 1, 100⟩ : Plan), 0, 1⟩ : Seat))) x80.2 x89 999).bind (fun (x91 : Res × Int × Bool × Mem) => (bif (x91.1.e != 0) then (some (Lp.next ((IntKind.i64.wrap (x80.1 + 1)), x91.2.2.2))) else (loopThen (fun (x100 : Int × Mem) => (bif (decide (x100.1 < 3)) then ((D.mem_Memory_Cap fu x100.2 0).bind (fun (x109 : Cap) => ((D.prog_Run_Res fu (fu, (D.check_Write (⟨(⟨3, 2, 7, 0, 1, 100⟩ : Plan), 0, 1⟩ : Seat) x91.1.v x100.1 (bits_xor .u64 18446744073709551615 a0))) x100.2 x109 99).bind (fun (x111 : Res × Int × Bool × Mem) => (some (Lp.next ((IntKind.i64.wrap (x100.1 + 1)), x111.2.2.2))))))) else (some (Lp.brk (x100.1, x100.2))))) fu (0, x91.2.2.2) (fun (x113 : Int × Mem) => (some (Lp.next ((IntKind.i64.wrap (x80.1 + 1)), x113.2)))))))))) else (some (Lp.brk (x80.1, x80.2))))) fu (0, x72.2.2.2) (fun (x116 : Int × Mem) => ((D.mem_Memory_Cap fu x116.2 0).bind (fun (x119 : Cap) => ((D.prog_Run_Res fu x63.2.2 x116.2 x119 99).bind (fun (x120 : Res × Int × Bool × Mem) => (Option.bind (bif (!(x72.1 == (⟨0, 0⟩ : Res))) then (some true) else (some (!x120.2.2.1))) (fun (x125 : Bool) => (bif x125 then (some false) else (bif (decide ((IntKind.i64.wrap (a1.tmod 6)) < 3)) then (some (x120.1 == (⟨3, 0⟩ : Res))) else (some (x120.1 == (⟨0, a0⟩ : Res))))))))))))))))))))))))))))))))

theorem c_cubiclelaw13_CheckGuarded {fu : Nat} (w0 : World) (a0 : Int) (a1 : Int) (a2 : Int) {res : Bool} (hD : D.cubiclelaw13_CheckGuarded fu a0 a1 a2 = some res) :
    Calls Tryz.prog 5 #[.int .u64 a0, .int .u8 a1, .int .u8 a2] w0 (PureRes (.bool res) w0) := by
 refine enter Tryz.func5 rfl 154 rfl rfl fun fr r => ?_
 have hP : Post No [] w0 w0 := Post.nil w0
 unfold D.cubiclelaw13_CheckGuarded at hD
 refine wsr ?_
 refine seq_val (.bool false) r (fun R => y_assign r rfl) rfl fun fr r => ?_
 refine wn ?_
 refine wp_seq ?_
 refine wsr ?_
 obtain ⟨x1, hx1, hD⟩ := bindD_elim hD
 refine seq_call r (c_cubiclelaw13_awake w0  hx1) (fun R hc => y_call r rfl cl27 hc) rfl ?_
 rintro _ w2 ⟨rfl, hb⟩
 refine ⟨_, rfl, fun fr r => ?_⟩
 have hP : Post No [] w0 w2 := hP.below hb
 refine seq_val (.bool (!x1)) r (fun R => y_un r (u := (.bool x1)) rfl rfl) rfl fun fr r => ?_
 refine wn ?_
 refine wp_cond_split (t := (!x1)) (r.ev rfl) (fun h3 => ?_) (fun h3 => ?_)
 ·
  have hD := (cond_t h3).symm.trans hD
  refine wsr ?_
  refine seq_val (.bool false) r (fun R => y_assign r rfl) rfl fun fr r => ?_
  refine wn ?_
  refine wp_ret ?_
  have hv : false = res := Option.some.inj hD
  try dsimp only [Exit.then, Exit.inBlock]
  refine ret_tmp (fn := Tryz.f5) r (t := 6) rfl (v := (.bool false)) rfl ?_
  subst hv
  exact ⟨rfl, hP.chg.below⟩
 ·
  have hD := (cond_f h3).symm.trans hD
  refine wp_skip ?_
  refine wsr ?_
  refine seq_val (.agg (planC (⟨3, 2, 7, 0, 1, 100⟩ : Plan)).toArray) r (fun R => y_build r (by kernel_rfl)) rfl fun fr r => ?_
  refine seq_new (.cells ((planC (⟨0, 0, 0, 0, 0, 0⟩ : Plan))).toArray 25 (0, 0)) r (fun R => y_alloc tz25) rfl fun fr b4 w5 n6 r => ?_
  have hP : Post No [cellC b4 ((planC (⟨0, 0, 0, 0, 0, 0⟩ : Plan))).toArray 25] w0 w5 := hP.new n6
  refine seq_upd (.cells ((planC (⟨3, 2, 7, 0, 1, 100⟩ : Plan))).toArray 25 (0, 0)) r (fun R => y_store r (o := 0) (v := (.agg (planC (⟨3, 2, 7, 0, 1, 100⟩ : Plan)).toArray)) rfl rfl (hP.cell (i := 0) rfl) ts25 (Nat.le_of_ble_eq_true rfl) rfl rfl) rfl fun fr w8 u9 r => ?_
  have hP : Post No [cellC b4 ((planC (⟨3, 2, 7, 0, 1, 100⟩ : Plan))).toArray 25] w0 w8 := hP.upd (i := 0) rfl u9
  refine wn ?_
  refine wp_seq ?_
  refine wp_freeF [.val (.agg (planC (⟨3, 2, 7, 0, 1, 100⟩ : Plan)).toArray), .val (.agg (seatC (⟨(⟨3, 2, 7, 0, 1, 100⟩ : Plan), 0, 0⟩ : Seat)).toArray), .val (.agg (planC (⟨3, 2, 7, 0, 1, 100⟩ : Plan)).toArray), .val (.agg (seatC (⟨(⟨3, 2, 7, 0, 1, 100⟩ : Plan), 0, 1⟩ : Seat)).toArray), .cell 29 8, .cell 29 8, .stored 4 ((seatC (⟨(⟨3, 2, 7, 0, 1, 100⟩ : Plan), 0, 0⟩ : Seat))).toArray 29 8 rfl, .stored 5 ((seatC (⟨(⟨3, 2, 7, 0, 1, 100⟩ : Plan), 0, 1⟩ : Seat))).toArray 29 8 rfl] mixed r (by kernel_rfl) ?_ ?_
  ·
   refine fc r (fun fr1 g w' hb' hd r' => y_load_agg r' (cs := (planC (⟨3, 2, 7, 0, 1, 100⟩ : Plan))) (n := 6) rfl ((hP.below (dr hb')).cell (i := 0) rfl) ta25 rfl bz) ?_
   refine fc r (fun fr1 g w' hb' hd r' => y_build r' (v := (.agg (seatC (⟨(⟨3, 2, 7, 0, 1, 100⟩ : Plan), 0, 0⟩ : Seat)).toArray)) (bs2 (congrArg (fun z => (0, z)) (hd 0 rfl).1) (rfl) (by kernel_rfl)) bz) ?_
   refine fc r (fun fr1 g w' hb' hd r' => y_load_agg r' (cs := (planC (⟨3, 2, 7, 0, 1, 100⟩ : Plan))) (n := 6) rfl ((hP.below (dr hb')).cell (i := 0) rfl) ta25 rfl bz) ?_
   refine fc r (fun fr1 g w' hb' hd r' => y_build r' (v := (.agg (seatC (⟨(⟨3, 2, 7, 0, 1, 100⟩ : Plan), 0, 1⟩ : Seat)).toArray)) (bs2 (congrArg (fun z => (0, z)) (hd 2 rfl).1) (rfl) (by kernel_rfl)) bz) ?_
   refine fc r (fun fr1 g w' hb' hd r' => y_alloc tz29 (fun b w2 n2 => ⟨n2.below, b, rfl, n2.eq, _, n2.at_, rfl⟩)) ?_
   refine fc r (fun fr1 g w' hb' hd r' => y_alloc tz29 (fun b w2 n2 => ⟨n2.below, b, rfl, n2.eq, _, n2.at_, rfl⟩)) ?_
   refine eachF_cons r rfl (fun fr1 g w' hb' hd r' => ?_) ?_
   · obtain ⟨hp, _, c, hc, hn⟩ := (hd 4 rfl).1; exact y_store r' (o := 0) (c := c) (v := (.agg (seatC (⟨(⟨3, 2, 7, 0, 1, 100⟩ : Plan), 0, 0⟩ : Seat)).toArray)) hp (hd 1 rfl).1 hc ts29 (by rw [hn]; exact Nat.le_of_ble_eq_true rfl) rfl (over2_full (hn.trans rfl)) (fun w2 u2 => ⟨u2, rfl⟩)
   refine eachF_cons r rfl (fun fr1 g w' hb' hd r' => ?_) ?_
   · obtain ⟨hp, _, c, hc, hn⟩ := (hd 5 rfl).1; exact y_store r' (o := 0) (c := c) (v := (.agg (seatC (⟨(⟨3, 2, 7, 0, 1, 100⟩ : Plan), 0, 1⟩ : Seat)).toArray)) hp (hd 3 rfl).1 hc ts29 (by rw [hn]; exact Nat.le_of_ble_eq_true rfl) rfl (over2_full (hn.trans rfl)) (fun w2 u2 => ⟨u2, rfl⟩)
   exact eachF_nil
  ·
   intro fr gg w12 hb hΦ hap r
   obtain ⟨b10, ee_b10⟩ : ∃ b, b = (gg 4).lo := ⟨_, rfl⟩
   have g4 : (gg 4).v = (.pointer (some ⟨b10, 0, none⟩)) := by rw [ee_b10]; exact (hΦ 4 rfl).1.1
   have h_b10 : w12.heap[b10]? = some (.cells ((seatC (⟨(⟨3, 2, 7, 0, 1, 100⟩ : Plan), 0, 0⟩ : Seat))).toArray 29 (0, 0)) := by rw [ee_b10]; exact (hΦ 6 rfl).1.2
   have hs4 : Fresh [cellC b10 ((seatC (⟨(⟨3, 2, 7, 0, 1, 100⟩ : Plan), 0, 0⟩ : Seat))).toArray 29] (gg 4).lo (gg 4).hi w12 := by subst ee_b10; exact Fresh.cell (hΦ 4 rfl).1.2.1 h_b10
   obtain ⟨b11, ee_b11⟩ : ∃ b, b = (gg 5).lo := ⟨_, rfl⟩
   have g5 : (gg 5).v = (.pointer (some ⟨b11, 0, none⟩)) := by rw [ee_b11]; exact (hΦ 5 rfl).1.1
   have h_b11 : w12.heap[b11]? = some (.cells ((seatC (⟨(⟨3, 2, 7, 0, 1, 100⟩ : Plan), 0, 1⟩ : Seat))).toArray 29 (0, 0)) := by rw [ee_b11]; exact (hΦ 7 rfl).1.2
   have hs5 : Fresh [cellC b11 ((seatC (⟨(⟨3, 2, 7, 0, 1, 100⟩ : Plan), 0, 1⟩ : Seat))).toArray 29] (gg 5).lo (gg 5).hi w12 := by subst ee_b11; exact Fresh.cell (hΦ 5 rfl).1.2.1 h_b11
   have r := r.congr (sc g5 (sc g4 (sc ((hΦ 3 rfl).1) (sc ((hΦ 2 rfl).1) (sc ((hΦ 1 rfl).1) (sc ((hΦ 0 rfl).1) rfl))))))
   have hP : Post No [cellC b4 ((planC (⟨3, 2, 7, 0, 1, 100⟩ : Plan))).toArray 25, cellC b10 ((seatC (⟨(⟨3, 2, 7, 0, 1, 100⟩ : Plan), 0, 0⟩ : Seat))).toArray 29, cellC b11 ((seatC (⟨(⟨3, 2, 7, 0, 1, 100⟩ : Plan), 0, 1⟩ : Seat))).toArray 29] w0 w12 := hP.addL (l := [([cellC b10 ((seatC (⟨(⟨3, 2, 7, 0, 1, 100⟩ : Plan), 0, 0⟩ : Seat))).toArray 29], (gg 4).lo, (gg 4).hi), ([cellC b11 ((seatC (⟨(⟨3, 2, 7, 0, 1, 100⟩ : Plan), 0, 1⟩ : Seat))).toArray 29], (gg 5).lo, (gg 5).hi)]) hb ⟨hs4, (hΦ 4 rfl).2.1, (disj_cons (hap 4 5 rfl) disj_nil), ⟨hs5, (hΦ 5 rfl).2.1, disj_nil, trivial⟩⟩
   refine wsr ?_
   refine seq_val (.agg (planC (⟨3, 2, 7, 0, 1, 100⟩ : Plan)).toArray) r (fun R => y_load_agg r (cs := (planC (⟨3, 2, 7, 0, 1, 100⟩ : Plan))) (n := 6) rfl (hP.cell (i := 0) rfl) ta25 rfl) rfl fun fr r => ?_
   obtain ⟨x13, hx13, hD⟩ := bindD_elim hD
   refine seq_call r (c_cubiclelaw09_Laid w12 (⟨3, 2, 7, 0, 1, 100⟩ : Plan) hx13) (fun R hc => y_call r rfl cl28 hc) rfl ?_
   rintro _ w14 ⟨mg15, rfl, hq⟩
   refine ⟨_, rfl, fun fr r => ?_⟩
   have hP : Post No [cellC b4 ((planC (⟨3, 2, 7, 0, 1, 100⟩ : Plan))).toArray 25, cellC b10 ((seatC (⟨(⟨3, 2, 7, 0, 1, 100⟩ : Plan), 0, 0⟩ : Seat))).toArray 29, cellC b11 ((seatC (⟨(⟨3, 2, 7, 0, 1, 100⟩ : Plan), 0, 1⟩ : Seat))).toArray 29, memK mg15 x13] w0 w14 := hP.add hq
   refine seq_val (.pointer (some ⟨mg15.mb, 0, none⟩)) r (fun R => y_assign r rfl) rfl fun fr r => ?_
   refine wn ?_
   refine wp_seq ?_
   refine wsr ?_
   refine seq_val (.pointer (some ⟨mg15.mb, 0, none⟩)) r (fun R => y_move r rfl) rfl fun fr r => ?_
   refine seq_val _ r (fun R => y_bin r rfl rfl rfl rfl) rfl fun fr r => ?_
   refine wn ?_
   refine wp_cond_split (t := false) (r.ev rfl) (fun h => absurd ((rfl : false = _).symm.trans h) (by decide)) (fun _ => ?_)
   refine wp_skip ?_
   refine wsr ?_
   refine seq_val (.agg (seatC (⟨(⟨3, 2, 7, 0, 1, 100⟩ : Plan), 0, 0⟩ : Seat)).toArray) r (fun R => y_load_agg r (cs := (seatC (⟨(⟨3, 2, 7, 0, 1, 100⟩ : Plan), 0, 0⟩ : Seat))) (n := 8) rfl (hP.cell (i := 1) rfl) ta29 rfl) rfl fun fr r => ?_
   refine seq_call r (c_check_New (F := No) (n := fu) (j := fu + 1) (fun _ h => h.elim) (by omega) (⟨(⟨3, 2, 7, 0, 1, 100⟩ : Plan), 0, 0⟩ : Seat)) (fun R hc => y_call r rfl cl30 hc) rfl ?_
   rintro _ w17 ⟨v18, rfl, hb, hr19⟩
   refine ⟨_, rfl, fun fr r => ?_⟩
   have hP : Post No [cellC b4 ((planC (⟨3, 2, 7, 0, 1, 100⟩ : Plan))).toArray 25, cellC b10 ((seatC (⟨(⟨3, 2, 7, 0, 1, 100⟩ : Plan), 0, 0⟩ : Seat))).toArray 29, cellC b11 ((seatC (⟨(⟨3, 2, 7, 0, 1, 100⟩ : Plan), 0, 1⟩ : Seat))).toArray 29, memK mg15 x13, progK Tryz.prog encRes (fu, (D.check_New (fu + 1) (⟨(⟨3, 2, 7, 0, 1, 100⟩ : Plan), 0, 0⟩ : Seat))) v18 (rg w14.heap.size w17.heap.size)] w0 w17 := hP.addProg hb hr19
   refine seq_val (.pointer (some ⟨mg15.mb, 0, none⟩)) r (fun R => y_move r rfl) rfl fun fr r => ?_
   refine seq_val (.pointer (some ⟨mg15.mb, 0, none⟩)) r (fun R => y_move r rfl) rfl fun fr r => ?_
   obtain ⟨x21, hx21, hD⟩ := bindD_elim hD
   refine seq_call r (c_mem_Memory_Cap w17 x13 (hP.mem (i := 3) rfl) 0 hx21) (fun R hc => y_call r rfl cl31 hc) rfl ?_
   rintro _ w22 ⟨rfl, hb⟩
   refine ⟨_, rfl, fun fr r => ?_⟩
   have hP : Post No [cellC b4 ((planC (⟨3, 2, 7, 0, 1, 100⟩ : Plan))).toArray 25, cellC b10 ((seatC (⟨(⟨3, 2, 7, 0, 1, 100⟩ : Plan), 0, 0⟩ : Seat))).toArray 29, cellC b11 ((seatC (⟨(⟨3, 2, 7, 0, 1, 100⟩ : Plan), 0, 1⟩ : Seat))).toArray 29, memK mg15 x13, progK Tryz.prog encRes (fu, (D.check_New (fu + 1) (⟨(⟨3, 2, 7, 0, 1, 100⟩ : Plan), 0, 0⟩ : Seat))) v18 (rg w14.heap.size w17.heap.size)] w0 w22 := hP.below hb
   obtain ⟨x23, hx23, hD⟩ := bindD_elim hD
   refine seq_call r (c_prog_Run_Res w22 (fu, (D.check_New (fu + 1) (⟨(⟨3, 2, 7, 0, 1, 100⟩ : Plan), 0, 0⟩ : Seat))) x13 x21 99 (hP.sep.pk [4, 3] rfl rfl) hx23) (fun R hc => y_call r rfl cl29 hc) rfl ?_
   rintro _ w24 ⟨rfl, hq⟩
   refine ⟨_, rfl, fun fr r => ?_⟩
   have hP : Post No [cellC b4 ((planC (⟨3, 2, 7, 0, 1, 100⟩ : Plan))).toArray 25, cellC b10 ((seatC (⟨(⟨3, 2, 7, 0, 1, 100⟩ : Plan), 0, 0⟩ : Seat))).toArray 29, cellC b11 ((seatC (⟨(⟨3, 2, 7, 0, 1, 100⟩ : Plan), 0, 1⟩ : Seat))).toArray 29, memK mg15 x23.2.2.2, progK Tryz.prog encRes (fu, (D.check_New (fu + 1) (⟨(⟨3, 2, 7, 0, 1, 100⟩ : Plan), 0, 0⟩ : Seat))) v18 (rg w14.heap.size w17.heap.size)] w0 w24 := hP.setN (i := 3) rfl hq
   refine seq_val (.tuple #[(.agg (resC x23.1).toArray), (I x23.2.1), (.bool x23.2.2.1)]) r (fun R => y_move r rfl) rfl fun fr r => ?_
   refine seq_val (.agg (resC x23.1).toArray) r (fun R => y_extract r (vs := #[(.agg (resC x23.1).toArray), (I x23.2.1), (.bool x23.2.2.1)]) rfl rfl) rfl fun fr r => ?_
   refine seq_val (I x23.2.1) r (fun R => y_extract r (vs := #[(.agg (resC x23.1).toArray), (I x23.2.1), (.bool x23.2.2.1)]) rfl rfl) rfl fun fr r => ?_
   refine seq_val (.bool x23.2.2.1) r (fun R => y_extract r (vs := #[(.agg (resC x23.1).toArray), (I x23.2.1), (.bool x23.2.2.1)]) rfl rfl) rfl fun fr r => ?_
   refine seq_new (.cells ((resC (⟨0, 0⟩ : Res))).toArray 32 (0, 0)) r (fun R => y_alloc tz32) rfl fun fr b25 w26 n27 r => ?_
   have hP : Post No [cellC b4 ((planC (⟨3, 2, 7, 0, 1, 100⟩ : Plan))).toArray 25, cellC b10 ((seatC (⟨(⟨3, 2, 7, 0, 1, 100⟩ : Plan), 0, 0⟩ : Seat))).toArray 29, cellC b11 ((seatC (⟨(⟨3, 2, 7, 0, 1, 100⟩ : Plan), 0, 1⟩ : Seat))).toArray 29, memK mg15 x23.2.2.2, progK Tryz.prog encRes (fu, (D.check_New (fu + 1) (⟨(⟨3, 2, 7, 0, 1, 100⟩ : Plan), 0, 0⟩ : Seat))) v18 (rg w14.heap.size w17.heap.size), cellC b25 ((resC (⟨0, 0⟩ : Res))).toArray 32] w0 w26 := hP.new n27
   refine seq_upd (.cells ((resC x23.1)).toArray 32 (0, 0)) r (fun R => y_store r (o := 0) (v := (.agg (resC x23.1).toArray)) rfl rfl (hP.cell (i := 5) rfl) ts32 (Nat.le_of_ble_eq_true rfl) rfl rfl) rfl fun fr w29 u30 r => ?_
   have hP : Post No [cellC b4 ((planC (⟨3, 2, 7, 0, 1, 100⟩ : Plan))).toArray 25, cellC b10 ((seatC (⟨(⟨3, 2, 7, 0, 1, 100⟩ : Plan), 0, 0⟩ : Seat))).toArray 29, cellC b11 ((seatC (⟨(⟨3, 2, 7, 0, 1, 100⟩ : Plan), 0, 1⟩ : Seat))).toArray 29, memK mg15 x23.2.2.2, progK Tryz.prog encRes (fu, (D.check_New (fu + 1) (⟨(⟨3, 2, 7, 0, 1, 100⟩ : Plan), 0, 0⟩ : Seat))) v18 (rg w14.heap.size w17.heap.size), cellC b25 ((resC x23.1)).toArray 32] w0 w29 := hP.upd (i := 5) rfl u30
   refine seq_val (I x23.2.1) r (fun R => y_assign r rfl) rfl fun fr r => ?_
   refine seq_val (.bool x23.2.2.1) r (fun R => y_assign r rfl) rfl fun fr r => ?_
   refine wn ?_
   refine wsr ?_
   refine seq_val (.agg (seatC (⟨(⟨3, 2, 7, 0, 1, 100⟩ : Plan), 0, 0⟩ : Seat)).toArray) r (fun R => y_load_agg r (cs := (seatC (⟨(⟨3, 2, 7, 0, 1, 100⟩ : Plan), 0, 0⟩ : Seat))) (n := 8) rfl (hP.cell (i := 1) rfl) ta29 rfl) rfl fun fr r => ?_
   refine seq_val _ r (fun R => y_fieldAddr r (o := 0) rfl fo32_1) rfl fun fr r => ?_
   refine seq_val (U x23.1.v) r (fun R => y_load_one r rfl (hP.cell (i := 5) rfl) to22 rfl) rfl fun fr r => ?_
   refine seq_val (U a0) r (fun R => y_move r rfl) rfl fun fr r => ?_
   refine seq_call r (c_check_Write (F := No) (n := fu) (fun _ h => h.elim) (⟨(⟨3, 2, 7, 0, 1, 100⟩ : Plan), 0, 0⟩ : Seat) x23.1.v 2 a0) (fun R hc => y_call r rfl cl32 hc) rfl ?_
   rintro _ w31 ⟨v32, rfl, hb, hr33⟩
   refine ⟨_, rfl, fun fr r => ?_⟩
   have hP : Post No [cellC b4 ((planC (⟨3, 2, 7, 0, 1, 100⟩ : Plan))).toArray 25, cellC b10 ((seatC (⟨(⟨3, 2, 7, 0, 1, 100⟩ : Plan), 0, 0⟩ : Seat))).toArray 29, cellC b11 ((seatC (⟨(⟨3, 2, 7, 0, 1, 100⟩ : Plan), 0, 1⟩ : Seat))).toArray 29, memK mg15 x23.2.2.2, progK Tryz.prog encRes (fu, (D.check_New (fu + 1) (⟨(⟨3, 2, 7, 0, 1, 100⟩ : Plan), 0, 0⟩ : Seat))) v18 (rg w14.heap.size w17.heap.size), cellC b25 ((resC x23.1)).toArray 32, progK Tryz.prog encRes (fu, (D.check_Write (⟨(⟨3, 2, 7, 0, 1, 100⟩ : Plan), 0, 0⟩ : Seat) x23.1.v 2 a0)) v32 (rg w29.heap.size w31.heap.size)] w0 w31 := hP.addProg hb hr33
   refine seq_val (.pointer (some ⟨mg15.mb, 0, none⟩)) r (fun R => y_move r rfl) rfl fun fr r => ?_
   refine seq_val (.pointer (some ⟨mg15.mb, 0, none⟩)) r (fun R => y_move r rfl) rfl fun fr r => ?_
   obtain ⟨x35, hx35, hD⟩ := bindD_elim hD
   refine seq_call r (c_mem_Memory_Cap w31 x23.2.2.2 (hP.mem (i := 3) rfl) 0 hx35) (fun R hc => y_call r rfl cl31 hc) rfl ?_
   rintro _ w36 ⟨rfl, hb⟩
   refine ⟨_, rfl, fun fr r => ?_⟩
   have hP : Post No [cellC b4 ((planC (⟨3, 2, 7, 0, 1, 100⟩ : Plan))).toArray 25, cellC b10 ((seatC (⟨(⟨3, 2, 7, 0, 1, 100⟩ : Plan), 0, 0⟩ : Seat))).toArray 29, cellC b11 ((seatC (⟨(⟨3, 2, 7, 0, 1, 100⟩ : Plan), 0, 1⟩ : Seat))).toArray 29, memK mg15 x23.2.2.2, progK Tryz.prog encRes (fu, (D.check_New (fu + 1) (⟨(⟨3, 2, 7, 0, 1, 100⟩ : Plan), 0, 0⟩ : Seat))) v18 (rg w14.heap.size w17.heap.size), cellC b25 ((resC x23.1)).toArray 32, progK Tryz.prog encRes (fu, (D.check_Write (⟨(⟨3, 2, 7, 0, 1, 100⟩ : Plan), 0, 0⟩ : Seat) x23.1.v 2 a0)) v32 (rg w29.heap.size w31.heap.size)] w0 w36 := hP.below hb
   obtain ⟨x37, hx37, hD⟩ := bindD_elim hD
   refine seq_call r (c_prog_Run_Res w36 (fu, (D.check_Write (⟨(⟨3, 2, 7, 0, 1, 100⟩ : Plan), 0, 0⟩ : Seat) x23.1.v 2 a0)) x23.2.2.2 x35 99 (hP.sep.pk [6, 3] rfl rfl) hx37) (fun R hc => y_call r rfl cl29 hc) rfl ?_
   rintro _ w38 ⟨rfl, hq⟩
   refine ⟨_, rfl, fun fr r => ?_⟩
   have hP : Post No [cellC b4 ((planC (⟨3, 2, 7, 0, 1, 100⟩ : Plan))).toArray 25, cellC b10 ((seatC (⟨(⟨3, 2, 7, 0, 1, 100⟩ : Plan), 0, 0⟩ : Seat))).toArray 29, cellC b11 ((seatC (⟨(⟨3, 2, 7, 0, 1, 100⟩ : Plan), 0, 1⟩ : Seat))).toArray 29, memK mg15 x37.2.2.2, progK Tryz.prog encRes (fu, (D.check_New (fu + 1) (⟨(⟨3, 2, 7, 0, 1, 100⟩ : Plan), 0, 0⟩ : Seat))) v18 (rg w14.heap.size w17.heap.size), cellC b25 ((resC x23.1)).toArray 32, progK Tryz.prog encRes (fu, (D.check_Write (⟨(⟨3, 2, 7, 0, 1, 100⟩ : Plan), 0, 0⟩ : Seat) x23.1.v 2 a0)) v32 (rg w29.heap.size w31.heap.size)] w0 w38 := hP.setN (i := 3) rfl hq
   refine wn ?_
   refine wsr ?_
   refine seq_val (.agg (seatC (⟨(⟨3, 2, 7, 0, 1, 100⟩ : Plan), 0, 0⟩ : Seat)).toArray) r (fun R => y_load_agg r (cs := (seatC (⟨(⟨3, 2, 7, 0, 1, 100⟩ : Plan), 0, 0⟩ : Seat))) (n := 8) rfl (hP.cell (i := 1) rfl) ta29 rfl) rfl fun fr r => ?_
   refine seq_val _ r (fun R => y_fieldAddr r (o := 0) rfl fo32_1) rfl fun fr r => ?_
   refine seq_val (U x23.1.v) r (fun R => y_load_one r rfl (hP.cell (i := 5) rfl) to22 rfl) rfl fun fr r => ?_
   refine seq_call r (c_check_Read (F := No) (n := fu) (fun _ h => h.elim) (⟨(⟨3, 2, 7, 0, 1, 100⟩ : Plan), 0, 0⟩ : Seat) x23.1.v 2) (fun R hc => y_call r rfl cl33 hc) rfl ?_
   rintro _ w39 ⟨v40, rfl, hb, hr41⟩
   refine ⟨_, rfl, fun fr r => ?_⟩
   have hP : Post No [cellC b4 ((planC (⟨3, 2, 7, 0, 1, 100⟩ : Plan))).toArray 25, cellC b10 ((seatC (⟨(⟨3, 2, 7, 0, 1, 100⟩ : Plan), 0, 0⟩ : Seat))).toArray 29, cellC b11 ((seatC (⟨(⟨3, 2, 7, 0, 1, 100⟩ : Plan), 0, 1⟩ : Seat))).toArray 29, memK mg15 x37.2.2.2, progK Tryz.prog encRes (fu, (D.check_New (fu + 1) (⟨(⟨3, 2, 7, 0, 1, 100⟩ : Plan), 0, 0⟩ : Seat))) v18 (rg w14.heap.size w17.heap.size), cellC b25 ((resC x23.1)).toArray 32, progK Tryz.prog encRes (fu, (D.check_Write (⟨(⟨3, 2, 7, 0, 1, 100⟩ : Plan), 0, 0⟩ : Seat) x23.1.v 2 a0)) v32 (rg w29.heap.size w31.heap.size), progK Tryz.prog encRes (fu, (D.check_Read (⟨(⟨3, 2, 7, 0, 1, 100⟩ : Plan), 0, 0⟩ : Seat) x23.1.v 2)) v40 (rg w38.heap.size w39.heap.size)] w0 w39 := hP.addProg hb hr41
   refine seq_new (.cells (progCells false encRes.zero 0 0 0 0 .nilFunc) 39 (0, 0)) r (fun R => y_alloc tz39) rfl fun fr b43 w44 n45 r => ?_
   have hP : Post No [cellC b4 ((planC (⟨3, 2, 7, 0, 1, 100⟩ : Plan))).toArray 25, cellC b10 ((seatC (⟨(⟨3, 2, 7, 0, 1, 100⟩ : Plan), 0, 0⟩ : Seat))).toArray 29, cellC b11 ((seatC (⟨(⟨3, 2, 7, 0, 1, 100⟩ : Plan), 0, 1⟩ : Seat))).toArray 29, memK mg15 x37.2.2.2, progK Tryz.prog encRes (fu, (D.check_New (fu + 1) (⟨(⟨3, 2, 7, 0, 1, 100⟩ : Plan), 0, 0⟩ : Seat))) v18 (rg w14.heap.size w17.heap.size), cellC b25 ((resC x23.1)).toArray 32, progK Tryz.prog encRes (fu, (D.check_Write (⟨(⟨3, 2, 7, 0, 1, 100⟩ : Plan), 0, 0⟩ : Seat) x23.1.v 2 a0)) v32 (rg w29.heap.size w31.heap.size), progK Tryz.prog encRes (fu, (D.check_Read (⟨(⟨3, 2, 7, 0, 1, 100⟩ : Plan), 0, 0⟩ : Seat) x23.1.v 2)) v40 (rg w38.heap.size w39.heap.size), cellC b43 (progCells false encRes.zero 0 0 0 0 .nilFunc) 39] w0 w44 := hP.new n45
   refine seq_upd (.cells v40.cells 39 (0, 0)) r (fun R => y_storep r (hP.prog (i := 7) rfl).shape rfl rfl (hP.cell (i := 8) rfl) ts39 rfl) rfl fun fr w47 u48 r => ?_
   have hP : Post No [cellC b4 ((planC (⟨3, 2, 7, 0, 1, 100⟩ : Plan))).toArray 25, cellC b10 ((seatC (⟨(⟨3, 2, 7, 0, 1, 100⟩ : Plan), 0, 0⟩ : Seat))).toArray 29, cellC b11 ((seatC (⟨(⟨3, 2, 7, 0, 1, 100⟩ : Plan), 0, 1⟩ : Seat))).toArray 29, memK mg15 x37.2.2.2, progK Tryz.prog encRes (fu, (D.check_New (fu + 1) (⟨(⟨3, 2, 7, 0, 1, 100⟩ : Plan), 0, 0⟩ : Seat))) v18 (rg w14.heap.size w17.heap.size), cellC b25 ((resC x23.1)).toArray 32, progK Tryz.prog encRes (fu, (D.check_Write (⟨(⟨3, 2, 7, 0, 1, 100⟩ : Plan), 0, 0⟩ : Seat) x23.1.v 2 a0)) v32 (rg w29.heap.size w31.heap.size), progK Tryz.prog encRes (fu, (D.check_Read (⟨(⟨3, 2, 7, 0, 1, 100⟩ : Plan), 0, 0⟩ : Seat) x23.1.v 2)) v40 (rg w38.heap.size w39.heap.size), cellC b43 v40.cells 39] w0 w47 := hP.upd (i := 8) rfl u48
   refine wn ?_
   refine wsr ?_
   refine seq_val (.int .u8 a1) r (fun R => y_move r rfl) rfl fun fr r => ?_
   refine seq_val _ r (fun R => y_bin r rfl rfl rfl rfl) rfl fun fr r => ?_
   refine seq_val (I (W (a1.tmod 6))) r (fun R => y_convert r rfl ti5 ti3) rfl fun fr r => ?_
   refine seq_val (I (W (a1.tmod 6))) r (fun R => y_assign r rfl) rfl fun fr r => ?_
   refine wn ?_
   refine wp_seq ?_
   refine wsr ?_
   refine seq_val (I 0) r (fun R => y_assign r rfl) rfl fun fr r => ?_
   refine wn ?_
   have hP : Post No [cellC b4 ((planC (⟨3, 2, 7, 0, 1, 100⟩ : Plan))).toArray 25, cellC b10 ((seatC (⟨(⟨3, 2, 7, 0, 1, 100⟩ : Plan), 0, 0⟩ : Seat))).toArray 29, cellC b11 ((seatC (⟨(⟨3, 2, 7, 0, 1, 100⟩ : Plan), 0, 1⟩ : Seat))).toArray 29, memK mg15 x37.2.2.2, cellC b25 ((resC x23.1)).toArray 32, progK Tryz.prog encRes (fu, (D.check_Read (⟨(⟨3, 2, 7, 0, 1, 100⟩ : Plan), 0, 0⟩ : Seat) x23.1.v 2)) v40 (rg w38.heap.size w39.heap.size), cellC b43 v40.cells 39] w0 w47 := hP.pick [0, 1, 2, 3, 5, 7, 8] rfl rfl
   refine wp_loopG (X := Int × Mem × (Nat × T Res)) (G := Value × List Nat) (x0 := (0, x37.2.2.2, (fu, (D.check_Read (⟨(⟨3, 2, 7, 0, 1, 100⟩ : Plan), 0, 0⟩ : Seat) x23.1.v 2)))) (fun x γ => [(0, (U a0)), (1, (.int .u8 a1)), (2, (.int .u8 a2)), (6, (.bool false)), (31, (.bool (!x1))), (7, (.pointer (some ⟨b4, 0, none⟩))), (8, (.pointer (some ⟨b10, 0, none⟩))), (9, (.pointer (some ⟨b11, 0, none⟩))), (10, (.pointer (some ⟨mg15.mb, 0, none⟩))), (40, (.bool false)), (11, (.pointer (some ⟨b25, 0, none⟩))), (14, (.pointer (some ⟨b43, 0, none⟩))), (15, (I (W (a1.tmod 6)))), (16, (I x.1))]) (fun x γ w => Post No [cellC b4 ((planC (⟨3, 2, 7, 0, 1, 100⟩ : Plan))).toArray 25, cellC b10 ((seatC (⟨(⟨3, 2, 7, 0, 1, 100⟩ : Plan), 0, 0⟩ : Seat))).toArray 29, cellC b11 ((seatC (⟨(⟨3, 2, 7, 0, 1, 100⟩ : Plan), 0, 1⟩ : Seat))).toArray 29, memK mg15 x.2.1, cellC b25 ((resC x23.1)).toArray 32, progK Tryz.prog encRes x.2.2 γ.1 γ.2, cellC b43 γ.1.cells 39] w0 w) (v40, (rg w38.heap.size w39.heap.size)) r (hs_cons rfl (hs_cons rfl (hs_cons rfl (hs_cons rfl (hs_cons rfl (hs_cons rfl (hs_cons rfl (hs_cons rfl (hs_cons rfl (hs_cons rfl (hs_cons rfl (hs_cons rfl (hs_cons rfl (hs_cons rfl hs_nil)))))))))))))) hP hD ?_ ?_
   ·
    rintro x49 γ50 fr w52 g y51 RPy51 nxy51 bky51 rty51 r hP hD
    have hP : Post No [cellC b4 ((planC (⟨3, 2, 7, 0, 1, 100⟩ : Plan))).toArray 25, cellC b10 ((seatC (⟨(⟨3, 2, 7, 0, 1, 100⟩ : Plan), 0, 0⟩ : Seat))).toArray 29, cellC b11 ((seatC (⟨(⟨3, 2, 7, 0, 1, 100⟩ : Plan), 0, 1⟩ : Seat))).toArray 29, memK mg15 x49.2.1, cellC b25 ((resC x23.1)).toArray 32, progK Tryz.prog encRes x49.2.2 γ50.1 γ50.2, cellC b43 γ50.1.cells 39] w0 w52 := hP
    refine wp_seq ?_
    refine wsr ?_
    refine seq_val (I x49.1) r (fun R => y_move r rfl) rfl fun fr r => ?_
    refine seq_val (I (W (a1.tmod 6))) r (fun R => y_move r rfl) rfl fun fr r => ?_
    refine seq_val _ r (fun R => y_bin r rfl rfl rfl rfl) rfl fun fr r => ?_
    refine wn ?_
    refine wp_cond_split (t := (decide (x49.1 < (W (a1.tmod 6))))) (r.ev rfl) (fun h53 => ?_) (fun h53 => ?_)
    ·
     have hD := (cond_t h53).symm.trans hD
     refine wp_skip ?_
     refine wp_seq ?_
     refine wp_block ?_
     refine wp_seq ?_
     obtain ⟨x54, hx54, hD⟩ := bindD_elim hD
     obtain ⟨x55, hx55, hD⟩ := bindD_elim hD
     refine wp_freeE mg15.bs [.val γ50.1, .val (.pointer (some ⟨mg15.mb, 0, none⟩)), .val (.pointer (some ⟨mg15.mb, 0, none⟩)), .val (.agg (capC x54).toArray), .eff (EffR Tryz.prog encRes w52.heap.size γ50.2 (memK mg15 x55.2.2) x55.1 (.bool x55.2.1)) EffR.st, .dep 4 (fun u v => v = u ∧ ∃ y, v = .tuple #[y, (.bool x55.2.1)] ∧ Shape encRes y), .dep 5 (fun u v => Shape encRes v ∧ u = .tuple #[v, (.bool x55.2.1)]), .val (.bool x55.2.1), .cell 39 8, .storedD 8 6 (fun v => v.cells) 39 8, .val (.bool x55.2.1)] mixed r (fun b hb => hP.sep.lt (i := 3) rfl (.inl hb)) (by kernel_rfl) ?_ ?_
     ·
      refine eachE_early r rfl (by kernel_rfl) (fun fr1 g w' hb' hd r' => ?_) ?_
      · exact y_loadp r' ((hP.below (dr hb')).prog (i := 5) rfl).shape rfl ((hP.below (dr hb')).cell (i := 6) rfl) ta39 ⟨Below.refl _ _, rfl⟩
      refine eachE_early r rfl (by kernel_rfl) (fun fr1 g w' hb' hd r' => ?_) ?_
      · exact y_move r' (v := (.pointer (some ⟨mg15.mb, 0, none⟩))) rfl ⟨Below.refl _ _, rfl⟩
      refine eachE_late r rfl (fun fr1 g w' hk' hd r' => ?_) ?_
      · exact y_move r' (v := (.pointer (some ⟨mg15.mb, 0, none⟩))) rfl ⟨Below.refl _ _, rfl⟩
      refine eachE_early r rfl (by kernel_rfl) (fun fr1 g w' hb' hd r' => ?_) ?_
      · exact y_call r' (args := [(.pointer (some ⟨mg15.mb, 0, none⟩)), (I 0)]) (lc (hd 2 rfl).1 (lc rfl l0)) cl31 ((c_mem_Memory_Cap _ x49.2.1 ((hP.below (dr hb')).mem (i := 3) rfl) 0 hx54).mono (by rintro _ w2 ⟨rfl, hb2⟩; exact ⟨_, rfl, hb2, rfl⟩))
      refine eachE_early r rfl (by kernel_rfl) (fun fr1 g w' hb' hd r' => ?_) ?_
      · exact y_call r' (args := [γ50.1, (.pointer (some ⟨mg15.mb, 0, none⟩)), (.agg (capC x54).toArray)]) (lc (hd 0 rfl).1 (lc (hd 1 rfl).1 (lc (hd 3 rfl).1 l0))) cl37 ((c_prog_Prog_Res_Step _ x49.2.2 x49.2.1 x54 ((hP.below (dr hb')).sep.pk [5, 3] rfl rfl) hx55).mono (by rintro _ w2 ⟨y, F, rfl, hq⟩; exact ⟨_, rfl, hq.chg.kept, EffR.of hq (fun b hb => hP.sep.lt (i := 3) rfl hb) (fun b hb => hP.sep.lt (i := 5) rfl (.inr hb))⟩))
      refine eachE_late r rfl (fun fr1 g w' hk' hd r' => ?_) ?_
      · obtain ⟨y, F, hv, _, _, _, hr, _⟩ := (hd 4 rfl).1; exact y_move r' (v := (g 4).v) rfl ⟨Below.refl _ _, rfl, y, hv, hr.shape⟩
      refine eachE_late r rfl (fun fr1 g w' hk' hd r' => ?_) ?_
      · obtain ⟨_, y, hv, hs⟩ := (hd 5 rfl).1; exact y_extract r' (vs := #[y, (.bool x55.2.1)]) hv rfl ⟨Below.refl _ _, hs, hv⟩
      refine eachE_late r rfl (fun fr1 g w' hk' hd r' => ?_) ?_
      · obtain ⟨_, y, hv, hs⟩ := (hd 5 rfl).1; exact y_extract r' (vs := #[y, (.bool x55.2.1)]) hv rfl ⟨Below.refl _ _, rfl⟩
      refine eachE_late r rfl (fun fr1 g w' hk' hd r' => ?_) ?_
      · exact y_alloc tz39 (fun b w2 n2 => ⟨n2.below, b, rfl, n2.eq, _, n2.at_, rfl⟩)
      refine eachE_late r rfl (fun fr1 g w' hk' hd r' => ?_) ?_
      · obtain ⟨hp, _, c, hc, hn⟩ := (hd 8 rfl).1; obtain ⟨hs, _⟩ := (hd 6 rfl).1; exact y_storep r' hs hp rfl hc ts39 hn (fun w2 u2 => ⟨u2, rfl, hs.cells.1⟩)
      refine eachE_late r rfl (fun fr1 g w' hk' hd r' => ?_) ?_
      · exact y_assign r' (v := (.bool x55.2.1)) (hd 7 rfl).1 ⟨Below.refl _ _, rfl⟩
      exact eachF_nil
     ·
      intro fr gg w60 hb hΦ hap r
      obtain ⟨v56, F57, g4, hcE, _, _, hrE, hFE⟩ := (hΦ 4 rfl).1
      have g5 := (hΦ 5 rfl).1.1.trans g4
      have g6 : (gg 6).v = v56 := tup_eq ((hΦ 6 rfl).1.2.symm.trans g5)
      obtain ⟨b59, ee_b59⟩ : ∃ b, b = (gg 8).lo := ⟨_, rfl⟩
      have g8 : (gg 8).v = (.pointer (some ⟨b59, 0, none⟩)) := by rw [ee_b59]; exact (hΦ 8 rfl).1.1
      have h_b59 : w60.heap[b59]? = some (.cells v56.cells 39 (0, 0)) := by rw [ee_b59, ← g6]; exact (hΦ 9 rfl).1.2
      have hs8 : Fresh [cellC b59 v56.cells 39] (gg 8).lo (gg 8).hi w60 := by subst ee_b59; exact Fresh.cell (hΦ 8 rfl).1.2.1 h_b59
      have r := r.congr (sc ((hΦ 10 rfl).1) (sc g8 (sc ((hΦ 7 rfl).1) (sc g6 (sc g5 (sc g4 (sc ((hΦ 3 rfl).1) (sc ((hΦ 2 rfl).1) (sc ((hΦ 1 rfl).1) (sc ((hΦ 0 rfl).1) rfl))))))))))
      have hP : Post No [cellC b4 ((planC (⟨3, 2, 7, 0, 1, 100⟩ : Plan))).toArray 25, cellC b10 ((seatC (⟨(⟨3, 2, 7, 0, 1, 100⟩ : Plan), 0, 0⟩ : Seat))).toArray 29, cellC b11 ((seatC (⟨(⟨3, 2, 7, 0, 1, 100⟩ : Plan), 0, 1⟩ : Seat))).toArray 29, memK mg15 x55.2.2, cellC b25 ((resC x23.1)).toArray 32, progK Tryz.prog encRes x49.2.2 γ50.1 γ50.2, cellC b43 γ50.1.cells 39, progK Tryz.prog encRes x55.1 v56 F57, cellC b59 v56.cells 39] w0 w60 := hP.effR (i := 3) (k := 5) (l := [([cellC b59 v56.cells 39], (gg 8).lo, (gg 8).hi)]) rfl rfl rfl hb hcE rfl rfl rfl hrE hFE (hΦ 4 rfl).2.1 (hΦ 4 rfl).2.2.2 ⟨hs8, (hΦ 8 rfl).2.1, disj_nil, trivial⟩ (disj_cons (hap 4 8 rfl) disj_nil)
      refine wp_region_lit ?_
      refine seq_val v56 r (fun R => y_loadp r (hP.prog (i := 7) rfl).shape rfl (hP.cell (i := 8) rfl) ta39) rfl fun fr r => ?_
      refine seq_upd (.cells v56.cells 39 (0, 0)) r (fun R => y_storep r (hP.prog (i := 7) rfl).shape rfl rfl (hP.cell (i := 6) rfl) ts39 (by have h := (hP.prog (i := 5) rfl).shape.cells.1; simpa using h)) rfl fun fr w61 u62 r => ?_
      have hP : Post No [cellC b4 ((planC (⟨3, 2, 7, 0, 1, 100⟩ : Plan))).toArray 25, cellC b10 ((seatC (⟨(⟨3, 2, 7, 0, 1, 100⟩ : Plan), 0, 0⟩ : Seat))).toArray 29, cellC b11 ((seatC (⟨(⟨3, 2, 7, 0, 1, 100⟩ : Plan), 0, 1⟩ : Seat))).toArray 29, memK mg15 x55.2.2, cellC b25 ((resC x23.1)).toArray 32, progK Tryz.prog encRes x49.2.2 γ50.1 γ50.2, cellC b43 v56.cells 39, progK Tryz.prog encRes x55.1 v56 F57, cellC b59 v56.cells 39] w0 w61 := hP.upd (i := 6) rfl u62
      refine wn ?_
      refine wp_region_lit ?_
      refine seq_val (I x49.1) r (fun R => y_move r rfl) rfl fun fr r => ?_
      refine seq_val _ r (fun R => y_bin r rfl rfl rfl rfl) rfl fun fr r => ?_
      refine seq_val (I (W (x49.1 + 1))) r (fun R => y_assign r rfl) rfl fun fr r => ?_
      refine wn ?_
      exact nxy51 ((W (x49.1 + 1)), x55.2.2, x55.1) (v56, F57) _ _ _ hD r (hs_cons rfl (hs_cons rfl (hs_cons rfl (hs_cons rfl (hs_cons rfl (hs_cons rfl (hs_cons rfl (hs_cons rfl (hs_cons rfl (hs_cons rfl (hs_cons rfl (hs_cons rfl (hs_cons rfl (hs_cons rfl hs_nil)))))))))))))) (hP.pick [0, 1, 2, 3, 4, 7, 6] rfl rfl)
    ·
     have hD := (cond_f h53).symm.trans hD
     refine wp_exit ?_
     exact bky51 (x49.1, x49.2.1, x49.2.2) (γ50.1, γ50.2) _ _ _ hD r (hs_cons rfl (hs_cons rfl (hs_cons rfl (hs_cons rfl (hs_cons rfl (hs_cons rfl (hs_cons rfl (hs_cons rfl (hs_cons rfl (hs_cons rfl (hs_cons rfl (hs_cons rfl (hs_cons rfl (hs_cons rfl hs_nil)))))))))))))) (hP.pick [0, 1, 2, 3, 4, 5, 6] rfl rfl)
   ·
    rintro x63 γ64 fr w65 g r hP hD
    have hP : Post No [cellC b4 ((planC (⟨3, 2, 7, 0, 1, 100⟩ : Plan))).toArray 25, cellC b10 ((seatC (⟨(⟨3, 2, 7, 0, 1, 100⟩ : Plan), 0, 0⟩ : Seat))).toArray 29, cellC b11 ((seatC (⟨(⟨3, 2, 7, 0, 1, 100⟩ : Plan), 0, 1⟩ : Seat))).toArray 29, memK mg15 x63.2.1, cellC b25 ((resC x23.1)).toArray 32, progK Tryz.prog encRes x63.2.2 γ64.1 γ64.2, cellC b43 γ64.1.cells 39] w0 w65 := hP
    refine wsr ?_
    refine seq_val (.agg (seatC (⟨(⟨3, 2, 7, 0, 1, 100⟩ : Plan), 0, 1⟩ : Seat)).toArray) r (fun R => y_load_agg r (cs := (seatC (⟨(⟨3, 2, 7, 0, 1, 100⟩ : Plan), 0, 1⟩ : Seat))) (n := 8) rfl (hP.cell (i := 2) rfl) ta29 rfl) rfl fun fr r => ?_
    refine seq_val _ r (fun R => y_fieldAddr r (o := 0) rfl fo32_1) rfl fun fr r => ?_
    refine seq_val (U x23.1.v) r (fun R => y_load_one r rfl (hP.cell (i := 4) rfl) to22 rfl) rfl fun fr r => ?_
    refine seq_call r (c_check_Drop (F := No) (n := fu) (j := fu + 1) (fun _ h => h.elim) (by omega) (⟨(⟨3, 2, 7, 0, 1, 100⟩ : Plan), 0, 1⟩ : Seat) x23.1.v) (fun R hc => y_call r rfl cl36 hc) rfl ?_
    rintro _ w66 ⟨v67, rfl, hb, hr68⟩
    refine ⟨_, rfl, fun fr r => ?_⟩
    have hP : Post No [cellC b4 ((planC (⟨3, 2, 7, 0, 1, 100⟩ : Plan))).toArray 25, cellC b10 ((seatC (⟨(⟨3, 2, 7, 0, 1, 100⟩ : Plan), 0, 0⟩ : Seat))).toArray 29, cellC b11 ((seatC (⟨(⟨3, 2, 7, 0, 1, 100⟩ : Plan), 0, 1⟩ : Seat))).toArray 29, memK mg15 x63.2.1, cellC b25 ((resC x23.1)).toArray 32, progK Tryz.prog encRes x63.2.2 γ64.1 γ64.2, cellC b43 γ64.1.cells 39, progK Tryz.prog encRes (fu, (D.check_Drop (fu + 1) (⟨(⟨3, 2, 7, 0, 1, 100⟩ : Plan), 0, 1⟩ : Seat) x23.1.v)) v67 (rg w65.heap.size w66.heap.size)] w0 w66 := hP.addProg hb hr68
    refine seq_val (.pointer (some ⟨mg15.mb, 0, none⟩)) r (fun R => y_move r rfl) rfl fun fr r => ?_
    refine seq_val (.pointer (some ⟨mg15.mb, 0, none⟩)) r (fun R => y_move r rfl) rfl fun fr r => ?_
    obtain ⟨x70, hx70, hD⟩ := bindD_elim hD
    refine seq_call r (c_mem_Memory_Cap w66 x63.2.1 (hP.mem (i := 3) rfl) 0 hx70) (fun R hc => y_call r rfl cl31 hc) rfl ?_
    rintro _ w71 ⟨rfl, hb⟩
    refine ⟨_, rfl, fun fr r => ?_⟩
    have hP : Post No [cellC b4 ((planC (⟨3, 2, 7, 0, 1, 100⟩ : Plan))).toArray 25, cellC b10 ((seatC (⟨(⟨3, 2, 7, 0, 1, 100⟩ : Plan), 0, 0⟩ : Seat))).toArray 29, cellC b11 ((seatC (⟨(⟨3, 2, 7, 0, 1, 100⟩ : Plan), 0, 1⟩ : Seat))).toArray 29, memK mg15 x63.2.1, cellC b25 ((resC x23.1)).toArray 32, progK Tryz.prog encRes x63.2.2 γ64.1 γ64.2, cellC b43 γ64.1.cells 39, progK Tryz.prog encRes (fu, (D.check_Drop (fu + 1) (⟨(⟨3, 2, 7, 0, 1, 100⟩ : Plan), 0, 1⟩ : Seat) x23.1.v)) v67 (rg w65.heap.size w66.heap.size)] w0 w71 := hP.below hb
    obtain ⟨x72, hx72, hD⟩ := bindD_elim hD
    refine seq_call r (c_prog_Run_Res w71 (fu, (D.check_Drop (fu + 1) (⟨(⟨3, 2, 7, 0, 1, 100⟩ : Plan), 0, 1⟩ : Seat) x23.1.v)) x63.2.1 x70 999 (hP.sep.pk [7, 3] rfl rfl) hx72) (fun R hc => y_call r rfl cl29 hc) rfl ?_
    rintro _ w73 ⟨rfl, hq⟩
    refine ⟨_, rfl, fun fr r => ?_⟩
    have hP : Post No [cellC b4 ((planC (⟨3, 2, 7, 0, 1, 100⟩ : Plan))).toArray 25, cellC b10 ((seatC (⟨(⟨3, 2, 7, 0, 1, 100⟩ : Plan), 0, 0⟩ : Seat))).toArray 29, cellC b11 ((seatC (⟨(⟨3, 2, 7, 0, 1, 100⟩ : Plan), 0, 1⟩ : Seat))).toArray 29, memK mg15 x72.2.2.2, cellC b25 ((resC x23.1)).toArray 32, progK Tryz.prog encRes x63.2.2 γ64.1 γ64.2, cellC b43 γ64.1.cells 39, progK Tryz.prog encRes (fu, (D.check_Drop (fu + 1) (⟨(⟨3, 2, 7, 0, 1, 100⟩ : Plan), 0, 1⟩ : Seat) x23.1.v)) v67 (rg w65.heap.size w66.heap.size)] w0 w73 := hP.setN (i := 3) rfl hq
    refine seq_val (.tuple #[(.agg (resC x72.1).toArray), (I x72.2.1), (.bool x72.2.2.1)]) r (fun R => y_move r rfl) rfl fun fr r => ?_
    refine seq_val (.agg (resC x72.1).toArray) r (fun R => y_extract r (vs := #[(.agg (resC x72.1).toArray), (I x72.2.1), (.bool x72.2.2.1)]) rfl rfl) rfl fun fr r => ?_
    refine seq_val (I x72.2.1) r (fun R => y_extract r (vs := #[(.agg (resC x72.1).toArray), (I x72.2.1), (.bool x72.2.2.1)]) rfl rfl) rfl fun fr r => ?_
    refine seq_val (.bool x72.2.2.1) r (fun R => y_extract r (vs := #[(.agg (resC x72.1).toArray), (I x72.2.1), (.bool x72.2.2.1)]) rfl rfl) rfl fun fr r => ?_
    refine seq_new (.cells ((resC (⟨0, 0⟩ : Res))).toArray 32 (0, 0)) r (fun R => y_alloc tz32) rfl fun fr b74 w75 n76 r => ?_
    have hP : Post No [cellC b4 ((planC (⟨3, 2, 7, 0, 1, 100⟩ : Plan))).toArray 25, cellC b10 ((seatC (⟨(⟨3, 2, 7, 0, 1, 100⟩ : Plan), 0, 0⟩ : Seat))).toArray 29, cellC b11 ((seatC (⟨(⟨3, 2, 7, 0, 1, 100⟩ : Plan), 0, 1⟩ : Seat))).toArray 29, memK mg15 x72.2.2.2, cellC b25 ((resC x23.1)).toArray 32, progK Tryz.prog encRes x63.2.2 γ64.1 γ64.2, cellC b43 γ64.1.cells 39, progK Tryz.prog encRes (fu, (D.check_Drop (fu + 1) (⟨(⟨3, 2, 7, 0, 1, 100⟩ : Plan), 0, 1⟩ : Seat) x23.1.v)) v67 (rg w65.heap.size w66.heap.size), cellC b74 ((resC (⟨0, 0⟩ : Res))).toArray 32] w0 w75 := hP.new n76
    refine seq_upd (.cells ((resC x72.1)).toArray 32 (0, 0)) r (fun R => y_store r (o := 0) (v := (.agg (resC x72.1).toArray)) rfl rfl (hP.cell (i := 8) rfl) ts32 (Nat.le_of_ble_eq_true rfl) rfl rfl) rfl fun fr w78 u79 r => ?_
    have hP : Post No [cellC b4 ((planC (⟨3, 2, 7, 0, 1, 100⟩ : Plan))).toArray 25, cellC b10 ((seatC (⟨(⟨3, 2, 7, 0, 1, 100⟩ : Plan), 0, 0⟩ : Seat))).toArray 29, cellC b11 ((seatC (⟨(⟨3, 2, 7, 0, 1, 100⟩ : Plan), 0, 1⟩ : Seat))).toArray 29, memK mg15 x72.2.2.2, cellC b25 ((resC x23.1)).toArray 32, progK Tryz.prog encRes x63.2.2 γ64.1 γ64.2, cellC b43 γ64.1.cells 39, progK Tryz.prog encRes (fu, (D.check_Drop (fu + 1) (⟨(⟨3, 2, 7, 0, 1, 100⟩ : Plan), 0, 1⟩ : Seat) x23.1.v)) v67 (rg w65.heap.size w66.heap.size), cellC b74 ((resC x72.1)).toArray 32] w0 w78 := hP.upd (i := 8) rfl u79
    refine seq_val (I x72.2.1) r (fun R => y_assign r rfl) rfl fun fr r => ?_
    refine seq_val (.bool x72.2.2.1) r (fun R => y_assign r rfl) rfl fun fr r => ?_
    refine wn ?_
    refine wp_seq ?_
    refine wsr ?_
    refine seq_val (I 0) r (fun R => y_assign r rfl) rfl fun fr r => ?_
    refine wn ?_
    have hP : Post No [cellC b4 ((planC (⟨3, 2, 7, 0, 1, 100⟩ : Plan))).toArray 25, cellC b10 ((seatC (⟨(⟨3, 2, 7, 0, 1, 100⟩ : Plan), 0, 0⟩ : Seat))).toArray 29, cellC b11 ((seatC (⟨(⟨3, 2, 7, 0, 1, 100⟩ : Plan), 0, 1⟩ : Seat))).toArray 29, memK mg15 x72.2.2.2, cellC b25 ((resC x23.1)).toArray 32, progK Tryz.prog encRes x63.2.2 γ64.1 γ64.2, cellC b43 γ64.1.cells 39, cellC b74 ((resC x72.1)).toArray 32] w0 w78 := hP.pick [0, 1, 2, 3, 4, 5, 6, 8] rfl rfl
    refine wp_loopG (X := Int × Mem) (G := Unit) (x0 := (0, x72.2.2.2)) (fun x γ => [(0, (U a0)), (1, (.int .u8 a1)), (2, (.int .u8 a2)), (6, (.bool false)), (31, (.bool (!x1))), (7, (.pointer (some ⟨b4, 0, none⟩))), (8, (.pointer (some ⟨b10, 0, none⟩))), (9, (.pointer (some ⟨b11, 0, none⟩))), (10, (.pointer (some ⟨mg15.mb, 0, none⟩))), (40, (.bool false)), (11, (.pointer (some ⟨b25, 0, none⟩))), (14, (.pointer (some ⟨b43, 0, none⟩))), (15, (I (W (a1.tmod 6)))), (16, (I x63.1)), (19, (.pointer (some ⟨b74, 0, none⟩))), (22, (I x.1))]) (fun x γ w => Post No [cellC b4 ((planC (⟨3, 2, 7, 0, 1, 100⟩ : Plan))).toArray 25, cellC b10 ((seatC (⟨(⟨3, 2, 7, 0, 1, 100⟩ : Plan), 0, 0⟩ : Seat))).toArray 29, cellC b11 ((seatC (⟨(⟨3, 2, 7, 0, 1, 100⟩ : Plan), 0, 1⟩ : Seat))).toArray 29, memK mg15 x.2, cellC b25 ((resC x23.1)).toArray 32, progK Tryz.prog encRes x63.2.2 γ64.1 γ64.2, cellC b43 γ64.1.cells 39, cellC b74 ((resC x72.1)).toArray 32] w0 w) () r (hs_cons rfl (hs_cons rfl (hs_cons rfl (hs_cons rfl (hs_cons rfl (hs_cons rfl (hs_cons rfl (hs_cons rfl (hs_cons rfl (hs_cons rfl (hs_cons rfl (hs_cons rfl (hs_cons rfl (hs_cons rfl (hs_cons rfl (hs_cons rfl hs_nil)))))))))))))))) hP hD ?_ ?_
    ·
     rintro x80 γ81 fr w83 g y82 RPy82 nxy82 bky82 rty82 r hP hD
     have hP : Post No [cellC b4 ((planC (⟨3, 2, 7, 0, 1, 100⟩ : Plan))).toArray 25, cellC b10 ((seatC (⟨(⟨3, 2, 7, 0, 1, 100⟩ : Plan), 0, 0⟩ : Seat))).toArray 29, cellC b11 ((seatC (⟨(⟨3, 2, 7, 0, 1, 100⟩ : Plan), 0, 1⟩ : Seat))).toArray 29, memK mg15 x80.2, cellC b25 ((resC x23.1)).toArray 32, progK Tryz.prog encRes x63.2.2 γ64.1 γ64.2, cellC b43 γ64.1.cells 39, cellC b74 ((resC x72.1)).toArray 32] w0 w83 := hP
     refine wp_seq ?_
     refine wsr ?_
     refine seq_val (I x80.1) r (fun R => y_move r rfl) rfl fun fr r => ?_
     refine seq_val (.int .u8 a2) r (fun R => y_move r rfl) rfl fun fr r => ?_
     refine seq_val _ r (fun R => y_bin r rfl rfl rfl rfl) rfl fun fr r => ?_
     refine seq_val (I (W (a2.tmod 3))) r (fun R => y_convert r rfl ti5 ti3) rfl fun fr r => ?_
     refine seq_val _ r (fun R => y_bin r rfl rfl rfl rfl) rfl fun fr r => ?_
     refine seq_val _ r (fun R => y_bin r rfl rfl rfl rfl) rfl fun fr r => ?_
     refine wn ?_
     refine wp_cond_split (t := (decide (x80.1 < (W (1 + (W (a2.tmod 3))))))) (r.ev rfl) (fun h84 => ?_) (fun h84 => ?_)
     ·
      have hD := (cond_t h84).symm.trans hD
      refine wp_skip ?_
      refine wp_seq ?_
      refine wp_block ?_
      refine wsr ?_
      refine seq_val (.agg (seatC (⟨(⟨3, 2, 7, 0, 1, 100⟩ : Plan), 0, 1⟩ : Seat)).toArray) r (fun R => y_load_agg r (cs := (seatC (⟨(⟨3, 2, 7, 0, 1, 100⟩ : Plan), 0, 1⟩ : Seat))) (n := 8) rfl (hP.cell (i := 2) rfl) ta29 rfl) rfl fun fr r => ?_
      refine seq_call r (c_check_New (F := No) (n := fu) (j := fu + 1) (fun _ h => h.elim) (by omega) (⟨(⟨3, 2, 7, 0, 1, 100⟩ : Plan), 0, 1⟩ : Seat)) (fun R hc => y_call r rfl cl30 hc) rfl ?_
      rintro _ w85 ⟨v86, rfl, hb, hr87⟩
      refine ⟨_, rfl, fun fr r => ?_⟩
      have hP : Post No [cellC b4 ((planC (⟨3, 2, 7, 0, 1, 100⟩ : Plan))).toArray 25, cellC b10 ((seatC (⟨(⟨3, 2, 7, 0, 1, 100⟩ : Plan), 0, 0⟩ : Seat))).toArray 29, cellC b11 ((seatC (⟨(⟨3, 2, 7, 0, 1, 100⟩ : Plan), 0, 1⟩ : Seat))).toArray 29, memK mg15 x80.2, cellC b25 ((resC x23.1)).toArray 32, progK Tryz.prog encRes x63.2.2 γ64.1 γ64.2, cellC b43 γ64.1.cells 39, cellC b74 ((resC x72.1)).toArray 32, progK Tryz.prog encRes (fu, (D.check_New (fu + 1) (⟨(⟨3, 2, 7, 0, 1, 100⟩ : Plan), 0, 1⟩ : Seat))) v86 (rg w83.heap.size w85.heap.size)] w0 w85 := hP.addProg hb hr87
      refine seq_val (.pointer (some ⟨mg15.mb, 0, none⟩)) r (fun R => y_move r rfl) rfl fun fr r => ?_
      refine seq_val (.pointer (some ⟨mg15.mb, 0, none⟩)) r (fun R => y_move r rfl) rfl fun fr r => ?_
      obtain ⟨x89, hx89, hD⟩ := bindD_elim hD
      refine seq_call r (c_mem_Memory_Cap w85 x80.2 (hP.mem (i := 3) rfl) 0 hx89) (fun R hc => y_call r rfl cl31 hc) rfl ?_
      rintro _ w90 ⟨rfl, hb⟩
      refine ⟨_, rfl, fun fr r => ?_⟩
      have hP : Post No [cellC b4 ((planC (⟨3, 2, 7, 0, 1, 100⟩ : Plan))).toArray 25, cellC b10 ((seatC (⟨(⟨3, 2, 7, 0, 1, 100⟩ : Plan), 0, 0⟩ : Seat))).toArray 29, cellC b11 ((seatC (⟨(⟨3, 2, 7, 0, 1, 100⟩ : Plan), 0, 1⟩ : Seat))).toArray 29, memK mg15 x80.2, cellC b25 ((resC x23.1)).toArray 32, progK Tryz.prog encRes x63.2.2 γ64.1 γ64.2, cellC b43 γ64.1.cells 39, cellC b74 ((resC x72.1)).toArray 32, progK Tryz.prog encRes (fu, (D.check_New (fu + 1) (⟨(⟨3, 2, 7, 0, 1, 100⟩ : Plan), 0, 1⟩ : Seat))) v86 (rg w83.heap.size w85.heap.size)] w0 w90 := hP.below hb
      obtain ⟨x91, hx91, hD⟩ := bindD_elim hD
      refine seq_call r (c_prog_Run_Res w90 (fu, (D.check_New (fu + 1) (⟨(⟨3, 2, 7, 0, 1, 100⟩ : Plan), 0, 1⟩ : Seat))) x80.2 x89 999 (hP.sep.pk [8, 3] rfl rfl) hx91) (fun R hc => y_call r rfl cl29 hc) rfl ?_
      rintro _ w92 ⟨rfl, hq⟩
      refine ⟨_, rfl, fun fr r => ?_⟩
      have hP : Post No [cellC b4 ((planC (⟨3, 2, 7, 0, 1, 100⟩ : Plan))).toArray 25, cellC b10 ((seatC (⟨(⟨3, 2, 7, 0, 1, 100⟩ : Plan), 0, 0⟩ : Seat))).toArray 29, cellC b11 ((seatC (⟨(⟨3, 2, 7, 0, 1, 100⟩ : Plan), 0, 1⟩ : Seat))).toArray 29, memK mg15 x91.2.2.2, cellC b25 ((resC x23.1)).toArray 32, progK Tryz.prog encRes x63.2.2 γ64.1 γ64.2, cellC b43 γ64.1.cells 39, cellC b74 ((resC x72.1)).toArray 32, progK Tryz.prog encRes (fu, (D.check_New (fu + 1) (⟨(⟨3, 2, 7, 0, 1, 100⟩ : Plan), 0, 1⟩ : Seat))) v86 (rg w83.heap.size w85.heap.size)] w0 w92 := hP.setN (i := 3) rfl hq
      refine seq_val (.tuple #[(.agg (resC x91.1).toArray), (I x91.2.1), (.bool x91.2.2.1)]) r (fun R => y_move r rfl) rfl fun fr r => ?_
      refine seq_val (.agg (resC x91.1).toArray) r (fun R => y_extract r (vs := #[(.agg (resC x91.1).toArray), (I x91.2.1), (.bool x91.2.2.1)]) rfl rfl) rfl fun fr r => ?_
      refine seq_val (I x91.2.1) r (fun R => y_extract r (vs := #[(.agg (resC x91.1).toArray), (I x91.2.1), (.bool x91.2.2.1)]) rfl rfl) rfl fun fr r => ?_
      refine seq_val (.bool x91.2.2.1) r (fun R => y_extract r (vs := #[(.agg (resC x91.1).toArray), (I x91.2.1), (.bool x91.2.2.1)]) rfl rfl) rfl fun fr r => ?_
      refine seq_new (.cells ((resC (⟨0, 0⟩ : Res))).toArray 32 (0, 0)) r (fun R => y_alloc tz32) rfl fun fr b93 w94 n95 r => ?_
      have hP : Post No [cellC b4 ((planC (⟨3, 2, 7, 0, 1, 100⟩ : Plan))).toArray 25, cellC b10 ((seatC (⟨(⟨3, 2, 7, 0, 1, 100⟩ : Plan), 0, 0⟩ : Seat))).toArray 29, cellC b11 ((seatC (⟨(⟨3, 2, 7, 0, 1, 100⟩ : Plan), 0, 1⟩ : Seat))).toArray 29, memK mg15 x91.2.2.2, cellC b25 ((resC x23.1)).toArray 32, progK Tryz.prog encRes x63.2.2 γ64.1 γ64.2, cellC b43 γ64.1.cells 39, cellC b74 ((resC x72.1)).toArray 32, progK Tryz.prog encRes (fu, (D.check_New (fu + 1) (⟨(⟨3, 2, 7, 0, 1, 100⟩ : Plan), 0, 1⟩ : Seat))) v86 (rg w83.heap.size w85.heap.size), cellC b93 ((resC (⟨0, 0⟩ : Res))).toArray 32] w0 w94 := hP.new n95
      refine seq_upd (.cells ((resC x91.1)).toArray 32 (0, 0)) r (fun R => y_store r (o := 0) (v := (.agg (resC x91.1).toArray)) rfl rfl (hP.cell (i := 9) rfl) ts32 (Nat.le_of_ble_eq_true rfl) rfl rfl) rfl fun fr w97 u98 r => ?_
      have hP : Post No [cellC b4 ((planC (⟨3, 2, 7, 0, 1, 100⟩ : Plan))).toArray 25, cellC b10 ((seatC (⟨(⟨3, 2, 7, 0, 1, 100⟩ : Plan), 0, 0⟩ : Seat))).toArray 29, cellC b11 ((seatC (⟨(⟨3, 2, 7, 0, 1, 100⟩ : Plan), 0, 1⟩ : Seat))).toArray 29, memK mg15 x91.2.2.2, cellC b25 ((resC x23.1)).toArray 32, progK Tryz.prog encRes x63.2.2 γ64.1 γ64.2, cellC b43 γ64.1.cells 39, cellC b74 ((resC x72.1)).toArray 32, progK Tryz.prog encRes (fu, (D.check_New (fu + 1) (⟨(⟨3, 2, 7, 0, 1, 100⟩ : Plan), 0, 1⟩ : Seat))) v86 (rg w83.heap.size w85.heap.size), cellC b93 ((resC x91.1)).toArray 32] w0 w97 := hP.upd (i := 9) rfl u98
      refine seq_val (I x91.2.1) r (fun R => y_assign r rfl) rfl fun fr r => ?_
      refine seq_val (.bool x91.2.2.1) r (fun R => y_assign r rfl) rfl fun fr r => ?_
      refine wn ?_
      refine wp_seq ?_
      refine wsr ?_
      refine seq_val _ r (fun R => y_fieldAddr r (o := 0) rfl fo32_0) rfl fun fr r => ?_
      refine seq_val (I x91.1.e) r (fun R => y_load_one r rfl (hP.cell (i := 9) rfl) to30 rfl) rfl fun fr r => ?_
      refine seq_val _ r (fun R => y_bin r rfl rfl rfl rfl) rfl fun fr r => ?_
      refine wn ?_
      refine wp_cond_split (t := (x91.1.e != 0)) (r.ev rfl) (fun h99 => ?_) (fun h99 => ?_)
      ·
       have hD := (cond_t h99).symm.trans hD
       refine wp_exit ?_
       refine wp_region_lit ?_
       refine seq_val (I x80.1) r (fun R => y_move r rfl) rfl fun fr r => ?_
       refine seq_val _ r (fun R => y_bin r rfl rfl rfl rfl) rfl fun fr r => ?_
       refine seq_val (I (W (x80.1 + 1))) r (fun R => y_assign r rfl) rfl fun fr r => ?_
       refine wn ?_
       exact nxy82 ((W (x80.1 + 1)), x91.2.2.2) () _ _ _ hD r (hs_cons rfl (hs_cons rfl (hs_cons rfl (hs_cons rfl (hs_cons rfl (hs_cons rfl (hs_cons rfl (hs_cons rfl (hs_cons rfl (hs_cons rfl (hs_cons rfl (hs_cons rfl (hs_cons rfl (hs_cons rfl (hs_cons rfl (hs_cons rfl hs_nil)))))))))))))))) (hP.pick [0, 1, 2, 3, 4, 5, 6, 7] rfl rfl)
      ·
       have hD := (cond_f h99).symm.trans hD
       refine wp_skip ?_
       refine wsr ?_
       refine seq_val (I 0) r (fun R => y_assign r rfl) rfl fun fr r => ?_
       refine wn ?_
       have hP : Post No [cellC b4 ((planC (⟨3, 2, 7, 0, 1, 100⟩ : Plan))).toArray 25, cellC b10 ((seatC (⟨(⟨3, 2, 7, 0, 1, 100⟩ : Plan), 0, 0⟩ : Seat))).toArray 29, cellC b11 ((seatC (⟨(⟨3, 2, 7, 0, 1, 100⟩ : Plan), 0, 1⟩ : Seat))).toArray 29, memK mg15 x91.2.2.2, cellC b25 ((resC x23.1)).toArray 32, progK Tryz.prog encRes x63.2.2 γ64.1 γ64.2, cellC b43 γ64.1.cells 39, cellC b74 ((resC x72.1)).toArray 32, cellC b93 ((resC x91.1)).toArray 32] w0 w97 := hP.pick [0, 1, 2, 3, 4, 5, 6, 7, 9] rfl rfl
       refine wp_loopG (X := Int × Mem) (G := Unit) (x0 := (0, x91.2.2.2)) (fun x γ => [(0, (U a0)), (1, (.int .u8 a1)), (2, (.int .u8 a2)), (6, (.bool false)), (31, (.bool (!x1))), (7, (.pointer (some ⟨b4, 0, none⟩))), (8, (.pointer (some ⟨b10, 0, none⟩))), (9, (.pointer (some ⟨b11, 0, none⟩))), (10, (.pointer (some ⟨mg15.mb, 0, none⟩))), (40, (.bool false)), (11, (.pointer (some ⟨b25, 0, none⟩))), (14, (.pointer (some ⟨b43, 0, none⟩))), (15, (I (W (a1.tmod 6)))), (16, (I x63.1)), (19, (.pointer (some ⟨b74, 0, none⟩))), (22, (I x80.1)), (98, (.bool (decide (x80.1 < (W (1 + (W (a2.tmod 3)))))))), (23, (.pointer (some ⟨b93, 0, none⟩))), (113, (.bool (x91.1.e != 0))), (26, (I x.1))]) (fun x γ w => Post No [cellC b4 ((planC (⟨3, 2, 7, 0, 1, 100⟩ : Plan))).toArray 25, cellC b10 ((seatC (⟨(⟨3, 2, 7, 0, 1, 100⟩ : Plan), 0, 0⟩ : Seat))).toArray 29, cellC b11 ((seatC (⟨(⟨3, 2, 7, 0, 1, 100⟩ : Plan), 0, 1⟩ : Seat))).toArray 29, memK mg15 x.2, cellC b25 ((resC x23.1)).toArray 32, progK Tryz.prog encRes x63.2.2 γ64.1 γ64.2, cellC b43 γ64.1.cells 39, cellC b74 ((resC x72.1)).toArray 32, cellC b93 ((resC x91.1)).toArray 32] w0 w) () r (hs_cons rfl (hs_cons rfl (hs_cons rfl (hs_cons rfl (hs_cons rfl (hs_cons rfl (hs_cons rfl (hs_cons rfl (hs_cons rfl (hs_cons rfl (hs_cons rfl (hs_cons rfl (hs_cons rfl (hs_cons rfl (hs_cons rfl (hs_cons rfl (hs_cons rfl (hs_cons rfl (hs_cons rfl (hs_cons rfl hs_nil)))))))))))))))))))) hP hD ?_ ?_
       ·
        rintro x100 γ101 fr w103 g y102 RPy102 nxy102 bky102 rty102 r hP hD
        have hP : Post No [cellC b4 ((planC (⟨3, 2, 7, 0, 1, 100⟩ : Plan))).toArray 25, cellC b10 ((seatC (⟨(⟨3, 2, 7, 0, 1, 100⟩ : Plan), 0, 0⟩ : Seat))).toArray 29, cellC b11 ((seatC (⟨(⟨3, 2, 7, 0, 1, 100⟩ : Plan), 0, 1⟩ : Seat))).toArray 29, memK mg15 x100.2, cellC b25 ((resC x23.1)).toArray 32, progK Tryz.prog encRes x63.2.2 γ64.1 γ64.2, cellC b43 γ64.1.cells 39, cellC b74 ((resC x72.1)).toArray 32, cellC b93 ((resC x91.1)).toArray 32] w0 w103 := hP
        refine wp_seq ?_
        refine wsr ?_
        refine seq_val (I x100.1) r (fun R => y_move r rfl) rfl fun fr r => ?_
        refine seq_val _ r (fun R => y_bin r rfl rfl rfl rfl) rfl fun fr r => ?_
        refine wn ?_
        refine wp_cond_split (t := (decide (x100.1 < 3))) (r.ev rfl) (fun h104 => ?_) (fun h104 => ?_)
        ·
         have hD := (cond_t h104).symm.trans hD
         refine wp_skip ?_
         refine wp_seq ?_
         refine wp_block ?_
         refine wp_region_lit ?_
         refine seq_val (.agg (seatC (⟨(⟨3, 2, 7, 0, 1, 100⟩ : Plan), 0, 1⟩ : Seat)).toArray) r (fun R => y_load_agg r (cs := (seatC (⟨(⟨3, 2, 7, 0, 1, 100⟩ : Plan), 0, 1⟩ : Seat))) (n := 8) rfl (hP.cell (i := 2) rfl) ta29 rfl) rfl fun fr r => ?_
         refine seq_val _ r (fun R => y_fieldAddr r (o := 0) rfl fo32_1) rfl fun fr r => ?_
         refine seq_val (U x91.1.v) r (fun R => y_load_one r rfl (hP.cell (i := 8) rfl) to22 rfl) rfl fun fr r => ?_
         refine seq_val (I x100.1) r (fun R => y_move r rfl) rfl fun fr r => ?_
         refine seq_val (U a0) r (fun R => y_move r rfl) rfl fun fr r => ?_
         refine seq_val (U (bits_xor .u64 18446744073709551615 a0)) r (fun R => y_un r (u := (U a0)) rfl rfl) rfl fun fr r => ?_
         refine seq_call r (c_check_Write (F := No) (n := fu) (fun _ h => h.elim) (⟨(⟨3, 2, 7, 0, 1, 100⟩ : Plan), 0, 1⟩ : Seat) x91.1.v x100.1 (bits_xor .u64 18446744073709551615 a0)) (fun R hc => y_call r rfl cl32 hc) rfl ?_
         rintro _ w105 ⟨v106, rfl, hb, hr107⟩
         refine ⟨_, rfl, fun fr r => ?_⟩
         have hP : Post No [cellC b4 ((planC (⟨3, 2, 7, 0, 1, 100⟩ : Plan))).toArray 25, cellC b10 ((seatC (⟨(⟨3, 2, 7, 0, 1, 100⟩ : Plan), 0, 0⟩ : Seat))).toArray 29, cellC b11 ((seatC (⟨(⟨3, 2, 7, 0, 1, 100⟩ : Plan), 0, 1⟩ : Seat))).toArray 29, memK mg15 x100.2, cellC b25 ((resC x23.1)).toArray 32, progK Tryz.prog encRes x63.2.2 γ64.1 γ64.2, cellC b43 γ64.1.cells 39, cellC b74 ((resC x72.1)).toArray 32, cellC b93 ((resC x91.1)).toArray 32, progK Tryz.prog encRes (fu, (D.check_Write (⟨(⟨3, 2, 7, 0, 1, 100⟩ : Plan), 0, 1⟩ : Seat) x91.1.v x100.1 (bits_xor .u64 18446744073709551615 a0))) v106 (rg w103.heap.size w105.heap.size)] w0 w105 := hP.addProg hb hr107
         refine seq_val (.pointer (some ⟨mg15.mb, 0, none⟩)) r (fun R => y_move r rfl) rfl fun fr r => ?_
         refine seq_val (.pointer (some ⟨mg15.mb, 0, none⟩)) r (fun R => y_move r rfl) rfl fun fr r => ?_
         obtain ⟨x109, hx109, hD⟩ := bindD_elim hD
         refine seq_call r (c_mem_Memory_Cap w105 x100.2 (hP.mem (i := 3) rfl) 0 hx109) (fun R hc => y_call r rfl cl31 hc) rfl ?_
         rintro _ w110 ⟨rfl, hb⟩
         refine ⟨_, rfl, fun fr r => ?_⟩
         have hP : Post No [cellC b4 ((planC (⟨3, 2, 7, 0, 1, 100⟩ : Plan))).toArray 25, cellC b10 ((seatC (⟨(⟨3, 2, 7, 0, 1, 100⟩ : Plan), 0, 0⟩ : Seat))).toArray 29, cellC b11 ((seatC (⟨(⟨3, 2, 7, 0, 1, 100⟩ : Plan), 0, 1⟩ : Seat))).toArray 29, memK mg15 x100.2, cellC b25 ((resC x23.1)).toArray 32, progK Tryz.prog encRes x63.2.2 γ64.1 γ64.2, cellC b43 γ64.1.cells 39, cellC b74 ((resC x72.1)).toArray 32, cellC b93 ((resC x91.1)).toArray 32, progK Tryz.prog encRes (fu, (D.check_Write (⟨(⟨3, 2, 7, 0, 1, 100⟩ : Plan), 0, 1⟩ : Seat) x91.1.v x100.1 (bits_xor .u64 18446744073709551615 a0))) v106 (rg w103.heap.size w105.heap.size)] w0 w110 := hP.below hb
         obtain ⟨x111, hx111, hD⟩ := bindD_elim hD
         refine seq_call r (c_prog_Run_Res w110 (fu, (D.check_Write (⟨(⟨3, 2, 7, 0, 1, 100⟩ : Plan), 0, 1⟩ : Seat) x91.1.v x100.1 (bits_xor .u64 18446744073709551615 a0))) x100.2 x109 99 (hP.sep.pk [9, 3] rfl rfl) hx111) (fun R hc => y_call r rfl cl29 hc) rfl ?_
         rintro _ w112 ⟨rfl, hq⟩
         refine ⟨_, rfl, fun fr r => ?_⟩
         have hP : Post No [cellC b4 ((planC (⟨3, 2, 7, 0, 1, 100⟩ : Plan))).toArray 25, cellC b10 ((seatC (⟨(⟨3, 2, 7, 0, 1, 100⟩ : Plan), 0, 0⟩ : Seat))).toArray 29, cellC b11 ((seatC (⟨(⟨3, 2, 7, 0, 1, 100⟩ : Plan), 0, 1⟩ : Seat))).toArray 29, memK mg15 x111.2.2.2, cellC b25 ((resC x23.1)).toArray 32, progK Tryz.prog encRes x63.2.2 γ64.1 γ64.2, cellC b43 γ64.1.cells 39, cellC b74 ((resC x72.1)).toArray 32, cellC b93 ((resC x91.1)).toArray 32, progK Tryz.prog encRes (fu, (D.check_Write (⟨(⟨3, 2, 7, 0, 1, 100⟩ : Plan), 0, 1⟩ : Seat) x91.1.v x100.1 (bits_xor .u64 18446744073709551615 a0))) v106 (rg w103.heap.size w105.heap.size)] w0 w112 := hP.setN (i := 3) rfl hq
         refine wn ?_
         refine wp_region_lit ?_
         refine seq_val (I x100.1) r (fun R => y_move r rfl) rfl fun fr r => ?_
         refine seq_val _ r (fun R => y_bin r rfl rfl rfl rfl) rfl fun fr r => ?_
         refine seq_val (I (W (x100.1 + 1))) r (fun R => y_assign r rfl) rfl fun fr r => ?_
         refine wn ?_
         exact nxy102 ((W (x100.1 + 1)), x111.2.2.2) () _ _ _ hD r (hs_cons rfl (hs_cons rfl (hs_cons rfl (hs_cons rfl (hs_cons rfl (hs_cons rfl (hs_cons rfl (hs_cons rfl (hs_cons rfl (hs_cons rfl (hs_cons rfl (hs_cons rfl (hs_cons rfl (hs_cons rfl (hs_cons rfl (hs_cons rfl (hs_cons rfl (hs_cons rfl (hs_cons rfl (hs_cons rfl hs_nil)))))))))))))))))))) (hP.pick [0, 1, 2, 3, 4, 5, 6, 7, 8] rfl rfl)
        ·
         have hD := (cond_f h104).symm.trans hD
         refine wp_exit ?_
         exact bky102 (x100.1, x100.2) () _ _ _ hD r (hs_cons rfl (hs_cons rfl (hs_cons rfl (hs_cons rfl (hs_cons rfl (hs_cons rfl (hs_cons rfl (hs_cons rfl (hs_cons rfl (hs_cons rfl (hs_cons rfl (hs_cons rfl (hs_cons rfl (hs_cons rfl (hs_cons rfl (hs_cons rfl (hs_cons rfl (hs_cons rfl (hs_cons rfl (hs_cons rfl hs_nil)))))))))))))))))))) (hP.pick [0, 1, 2, 3, 4, 5, 6, 7, 8] rfl rfl)
       ·
        rintro x113 γ114 fr w115 g r hP hD
        have hP : Post No [cellC b4 ((planC (⟨3, 2, 7, 0, 1, 100⟩ : Plan))).toArray 25, cellC b10 ((seatC (⟨(⟨3, 2, 7, 0, 1, 100⟩ : Plan), 0, 0⟩ : Seat))).toArray 29, cellC b11 ((seatC (⟨(⟨3, 2, 7, 0, 1, 100⟩ : Plan), 0, 1⟩ : Seat))).toArray 29, memK mg15 x113.2, cellC b25 ((resC x23.1)).toArray 32, progK Tryz.prog encRes x63.2.2 γ64.1 γ64.2, cellC b43 γ64.1.cells 39, cellC b74 ((resC x72.1)).toArray 32, cellC b93 ((resC x91.1)).toArray 32] w0 w115 := hP
        refine wp_region_lit ?_
        refine seq_val (I x80.1) r (fun R => y_move r rfl) rfl fun fr r => ?_
        refine seq_val _ r (fun R => y_bin r rfl rfl rfl rfl) rfl fun fr r => ?_
        refine seq_val (I (W (x80.1 + 1))) r (fun R => y_assign r rfl) rfl fun fr r => ?_
        refine wn ?_
        exact nxy82 ((W (x80.1 + 1)), x113.2) () _ _ _ hD r (hs_cons rfl (hs_cons rfl (hs_cons rfl (hs_cons rfl (hs_cons rfl (hs_cons rfl (hs_cons rfl (hs_cons rfl (hs_cons rfl (hs_cons rfl (hs_cons rfl (hs_cons rfl (hs_cons rfl (hs_cons rfl (hs_cons rfl (hs_cons rfl hs_nil)))))))))))))))) (hP.pick [0, 1, 2, 3, 4, 5, 6, 7] rfl rfl)
     ·
      have hD := (cond_f h84).symm.trans hD
      refine wp_exit ?_
      exact bky82 (x80.1, x80.2) () _ _ _ hD r (hs_cons rfl (hs_cons rfl (hs_cons rfl (hs_cons rfl (hs_cons rfl (hs_cons rfl (hs_cons rfl (hs_cons rfl (hs_cons rfl (hs_cons rfl (hs_cons rfl (hs_cons rfl (hs_cons rfl (hs_cons rfl (hs_cons rfl (hs_cons rfl hs_nil)))))))))))))))) (hP.pick [0, 1, 2, 3, 4, 5, 6, 7] rfl rfl)
    ·
     rintro x116 γ117 fr w118 g r hP hD
     have hP : Post No [cellC b4 ((planC (⟨3, 2, 7, 0, 1, 100⟩ : Plan))).toArray 25, cellC b10 ((seatC (⟨(⟨3, 2, 7, 0, 1, 100⟩ : Plan), 0, 0⟩ : Seat))).toArray 29, cellC b11 ((seatC (⟨(⟨3, 2, 7, 0, 1, 100⟩ : Plan), 0, 1⟩ : Seat))).toArray 29, memK mg15 x116.2, cellC b25 ((resC x23.1)).toArray 32, progK Tryz.prog encRes x63.2.2 γ64.1 γ64.2, cellC b43 γ64.1.cells 39, cellC b74 ((resC x72.1)).toArray 32] w0 w118 := hP
     refine wp_seq ?_
     obtain ⟨x119, hx119, hD⟩ := bindD_elim hD
     obtain ⟨x120, hx120, hD⟩ := bindD_elim hD
     refine wp_freeE mg15.bs [.val γ64.1, .val (.pointer (some ⟨mg15.mb, 0, none⟩)), .val (.pointer (some ⟨mg15.mb, 0, none⟩)), .val (.agg (capC x119).toArray), .eff (EffP w118.heap.size (memK mg15 x120.2.2.2) (fun _ : Unit => (.tuple #[(.agg (resC x120.1).toArray), (I x120.2.1), (.bool x120.2.2.1)])) (fun _ : Unit => [])) (EffP.st _ _ _ _), .val (.tuple #[(.agg (resC x120.1).toArray), (I x120.2.1), (.bool x120.2.2.1)]), .val (.agg (resC x120.1).toArray), .val (I x120.2.1), .val (.bool x120.2.2.1), .cell 32 2, .stored 9 ((resC x120.1)).toArray 32 2 rfl, .val (I x120.2.1), .val (.bool x120.2.2.1)] mixed r (fun b hb => hP.sep.lt (i := 3) rfl (.inl hb)) (by kernel_rfl) ?_ ?_
     ·
      refine eachE_early r rfl (by kernel_rfl) (fun fr1 g w' hb' hd r' => ?_) ?_
      · exact y_loadp r' ((hP.below (dr hb')).prog (i := 5) rfl).shape rfl ((hP.below (dr hb')).cell (i := 6) rfl) ta39 ⟨Below.refl _ _, rfl⟩
      refine eachE_early r rfl (by kernel_rfl) (fun fr1 g w' hb' hd r' => ?_) ?_
      · exact y_move r' (v := (.pointer (some ⟨mg15.mb, 0, none⟩))) rfl ⟨Below.refl _ _, rfl⟩
      refine eachE_late r rfl (fun fr1 g w' hk' hd r' => ?_) ?_
      · exact y_move r' (v := (.pointer (some ⟨mg15.mb, 0, none⟩))) rfl ⟨Below.refl _ _, rfl⟩
      refine eachE_early r rfl (by kernel_rfl) (fun fr1 g w' hb' hd r' => ?_) ?_
      · exact y_call r' (args := [(.pointer (some ⟨mg15.mb, 0, none⟩)), (I 0)]) (lc (hd 2 rfl).1 (lc rfl l0)) cl31 ((c_mem_Memory_Cap _ x116.2 ((hP.below (dr hb')).mem (i := 3) rfl) 0 hx119).mono (by rintro _ w2 ⟨rfl, hb2⟩; exact ⟨_, rfl, hb2, rfl⟩))
      refine eachE_early r rfl (by kernel_rfl) (fun fr1 g w' hb' hd r' => ?_) ?_
      · exact y_call r' (args := [γ64.1, (.pointer (some ⟨mg15.mb, 0, none⟩)), (.agg (capC x119).toArray), (I 99)]) (lc (hd 0 rfl).1 (lc (hd 1 rfl).1 (lc (hd 3 rfl).1 (lc rfl l0)))) cl29 ((c_prog_Run_Res _ x63.2.2 x116.2 x119 99 ((hP.below (dr hb')).sep.pk [5, 3] rfl rfl) hx120).mono (by rintro _ w2 ⟨rfl, hq⟩; exact ⟨_, rfl, hq.chg.kept, EffP.of () hq rfl (fun b hb => hP.sep.lt (i := 3) rfl hb)⟩))
      refine eachE_late r rfl (fun fr1 g w' hk' hd r' => ?_) ?_
      · exact y_move r' (v := (.tuple #[(.agg (resC x120.1).toArray), (I x120.2.1), (.bool x120.2.2.1)])) (EffP.val (hd 4 rfl).1) ⟨Below.refl _ _, rfl⟩
      refine eachE_late r rfl (fun fr1 g w' hk' hd r' => ?_) ?_
      · exact y_extract r' (vs := #[(.agg (resC x120.1).toArray), (I x120.2.1), (.bool x120.2.2.1)]) (hd 5 rfl).1 rfl ⟨Below.refl _ _, rfl⟩
      refine eachE_late r rfl (fun fr1 g w' hk' hd r' => ?_) ?_
      · exact y_extract r' (vs := #[(.agg (resC x120.1).toArray), (I x120.2.1), (.bool x120.2.2.1)]) (hd 5 rfl).1 rfl ⟨Below.refl _ _, rfl⟩
      refine eachE_late r rfl (fun fr1 g w' hk' hd r' => ?_) ?_
      · exact y_extract r' (vs := #[(.agg (resC x120.1).toArray), (I x120.2.1), (.bool x120.2.2.1)]) (hd 5 rfl).1 rfl ⟨Below.refl _ _, rfl⟩
      refine eachE_late r rfl (fun fr1 g w' hk' hd r' => ?_) ?_
      · exact y_alloc tz32 (fun b w2 n2 => ⟨n2.below, b, rfl, n2.eq, _, n2.at_, rfl⟩)
      refine eachE_late r rfl (fun fr1 g w' hk' hd r' => ?_) ?_
      · obtain ⟨hp, _, c, hc, hn⟩ := (hd 9 rfl).1; exact y_store r' (o := 0) (c := c) (v := (.agg (resC x120.1).toArray)) hp (hd 6 rfl).1 hc ts32 (by rw [hn]; exact Nat.le_of_ble_eq_true rfl) rfl (over2_full (hn.trans rfl)) (fun w2 u2 => ⟨u2, rfl⟩)
      refine eachE_late r rfl (fun fr1 g w' hk' hd r' => ?_) ?_
      · exact y_assign r' (v := (I x120.2.1)) (hd 7 rfl).1 ⟨Below.refl _ _, rfl⟩
      refine eachE_late r rfl (fun fr1 g w' hk' hd r' => ?_) ?_
      · exact y_assign r' (v := (.bool x120.2.2.1)) (hd 8 rfl).1 ⟨Below.refl _ _, rfl⟩
      exact eachF_nil
     ·
      intro fr gg w122 hb hΦ hap r
      obtain ⟨⟨⟩, g4, hcE, _, hs4⟩ := (hΦ 4 rfl).1
      obtain ⟨b121, ee_b121⟩ : ∃ b, b = (gg 9).lo := ⟨_, rfl⟩
      have g9 : (gg 9).v = (.pointer (some ⟨b121, 0, none⟩)) := by rw [ee_b121]; exact (hΦ 9 rfl).1.1
      have h_b121 : w122.heap[b121]? = some (.cells ((resC x120.1)).toArray 32 (0, 0)) := by rw [ee_b121]; exact (hΦ 10 rfl).1.2
      have hs9 : Fresh [cellC b121 ((resC x120.1)).toArray 32] (gg 9).lo (gg 9).hi w122 := by subst ee_b121; exact Fresh.cell (hΦ 9 rfl).1.2.1 h_b121
      have r := r.congr (sc ((hΦ 12 rfl).1) (sc ((hΦ 11 rfl).1) (sc g9 (sc ((hΦ 8 rfl).1) (sc ((hΦ 7 rfl).1) (sc ((hΦ 6 rfl).1) (sc ((hΦ 5 rfl).1) (sc g4 (sc ((hΦ 3 rfl).1) (sc ((hΦ 2 rfl).1) (sc ((hΦ 1 rfl).1) (sc ((hΦ 0 rfl).1) rfl))))))))))))
      have hP : Post No [cellC b4 ((planC (⟨3, 2, 7, 0, 1, 100⟩ : Plan))).toArray 25, cellC b10 ((seatC (⟨(⟨3, 2, 7, 0, 1, 100⟩ : Plan), 0, 0⟩ : Seat))).toArray 29, cellC b11 ((seatC (⟨(⟨3, 2, 7, 0, 1, 100⟩ : Plan), 0, 1⟩ : Seat))).toArray 29, memK mg15 x120.2.2.2, cellC b25 ((resC x23.1)).toArray 32, progK Tryz.prog encRes x63.2.2 γ64.1 γ64.2, cellC b43 γ64.1.cells 39, cellC b74 ((resC x72.1)).toArray 32, cellC b121 ((resC x120.1)).toArray 32] w0 w122 := hP.effL (i := 3) (l := [([cellC b121 ((resC x120.1)).toArray 32], (gg 9).lo, (gg 9).hi)]) rfl hb hcE rfl rfl ⟨hs9, (hΦ 9 rfl).2.1, disj_nil, trivial⟩
      refine wp_seq ?_
      refine wp_seq ?_
      refine wp_joinG (N := 154) (Y := Bool) (G := Unit) (fun x γ => [(0, (U a0)), (1, (.int .u8 a1)), (2, (.int .u8 a2)), (6, (.bool false)), (31, (.bool (!x1))), (7, (.pointer (some ⟨b4, 0, none⟩))), (8, (.pointer (some ⟨b10, 0, none⟩))), (9, (.pointer (some ⟨b11, 0, none⟩))), (10, (.pointer (some ⟨mg15.mb, 0, none⟩))), (40, (.bool false)), (11, (.pointer (some ⟨b25, 0, none⟩))), (14, (.pointer (some ⟨b43, 0, none⟩))), (15, (I (W (a1.tmod 6)))), (16, (I x63.1)), (19, (.pointer (some ⟨b74, 0, none⟩))), (22, (I x116.1)), (27, (.pointer (some ⟨b121, 0, none⟩))), (29, (.bool x120.2.2.1)), (144, (.bool x))]) (fun x γ w => Post No [cellC b4 ((planC (⟨3, 2, 7, 0, 1, 100⟩ : Plan))).toArray 25, cellC b10 ((seatC (⟨(⟨3, 2, 7, 0, 1, 100⟩ : Plan), 0, 0⟩ : Seat))).toArray 29, cellC b11 ((seatC (⟨(⟨3, 2, 7, 0, 1, 100⟩ : Plan), 0, 1⟩ : Seat))).toArray 29, memK mg15 x120.2.2.2, cellC b25 ((resC x23.1)).toArray 32, progK Tryz.prog encRes x63.2.2 γ64.1 γ64.2, cellC b43 γ64.1.cells 39, cellC b74 ((resC x72.1)).toArray 32, cellC b121 ((resC x120.1)).toArray 32] w0 w) hD ?_ ?_
      ·
       rintro y123 RPy123 nxy123 hD
       refine wp_region_lit ?_
       refine seq_val (.agg (resC x72.1).toArray) r (fun R => y_load_agg r (cs := (resC x72.1)) (n := 2) rfl (hP.cell (i := 7) rfl) ta32 rfl) rfl fun fr r => ?_
       refine seq_val (.agg (resC (⟨0, 0⟩ : Res)).toArray) r (fun R => y_build r (by kernel_rfl)) rfl fun fr r => ?_
       refine seq_val _ r (fun R => y_bin r rfl rfl (run_eqGuard_agg _ _ _ _ _ _ _ eg32) (eqs32 _ _ _).2) rfl fun fr r => ?_
       refine seq_val (.bool (!(x72.1 == (⟨0, 0⟩ : Res)))) r (fun R => y_move r rfl) rfl fun fr r => ?_
       refine seq_split (!(x72.1 == (⟨0, 0⟩ : Res))) (fun h124 => ?_) (fun h124 => ?_)
       ·
        have hD := (cond_t h124).symm.trans hD
        refine s0 r h124 fun fr r => ?_
        refine s0 r h124 fun fr r => ?_
        refine seq_val (.bool true) r (fun R => y_pick r (b := true) (congrArg Value.bool h124) rfl) rfl fun fr r => ?_
        refine wn ?_
        exact nxy123 true () _ _ _ hD r (hs_cons rfl (hs_cons rfl (hs_cons rfl (hs_cons rfl (hs_cons rfl (hs_cons rfl (hs_cons rfl (hs_cons rfl (hs_cons rfl (hs_cons rfl (hs_cons rfl (hs_cons rfl (hs_cons rfl (hs_cons rfl (hs_cons rfl (hs_cons rfl (hs_cons rfl (hs_cons rfl (hs_cons rfl hs_nil))))))))))))))))))) (hP.pick [0, 1, 2, 3, 4, 5, 6, 7, 8] rfl rfl)
       ·
        have hD := (cond_f h124).symm.trans hD
        refine s1 r h124 ?_
        refine seq_val (.bool x120.2.2.1) r (fun R => y_move r rfl) rfl fun fr r => ?_
        refine s1 r h124 ?_
        refine seq_val (.bool (!x120.2.2.1)) r (fun R => y_un r (u := (.bool x120.2.2.1)) rfl rfl) rfl fun fr r => ?_
        refine seq_val (.bool (!x120.2.2.1)) r (fun R => y_pick r (b := false) (congrArg Value.bool h124) rfl) rfl fun fr r => ?_
        refine wn ?_
        exact nxy123 (!x120.2.2.1) () _ _ _ hD r (hs_cons rfl (hs_cons rfl (hs_cons rfl (hs_cons rfl (hs_cons rfl (hs_cons rfl (hs_cons rfl (hs_cons rfl (hs_cons rfl (hs_cons rfl (hs_cons rfl (hs_cons rfl (hs_cons rfl (hs_cons rfl (hs_cons rfl (hs_cons rfl (hs_cons rfl (hs_cons rfl (hs_cons rfl hs_nil))))))))))))))))))) (hP.pick [0, 1, 2, 3, 4, 5, 6, 7, 8] rfl rfl)
      ·
       rintro x125 γ126 fr w127 g r hP hD
       have hP : Post No [cellC b4 ((planC (⟨3, 2, 7, 0, 1, 100⟩ : Plan))).toArray 25, cellC b10 ((seatC (⟨(⟨3, 2, 7, 0, 1, 100⟩ : Plan), 0, 0⟩ : Seat))).toArray 29, cellC b11 ((seatC (⟨(⟨3, 2, 7, 0, 1, 100⟩ : Plan), 0, 1⟩ : Seat))).toArray 29, memK mg15 x120.2.2.2, cellC b25 ((resC x23.1)).toArray 32, progK Tryz.prog encRes x63.2.2 γ64.1 γ64.2, cellC b43 γ64.1.cells 39, cellC b74 ((resC x72.1)).toArray 32, cellC b121 ((resC x120.1)).toArray 32] w0 w127 := hP
       refine wp_cond_split (t := x125) (r.ev rfl) (fun h128 => ?_) (fun h128 => ?_)
       ·
        have hD := (cond_t h128).symm.trans hD
        refine wsr ?_
        refine seq_val (.bool false) r (fun R => y_assign r rfl) rfl fun fr r => ?_
        refine wn ?_
        refine wp_ret ?_
        have hv : false = res := Option.some.inj hD
        try dsimp only [Exit.then, Exit.inBlock]
        refine ret_tmp (fn := Tryz.f5) r (t := 6) rfl (v := (.bool false)) rfl ?_
        subst hv
        exact ⟨rfl, hP.chg.below⟩
       ·
        have hD := (cond_f h128).symm.trans hD
        refine wp_skip ?_
        refine wp_seq ?_
        refine wsr ?_
        refine seq_val (I (W (a1.tmod 6))) r (fun R => y_move r rfl) rfl fun fr r => ?_
        refine seq_val _ r (fun R => y_bin r rfl rfl rfl rfl) rfl fun fr r => ?_
        refine wn ?_
        refine wp_cond_split (t := (decide ((W (a1.tmod 6)) < 3))) (r.ev rfl) (fun h129 => ?_) (fun h129 => ?_)
        ·
         have hD := (cond_t h129).symm.trans hD
         refine wsr ?_
         refine seq_val (.agg (resC x120.1).toArray) r (fun R => y_load_agg r (cs := (resC x120.1)) (n := 2) rfl (hP.cell (i := 8) rfl) ta32 rfl) rfl fun fr r => ?_
         refine seq_val (.agg (resC (⟨3, 0⟩ : Res)).toArray) r (fun R => y_build r (by kernel_rfl)) rfl fun fr r => ?_
         refine seq_val _ r (fun R => y_bin r rfl rfl (run_eqGuard_agg _ _ _ _ _ _ _ eg32) (eqs32 _ _ _).1) rfl fun fr r => ?_
         refine seq_val (.bool (x120.1 == (⟨3, 0⟩ : Res))) r (fun R => y_assign r rfl) rfl fun fr r => ?_
         refine wn ?_
         refine wp_ret ?_
         have hv : (x120.1 == (⟨3, 0⟩ : Res)) = res := Option.some.inj hD
         try dsimp only [Exit.then, Exit.inBlock]
         refine ret_tmp (fn := Tryz.f5) r (t := 6) rfl (v := (.bool (x120.1 == (⟨3, 0⟩ : Res)))) rfl ?_
         subst hv
         exact ⟨rfl, hP.chg.below⟩
        ·
         have hD := (cond_f h129).symm.trans hD
         refine wp_skip ?_
         refine wsr ?_
         refine seq_val (.agg (resC x120.1).toArray) r (fun R => y_load_agg r (cs := (resC x120.1)) (n := 2) rfl (hP.cell (i := 8) rfl) ta32 rfl) rfl fun fr r => ?_
         refine seq_val (U a0) r (fun R => y_move r rfl) rfl fun fr r => ?_
         refine seq_val (.agg (resC (⟨0, a0⟩ : Res)).toArray) r (fun R => y_build r (by kernel_rfl)) rfl fun fr r => ?_
         refine seq_val _ r (fun R => y_bin r rfl rfl (run_eqGuard_agg _ _ _ _ _ _ _ eg32) (eqs32 _ _ _).1) rfl fun fr r => ?_
         refine seq_val (.bool (x120.1 == (⟨0, a0⟩ : Res))) r (fun R => y_assign r rfl) rfl fun fr r => ?_
         refine wn ?_
         refine wp_ret ?_
         have hv : (x120.1 == (⟨0, a0⟩ : Res)) = res := Option.some.inj hD
         try dsimp only [Exit.then, Exit.inBlock]
         refine ret_tmp (fn := Tryz.f5) r (t := 6) rfl (v := (.bool (x120.1 == (⟨0, a0⟩ : Res)))) rfl ?_
         subst hv
         exact ⟨rfl, hP.chg.below⟩

end Go.Proofs.YtjkinpbfmihhdaaGreat.Wk

/- CheckGuarded: what the walk found answers as the law says: all its inputs, evaluated, the number left open. -/
set_option linter.unusedVariables false
namespace Go.Proofs.YtjkinpbfmihhdaaGreat
open Go.RowKit
theorem cg00 (v : Int) : Wk.D.cubiclelaw13_CheckGuarded 700 v 0 0 = some true := by kernel_rfl

theorem cg01 (v : Int) : Wk.D.cubiclelaw13_CheckGuarded 700 v 0 1 = some true := by kernel_rfl

theorem cg02 (v : Int) : Wk.D.cubiclelaw13_CheckGuarded 700 v 0 2 = some true := by kernel_rfl

theorem cg10 (v : Int) : Wk.D.cubiclelaw13_CheckGuarded 700 v 1 0 = some true := by kernel_rfl

theorem cg11 (v : Int) : Wk.D.cubiclelaw13_CheckGuarded 700 v 1 1 = some true := by kernel_rfl

theorem cg12 (v : Int) : Wk.D.cubiclelaw13_CheckGuarded 700 v 1 2 = some true := by kernel_rfl

theorem cg20 (v : Int) : Wk.D.cubiclelaw13_CheckGuarded 700 v 2 0 = some true := by kernel_rfl

theorem cg21 (v : Int) : Wk.D.cubiclelaw13_CheckGuarded 700 v 2 1 = some true := by kernel_rfl

theorem cg22 (v : Int) : Wk.D.cubiclelaw13_CheckGuarded 700 v 2 2 = some true := by kernel_rfl

theorem cg30 (v : Int) : Wk.D.cubiclelaw13_CheckGuarded 700 v 3 0 = some ((⟨0, v⟩ : Res) == ⟨0, v⟩) := by kernel_rfl

theorem cg31 (v : Int) : Wk.D.cubiclelaw13_CheckGuarded 700 v 3 1 = some ((⟨0, v⟩ : Res) == ⟨0, v⟩) := by kernel_rfl

theorem cg32 (v : Int) : Wk.D.cubiclelaw13_CheckGuarded 700 v 3 2 = some ((⟨0, v⟩ : Res) == ⟨0, v⟩) := by kernel_rfl

theorem cg40 (v : Int) : Wk.D.cubiclelaw13_CheckGuarded 700 v 4 0 = some ((⟨0, v⟩ : Res) == ⟨0, v⟩) := by kernel_rfl

theorem cg41 (v : Int) : Wk.D.cubiclelaw13_CheckGuarded 700 v 4 1 = some ((⟨0, v⟩ : Res) == ⟨0, v⟩) := by kernel_rfl

theorem cg42 (v : Int) : Wk.D.cubiclelaw13_CheckGuarded 700 v 4 2 = some ((⟨0, v⟩ : Res) == ⟨0, v⟩) := by kernel_rfl

theorem cg50 (v : Int) : Wk.D.cubiclelaw13_CheckGuarded 700 v 5 0 = some ((⟨0, v⟩ : Res) == ⟨0, v⟩) := by kernel_rfl

theorem cg51 (v : Int) : Wk.D.cubiclelaw13_CheckGuarded 700 v 5 1 = some ((⟨0, v⟩ : Res) == ⟨0, v⟩) := by kernel_rfl

theorem cg52 (v : Int) : Wk.D.cubiclelaw13_CheckGuarded 700 v 5 2 = some ((⟨0, v⟩ : Res) == ⟨0, v⟩) := by kernel_rfl

theorem pure_CheckGuarded (v at_ more : Int) (_ : 0 ≤ v ∧ v ≤ 18446744073709551615) (ha : 0 ≤ at_ ∧ at_ ≤ 255) (hm : 0 ≤ more ∧ more ≤ 255) : ∃ fu, Wk.D.cubiclelaw13_CheckGuarded fu v at_ more = some true := by
  refine ⟨700, ?_⟩
  have e1 : at_.tmod 6 = (at_ % 6).tmod 6 := by rw [Int.tmod_eq_emod_of_nonneg ha.1, Int.tmod_eq_emod_of_nonneg (by omega)]; omega
  have e2 : more.tmod 3 = (more % 3).tmod 3 := by rw [Int.tmod_eq_emod_of_nonneg hm.1, Int.tmod_eq_emod_of_nonneg (by omega)]; omega
  have key : Wk.D.cubiclelaw13_CheckGuarded 700 v at_ more = Wk.D.cubiclelaw13_CheckGuarded 700 v (at_ % 6) (more % 3) := by
    unfold Wk.D.cubiclelaw13_CheckGuarded
    rw [e1, e2]
  rw [key]
  rcases (show at_ % 6 = 0 ∨ at_ % 6 = 1 ∨ at_ % 6 = 2 ∨ at_ % 6 = 3 ∨ at_ % 6 = 4 ∨ at_ % 6 = 5 by omega) with e | e | e | e | e | e <;> rcases (show more % 3 = 0 ∨ more % 3 = 1 ∨ more % 3 = 2 by omega) with q | q | q <;> rw [e, q]
  · exact cg00 v
  · exact cg01 v
  · exact cg02 v
  · exact cg10 v
  · exact cg11 v
  · exact cg12 v
  · exact cg20 v
  · exact cg21 v
  · exact cg22 v
  · rw [cg30 v]; simp
  · rw [cg31 v]; simp
  · rw [cg32 v]; simp
  · rw [cg40 v]; simp
  · rw [cg41 v]; simp
  · rw [cg42 v]; simp
  · rw [cg50 v]; simp
  · rw [cg51 v]; simp
  · rw [cg52 v]; simp

end Go.Proofs.YtjkinpbfmihhdaaGreat

/- A law's row from what its walk hands back: arguments opened. -/
namespace Go.Proofs.YtjkinpbfmihhdaaGreat
open Go.ChangeShapes Go.WideShapes Go.RowKit Go.Deep Go.ChangeAt
section
variable {H : Type} {enc : TypeId × Value → H} {P : Program} {w : World} {base : Nat} {spare : Nat → Bool} {held : Bool}
end
theorem laidOut : laidOutB Tryz.prog = true := by kernel_rfl

end Go.Proofs.YtjkinpbfmihhdaaGreat

/- The program's order of start: its words, told once. -/
namespace Go.Proofs.YtjkinpbfmihhdaaGreat
open Go.ChangeShapes Go.WideShapes Go.ChangeAt Go.RowKit
def ioN : List Nat := [104, 97, 114, 110, 101, 115, 115, 32, 54, 98, 100, 53, 55, 52, 57, 55, 57, 102, 48, 50, 53, 98, 54, 54, 98, 99, 99, 51, 55, 98, 48, 57, 99, 51, 53, 101, 56, 53, 49, 100, 100, 102, 54, 101, 99, 57, 48, 98, 101, 48, 53, 49, 49, 98, 100, 55, 100, 48, 101, 52, 101, 97, 57, 57, 56, 49, 57, 57, 102, 57, 102, 50, 32, 99, 117, 116, 32, 97, 116, 32, 99, 117, 98, 105, 99, 108, 101, 47, 99, 117, 98, 105, 99, 108, 101, 108, 97, 119, 49, 51, 46, 67, 104, 101, 99, 107, 84, 119, 111, 32, 99, 117, 98, 105, 99, 108, 101, 47, 99, 117, 98, 105, 99, 108, 101, 108, 97, 119, 49, 51, 46, 67, 104, 101, 99, 107, 70, 114, 101, 115, 104, 32, 99, 117, 98, 105, 99, 108, 101, 47, 99, 117, 98, 105, 99, 108, 101, 108, 97, 119, 49, 51, 46, 67, 104, 101, 99, 107, 71, 117, 97, 114, 100, 101, 100, 32, 99, 117, 98, 105, 99, 108, 101, 47, 99, 117, 98, 105, 99, 108, 101, 108, 97, 119, 49, 51, 46, 67, 104, 101, 99, 107, 82, 97, 99, 101, 32, 99, 117, 98, 105, 99, 108, 101, 47, 99, 117, 98, 105, 99, 108, 101, 108, 97, 119, 49, 51, 46, 67, 104, 101, 99, 107, 70, 111, 114, 101, 105, 103, 110, 32, 99, 117, 98, 105, 99, 108, 101, 47, 99, 117, 98, 105, 99, 108, 101, 108, 97, 119, 49, 51, 46, 67, 104, 101, 99, 107, 65, 108, 111, 110, 101, 32, 99, 117, 98, 105, 99, 108, 101, 47, 99, 117, 98, 105, 99, 108, 101, 108, 97, 119, 49, 51, 46, 67, 104, 101, 99, 107, 67, 108, 101, 97, 114, 115, 32, 99, 117, 98, 105, 99, 108, 101, 47, 99, 117, 98, 105, 99, 108, 101, 108, 97, 119, 49, 52, 46, 81, 117, 101, 117, 101, 65, 108, 111, 110, 101, 32, 99, 117, 98, 105, 99, 108, 101, 47, 99, 117, 98, 105, 99, 108, 101, 108, 97, 119, 49, 52, 46, 81, 117, 101, 117, 101, 83, 116, 97, 108, 108, 115, 32, 99, 117, 98, 105, 99, 108, 101, 47, 99, 117, 98, 105, 99, 108, 101, 108, 97, 119, 49, 52, 46, 81, 117, 101, 117, 101, 79, 114, 100, 101, 114, 32, 99, 117, 98, 105, 99, 108, 101, 47, 99, 117, 98, 105, 99, 108, 101, 108, 97, 119, 49, 52, 46, 81, 117, 101, 117, 101, 82, 97, 99, 101, 32, 99, 117, 98, 105, 99, 108, 101, 47, 99, 117, 98, 105, 99, 108, 101, 108, 97, 119, 49, 52, 46, 81, 117, 101, 117, 101, 77, 97, 110, 121, 32, 99, 117, 98, 105, 99, 108, 101, 47, 99, 117, 98, 105, 99, 108, 101, 108, 97, 119, 49, 52, 46, 81, 117, 101, 117, 101, 78, 111, 100, 101, 115, 32, 99, 117, 98, 105, 99, 108, 101, 47, 99, 117, 98, 105, 99, 108, 101, 108, 97, 119, 49, 53, 46, 76, 105, 115, 116, 75, 101, 121, 115, 32, 99, 117, 98, 105, 99, 108, 101, 47, 99, 117, 98, 105, 99, 108, 101, 108, 97, 119, 49, 53, 46, 76, 105, 115, 116, 82, 97, 99, 101, 32, 99, 117, 98, 105, 99, 108, 101, 47, 99, 117, 98, 105, 99, 108, 101, 108, 97, 119, 49, 53, 46, 76, 105, 115, 116, 65, 108, 111, 110, 101, 32, 99, 117, 98, 105, 99, 108, 101, 47, 99, 117, 98, 105, 99, 108, 101, 108, 97, 119, 49, 53, 46, 76, 105, 115, 116, 83, 116, 97, 108, 108, 115, 32, 99, 117, 98, 105, 99, 108, 101, 47, 99, 117, 98, 105, 99, 108, 101, 108, 97, 119, 49, 53, 46, 76, 105, 115, 116, 77, 97, 110, 121, 32, 99, 117, 98, 105, 99, 108, 101, 47, 99, 117, 98, 105, 99, 108, 101, 108, 97, 119, 49, 53, 46, 76, 105, 115, 116, 78, 111, 100, 101, 115, 32, 99, 117, 98, 105, 99, 108, 101, 47, 99, 117, 98, 105, 99, 108, 101, 108, 97, 119, 49, 50, 46, 65, 108, 108, 111, 99, 65, 108, 111, 110, 101, 32, 99, 117, 98, 105, 99, 108, 101, 47, 99, 117, 98, 105, 99, 108, 101, 108, 97, 119, 49, 55, 46, 68, 111, 109, 97, 105, 110, 70, 117, 108, 108, 32, 99, 117, 98, 105, 99, 108, 101, 47, 99, 117, 98, 105, 99, 108, 101, 108, 97, 119, 49, 55, 46, 68, 111, 109, 97, 105, 110, 82, 97, 99, 101, 32, 99, 117, 98, 105, 99, 108, 101, 47, 99, 117, 98, 105, 99, 108, 101, 108, 97, 119, 49, 55, 46, 68, 111, 109, 97, 105, 110, 79, 100, 100, 32, 99, 117, 98, 105, 99, 108, 101, 47, 99, 117, 98, 105, 99, 108, 101, 108, 97, 119, 49, 54, 46, 68, 105, 99, 116, 67, 101, 108, 108, 115]

theorem io1 : Tryz.prog.initOrder = String.ofList (ioN.map Char.ofNat) := by kernel_rfl

theorem io2 : Tryz.prog.initOrder.toList = ioN.map Char.ofNat := by rw [io1, String.toList_ofList]

theorem io3 : behindMainWord (wordsSigns Tryz.prog.initOrder.toList) = (([99, 117, 116] : List Nat).map Char.ofNat) :: ([[97, 116], [99, 117, 98, 105, 99, 108, 101, 47, 99, 117, 98, 105, 99, 108, 101, 108, 97, 119, 49, 51, 46, 67, 104, 101, 99, 107, 84, 119, 111], [99, 117, 98, 105, 99, 108, 101, 47, 99, 117, 98, 105, 99, 108, 101, 108, 97, 119, 49, 51, 46, 67, 104, 101, 99, 107, 70, 114, 101, 115, 104], [99, 117, 98, 105, 99, 108, 101, 47, 99, 117, 98, 105, 99, 108, 101, 108, 97, 119, 49, 51, 46, 67, 104, 101, 99, 107, 71, 117, 97, 114, 100, 101, 100], [99, 117, 98, 105, 99, 108, 101, 47, 99, 117, 98, 105, 99, 108, 101, 108, 97, 119, 49, 51, 46, 67, 104, 101, 99, 107, 82, 97, 99, 101], [99, 117, 98, 105, 99, 108, 101, 47, 99, 117, 98, 105, 99, 108, 101, 108, 97, 119, 49, 51, 46, 67, 104, 101, 99, 107, 70, 111, 114, 101, 105, 103, 110], [99, 117, 98, 105, 99, 108, 101, 47, 99, 117, 98, 105, 99, 108, 101, 108, 97, 119, 49, 51, 46, 67, 104, 101, 99, 107, 65, 108, 111, 110, 101], [99, 117, 98, 105, 99, 108, 101, 47, 99, 117, 98, 105, 99, 108, 101, 108, 97, 119, 49, 51, 46, 67, 104, 101, 99, 107, 67, 108, 101, 97, 114, 115], [99, 117, 98, 105, 99, 108, 101, 47, 99, 117, 98, 105, 99, 108, 101, 108, 97, 119, 49, 52, 46, 81, 117, 101, 117, 101, 65, 108, 111, 110, 101], [99, 117, 98, 105, 99, 108, 101, 47, 99, 117, 98, 105, 99, 108, 101, 108, 97, 119, 49, 52, 46, 81, 117, 101, 117, 101, 83, 116, 97, 108, 108, 115], [99, 117, 98, 105, 99, 108, 101, 47, 99, 117, 98, 105, 99, 108, 101, 108, 97, 119, 49, 52, 46, 81, 117, 101, 117, 101, 79, 114, 100, 101, 114], [99, 117, 98, 105, 99, 108, 101, 47, 99, 117, 98, 105, 99, 108, 101, 108, 97, 119, 49, 52, 46, 81, 117, 101, 117, 101, 82, 97, 99, 101], [99, 117, 98, 105, 99, 108, 101, 47, 99, 117, 98, 105, 99, 108, 101, 108, 97, 119, 49, 52, 46, 81, 117, 101, 117, 101, 77, 97, 110, 121], [99, 117, 98, 105, 99, 108, 101, 47, 99, 117, 98, 105, 99, 108, 101, 108, 97, 119, 49, 52, 46, 81, 117, 101, 117, 101, 78, 111, 100, 101, 115], [99, 117, 98, 105, 99, 108, 101, 47, 99, 117, 98, 105, 99, 108, 101, 108, 97, 119, 49, 53, 46, 76, 105, 115, 116, 75, 101, 121, 115], [99, 117, 98, 105, 99, 108, 101, 47, 99, 117, 98, 105, 99, 108, 101, 108, 97, 119, 49, 53, 46, 76, 105, 115, 116, 82, 97, 99, 101], [99, 117, 98, 105, 99, 108, 101, 47, 99, 117, 98, 105, 99, 108, 101, 108, 97, 119, 49, 53, 46, 76, 105, 115, 116, 65, 108, 111, 110, 101], [99, 117, 98, 105, 99, 108, 101, 47, 99, 117, 98, 105, 99, 108, 101, 108, 97, 119, 49, 53, 46, 76, 105, 115, 116, 83, 116, 97, 108, 108, 115], [99, 117, 98, 105, 99, 108, 101, 47, 99, 117, 98, 105, 99, 108, 101, 108, 97, 119, 49, 53, 46, 76, 105, 115, 116, 77, 97, 110, 121], [99, 117, 98, 105, 99, 108, 101, 47, 99, 117, 98, 105, 99, 108, 101, 108, 97, 119, 49, 53, 46, 76, 105, 115, 116, 78, 111, 100, 101, 115], [99, 117, 98, 105, 99, 108, 101, 47, 99, 117, 98, 105, 99, 108, 101, 108, 97, 119, 49, 50, 46, 65, 108, 108, 111, 99, 65, 108, 111, 110, 101], [99, 117, 98, 105, 99, 108, 101, 47, 99, 117, 98, 105, 99, 108, 101, 108, 97, 119, 49, 55, 46, 68, 111, 109, 97, 105, 110, 70, 117, 108, 108], [99, 117, 98, 105, 99, 108, 101, 47, 99, 117, 98, 105, 99, 108, 101, 108, 97, 119, 49, 55, 46, 68, 111, 109, 97, 105, 110, 82, 97, 99, 101], [99, 117, 98, 105, 99, 108, 101, 47, 99, 117, 98, 105, 99, 108, 101, 108, 97, 119, 49, 55, 46, 68, 111, 109, 97, 105, 110, 79, 100, 100], [99, 117, 98, 105, 99, 108, 101, 47, 99, 117, 98, 105, 99, 108, 101, 108, 97, 119, 49, 54, 46, 68, 105, 99, 116, 67, 101, 108, 108, 115]] : List (List Nat)).map (List.map Char.ofNat) := by rw [io2]; kernel_rfl

theorem stripG (r : List (List Char)) : stripLifts liftWords (([99, 117, 116].map Char.ofNat) :: r) = ([], ([99, 117, 116].map Char.ofNat) :: r) := by rfl

theorem makeG {P : Program} {r : List (List Char)} (h : behindMainWord (wordsSigns P.initOrder.toList) = ([99, 117, 116].map Char.ofNat) :: r) : P.make = some .cut := by
  unfold Program.make
  rw [h]
  rfl

theorem liftsG {P : Program} {r : List (List Char)} (h : behindMainWord (wordsSigns P.initOrder.toList) = ([99, 117, 116].map Char.ofNat) :: r) : P.liftsFinal = false := by
  unfold Program.liftsFinal Program.headLifts
  rw [h, stripG]
  rfl

theorem enterG {P : Program} {r : List (List Char)} (h : behindMainWord (wordsSigns P.initOrder.toList) = ([99, 117, 116].map Char.ofNat) :: r) (h1 : P.laysLater = false) (h2 : P.bearsReflect = false) (h3 : P.doorFits [] = true) : P.mayEnter = true := by
  unfold Program.mayEnter
  rw [h]
  simp only [stripG, h1, h2, h3]
  rfl

theorem e1 : Tryz.prog.laysLater = false := by kernel_rfl

theorem e2 : Tryz.prog.bearsReflect = false := by kernel_rfl

theorem e3 : Tryz.prog.doorFits [] = true := by kernel_rfl

theorem io_make : Tryz.prog.make = some .cut := makeG io3

theorem io_lifts : Tryz.prog.liftsFinal = false := liftsG io3

theorem io_enter : Tryz.prog.mayEnter = true := enterG io3 e1 e2 e3

theorem io_maps : mapsRowed Tryz.prog = true := by kernel_rfl

theorem io_heard : Tryz.prog.stopsHeard = true := by kernel_rfl

end Go.Proofs.YtjkinpbfmihhdaaGreat
