/- Some of our texts, one behind the other. -/
import Derived.Test.YtjkinpbfmihhdaaGreatQsM4
import Derived.Test.YtjkinpbfmihhdaaGreatQsQueues
import Derived.Test.YtjkinpbfmihhdaaGreatQsM2
import Derived.Test.YtjkinpbfmihhdaaGreatQsM3
import Derived.WalkKit
import Derived.ProofKit
import Derived.OpenShut
import Derived.ShutString
import Derived.ChangeOld
import Derived.Below
import Derived.Carry
import Derived.SizedLaws
import Derived.Deep.Slices
import Derived.Deep.Fields
import Derived.ChangeSame
import Derived.Test.YtjkinpbfmihhdaaGreatRows
set_option linter.all false
/- A region that draws its order, with stores into two cells of ours beside values. -/
namespace Go.Proofs.YtjkinpbfmihhdaaGreat
open Go.RowKit

/-- What an operation comes to: a value, or a store into the k-th of some old blocks. -/
inductive FP where
  | val (c : Value)
  | put (k : Nat) (c : Array Value) (T : TypeId)

def FP.v : FP → Value
  | .val c => c
  | .put _ _ _ => undef

def FP.slot : FP → Option Nat
  | .put k _ _ => some k
  | .val _ => none

def FP.mk (bs : List Nat) (w' w'' : World) : FP → Prop
  | .val _ => Below w'.heap.size w' w''
  | .put k c T => ∃ b, bs[k]? = some b ∧ Upd w' w'' b (.cells c T (0, 0))

def fct : List FP → Nat → FP
  | [], _ => .val undef
  | f :: _, 0 => f
  | _ :: l, n + 1 => fct l n

section
variable {P : Program} {Q : Exit → Act → World → Prop} {L : List Oper} {a : Act} {w : World} {fl : List FP} {bs : List Nat}
structure PInv (L : List Oper) (fl : List FP) (bs : List Nat) (a : Act) (w0 : World) (listed : Array Bool) (g : Nat → Value) (a' : Act) (w' : World) : Prop where
  act : a' = puts L g 0 a
  closed : ∀ i o, L[i]? = some o → listed.getD i false = true → ∀ e, e ∈ o.after → Region.binds .any e = true → listed.getD e.on false = true
  os : w'.os = w0.os
  tape : w'.tape = w0.tape
  output : w'.output = w0.output
  size : w0.heap.size ≤ w'.heap.size
  old : ∀ b, b < w0.heap.size → b ∉ bs → w'.heap[b]? = w0.heap[b]?
  vals : ∀ i, i < L.length → listed.getD i false = true → g i = (fct fl i).v
  un : ∀ k b, bs[k]? = some b → (∀ i, i < L.length → listed.getD i false = true → (fct fl i).slot ≠ some k) → w'.heap[b]? = w0.heap[b]?
  done : ∀ i k c T b, i < L.length → listed.getD i false = true → fct fl i = .put k c T → bs[k]? = some b → w'.heap[b]? = some (.cells c T (0, 0))

variable {N : Nat} {s : SL}
end
/-! ### Chunks -/
section
variable {L : List Ck} {d : Ck} {w w' w0 : World} {i i1 i2 b1 b2 : Nat} {a1 a2 c1 c2 : Array Value} {T1 T2 S1 S2 : TypeId} {Z : Nat → Prop}
end
end Go.Proofs.YtjkinpbfmihhdaaGreat

/- Written by a program of ours (wip/gen.py): layer 14 -/
set_option linter.unusedVariables false
set_option maxRecDepth 20000
set_option maxHeartbeats 2000000
namespace Go.Proofs.YtjkinpbfmihhdaaGreat
open Go.RowKit
theorem cl145 : callable Tryz.prog 145 = true := by kernel_rfl

theorem cl28 : callable Tryz.prog 28 = true := by kernel_rfl

theorem cl29 : callable Tryz.prog 29 = true := by kernel_rfl

theorem cl55 : callable Tryz.prog 55 = true := by kernel_rfl

theorem cl59 : callable Tryz.prog 59 = true := by kernel_rfl

theorem cl62 : callable Tryz.prog 62 = true := by kernel_rfl

theorem fo32_0 : fieldOff Tryz.prog 32 0 0 = true := by kernel_rfl

theorem ts25 : sized Tryz.prog 25 6 = true := by kernel_rfl

theorem tz25 : zeroOf Tryz.prog 25 = some (.agg (planC (⟨0, 0, 0, 0, 0, 0⟩ : Plan)).toArray) := by kernel_rfl

def D.cubiclelaw14_made (fu : Nat) (a0 : Plan) : Option (Mem) := ((D.cubiclelaw09_Laid fu a0).bind (fun (x5 : Mem) => ((D.mem_Memory_Cap fu x5 0).bind (fun (x13 : Cap) => ((D.prog_Run_Res fu (fu, (D.queue_Make (fu + 1) (⟨a0, 0, 0⟩ : Seat) 0)) x5 x13 99).bind (fun (x15 : Res × Int × Bool × Mem) => (Option.bind (bif (!x15.2.2.1) then (some true) else (some (x15.1.e != 0))) (fun (x25 : Bool) => (bif x25 then none else (some x15.2.2.2))))))))))

theorem c_cubiclelaw14_made {fu : Nat} (w0 : World) (a0 : Plan) {res : Mem} (hD : D.cubiclelaw14_made fu a0 = some res) :
    Calls Tryz.prog 55 #[.agg (planC a0).toArray] w0 (fun e w' => ∃ (g0 : MG), e = .returned (.pointer (some ⟨g0.mb, 0, none⟩)) ∧ Done No No [memK g0 res] w0 w') := by
 refine enter Tryz.func55 rfl 30 rfl rfl fun fr r => ?_
 have hP : Post No [] w0 w0 := Post.nil w0
 unfold D.cubiclelaw14_made at hD
 refine wsr ?_
 refine seq_new (.cells ((planC a0)).toArray 25 (0, 0)) r (fun R => y_box r (v := (.agg (planC a0).toArray)) rfl) rfl fun fr b1 w2 n3 r => ?_
 have hP : Post No [cellC b1 ((planC a0)).toArray 25] w0 w2 := hP.new n3
 refine seq_val (.pointer none) r (fun R => y_assign r rfl) rfl fun fr r => ?_
 refine wn ?_
 refine wsr ?_
 refine seq_val (.agg (planC a0).toArray) r (fun R => y_load_agg r (cs := (planC a0)) (n := 6) rfl (hP.cell (i := 0) rfl) ta25 rfl) rfl fun fr r => ?_
 obtain ⟨x5, hx5, hD⟩ := bindD_elim hD
 refine seq_call r (c_cubiclelaw09_Laid w2 a0 hx5) (fun R hc => y_call r rfl cl28 hc) rfl ?_
 rintro _ w6 ⟨mg7, rfl, hq⟩
 refine ⟨_, rfl, fun fr r => ?_⟩
 have hP : Post No [cellC b1 ((planC a0)).toArray 25, memK mg7 x5] w0 w6 := hP.add hq
 refine seq_val (.pointer (some ⟨mg7.mb, 0, none⟩)) r (fun R => y_assign r rfl) rfl fun fr r => ?_
 refine wn ?_
 refine wp_seq ?_
 refine wsr ?_
 refine seq_val (.pointer (some ⟨mg7.mb, 0, none⟩)) r (fun R => y_move r rfl) rfl fun fr r => ?_
 refine seq_val _ r (fun R => y_bin r rfl rfl rfl rfl) rfl fun fr r => ?_
 refine wn ?_
 refine wp_cond_split (t := false) (r.ev rfl) (fun h => absurd ((rfl : false = _).symm.trans h) (by decide)) (fun _ => ?_)
 refine wp_skip ?_
 refine wsr ?_
 refine seq_val (.agg (planC a0).toArray) r (fun R => y_load_agg r (cs := (planC a0)) (n := 6) rfl (hP.cell (i := 0) rfl) ta25 rfl) rfl fun fr r => ?_
 refine seq_val (.agg (seatC (⟨a0, 0, 0⟩ : Seat)).toArray) r (fun R => y_build r (by kernel_rfl)) rfl fun fr r => ?_
 refine seq_call r (c_queue_Make (F := No) (n := fu) (j := fu + 1) (fun _ h => h.elim) (by omega) (⟨a0, 0, 0⟩ : Seat) 0) (fun R hc => y_call r rfl cl145 hc) rfl ?_
 rintro _ w9 ⟨v10, rfl, hb, hr11⟩
 refine ⟨_, rfl, fun fr r => ?_⟩
 have hP : Post No [cellC b1 ((planC a0)).toArray 25, memK mg7 x5, progK Tryz.prog encRes (fu, (D.queue_Make (fu + 1) (⟨a0, 0, 0⟩ : Seat) 0)) v10 (rg w6.heap.size w9.heap.size)] w0 w9 := hP.addProg hb hr11
 refine seq_val (.pointer (some ⟨mg7.mb, 0, none⟩)) r (fun R => y_move r rfl) rfl fun fr r => ?_
 refine seq_val (.pointer (some ⟨mg7.mb, 0, none⟩)) r (fun R => y_move r rfl) rfl fun fr r => ?_
 obtain ⟨x13, hx13, hD⟩ := bindD_elim hD
 refine seq_call r (c_mem_Memory_Cap w9 x5 (hP.mem (i := 1) rfl) 0 hx13) (fun R hc => y_call r rfl cl31 hc) rfl ?_
 rintro _ w14 ⟨rfl, hb⟩
 refine ⟨_, rfl, fun fr r => ?_⟩
 have hP : Post No [cellC b1 ((planC a0)).toArray 25, memK mg7 x5, progK Tryz.prog encRes (fu, (D.queue_Make (fu + 1) (⟨a0, 0, 0⟩ : Seat) 0)) v10 (rg w6.heap.size w9.heap.size)] w0 w14 := hP.below hb
 obtain ⟨x15, hx15, hD⟩ := bindD_elim hD
 refine seq_call r (c_prog_Run_Res w14 (fu, (D.queue_Make (fu + 1) (⟨a0, 0, 0⟩ : Seat) 0)) x5 x13 99 (hP.sep.pk [2, 1] rfl rfl) hx15) (fun R hc => y_call r rfl cl29 hc) rfl ?_
 rintro _ w16 ⟨rfl, hq⟩
 refine ⟨_, rfl, fun fr r => ?_⟩
 have hP : Post No [cellC b1 ((planC a0)).toArray 25, memK mg7 x15.2.2.2, progK Tryz.prog encRes (fu, (D.queue_Make (fu + 1) (⟨a0, 0, 0⟩ : Seat) 0)) v10 (rg w6.heap.size w9.heap.size)] w0 w16 := hP.setN (i := 1) rfl hq
 refine seq_val (.tuple #[(.agg (resC x15.1).toArray), (I x15.2.1), (.bool x15.2.2.1)]) r (fun R => y_move r rfl) rfl fun fr r => ?_
 refine seq_val (.agg (resC x15.1).toArray) r (fun R => y_extract r (vs := #[(.agg (resC x15.1).toArray), (I x15.2.1), (.bool x15.2.2.1)]) rfl rfl) rfl fun fr r => ?_
 refine seq_val (I x15.2.1) r (fun R => y_extract r (vs := #[(.agg (resC x15.1).toArray), (I x15.2.1), (.bool x15.2.2.1)]) rfl rfl) rfl fun fr r => ?_
 refine seq_val (.bool x15.2.2.1) r (fun R => y_extract r (vs := #[(.agg (resC x15.1).toArray), (I x15.2.1), (.bool x15.2.2.1)]) rfl rfl) rfl fun fr r => ?_
 refine seq_new (.cells ((resC (⟨0, 0⟩ : Res))).toArray 32 (0, 0)) r (fun R => y_alloc tz32) rfl fun fr b17 w18 n19 r => ?_
 have hP : Post No [cellC b1 ((planC a0)).toArray 25, memK mg7 x15.2.2.2, progK Tryz.prog encRes (fu, (D.queue_Make (fu + 1) (⟨a0, 0, 0⟩ : Seat) 0)) v10 (rg w6.heap.size w9.heap.size), cellC b17 ((resC (⟨0, 0⟩ : Res))).toArray 32] w0 w18 := hP.new n19
 refine seq_upd (.cells ((resC x15.1)).toArray 32 (0, 0)) r (fun R => y_store r (o := 0) (v := (.agg (resC x15.1).toArray)) rfl rfl (hP.cell (i := 3) rfl) ts32 (Nat.le_of_ble_eq_true rfl) rfl rfl) rfl fun fr w21 u22 r => ?_
 have hP : Post No [cellC b1 ((planC a0)).toArray 25, memK mg7 x15.2.2.2, progK Tryz.prog encRes (fu, (D.queue_Make (fu + 1) (⟨a0, 0, 0⟩ : Seat) 0)) v10 (rg w6.heap.size w9.heap.size), cellC b17 ((resC x15.1)).toArray 32] w0 w21 := hP.upd (i := 3) rfl u22
 refine seq_val (I x15.2.1) r (fun R => y_assign r rfl) rfl fun fr r => ?_
 refine seq_val (.bool x15.2.2.1) r (fun R => y_assign r rfl) rfl fun fr r => ?_
 refine wn ?_
 refine wp_seq ?_
 refine wp_seq ?_
 have hP : Post No [cellC b1 ((planC a0)).toArray 25, memK mg7 x15.2.2.2, cellC b17 ((resC x15.1)).toArray 32] w0 w21 := hP.pick [0, 1, 3] rfl rfl
 refine wp_joinG (N := 30) (Y := Bool) (G := Unit) (fun x γ => [(0, (.agg (planC a0).toArray)), (1, (.pointer (some ⟨b1, 0, none⟩))), (2, (.pointer none)), (3, (.pointer (some ⟨mg7.mb, 0, none⟩))), (10, (.bool false)), (4, (.pointer (some ⟨b17, 0, none⟩))), (6, (.bool x15.2.2.1)), (28, (.bool x))]) (fun x γ w => Post No [cellC b1 ((planC a0)).toArray 25, memK mg7 x15.2.2.2, cellC b17 ((resC x15.1)).toArray 32] w0 w) hD ?_ ?_
 ·
  rintro y23 RPy23 nxy23 hD
  refine wp_region_lit ?_
  refine seq_val (.bool x15.2.2.1) r (fun R => y_move r rfl) rfl fun fr r => ?_
  refine seq_val (.bool (!x15.2.2.1)) r (fun R => y_un r (u := (.bool x15.2.2.1)) rfl rfl) rfl fun fr r => ?_
  refine seq_val (.bool (!x15.2.2.1)) r (fun R => y_move r rfl) rfl fun fr r => ?_
  refine seq_split (!x15.2.2.1) (fun h24 => ?_) (fun h24 => ?_)
  ·
   have hD := (cond_t h24).symm.trans hD
   refine s0 r h24 fun fr r => ?_
   refine s0 r h24 fun fr r => ?_
   refine s0 r h24 fun fr r => ?_
   refine seq_val (.bool true) r (fun R => y_pick r (b := true) (congrArg Value.bool h24) rfl) rfl fun fr r => ?_
   refine wn ?_
   exact nxy23 true () _ _ _ hD r (hs_cons rfl (hs_cons rfl (hs_cons rfl (hs_cons rfl (hs_cons rfl (hs_cons rfl (hs_cons rfl (hs_cons rfl hs_nil)))))))) (hP.pick [0, 1, 2] rfl rfl)
  ·
   have hD := (cond_f h24).symm.trans hD
   refine s1 r h24 ?_
   refine seq_val _ r (fun R => y_fieldAddr r (o := 0) rfl fo32_0) rfl fun fr r => ?_
   refine s1 r h24 ?_
   refine seq_val (I x15.1.e) r (fun R => y_load_one r rfl (hP.cell (i := 2) rfl) to30 rfl) rfl fun fr r => ?_
   refine s1 r h24 ?_
   refine seq_val _ r (fun R => y_bin r rfl rfl rfl rfl) rfl fun fr r => ?_
   refine seq_val (.bool (x15.1.e != 0)) r (fun R => y_pick r (b := false) (congrArg Value.bool h24) rfl) rfl fun fr r => ?_
   refine wn ?_
   exact nxy23 (x15.1.e != 0) () _ _ _ hD r (hs_cons rfl (hs_cons rfl (hs_cons rfl (hs_cons rfl (hs_cons rfl (hs_cons rfl (hs_cons rfl (hs_cons rfl hs_nil)))))))) (hP.pick [0, 1, 2] rfl rfl)
 ·
  rintro x25 γ26 fr w27 g r hP hD
  have hP : Post No [cellC b1 ((planC a0)).toArray 25, memK mg7 x15.2.2.2, cellC b17 ((resC x15.1)).toArray 32] w0 w27 := hP
  refine wp_cond_split (t := x25) (r.ev rfl) (fun h28 => ?_) (fun h28 => ?_)
  ·
   have hD := (cond_t h28).symm.trans hD
   refine wsr ?_
   refine seq_val (.pointer none) r (fun R => y_assign r rfl) rfl fun fr r => ?_
   refine wn ?_
   refine wp_ret ?_
   exact nomatch hD
  ·
   have hD := (cond_f h28).symm.trans hD
   refine wp_skip ?_
   refine wsr ?_
   refine seq_val (.pointer (some ⟨mg7.mb, 0, none⟩)) r (fun R => y_move r rfl) rfl fun fr r => ?_
   refine seq_val (.pointer (some ⟨mg7.mb, 0, none⟩)) r (fun R => y_assign r rfl) rfl fun fr r => ?_
   refine wn ?_
   refine wp_ret ?_
   have hv : x15.2.2.2 = res := Option.some.inj hD
   try dsimp only [Exit.then, Exit.inBlock]
   refine ret_tmp (fn := Tryz.f55) r (t := 2) rfl (v := (.pointer (some ⟨mg7.mb, 0, none⟩))) rfl ?_
   subst hv
   exact ⟨mg7, rfl, (hP.pick [1] rfl rfl).done (rest_cons rfl rest_nil)⟩

def D.cubiclelaw14_awake (fu : Nat)  : Option (Bool) := ((D.cubiclelaw14_made fu (⟨2, 1, 4, 1, 1, 1⟩ : Plan)).bind (fun (x7 : Mem) => ((D.mem_Memory_Cap fu x7 0).bind (fun (x15 : Cap) => ((D.prog_Run_Res fu (fu, (D.queue_Enq (fu + 1) (⟨(⟨2, 1, 4, 1, 1, 1⟩ : Plan), 0, 0⟩ : Seat) 0 5)) x7 x15 99).bind (fun (x17 : Res × Int × Bool × Mem) => (Option.bind (bif x17.2.2.1 then (bif (x17.1.e == 0) then ((D.queue_List fu (⟨2, 1, 4, 1, 1, 1⟩ : Plan) x17.2.2.2 0 0).bind (fun (x28 : List Int) => (some ((x28.length : Int) == 1)))) else (some false)) else (some false)) (fun (x32 : Bool) => (some x32)))))))))

theorem c_cubiclelaw14_awake {fu : Nat} (w0 : World) {res : Bool} (hD : D.cubiclelaw14_awake fu  = some res) :
    Calls Tryz.prog 53 #[] w0 (PureRes (.bool res) w0) := by
 refine enter Tryz.func53 rfl 35 rfl rfl fun fr r => ?_
 have hP : Post No [] w0 w0 := Post.nil w0
 unfold D.cubiclelaw14_awake at hD
 refine wsr ?_
 refine seq_val (.bool false) r (fun R => y_assign r rfl) rfl fun fr r => ?_
 refine wn ?_
 refine wsr ?_
 refine seq_val (.agg (planC (⟨2, 1, 4, 1, 1, 1⟩ : Plan)).toArray) r (fun R => y_build r (by kernel_rfl)) rfl fun fr r => ?_
 refine seq_new (.cells ((planC (⟨0, 0, 0, 0, 0, 0⟩ : Plan))).toArray 25 (0, 0)) r (fun R => y_alloc tz25) rfl fun fr b1 w2 n3 r => ?_
 have hP : Post No [cellC b1 ((planC (⟨0, 0, 0, 0, 0, 0⟩ : Plan))).toArray 25] w0 w2 := hP.new n3
 refine seq_upd (.cells ((planC (⟨2, 1, 4, 1, 1, 1⟩ : Plan))).toArray 25 (0, 0)) r (fun R => y_store r (o := 0) (v := (.agg (planC (⟨2, 1, 4, 1, 1, 1⟩ : Plan)).toArray)) rfl rfl (hP.cell (i := 0) rfl) ts25 (Nat.le_of_ble_eq_true rfl) rfl rfl) rfl fun fr w5 u6 r => ?_
 have hP : Post No [cellC b1 ((planC (⟨2, 1, 4, 1, 1, 1⟩ : Plan))).toArray 25] w0 w5 := hP.upd (i := 0) rfl u6
 refine wn ?_
 refine wsr ?_
 refine seq_val (.agg (planC (⟨2, 1, 4, 1, 1, 1⟩ : Plan)).toArray) r (fun R => y_load_agg r (cs := (planC (⟨2, 1, 4, 1, 1, 1⟩ : Plan))) (n := 6) rfl (hP.cell (i := 0) rfl) ta25 rfl) rfl fun fr r => ?_
 obtain ⟨x7, hx7, hD⟩ := bindD_elim hD
 refine seq_call r (c_cubiclelaw14_made w5 (⟨2, 1, 4, 1, 1, 1⟩ : Plan) hx7) (fun R hc => y_call r rfl cl55 hc) rfl ?_
 rintro _ w8 ⟨mg9, rfl, hq⟩
 refine ⟨_, rfl, fun fr r => ?_⟩
 have hP : Post No [cellC b1 ((planC (⟨2, 1, 4, 1, 1, 1⟩ : Plan))).toArray 25, memK mg9 x7] w0 w8 := hP.add hq
 refine seq_val (.pointer (some ⟨mg9.mb, 0, none⟩)) r (fun R => y_assign r rfl) rfl fun fr r => ?_
 refine wn ?_
 refine wp_seq ?_
 refine wsr ?_
 refine seq_val (.pointer (some ⟨mg9.mb, 0, none⟩)) r (fun R => y_move r rfl) rfl fun fr r => ?_
 refine seq_val _ r (fun R => y_bin r rfl rfl rfl rfl) rfl fun fr r => ?_
 refine wn ?_
 refine wp_cond_split (t := false) (r.ev rfl) (fun h => absurd ((rfl : false = _).symm.trans h) (by decide)) (fun _ => ?_)
 refine wp_skip ?_
 refine wsr ?_
 refine seq_val (.agg (planC (⟨2, 1, 4, 1, 1, 1⟩ : Plan)).toArray) r (fun R => y_load_agg r (cs := (planC (⟨2, 1, 4, 1, 1, 1⟩ : Plan))) (n := 6) rfl (hP.cell (i := 0) rfl) ta25 rfl) rfl fun fr r => ?_
 refine seq_val (.agg (seatC (⟨(⟨2, 1, 4, 1, 1, 1⟩ : Plan), 0, 0⟩ : Seat)).toArray) r (fun R => y_build r (by kernel_rfl)) rfl fun fr r => ?_
 refine seq_call r (c_queue_Enq (F := No) (n := fu) (j := fu + 1) (fun _ h => h.elim) (by omega) (⟨(⟨2, 1, 4, 1, 1, 1⟩ : Plan), 0, 0⟩ : Seat) 0 5) (fun R hc => y_call r rfl cl59 hc) rfl ?_
 rintro _ w11 ⟨v12, rfl, hb, hr13⟩
 refine ⟨_, rfl, fun fr r => ?_⟩
 have hP : Post No [cellC b1 ((planC (⟨2, 1, 4, 1, 1, 1⟩ : Plan))).toArray 25, memK mg9 x7, progK Tryz.prog encRes (fu, (D.queue_Enq (fu + 1) (⟨(⟨2, 1, 4, 1, 1, 1⟩ : Plan), 0, 0⟩ : Seat) 0 5)) v12 (rg w8.heap.size w11.heap.size)] w0 w11 := hP.addProg hb hr13
 refine seq_val (.pointer (some ⟨mg9.mb, 0, none⟩)) r (fun R => y_move r rfl) rfl fun fr r => ?_
 refine seq_val (.pointer (some ⟨mg9.mb, 0, none⟩)) r (fun R => y_move r rfl) rfl fun fr r => ?_
 obtain ⟨x15, hx15, hD⟩ := bindD_elim hD
 refine seq_call r (c_mem_Memory_Cap w11 x7 (hP.mem (i := 1) rfl) 0 hx15) (fun R hc => y_call r rfl cl31 hc) rfl ?_
 rintro _ w16 ⟨rfl, hb⟩
 refine ⟨_, rfl, fun fr r => ?_⟩
 have hP : Post No [cellC b1 ((planC (⟨2, 1, 4, 1, 1, 1⟩ : Plan))).toArray 25, memK mg9 x7, progK Tryz.prog encRes (fu, (D.queue_Enq (fu + 1) (⟨(⟨2, 1, 4, 1, 1, 1⟩ : Plan), 0, 0⟩ : Seat) 0 5)) v12 (rg w8.heap.size w11.heap.size)] w0 w16 := hP.below hb
 obtain ⟨x17, hx17, hD⟩ := bindD_elim hD
 refine seq_call r (c_prog_Run_Res w16 (fu, (D.queue_Enq (fu + 1) (⟨(⟨2, 1, 4, 1, 1, 1⟩ : Plan), 0, 0⟩ : Seat) 0 5)) x7 x15 99 (hP.sep.pk [2, 1] rfl rfl) hx17) (fun R hc => y_call r rfl cl29 hc) rfl ?_
 rintro _ w18 ⟨rfl, hq⟩
 refine ⟨_, rfl, fun fr r => ?_⟩
 have hP : Post No [cellC b1 ((planC (⟨2, 1, 4, 1, 1, 1⟩ : Plan))).toArray 25, memK mg9 x17.2.2.2, progK Tryz.prog encRes (fu, (D.queue_Enq (fu + 1) (⟨(⟨2, 1, 4, 1, 1, 1⟩ : Plan), 0, 0⟩ : Seat) 0 5)) v12 (rg w8.heap.size w11.heap.size)] w0 w18 := hP.setN (i := 1) rfl hq
 refine seq_val (.tuple #[(.agg (resC x17.1).toArray), (I x17.2.1), (.bool x17.2.2.1)]) r (fun R => y_move r rfl) rfl fun fr r => ?_
 refine seq_val (.agg (resC x17.1).toArray) r (fun R => y_extract r (vs := #[(.agg (resC x17.1).toArray), (I x17.2.1), (.bool x17.2.2.1)]) rfl rfl) rfl fun fr r => ?_
 refine seq_val (I x17.2.1) r (fun R => y_extract r (vs := #[(.agg (resC x17.1).toArray), (I x17.2.1), (.bool x17.2.2.1)]) rfl rfl) rfl fun fr r => ?_
 refine seq_val (.bool x17.2.2.1) r (fun R => y_extract r (vs := #[(.agg (resC x17.1).toArray), (I x17.2.1), (.bool x17.2.2.1)]) rfl rfl) rfl fun fr r => ?_
 refine seq_new (.cells ((resC (⟨0, 0⟩ : Res))).toArray 32 (0, 0)) r (fun R => y_alloc tz32) rfl fun fr b19 w20 n21 r => ?_
 have hP : Post No [cellC b1 ((planC (⟨2, 1, 4, 1, 1, 1⟩ : Plan))).toArray 25, memK mg9 x17.2.2.2, progK Tryz.prog encRes (fu, (D.queue_Enq (fu + 1) (⟨(⟨2, 1, 4, 1, 1, 1⟩ : Plan), 0, 0⟩ : Seat) 0 5)) v12 (rg w8.heap.size w11.heap.size), cellC b19 ((resC (⟨0, 0⟩ : Res))).toArray 32] w0 w20 := hP.new n21
 refine seq_upd (.cells ((resC x17.1)).toArray 32 (0, 0)) r (fun R => y_store r (o := 0) (v := (.agg (resC x17.1).toArray)) rfl rfl (hP.cell (i := 3) rfl) ts32 (Nat.le_of_ble_eq_true rfl) rfl rfl) rfl fun fr w23 u24 r => ?_
 have hP : Post No [cellC b1 ((planC (⟨2, 1, 4, 1, 1, 1⟩ : Plan))).toArray 25, memK mg9 x17.2.2.2, progK Tryz.prog encRes (fu, (D.queue_Enq (fu + 1) (⟨(⟨2, 1, 4, 1, 1, 1⟩ : Plan), 0, 0⟩ : Seat) 0 5)) v12 (rg w8.heap.size w11.heap.size), cellC b19 ((resC x17.1)).toArray 32] w0 w23 := hP.upd (i := 3) rfl u24
 refine seq_val (I x17.2.1) r (fun R => y_assign r rfl) rfl fun fr r => ?_
 refine seq_val (.bool x17.2.2.1) r (fun R => y_assign r rfl) rfl fun fr r => ?_
 refine wn ?_
 refine wp_seq ?_
 have hP : Post No [cellC b1 ((planC (⟨2, 1, 4, 1, 1, 1⟩ : Plan))).toArray 25, memK mg9 x17.2.2.2, cellC b19 ((resC x17.1)).toArray 32] w0 w23 := hP.pick [0, 1, 3] rfl rfl
 refine wp_joinG (N := 35) (Y := Bool) (G := Unit) (fun x γ => [(1, (.pointer (some ⟨b1, 0, none⟩))), (2, (.pointer (some ⟨mg9.mb, 0, none⟩))), (10, (.bool false)), (3, (.pointer (some ⟨b19, 0, none⟩))), (5, (.bool x17.2.2.1)), (0, (.bool x))]) (fun x γ w => Post No [cellC b1 ((planC (⟨2, 1, 4, 1, 1, 1⟩ : Plan))).toArray 25, memK mg9 x17.2.2.2, cellC b19 ((resC x17.1)).toArray 32] w0 w) hD ?_ ?_
 ·
  rintro y25 RPy25 nxy25 hD
  refine wp_region_lit ?_
  refine seq_val (.bool x17.2.2.1) r (fun R => y_move r rfl) rfl fun fr r => ?_
  refine seq_val (.bool x17.2.2.1) r (fun R => y_move r rfl) rfl fun fr r => ?_
  refine seq_split x17.2.2.1 (fun h26 => ?_) (fun h26 => ?_)
  ·
   have hD := (cond_t h26).symm.trans hD
   refine s1 r h26 ?_
   refine seq_val _ r (fun R => y_fieldAddr r (o := 0) rfl fo32_0) rfl fun fr r => ?_
   refine s1 r h26 ?_
   refine seq_val (I x17.1.e) r (fun R => y_load_one r rfl (hP.cell (i := 2) rfl) to30 rfl) rfl fun fr r => ?_
   refine s1 r h26 ?_
   refine seq_val _ r (fun R => y_bin r rfl rfl rfl rfl) rfl fun fr r => ?_
   refine seq_val (.bool (x17.1.e == 0)) r (fun R => y_pick r (b := true) (congrArg Value.bool h26) rfl) rfl fun fr r => ?_
   refine seq_val (.bool (x17.1.e == 0)) r (fun R => y_move r rfl) rfl fun fr r => ?_
   refine seq_split (x17.1.e == 0) (fun h27 => ?_) (fun h27 => ?_)
   ·
    have hD := (cond_t h27).symm.trans hD
    refine s1 r h27 ?_
    refine seq_val (.agg (planC (⟨2, 1, 4, 1, 1, 1⟩ : Plan)).toArray) r (fun R => y_load_agg r (cs := (planC (⟨2, 1, 4, 1, 1, 1⟩ : Plan))) (n := 6) rfl (hP.cell (i := 0) rfl) ta25 rfl) rfl fun fr r => ?_
    refine s1 r h27 ?_
    refine seq_val (.pointer (some ⟨mg9.mb, 0, none⟩)) r (fun R => y_move r rfl) rfl fun fr r => ?_
    refine s1 r h27 ?_
    obtain ⟨x28, hx28, hD⟩ := bindD_elim hD
    refine seq_call r (c_queue_List w23 (⟨2, 1, 4, 1, 1, 1⟩ : Plan) x17.2.2.2 (hP.mem (i := 1) rfl) 0 0 hx28) (fun R hc => y_call r rfl cl62 hc) rfl ?_
    rintro _ w29 ⟨v30, rfl, hq⟩
    refine ⟨_, rfl, fun fr r => ?_⟩
    have hP : Post No [cellC b1 ((planC (⟨2, 1, 4, 1, 1, 1⟩ : Plan))).toArray 25, memK mg9 x17.2.2.2, cellC b19 ((resC x17.1)).toArray 32, rowK 22 1 u64 v30 x28] w0 w29 := hP.add hq
    refine s1 r h27 ?_
    refine seq_val (I (x28.length : Int)) r (fun R => y_rowLen r (hP.row (i := 3) rfl).ro is49 rfl) rfl fun fr r => ?_
    refine s1 r h27 ?_
    refine seq_val _ r (fun R => y_bin r rfl rfl rfl rfl) rfl fun fr r => ?_
    refine seq_val (.bool ((x28.length : Int) == 1)) r (fun R => y_pick r (b := true) (congrArg Value.bool h27) rfl) rfl fun fr r => ?_
    refine seq_val (.bool ((x28.length : Int) == 1)) r (fun R => y_assign r rfl) rfl fun fr r => ?_
    refine wn ?_
    exact nxy25 ((x28.length : Int) == 1) () _ _ _ hD r (hs_cons rfl (hs_cons rfl (hs_cons rfl (hs_cons rfl (hs_cons rfl (hs_cons rfl hs_nil)))))) (hP.pick [0, 1, 2] rfl rfl)
   ·
    have hD := (cond_f h27).symm.trans hD
    refine s0 r h27 fun fr r => ?_
    refine s0 r h27 fun fr r => ?_
    refine s0 r h27 fun fr r => ?_
    refine s0 r h27 fun fr r => ?_
    refine s0 r h27 fun fr r => ?_
    refine seq_val (.bool false) r (fun R => y_pick r (b := false) (congrArg Value.bool h27) rfl) rfl fun fr r => ?_
    refine seq_val (.bool false) r (fun R => y_assign r rfl) rfl fun fr r => ?_
    refine wn ?_
    exact nxy25 false () _ _ _ hD r (hs_cons rfl (hs_cons rfl (hs_cons rfl (hs_cons rfl (hs_cons rfl (hs_cons rfl hs_nil)))))) (hP.pick [0, 1, 2] rfl rfl)
  ·
   have hD := (cond_f h26).symm.trans hD
   refine s0 r h26 fun fr r => ?_
   refine s0 r h26 fun fr r => ?_
   refine s0 r h26 fun fr r => ?_
   refine seq_val (.bool false) r (fun R => y_pick r (b := false) (congrArg Value.bool h26) rfl) rfl fun fr r => ?_
   refine seq_val (.bool false) r (fun R => y_move r rfl) rfl fun fr r => ?_
   refine s0 r (rfl : false = _) fun fr r => ?_
   refine s0 r (rfl : false = _) fun fr r => ?_
   refine s0 r (rfl : false = _) fun fr r => ?_
   refine s0 r (rfl : false = _) fun fr r => ?_
   refine s0 r (rfl : false = _) fun fr r => ?_
   refine seq_val (.bool false) r (fun R => y_pick r (b := false) (congrArg Value.bool (rfl : false = _)) rfl) rfl fun fr r => ?_
   refine seq_val (.bool false) r (fun R => y_assign r rfl) rfl fun fr r => ?_
   refine wn ?_
   exact nxy25 false () _ _ _ hD r (hs_cons rfl (hs_cons rfl (hs_cons rfl (hs_cons rfl (hs_cons rfl (hs_cons rfl hs_nil)))))) (hP.pick [0, 1, 2] rfl rfl)
 ·
  rintro x32 γ33 fr w34 g r hP hD
  have hP : Post No [cellC b1 ((planC (⟨2, 1, 4, 1, 1, 1⟩ : Plan))).toArray 25, memK mg9 x17.2.2.2, cellC b19 ((resC x17.1)).toArray 32] w0 w34 := hP
  refine wp_ret ?_
  have hv : x32 = res := Option.some.inj hD
  try dsimp only [Exit.then, Exit.inBlock]
  refine ret_tmp (fn := Tryz.f53) r (t := 0) rfl (v := (.bool x32)) rfl ?_
  subst hv
  exact ⟨rfl, hP.chg.below⟩

end Go.Proofs.YtjkinpbfmihhdaaGreat

/- Written by a program of ours (wip/gen.py): a law -/
set_option linter.unusedVariables false
set_option maxRecDepth 20000
set_option maxHeartbeats 2000000
namespace Go.Proofs.YtjkinpbfmihhdaaGreat.Wk
open Go.RowKit
theorem cl53 : callable Tryz.prog 53 = true := by kernel_rfl

theorem cl57 : callable Tryz.prog 57 = true := by kernel_rfl

theorem fo32_1 : fieldOff Tryz.prog 32 1 1 = true := by kernel_rfl

theorem ti5 : intTy Tryz.prog 5 .u8 = true := by kernel_rfl

theorem ts29 : sized Tryz.prog 29 8 = true := by kernel_rfl

theorem tz29 : zeroOf Tryz.prog 29 = some (.agg (seatC (⟨(⟨0, 0, 0, 0, 0, 0⟩ : Plan), 0, 0⟩ : Seat)).toArray) := by kernel_rfl

def D.cubiclelaw14_QueueStalls (fu : Nat) (a0 : Int) (a1 : Bool) (a2 : Int) : Option (Bool) := ((D.cubiclelaw14_awake fu ).bind (fun (x1 : Bool) => (bif (!x1) then (some false) else ((D.cubiclelaw14_made fu (⟨12, 2, 7, 1, 1, 100⟩ : Plan)).bind (fun (x13 : Mem) => (loopThen (fun (x17 : Int × Mem) => (bif (decide (x17.1 < (IntKind.i64.wrap (a0.tmod 4)))) then ((D.mem_Memory_Cap fu x17.2 0).bind (fun (x26 : Cap) => ((D.prog_Run_Res fu (fu, (D.queue_Enq (fu + 1) (⟨(⟨12, 2, 7, 1, 1, 100⟩ : Plan), 0, 0⟩ : Seat) 0 (IntKind.u64.wrap (IntKind.i64.wrap (x17.1 + 1))))) x17.2 x26 99).bind (fun (x28 : Res × Int × Bool × Mem) => (some (Lp.next ((IntKind.i64.wrap (x17.1 + 1)), x28.2.2.2))))))) else (some (Lp.brk (x17.1, x17.2))))) fu (0, x13) (fun (x30 : Int × Mem) => (Option.bind (bif a1 then (some (fu, (D.queue_Enq (fu + 1) (⟨(⟨12, 2, 7, 1, 1, 100⟩ : Plan), 0, 1⟩ : Seat) 0 50))) else (some (fu, (D.queue_Deq (fu + 1) (⟨(⟨12, 2, 7, 1, 1, 100⟩ : Plan), 0, 1⟩ : Seat) 0)))) (fun (x51 : (Nat × T Res)) => ((D.mem_Memory_Cap fu x30.2 0).bind (fun (x54 : Cap) => ((D.prog_Run_Res fu x51 x30.2 x54 (IntKind.i64.wrap (a2.tmod 16))).bind (fun (x55 : Res × Int × Bool × Mem) => ((D.mem_Memory_Cap fu x55.2.2.2 0).bind (fun (x61 : Cap) => ((D.prog_Run_Res fu (fu, (D.queue_Enq (fu + 1) (⟨(⟨12, 2, 7, 1, 1, 100⟩ : Plan), 0, 0⟩ : Seat) 0 77)) x55.2.2.2 x61 60).bind (fun (x63 : Res × Int × Bool × Mem) => (Option.bind (bif (!x63.2.2.1) then (some true) else (some (decide (x63.2.1 > 30)))) (fun (x73 : Bool) => (bif x73 then (some false) else (loopThen (fun (x77 : Bool × Int × Mem) => (bif (decide (x77.2.1 < (IntKind.i64.wrap ((IntKind.i64.wrap (a0.tmod 4)) + 3)))) then ((D.mem_Memory_Cap fu x77.2.2 0).bind (fun (x86 : Cap) => ((D.prog_Run_Res fu (fu, (D.queue_Deq (fu + 1) (⟨(⟨12, 2, 7, 1, 1, 100⟩ : Plan), 0, 0⟩ : Seat) 0)) x77.2.2 x86 600).bind (fun (x88 : Res × Int × Bool × Mem) => (Option.bind (bif (!x88.2.2.1) then (some true) else (bif (x88.1.e != 0) then (some (x88.1.e != 6)) else (some false))) (fun (x99 : Bool) => (bif x99 then (some (Lp.ret false)) else (bif (x88.1.v == 77) then (some (Lp.ret (decide (x77.2.1 ≥ (IntKind.i64.wrap ((IntKind.i64.wrap (a0.tmod 4)) - 1)))))) else (some (Lp.next (x77.1, (IntKind.i64.wrap (x77.2.1 + 1)), x88.2.2.2))))))))))) else (some (Lp.brk (x77.1, x77.2.1, x77.2.2))))) fu (false, 0, x63.2.2.2) (fun (x104 : Bool × Int × Mem) => (some false)))))))))))))))))))))))

theorem c_cubiclelaw14_QueueStalls {fu : Nat} (w0 : World) (a0 : Int) (a1 : Bool) (a2 : Int) {res : Bool} (hD : D.cubiclelaw14_QueueStalls fu a0 a1 a2 = some res) :
    Calls Tryz.prog 11 #[.int .u8 a0, .bool a1, .int .u8 a2] w0 (PureRes (.bool res) w0) := by
 refine enter Tryz.func11 rfl 113 rfl rfl fun fr r => ?_
 have hP : Post No [] w0 w0 := Post.nil w0
 unfold D.cubiclelaw14_QueueStalls at hD
 refine wsr ?_
 refine seq_val (.bool false) r (fun R => y_assign r rfl) rfl fun fr r => ?_
 refine wn ?_
 refine wp_seq ?_
 refine wsr ?_
 obtain ⟨x1, hx1, hD⟩ := bindD_elim hD
 refine seq_call r (c_cubiclelaw14_awake w0  hx1) (fun R hc => y_call r rfl cl53 hc) rfl ?_
 rintro _ w2 ⟨rfl, hb⟩
 refine ⟨_, rfl, fun fr r => ?_⟩
 have hP : Post No [] w0 w2 := hP.below hb
 refine seq_val (.bool (!x1)) r (fun R => y_un r (u := (.bool x1)) rfl rfl) rfl fun fr r => ?_
 refine wn ?_
 refine wp_cond_split (t := (!x1)) (r.ev rfl) (fun h3 => ?_) (fun h3 => ?_)
 ·
  have hD := (cond_t h3).symm.trans hD
  refine wsr ?_
  refine seq_val (.bool false) r (fun R => y_assign r rfl) rfl fun fr r => ?_
  refine wn ?_
  refine wp_ret ?_
  have hv : false = res := Option.some.inj hD
  try dsimp only [Exit.then, Exit.inBlock]
  refine ret_tmp (fn := Tryz.f11) r (t := 6) rfl (v := (.bool false)) rfl ?_
  subst hv
  exact ⟨rfl, hP.chg.below⟩
 ·
  have hD := (cond_f h3).symm.trans hD
  refine wp_skip ?_
  refine wsr ?_
  refine seq_val (.agg (planC (⟨12, 2, 7, 1, 1, 100⟩ : Plan)).toArray) r (fun R => y_build r (by kernel_rfl)) rfl fun fr r => ?_
  refine seq_new (.cells ((planC (⟨0, 0, 0, 0, 0, 0⟩ : Plan))).toArray 25 (0, 0)) r (fun R => y_alloc tz25) rfl fun fr b4 w5 n6 r => ?_
  have hP : Post No [cellC b4 ((planC (⟨0, 0, 0, 0, 0, 0⟩ : Plan))).toArray 25] w0 w5 := hP.new n6
  refine seq_upd (.cells ((planC (⟨12, 2, 7, 1, 1, 100⟩ : Plan))).toArray 25 (0, 0)) r (fun R => y_store r (o := 0) (v := (.agg (planC (⟨12, 2, 7, 1, 1, 100⟩ : Plan)).toArray)) rfl rfl (hP.cell (i := 0) rfl) ts25 (Nat.le_of_ble_eq_true rfl) rfl rfl) rfl fun fr w8 u9 r => ?_
  have hP : Post No [cellC b4 ((planC (⟨12, 2, 7, 1, 1, 100⟩ : Plan))).toArray 25] w0 w8 := hP.upd (i := 0) rfl u9
  refine wn ?_
  refine wp_seq ?_
  refine wp_freeF [.val (.agg (planC (⟨12, 2, 7, 1, 1, 100⟩ : Plan)).toArray), .val (.agg (seatC (⟨(⟨12, 2, 7, 1, 1, 100⟩ : Plan), 0, 0⟩ : Seat)).toArray), .val (.agg (planC (⟨12, 2, 7, 1, 1, 100⟩ : Plan)).toArray), .val (.agg (seatC (⟨(⟨12, 2, 7, 1, 1, 100⟩ : Plan), 0, 1⟩ : Seat)).toArray), .cell 29 8, .cell 29 8, .stored 4 ((seatC (⟨(⟨12, 2, 7, 1, 1, 100⟩ : Plan), 0, 0⟩ : Seat))).toArray 29 8 rfl, .stored 5 ((seatC (⟨(⟨12, 2, 7, 1, 1, 100⟩ : Plan), 0, 1⟩ : Seat))).toArray 29 8 rfl] mixed r (by kernel_rfl) ?_ ?_
  ·
   refine fc r (fun fr1 g w' hb' hd r' => y_load_agg r' (cs := (planC (⟨12, 2, 7, 1, 1, 100⟩ : Plan))) (n := 6) rfl ((hP.below (dr hb')).cell (i := 0) rfl) ta25 rfl bz) ?_
   refine fc r (fun fr1 g w' hb' hd r' => y_build r' (v := (.agg (seatC (⟨(⟨12, 2, 7, 1, 1, 100⟩ : Plan), 0, 0⟩ : Seat)).toArray)) (bs1 (congrArg (fun z => (0, z)) (hd 0 rfl).1) (by kernel_rfl)) bz) ?_
   refine fc r (fun fr1 g w' hb' hd r' => y_load_agg r' (cs := (planC (⟨12, 2, 7, 1, 1, 100⟩ : Plan))) (n := 6) rfl ((hP.below (dr hb')).cell (i := 0) rfl) ta25 rfl bz) ?_
   refine fc r (fun fr1 g w' hb' hd r' => y_build r' (v := (.agg (seatC (⟨(⟨12, 2, 7, 1, 1, 100⟩ : Plan), 0, 1⟩ : Seat)).toArray)) (bs2 (congrArg (fun z => (0, z)) (hd 2 rfl).1) (rfl) (by kernel_rfl)) bz) ?_
   refine fc r (fun fr1 g w' hb' hd r' => y_alloc tz29 (fun b w2 n2 => ⟨n2.below, b, rfl, n2.eq, _, n2.at_, rfl⟩)) ?_
   refine fc r (fun fr1 g w' hb' hd r' => y_alloc tz29 (fun b w2 n2 => ⟨n2.below, b, rfl, n2.eq, _, n2.at_, rfl⟩)) ?_
   refine eachF_cons r rfl (fun fr1 g w' hb' hd r' => ?_) ?_
   · obtain ⟨hp, _, c, hc, hn⟩ := (hd 4 rfl).1; exact y_store r' (o := 0) (c := c) (v := (.agg (seatC (⟨(⟨12, 2, 7, 1, 1, 100⟩ : Plan), 0, 0⟩ : Seat)).toArray)) hp (hd 1 rfl).1 hc ts29 (by rw [hn]; exact Nat.le_of_ble_eq_true rfl) rfl (over2_full (hn.trans rfl)) (fun w2 u2 => ⟨u2, rfl⟩)
   refine eachF_cons r rfl (fun fr1 g w' hb' hd r' => ?_) ?_
   · obtain ⟨hp, _, c, hc, hn⟩ := (hd 5 rfl).1; exact y_store r' (o := 0) (c := c) (v := (.agg (seatC (⟨(⟨12, 2, 7, 1, 1, 100⟩ : Plan), 0, 1⟩ : Seat)).toArray)) hp (hd 3 rfl).1 hc ts29 (by rw [hn]; exact Nat.le_of_ble_eq_true rfl) rfl (over2_full (hn.trans rfl)) (fun w2 u2 => ⟨u2, rfl⟩)
   exact eachF_nil
  ·
   intro fr gg w12 hb hΦ hap r
   obtain ⟨b10, ee_b10⟩ : ∃ b, b = (gg 4).lo := ⟨_, rfl⟩
   have g4 : (gg 4).v = (.pointer (some ⟨b10, 0, none⟩)) := by rw [ee_b10]; exact (hΦ 4 rfl).1.1
   have h_b10 : w12.heap[b10]? = some (.cells ((seatC (⟨(⟨12, 2, 7, 1, 1, 100⟩ : Plan), 0, 0⟩ : Seat))).toArray 29 (0, 0)) := by rw [ee_b10]; exact (hΦ 6 rfl).1.2
   have hs4 : Fresh [cellC b10 ((seatC (⟨(⟨12, 2, 7, 1, 1, 100⟩ : Plan), 0, 0⟩ : Seat))).toArray 29] (gg 4).lo (gg 4).hi w12 := by subst ee_b10; exact Fresh.cell (hΦ 4 rfl).1.2.1 h_b10
   obtain ⟨b11, ee_b11⟩ : ∃ b, b = (gg 5).lo := ⟨_, rfl⟩
   have g5 : (gg 5).v = (.pointer (some ⟨b11, 0, none⟩)) := by rw [ee_b11]; exact (hΦ 5 rfl).1.1
   have h_b11 : w12.heap[b11]? = some (.cells ((seatC (⟨(⟨12, 2, 7, 1, 1, 100⟩ : Plan), 0, 1⟩ : Seat))).toArray 29 (0, 0)) := by rw [ee_b11]; exact (hΦ 7 rfl).1.2
   have hs5 : Fresh [cellC b11 ((seatC (⟨(⟨12, 2, 7, 1, 1, 100⟩ : Plan), 0, 1⟩ : Seat))).toArray 29] (gg 5).lo (gg 5).hi w12 := by subst ee_b11; exact Fresh.cell (hΦ 5 rfl).1.2.1 h_b11
   have r := r.congr (sc g5 (sc g4 (sc ((hΦ 3 rfl).1) (sc ((hΦ 2 rfl).1) (sc ((hΦ 1 rfl).1) (sc ((hΦ 0 rfl).1) rfl))))))
   have hP : Post No [cellC b4 ((planC (⟨12, 2, 7, 1, 1, 100⟩ : Plan))).toArray 25, cellC b10 ((seatC (⟨(⟨12, 2, 7, 1, 1, 100⟩ : Plan), 0, 0⟩ : Seat))).toArray 29, cellC b11 ((seatC (⟨(⟨12, 2, 7, 1, 1, 100⟩ : Plan), 0, 1⟩ : Seat))).toArray 29] w0 w12 := hP.addL (l := [([cellC b10 ((seatC (⟨(⟨12, 2, 7, 1, 1, 100⟩ : Plan), 0, 0⟩ : Seat))).toArray 29], (gg 4).lo, (gg 4).hi), ([cellC b11 ((seatC (⟨(⟨12, 2, 7, 1, 1, 100⟩ : Plan), 0, 1⟩ : Seat))).toArray 29], (gg 5).lo, (gg 5).hi)]) hb ⟨hs4, (hΦ 4 rfl).2.1, (disj_cons (hap 4 5 rfl) disj_nil), ⟨hs5, (hΦ 5 rfl).2.1, disj_nil, trivial⟩⟩
   refine wsr ?_
   refine seq_val (.agg (planC (⟨12, 2, 7, 1, 1, 100⟩ : Plan)).toArray) r (fun R => y_load_agg r (cs := (planC (⟨12, 2, 7, 1, 1, 100⟩ : Plan))) (n := 6) rfl (hP.cell (i := 0) rfl) ta25 rfl) rfl fun fr r => ?_
   obtain ⟨x13, hx13, hD⟩ := bindD_elim hD
   refine seq_call r (c_cubiclelaw14_made w12 (⟨12, 2, 7, 1, 1, 100⟩ : Plan) hx13) (fun R hc => y_call r rfl cl55 hc) rfl ?_
   rintro _ w14 ⟨mg15, rfl, hq⟩
   refine ⟨_, rfl, fun fr r => ?_⟩
   have hP : Post No [cellC b4 ((planC (⟨12, 2, 7, 1, 1, 100⟩ : Plan))).toArray 25, cellC b10 ((seatC (⟨(⟨12, 2, 7, 1, 1, 100⟩ : Plan), 0, 0⟩ : Seat))).toArray 29, cellC b11 ((seatC (⟨(⟨12, 2, 7, 1, 1, 100⟩ : Plan), 0, 1⟩ : Seat))).toArray 29, memK mg15 x13] w0 w14 := hP.add hq
   refine seq_val (.pointer (some ⟨mg15.mb, 0, none⟩)) r (fun R => y_assign r rfl) rfl fun fr r => ?_
   refine wn ?_
   refine wp_seq ?_
   refine wsr ?_
   refine seq_val (.pointer (some ⟨mg15.mb, 0, none⟩)) r (fun R => y_move r rfl) rfl fun fr r => ?_
   refine seq_val _ r (fun R => y_bin r rfl rfl rfl rfl) rfl fun fr r => ?_
   refine wn ?_
   refine wp_cond_split (t := false) (r.ev rfl) (fun h => absurd ((rfl : false = _).symm.trans h) (by decide)) (fun _ => ?_)
   refine wp_skip ?_
   refine wsr ?_
   refine seq_val (.int .u8 a0) r (fun R => y_move r rfl) rfl fun fr r => ?_
   refine seq_val _ r (fun R => y_bin r rfl rfl rfl rfl) rfl fun fr r => ?_
   refine seq_val (I (W (a0.tmod 4))) r (fun R => y_convert r rfl ti5 ti3) rfl fun fr r => ?_
   refine seq_val (I (W (a0.tmod 4))) r (fun R => y_assign r rfl) rfl fun fr r => ?_
   refine wn ?_
   refine wp_seq ?_
   refine wsr ?_
   refine seq_val (I 0) r (fun R => y_assign r rfl) rfl fun fr r => ?_
   refine wn ?_
   refine wp_loopG (X := Int × Mem) (G := Unit) (x0 := (0, x13)) (fun x γ => [(0, (.int .u8 a0)), (1, (.bool a1)), (2, (.int .u8 a2)), (6, (.bool false)), (22, (.bool (!x1))), (7, (.pointer (some ⟨b4, 0, none⟩))), (8, (.pointer (some ⟨b10, 0, none⟩))), (9, (.pointer (some ⟨b11, 0, none⟩))), (10, (.pointer (some ⟨mg15.mb, 0, none⟩))), (31, (.bool false)), (11, (I (W (a0.tmod 4)))), (12, (I x.1))]) (fun x γ w => Post No [cellC b4 ((planC (⟨12, 2, 7, 1, 1, 100⟩ : Plan))).toArray 25, cellC b10 ((seatC (⟨(⟨12, 2, 7, 1, 1, 100⟩ : Plan), 0, 0⟩ : Seat))).toArray 29, cellC b11 ((seatC (⟨(⟨12, 2, 7, 1, 1, 100⟩ : Plan), 0, 1⟩ : Seat))).toArray 29, memK mg15 x.2] w0 w) () r (hs_cons rfl (hs_cons rfl (hs_cons rfl (hs_cons rfl (hs_cons rfl (hs_cons rfl (hs_cons rfl (hs_cons rfl (hs_cons rfl (hs_cons rfl (hs_cons rfl (hs_cons rfl hs_nil)))))))))))) hP hD ?_ ?_
   ·
    rintro x17 γ18 fr w20 g y19 RPy19 nxy19 bky19 rty19 r hP hD
    have hP : Post No [cellC b4 ((planC (⟨12, 2, 7, 1, 1, 100⟩ : Plan))).toArray 25, cellC b10 ((seatC (⟨(⟨12, 2, 7, 1, 1, 100⟩ : Plan), 0, 0⟩ : Seat))).toArray 29, cellC b11 ((seatC (⟨(⟨12, 2, 7, 1, 1, 100⟩ : Plan), 0, 1⟩ : Seat))).toArray 29, memK mg15 x17.2] w0 w20 := hP
    refine wp_seq ?_
    refine wsr ?_
    refine seq_val (I x17.1) r (fun R => y_move r rfl) rfl fun fr r => ?_
    refine seq_val (I (W (a0.tmod 4))) r (fun R => y_move r rfl) rfl fun fr r => ?_
    refine seq_val _ r (fun R => y_bin r rfl rfl rfl rfl) rfl fun fr r => ?_
    refine wn ?_
    refine wp_cond_split (t := (decide (x17.1 < (W (a0.tmod 4))))) (r.ev rfl) (fun h21 => ?_) (fun h21 => ?_)
    ·
     have hD := (cond_t h21).symm.trans hD
     refine wp_skip ?_
     refine wp_seq ?_
     refine wp_block ?_
     refine wp_region_lit ?_
     refine seq_val (.agg (seatC (⟨(⟨12, 2, 7, 1, 1, 100⟩ : Plan), 0, 0⟩ : Seat)).toArray) r (fun R => y_load_agg r (cs := (seatC (⟨(⟨12, 2, 7, 1, 1, 100⟩ : Plan), 0, 0⟩ : Seat))) (n := 8) rfl (hP.cell (i := 1) rfl) ta29 rfl) rfl fun fr r => ?_
     refine seq_val (I x17.1) r (fun R => y_move r rfl) rfl fun fr r => ?_
     refine seq_val _ r (fun R => y_bin r rfl rfl rfl rfl) rfl fun fr r => ?_
     refine seq_val (U (V (W (x17.1 + 1)))) r (fun R => y_convert r rfl ti3 ti22) rfl fun fr r => ?_
     refine seq_call r (c_queue_Enq (F := No) (n := fu) (j := fu + 1) (fun _ h => h.elim) (by omega) (⟨(⟨12, 2, 7, 1, 1, 100⟩ : Plan), 0, 0⟩ : Seat) 0 (V (W (x17.1 + 1)))) (fun R hc => y_call r rfl cl59 hc) rfl ?_
     rintro _ w22 ⟨v23, rfl, hb, hr24⟩
     refine ⟨_, rfl, fun fr r => ?_⟩
     have hP : Post No [cellC b4 ((planC (⟨12, 2, 7, 1, 1, 100⟩ : Plan))).toArray 25, cellC b10 ((seatC (⟨(⟨12, 2, 7, 1, 1, 100⟩ : Plan), 0, 0⟩ : Seat))).toArray 29, cellC b11 ((seatC (⟨(⟨12, 2, 7, 1, 1, 100⟩ : Plan), 0, 1⟩ : Seat))).toArray 29, memK mg15 x17.2, progK Tryz.prog encRes (fu, (D.queue_Enq (fu + 1) (⟨(⟨12, 2, 7, 1, 1, 100⟩ : Plan), 0, 0⟩ : Seat) 0 (V (W (x17.1 + 1))))) v23 (rg w20.heap.size w22.heap.size)] w0 w22 := hP.addProg hb hr24
     refine seq_val (.pointer (some ⟨mg15.mb, 0, none⟩)) r (fun R => y_move r rfl) rfl fun fr r => ?_
     refine seq_val (.pointer (some ⟨mg15.mb, 0, none⟩)) r (fun R => y_move r rfl) rfl fun fr r => ?_
     obtain ⟨x26, hx26, hD⟩ := bindD_elim hD
     refine seq_call r (c_mem_Memory_Cap w22 x17.2 (hP.mem (i := 3) rfl) 0 hx26) (fun R hc => y_call r rfl cl31 hc) rfl ?_
     rintro _ w27 ⟨rfl, hb⟩
     refine ⟨_, rfl, fun fr r => ?_⟩
     have hP : Post No [cellC b4 ((planC (⟨12, 2, 7, 1, 1, 100⟩ : Plan))).toArray 25, cellC b10 ((seatC (⟨(⟨12, 2, 7, 1, 1, 100⟩ : Plan), 0, 0⟩ : Seat))).toArray 29, cellC b11 ((seatC (⟨(⟨12, 2, 7, 1, 1, 100⟩ : Plan), 0, 1⟩ : Seat))).toArray 29, memK mg15 x17.2, progK Tryz.prog encRes (fu, (D.queue_Enq (fu + 1) (⟨(⟨12, 2, 7, 1, 1, 100⟩ : Plan), 0, 0⟩ : Seat) 0 (V (W (x17.1 + 1))))) v23 (rg w20.heap.size w22.heap.size)] w0 w27 := hP.below hb
     obtain ⟨x28, hx28, hD⟩ := bindD_elim hD
     refine seq_call r (c_prog_Run_Res w27 (fu, (D.queue_Enq (fu + 1) (⟨(⟨12, 2, 7, 1, 1, 100⟩ : Plan), 0, 0⟩ : Seat) 0 (V (W (x17.1 + 1))))) x17.2 x26 99 (hP.sep.pk [4, 3] rfl rfl) hx28) (fun R hc => y_call r rfl cl29 hc) rfl ?_
     rintro _ w29 ⟨rfl, hq⟩
     refine ⟨_, rfl, fun fr r => ?_⟩
     have hP : Post No [cellC b4 ((planC (⟨12, 2, 7, 1, 1, 100⟩ : Plan))).toArray 25, cellC b10 ((seatC (⟨(⟨12, 2, 7, 1, 1, 100⟩ : Plan), 0, 0⟩ : Seat))).toArray 29, cellC b11 ((seatC (⟨(⟨12, 2, 7, 1, 1, 100⟩ : Plan), 0, 1⟩ : Seat))).toArray 29, memK mg15 x28.2.2.2, progK Tryz.prog encRes (fu, (D.queue_Enq (fu + 1) (⟨(⟨12, 2, 7, 1, 1, 100⟩ : Plan), 0, 0⟩ : Seat) 0 (V (W (x17.1 + 1))))) v23 (rg w20.heap.size w22.heap.size)] w0 w29 := hP.setN (i := 3) rfl hq
     refine wn ?_
     refine wp_region_lit ?_
     refine seq_val (I x17.1) r (fun R => y_move r rfl) rfl fun fr r => ?_
     refine seq_val _ r (fun R => y_bin r rfl rfl rfl rfl) rfl fun fr r => ?_
     refine seq_val (I (W (x17.1 + 1))) r (fun R => y_assign r rfl) rfl fun fr r => ?_
     refine wn ?_
     exact nxy19 ((W (x17.1 + 1)), x28.2.2.2) () _ _ _ hD r (hs_cons rfl (hs_cons rfl (hs_cons rfl (hs_cons rfl (hs_cons rfl (hs_cons rfl (hs_cons rfl (hs_cons rfl (hs_cons rfl (hs_cons rfl (hs_cons rfl (hs_cons rfl hs_nil)))))))))))) (hP.pick [0, 1, 2, 3] rfl rfl)
    ·
     have hD := (cond_f h21).symm.trans hD
     refine wp_exit ?_
     exact bky19 (x17.1, x17.2) () _ _ _ hD r (hs_cons rfl (hs_cons rfl (hs_cons rfl (hs_cons rfl (hs_cons rfl (hs_cons rfl (hs_cons rfl (hs_cons rfl (hs_cons rfl (hs_cons rfl (hs_cons rfl (hs_cons rfl hs_nil)))))))))))) (hP.pick [0, 1, 2, 3] rfl rfl)
   ·
    rintro x30 γ31 fr w32 g r hP hD
    have hP : Post No [cellC b4 ((planC (⟨12, 2, 7, 1, 1, 100⟩ : Plan))).toArray 25, cellC b10 ((seatC (⟨(⟨12, 2, 7, 1, 1, 100⟩ : Plan), 0, 0⟩ : Seat))).toArray 29, cellC b11 ((seatC (⟨(⟨12, 2, 7, 1, 1, 100⟩ : Plan), 0, 1⟩ : Seat))).toArray 29, memK mg15 x30.2] w0 w32 := hP
    refine wsr ?_
    refine seq_val (.agg (seatC (⟨(⟨12, 2, 7, 1, 1, 100⟩ : Plan), 0, 1⟩ : Seat)).toArray) r (fun R => y_load_agg r (cs := (seatC (⟨(⟨12, 2, 7, 1, 1, 100⟩ : Plan), 0, 1⟩ : Seat))) (n := 8) rfl (hP.cell (i := 2) rfl) ta29 rfl) rfl fun fr r => ?_
    refine seq_call r (c_queue_Deq (F := No) (n := fu) (j := fu + 1) (fun _ h => h.elim) (by omega) (⟨(⟨12, 2, 7, 1, 1, 100⟩ : Plan), 0, 1⟩ : Seat) 0) (fun R hc => y_call r rfl cl57 hc) rfl ?_
    rintro _ w33 ⟨v34, rfl, hb, hr35⟩
    refine ⟨_, rfl, fun fr r => ?_⟩
    have hP : Post No [cellC b4 ((planC (⟨12, 2, 7, 1, 1, 100⟩ : Plan))).toArray 25, cellC b10 ((seatC (⟨(⟨12, 2, 7, 1, 1, 100⟩ : Plan), 0, 0⟩ : Seat))).toArray 29, cellC b11 ((seatC (⟨(⟨12, 2, 7, 1, 1, 100⟩ : Plan), 0, 1⟩ : Seat))).toArray 29, memK mg15 x30.2, progK Tryz.prog encRes (fu, (D.queue_Deq (fu + 1) (⟨(⟨12, 2, 7, 1, 1, 100⟩ : Plan), 0, 1⟩ : Seat) 0)) v34 (rg w32.heap.size w33.heap.size)] w0 w33 := hP.addProg hb hr35
    refine seq_new (.cells (progCells false encRes.zero 0 0 0 0 .nilFunc) 39 (0, 0)) r (fun R => y_alloc tz39) rfl fun fr b37 w38 n39 r => ?_
    have hP : Post No [cellC b4 ((planC (⟨12, 2, 7, 1, 1, 100⟩ : Plan))).toArray 25, cellC b10 ((seatC (⟨(⟨12, 2, 7, 1, 1, 100⟩ : Plan), 0, 0⟩ : Seat))).toArray 29, cellC b11 ((seatC (⟨(⟨12, 2, 7, 1, 1, 100⟩ : Plan), 0, 1⟩ : Seat))).toArray 29, memK mg15 x30.2, progK Tryz.prog encRes (fu, (D.queue_Deq (fu + 1) (⟨(⟨12, 2, 7, 1, 1, 100⟩ : Plan), 0, 1⟩ : Seat) 0)) v34 (rg w32.heap.size w33.heap.size), cellC b37 (progCells false encRes.zero 0 0 0 0 .nilFunc) 39] w0 w38 := hP.new n39
    refine seq_upd (.cells v34.cells 39 (0, 0)) r (fun R => y_storep r (hP.prog (i := 4) rfl).shape rfl rfl (hP.cell (i := 5) rfl) ts39 rfl) rfl fun fr w41 u42 r => ?_
    have hP : Post No [cellC b4 ((planC (⟨12, 2, 7, 1, 1, 100⟩ : Plan))).toArray 25, cellC b10 ((seatC (⟨(⟨12, 2, 7, 1, 1, 100⟩ : Plan), 0, 0⟩ : Seat))).toArray 29, cellC b11 ((seatC (⟨(⟨12, 2, 7, 1, 1, 100⟩ : Plan), 0, 1⟩ : Seat))).toArray 29, memK mg15 x30.2, progK Tryz.prog encRes (fu, (D.queue_Deq (fu + 1) (⟨(⟨12, 2, 7, 1, 1, 100⟩ : Plan), 0, 1⟩ : Seat) 0)) v34 (rg w32.heap.size w33.heap.size), cellC b37 v34.cells 39] w0 w41 := hP.upd (i := 5) rfl u42
    refine wn ?_
    refine wp_seq ?_
    refine wsr ?_
    refine seq_val (.bool a1) r (fun R => y_move r rfl) rfl fun fr r => ?_
    refine wn ?_
    refine wp_joinG (N := 113) (Y := (Nat × T Res)) (G := Value × List Nat) (fun x γ => [(0, (.int .u8 a0)), (1, (.bool a1)), (2, (.int .u8 a2)), (6, (.bool false)), (22, (.bool (!x1))), (7, (.pointer (some ⟨b4, 0, none⟩))), (8, (.pointer (some ⟨b10, 0, none⟩))), (9, (.pointer (some ⟨b11, 0, none⟩))), (10, (.pointer (some ⟨mg15.mb, 0, none⟩))), (31, (.bool false)), (11, (I (W (a0.tmod 4)))), (12, (I x30.1)), (13, (.pointer (some ⟨b37, 0, none⟩))), (51, (.bool a1))]) (fun x γ w => Post No [cellC b4 ((planC (⟨12, 2, 7, 1, 1, 100⟩ : Plan))).toArray 25, cellC b10 ((seatC (⟨(⟨12, 2, 7, 1, 1, 100⟩ : Plan), 0, 0⟩ : Seat))).toArray 29, cellC b11 ((seatC (⟨(⟨12, 2, 7, 1, 1, 100⟩ : Plan), 0, 1⟩ : Seat))).toArray 29, memK mg15 x30.2, progK Tryz.prog encRes x γ.1 γ.2, cellC b37 γ.1.cells 39] w0 w) hD ?_ ?_
    ·
     rintro y43 RPy43 nxy43 hD
     refine wp_cond_split (t := a1) (r.ev rfl) (fun h44 => ?_) (fun h44 => ?_)
     ·
      have hD := (cond_t h44).symm.trans hD
      refine wp_region_lit ?_
      refine seq_val (.agg (seatC (⟨(⟨12, 2, 7, 1, 1, 100⟩ : Plan), 0, 1⟩ : Seat)).toArray) r (fun R => y_load_agg r (cs := (seatC (⟨(⟨12, 2, 7, 1, 1, 100⟩ : Plan), 0, 1⟩ : Seat))) (n := 8) rfl (hP.cell (i := 2) rfl) ta29 rfl) rfl fun fr r => ?_
      refine seq_call r (c_queue_Enq (F := No) (n := fu) (j := fu + 1) (fun _ h => h.elim) (by omega) (⟨(⟨12, 2, 7, 1, 1, 100⟩ : Plan), 0, 1⟩ : Seat) 0 50) (fun R hc => y_call r rfl cl59 hc) rfl ?_
      rintro _ w45 ⟨v46, rfl, hb, hr47⟩
      refine ⟨_, rfl, fun fr r => ?_⟩
      have hP : Post No [cellC b4 ((planC (⟨12, 2, 7, 1, 1, 100⟩ : Plan))).toArray 25, cellC b10 ((seatC (⟨(⟨12, 2, 7, 1, 1, 100⟩ : Plan), 0, 0⟩ : Seat))).toArray 29, cellC b11 ((seatC (⟨(⟨12, 2, 7, 1, 1, 100⟩ : Plan), 0, 1⟩ : Seat))).toArray 29, memK mg15 x30.2, progK Tryz.prog encRes (fu, (D.queue_Deq (fu + 1) (⟨(⟨12, 2, 7, 1, 1, 100⟩ : Plan), 0, 1⟩ : Seat) 0)) v34 (rg w32.heap.size w33.heap.size), cellC b37 v34.cells 39, progK Tryz.prog encRes (fu, (D.queue_Enq (fu + 1) (⟨(⟨12, 2, 7, 1, 1, 100⟩ : Plan), 0, 1⟩ : Seat) 0 50)) v46 (rg w41.heap.size w45.heap.size)] w0 w45 := hP.addProg hb hr47
      refine seq_upd (.cells v46.cells 39 (0, 0)) r (fun R => y_storep r (hP.prog (i := 6) rfl).shape rfl rfl (hP.cell (i := 5) rfl) ts39 (by have h := (hP.prog (i := 4) rfl).shape.cells.1; simpa using h)) rfl fun fr w49 u50 r => ?_
      have hP : Post No [cellC b4 ((planC (⟨12, 2, 7, 1, 1, 100⟩ : Plan))).toArray 25, cellC b10 ((seatC (⟨(⟨12, 2, 7, 1, 1, 100⟩ : Plan), 0, 0⟩ : Seat))).toArray 29, cellC b11 ((seatC (⟨(⟨12, 2, 7, 1, 1, 100⟩ : Plan), 0, 1⟩ : Seat))).toArray 29, memK mg15 x30.2, progK Tryz.prog encRes (fu, (D.queue_Deq (fu + 1) (⟨(⟨12, 2, 7, 1, 1, 100⟩ : Plan), 0, 1⟩ : Seat) 0)) v34 (rg w32.heap.size w33.heap.size), cellC b37 v46.cells 39, progK Tryz.prog encRes (fu, (D.queue_Enq (fu + 1) (⟨(⟨12, 2, 7, 1, 1, 100⟩ : Plan), 0, 1⟩ : Seat) 0 50)) v46 (rg w41.heap.size w45.heap.size)] w0 w49 := hP.upd (i := 5) rfl u50
      refine wn ?_
      exact nxy43 (fu, (D.queue_Enq (fu + 1) (⟨(⟨12, 2, 7, 1, 1, 100⟩ : Plan), 0, 1⟩ : Seat) 0 50)) (v46, (rg w41.heap.size w45.heap.size)) _ _ _ hD r (hs_cons rfl (hs_cons rfl (hs_cons rfl (hs_cons rfl (hs_cons rfl (hs_cons rfl (hs_cons rfl (hs_cons rfl (hs_cons rfl (hs_cons rfl (hs_cons rfl (hs_cons rfl (hs_cons rfl (hs_cons rfl hs_nil)))))))))))))) (hP.pick [0, 1, 2, 3, 6, 5] rfl rfl)
     ·
      have hD := (cond_f h44).symm.trans hD
      refine wp_skip ?_
      exact nxy43 (fu, (D.queue_Deq (fu + 1) (⟨(⟨12, 2, 7, 1, 1, 100⟩ : Plan), 0, 1⟩ : Seat) 0)) (v34, (rg w32.heap.size w33.heap.size)) _ _ _ hD r (hs_cons rfl (hs_cons rfl (hs_cons rfl (hs_cons rfl (hs_cons rfl (hs_cons rfl (hs_cons rfl (hs_cons rfl (hs_cons rfl (hs_cons rfl (hs_cons rfl (hs_cons rfl (hs_cons rfl (hs_cons rfl hs_nil)))))))))))))) (hP.pick [0, 1, 2, 3, 4, 5] rfl rfl)
    ·
     rintro x51 γ52 fr w53 g r hP hD
     have hP : Post No [cellC b4 ((planC (⟨12, 2, 7, 1, 1, 100⟩ : Plan))).toArray 25, cellC b10 ((seatC (⟨(⟨12, 2, 7, 1, 1, 100⟩ : Plan), 0, 0⟩ : Seat))).toArray 29, cellC b11 ((seatC (⟨(⟨12, 2, 7, 1, 1, 100⟩ : Plan), 0, 1⟩ : Seat))).toArray 29, memK mg15 x30.2, progK Tryz.prog encRes x51 γ52.1 γ52.2, cellC b37 γ52.1.cells 39] w0 w53 := hP
     refine wp_seq ?_
     obtain ⟨x54, hx54, hD⟩ := bindD_elim hD
     obtain ⟨x55, hx55, hD⟩ := bindD_elim hD
     refine wp_freeE mg15.bs [.val γ52.1, .val (.pointer (some ⟨mg15.mb, 0, none⟩)), .val (.pointer (some ⟨mg15.mb, 0, none⟩)), .val (.agg (capC x54).toArray), .val (.int .u8 a2), .val (.int .u8 (a2.tmod 16)), .val (I (W (a2.tmod 16))), .eff (EffP w53.heap.size (memK mg15 x55.2.2.2) (fun _ : Unit => (.tuple #[(.agg (resC x55.1).toArray), (I x55.2.1), (.bool x55.2.2.1)])) (fun _ : Unit => [])) (EffP.st _ _ _ _)] mixed r (fun b hb => hP.sep.lt (i := 3) rfl (.inl hb)) (by kernel_rfl) ?_ ?_
     ·
      refine eachE_early r rfl (by kernel_rfl) (fun fr1 g w' hb' hd r' => ?_) ?_
      · exact y_loadp r' ((hP.below (dr hb')).prog (i := 4) rfl).shape rfl ((hP.below (dr hb')).cell (i := 5) rfl) ta39 ⟨Below.refl _ _, rfl⟩
      refine eachE_early r rfl (by kernel_rfl) (fun fr1 g w' hb' hd r' => ?_) ?_
      · exact y_move r' (v := (.pointer (some ⟨mg15.mb, 0, none⟩))) rfl ⟨Below.refl _ _, rfl⟩
      refine eachE_late r rfl (fun fr1 g w' hk' hd r' => ?_) ?_
      · exact y_move r' (v := (.pointer (some ⟨mg15.mb, 0, none⟩))) rfl ⟨Below.refl _ _, rfl⟩
      refine eachE_early r rfl (by kernel_rfl) (fun fr1 g w' hb' hd r' => ?_) ?_
      · exact y_call r' (args := [(.pointer (some ⟨mg15.mb, 0, none⟩)), (I 0)]) (lc (hd 2 rfl).1 (lc rfl l0)) cl31 ((c_mem_Memory_Cap _ x30.2 ((hP.below (dr hb')).mem (i := 3) rfl) 0 hx54).mono (by rintro _ w2 ⟨rfl, hb2⟩; exact ⟨_, rfl, hb2, rfl⟩))
      refine eachE_late r rfl (fun fr1 g w' hk' hd r' => ?_) ?_
      · exact y_move r' (v := (.int .u8 a2)) rfl ⟨Below.refl _ _, rfl⟩
      refine eachE_late r rfl (fun fr1 g w' hk' hd r' => ?_) ?_
      · exact y_bin r' (u := (.int .u8 a2)) (u' := (.int .u8 16)) (v := (.int .u8 (a2.tmod 16))) (hd 4 rfl).1 rfl rfl rfl ⟨Below.refl _ _, rfl⟩
      refine eachE_early r rfl (by kernel_rfl) (fun fr1 g w' hb' hd r' => ?_) ?_
      · exact y_convert r' (n := (a2.tmod 16)) (hd 5 rfl).1 ti5 ti3 ⟨Below.refl _ _, rfl⟩
      refine eachE_early r rfl (by kernel_rfl) (fun fr1 g w' hb' hd r' => ?_) ?_
      · exact y_call r' (args := [γ52.1, (.pointer (some ⟨mg15.mb, 0, none⟩)), (.agg (capC x54).toArray), (I (W (a2.tmod 16)))]) (lc (hd 0 rfl).1 (lc (hd 1 rfl).1 (lc (hd 3 rfl).1 (lc (hd 6 rfl).1 l0)))) cl29 ((c_prog_Run_Res _ x51 x30.2 x54 (W (a2.tmod 16)) ((hP.below (dr hb')).sep.pk [4, 3] rfl rfl) hx55).mono (by rintro _ w2 ⟨rfl, hq⟩; exact ⟨_, rfl, hq.chg.kept, EffP.of () hq rfl (fun b hb => hP.sep.lt (i := 3) rfl hb)⟩))
      exact eachF_nil
     ·
      intro fr gg w56 hb hΦ hap r
      obtain ⟨⟨⟩, g7, hcE, _, hs7⟩ := (hΦ 7 rfl).1
      have r := r.congr (sc g7 (sc ((hΦ 6 rfl).1) (sc ((hΦ 5 rfl).1) (sc ((hΦ 4 rfl).1) (sc ((hΦ 3 rfl).1) (sc ((hΦ 2 rfl).1) (sc ((hΦ 1 rfl).1) (sc ((hΦ 0 rfl).1) rfl))))))))
      have hP : Post No [cellC b4 ((planC (⟨12, 2, 7, 1, 1, 100⟩ : Plan))).toArray 25, cellC b10 ((seatC (⟨(⟨12, 2, 7, 1, 1, 100⟩ : Plan), 0, 0⟩ : Seat))).toArray 29, cellC b11 ((seatC (⟨(⟨12, 2, 7, 1, 1, 100⟩ : Plan), 0, 1⟩ : Seat))).toArray 29, memK mg15 x55.2.2.2, progK Tryz.prog encRes x51 γ52.1 γ52.2, cellC b37 γ52.1.cells 39] w0 w56 := hP.effL (i := 3) (l := []) rfl hb hcE rfl rfl trivial
      refine wp_seq ?_
      refine wsr ?_
      refine seq_val (.agg (seatC (⟨(⟨12, 2, 7, 1, 1, 100⟩ : Plan), 0, 0⟩ : Seat)).toArray) r (fun R => y_load_agg r (cs := (seatC (⟨(⟨12, 2, 7, 1, 1, 100⟩ : Plan), 0, 0⟩ : Seat))) (n := 8) rfl (hP.cell (i := 1) rfl) ta29 rfl) rfl fun fr r => ?_
      refine seq_call r (c_queue_Enq (F := No) (n := fu) (j := fu + 1) (fun _ h => h.elim) (by omega) (⟨(⟨12, 2, 7, 1, 1, 100⟩ : Plan), 0, 0⟩ : Seat) 0 77) (fun R hc => y_call r rfl cl59 hc) rfl ?_
      rintro _ w57 ⟨v58, rfl, hb, hr59⟩
      refine ⟨_, rfl, fun fr r => ?_⟩
      have hP : Post No [cellC b4 ((planC (⟨12, 2, 7, 1, 1, 100⟩ : Plan))).toArray 25, cellC b10 ((seatC (⟨(⟨12, 2, 7, 1, 1, 100⟩ : Plan), 0, 0⟩ : Seat))).toArray 29, cellC b11 ((seatC (⟨(⟨12, 2, 7, 1, 1, 100⟩ : Plan), 0, 1⟩ : Seat))).toArray 29, memK mg15 x55.2.2.2, progK Tryz.prog encRes x51 γ52.1 γ52.2, cellC b37 γ52.1.cells 39, progK Tryz.prog encRes (fu, (D.queue_Enq (fu + 1) (⟨(⟨12, 2, 7, 1, 1, 100⟩ : Plan), 0, 0⟩ : Seat) 0 77)) v58 (rg w56.heap.size w57.heap.size)] w0 w57 := hP.addProg hb hr59
      refine seq_val (.pointer (some ⟨mg15.mb, 0, none⟩)) r (fun R => y_move r rfl) rfl fun fr r => ?_
      refine seq_val (.pointer (some ⟨mg15.mb, 0, none⟩)) r (fun R => y_move r rfl) rfl fun fr r => ?_
      obtain ⟨x61, hx61, hD⟩ := bindD_elim hD
      refine seq_call r (c_mem_Memory_Cap w57 x55.2.2.2 (hP.mem (i := 3) rfl) 0 hx61) (fun R hc => y_call r rfl cl31 hc) rfl ?_
      rintro _ w62 ⟨rfl, hb⟩
      refine ⟨_, rfl, fun fr r => ?_⟩
      have hP : Post No [cellC b4 ((planC (⟨12, 2, 7, 1, 1, 100⟩ : Plan))).toArray 25, cellC b10 ((seatC (⟨(⟨12, 2, 7, 1, 1, 100⟩ : Plan), 0, 0⟩ : Seat))).toArray 29, cellC b11 ((seatC (⟨(⟨12, 2, 7, 1, 1, 100⟩ : Plan), 0, 1⟩ : Seat))).toArray 29, memK mg15 x55.2.2.2, progK Tryz.prog encRes x51 γ52.1 γ52.2, cellC b37 γ52.1.cells 39, progK Tryz.prog encRes (fu, (D.queue_Enq (fu + 1) (⟨(⟨12, 2, 7, 1, 1, 100⟩ : Plan), 0, 0⟩ : Seat) 0 77)) v58 (rg w56.heap.size w57.heap.size)] w0 w62 := hP.below hb
      obtain ⟨x63, hx63, hD⟩ := bindD_elim hD
      refine seq_call r (c_prog_Run_Res w62 (fu, (D.queue_Enq (fu + 1) (⟨(⟨12, 2, 7, 1, 1, 100⟩ : Plan), 0, 0⟩ : Seat) 0 77)) x55.2.2.2 x61 60 (hP.sep.pk [6, 3] rfl rfl) hx63) (fun R hc => y_call r rfl cl29 hc) rfl ?_
      rintro _ w64 ⟨rfl, hq⟩
      refine ⟨_, rfl, fun fr r => ?_⟩
      have hP : Post No [cellC b4 ((planC (⟨12, 2, 7, 1, 1, 100⟩ : Plan))).toArray 25, cellC b10 ((seatC (⟨(⟨12, 2, 7, 1, 1, 100⟩ : Plan), 0, 0⟩ : Seat))).toArray 29, cellC b11 ((seatC (⟨(⟨12, 2, 7, 1, 1, 100⟩ : Plan), 0, 1⟩ : Seat))).toArray 29, memK mg15 x63.2.2.2, progK Tryz.prog encRes x51 γ52.1 γ52.2, cellC b37 γ52.1.cells 39, progK Tryz.prog encRes (fu, (D.queue_Enq (fu + 1) (⟨(⟨12, 2, 7, 1, 1, 100⟩ : Plan), 0, 0⟩ : Seat) 0 77)) v58 (rg w56.heap.size w57.heap.size)] w0 w64 := hP.setN (i := 3) rfl hq
      refine seq_val (.tuple #[(.agg (resC x63.1).toArray), (I x63.2.1), (.bool x63.2.2.1)]) r (fun R => y_move r rfl) rfl fun fr r => ?_
      refine seq_val (.agg (resC x63.1).toArray) r (fun R => y_extract r (vs := #[(.agg (resC x63.1).toArray), (I x63.2.1), (.bool x63.2.2.1)]) rfl rfl) rfl fun fr r => ?_
      refine seq_val (I x63.2.1) r (fun R => y_extract r (vs := #[(.agg (resC x63.1).toArray), (I x63.2.1), (.bool x63.2.2.1)]) rfl rfl) rfl fun fr r => ?_
      refine seq_val (.bool x63.2.2.1) r (fun R => y_extract r (vs := #[(.agg (resC x63.1).toArray), (I x63.2.1), (.bool x63.2.2.1)]) rfl rfl) rfl fun fr r => ?_
      refine seq_new (.cells ((resC (⟨0, 0⟩ : Res))).toArray 32 (0, 0)) r (fun R => y_alloc tz32) rfl fun fr b65 w66 n67 r => ?_
      have hP : Post No [cellC b4 ((planC (⟨12, 2, 7, 1, 1, 100⟩ : Plan))).toArray 25, cellC b10 ((seatC (⟨(⟨12, 2, 7, 1, 1, 100⟩ : Plan), 0, 0⟩ : Seat))).toArray 29, cellC b11 ((seatC (⟨(⟨12, 2, 7, 1, 1, 100⟩ : Plan), 0, 1⟩ : Seat))).toArray 29, memK mg15 x63.2.2.2, progK Tryz.prog encRes x51 γ52.1 γ52.2, cellC b37 γ52.1.cells 39, progK Tryz.prog encRes (fu, (D.queue_Enq (fu + 1) (⟨(⟨12, 2, 7, 1, 1, 100⟩ : Plan), 0, 0⟩ : Seat) 0 77)) v58 (rg w56.heap.size w57.heap.size), cellC b65 ((resC (⟨0, 0⟩ : Res))).toArray 32] w0 w66 := hP.new n67
      refine seq_upd (.cells ((resC x63.1)).toArray 32 (0, 0)) r (fun R => y_store r (o := 0) (v := (.agg (resC x63.1).toArray)) rfl rfl (hP.cell (i := 7) rfl) ts32 (Nat.le_of_ble_eq_true rfl) rfl rfl) rfl fun fr w69 u70 r => ?_
      have hP : Post No [cellC b4 ((planC (⟨12, 2, 7, 1, 1, 100⟩ : Plan))).toArray 25, cellC b10 ((seatC (⟨(⟨12, 2, 7, 1, 1, 100⟩ : Plan), 0, 0⟩ : Seat))).toArray 29, cellC b11 ((seatC (⟨(⟨12, 2, 7, 1, 1, 100⟩ : Plan), 0, 1⟩ : Seat))).toArray 29, memK mg15 x63.2.2.2, progK Tryz.prog encRes x51 γ52.1 γ52.2, cellC b37 γ52.1.cells 39, progK Tryz.prog encRes (fu, (D.queue_Enq (fu + 1) (⟨(⟨12, 2, 7, 1, 1, 100⟩ : Plan), 0, 0⟩ : Seat) 0 77)) v58 (rg w56.heap.size w57.heap.size), cellC b65 ((resC x63.1)).toArray 32] w0 w69 := hP.upd (i := 7) rfl u70
      refine seq_val (I x63.2.1) r (fun R => y_assign r rfl) rfl fun fr r => ?_
      refine seq_val (.bool x63.2.2.1) r (fun R => y_assign r rfl) rfl fun fr r => ?_
      refine wn ?_
      refine wp_seq ?_
      have hP : Post No [cellC b4 ((planC (⟨12, 2, 7, 1, 1, 100⟩ : Plan))).toArray 25, cellC b10 ((seatC (⟨(⟨12, 2, 7, 1, 1, 100⟩ : Plan), 0, 0⟩ : Seat))).toArray 29, cellC b11 ((seatC (⟨(⟨12, 2, 7, 1, 1, 100⟩ : Plan), 0, 1⟩ : Seat))).toArray 29, memK mg15 x63.2.2.2, progK Tryz.prog encRes x51 γ52.1 γ52.2, cellC b37 γ52.1.cells 39] w0 w69 := hP.pick [0, 1, 2, 3, 4, 5] rfl rfl
      refine wp_joinG (N := 113) (Y := Bool) (G := Unit) (fun x γ => [(0, (.int .u8 a0)), (1, (.bool a1)), (2, (.int .u8 a2)), (6, (.bool false)), (22, (.bool (!x1))), (7, (.pointer (some ⟨b4, 0, none⟩))), (8, (.pointer (some ⟨b10, 0, none⟩))), (9, (.pointer (some ⟨b11, 0, none⟩))), (10, (.pointer (some ⟨mg15.mb, 0, none⟩))), (31, (.bool false)), (11, (I (W (a0.tmod 4)))), (12, (I x30.1)), (13, (.pointer (some ⟨b37, 0, none⟩))), (51, (.bool a1)), (15, (I x63.2.1)), (16, (.bool x63.2.2.1)), (77, (.bool x))]) (fun x γ w => Post No [cellC b4 ((planC (⟨12, 2, 7, 1, 1, 100⟩ : Plan))).toArray 25, cellC b10 ((seatC (⟨(⟨12, 2, 7, 1, 1, 100⟩ : Plan), 0, 0⟩ : Seat))).toArray 29, cellC b11 ((seatC (⟨(⟨12, 2, 7, 1, 1, 100⟩ : Plan), 0, 1⟩ : Seat))).toArray 29, memK mg15 x63.2.2.2, progK Tryz.prog encRes x51 γ52.1 γ52.2, cellC b37 γ52.1.cells 39] w0 w) hD ?_ ?_
      ·
       rintro y71 RPy71 nxy71 hD
       refine wp_region_lit ?_
       refine seq_val (.bool x63.2.2.1) r (fun R => y_move r rfl) rfl fun fr r => ?_
       refine seq_val (.bool (!x63.2.2.1)) r (fun R => y_un r (u := (.bool x63.2.2.1)) rfl rfl) rfl fun fr r => ?_
       refine seq_val (.bool (!x63.2.2.1)) r (fun R => y_move r rfl) rfl fun fr r => ?_
       refine seq_split (!x63.2.2.1) (fun h72 => ?_) (fun h72 => ?_)
       ·
        have hD := (cond_t h72).symm.trans hD
        refine s0 r h72 fun fr r => ?_
        refine s0 r h72 fun fr r => ?_
        refine seq_val (.bool true) r (fun R => y_pick r (b := true) (congrArg Value.bool h72) rfl) rfl fun fr r => ?_
        refine wn ?_
        exact nxy71 true () _ _ _ hD r (hs_cons rfl (hs_cons rfl (hs_cons rfl (hs_cons rfl (hs_cons rfl (hs_cons rfl (hs_cons rfl (hs_cons rfl (hs_cons rfl (hs_cons rfl (hs_cons rfl (hs_cons rfl (hs_cons rfl (hs_cons rfl (hs_cons rfl (hs_cons rfl (hs_cons rfl hs_nil))))))))))))))))) (hP.pick [0, 1, 2, 3, 4, 5] rfl rfl)
       ·
        have hD := (cond_f h72).symm.trans hD
        refine s1 r h72 ?_
        refine seq_val (I x63.2.1) r (fun R => y_move r rfl) rfl fun fr r => ?_
        refine s1 r h72 ?_
        refine seq_val _ r (fun R => y_bin r rfl rfl rfl rfl) rfl fun fr r => ?_
        refine seq_val (.bool (decide (x63.2.1 > 30))) r (fun R => y_pick r (b := false) (congrArg Value.bool h72) rfl) rfl fun fr r => ?_
        refine wn ?_
        exact nxy71 (decide (x63.2.1 > 30)) () _ _ _ hD r (hs_cons rfl (hs_cons rfl (hs_cons rfl (hs_cons rfl (hs_cons rfl (hs_cons rfl (hs_cons rfl (hs_cons rfl (hs_cons rfl (hs_cons rfl (hs_cons rfl (hs_cons rfl (hs_cons rfl (hs_cons rfl (hs_cons rfl (hs_cons rfl (hs_cons rfl hs_nil))))))))))))))))) (hP.pick [0, 1, 2, 3, 4, 5] rfl rfl)
      ·
       rintro x73 γ74 fr w75 g r hP hD
       have hP : Post No [cellC b4 ((planC (⟨12, 2, 7, 1, 1, 100⟩ : Plan))).toArray 25, cellC b10 ((seatC (⟨(⟨12, 2, 7, 1, 1, 100⟩ : Plan), 0, 0⟩ : Seat))).toArray 29, cellC b11 ((seatC (⟨(⟨12, 2, 7, 1, 1, 100⟩ : Plan), 0, 1⟩ : Seat))).toArray 29, memK mg15 x63.2.2.2, progK Tryz.prog encRes x51 γ52.1 γ52.2, cellC b37 γ52.1.cells 39] w0 w75 := hP
       refine wp_cond_split (t := x73) (r.ev rfl) (fun h76 => ?_) (fun h76 => ?_)
       ·
        have hD := (cond_t h76).symm.trans hD
        refine wsr ?_
        refine seq_val (.bool false) r (fun R => y_assign r rfl) rfl fun fr r => ?_
        refine wn ?_
        refine wp_ret ?_
        have hv : false = res := Option.some.inj hD
        try dsimp only [Exit.then, Exit.inBlock]
        refine ret_tmp (fn := Tryz.f11) r (t := 6) rfl (v := (.bool false)) rfl ?_
        subst hv
        exact ⟨rfl, hP.chg.below⟩
       ·
        have hD := (cond_f h76).symm.trans hD
        refine wp_skip ?_
        refine wp_seq ?_
        refine wsr ?_
        refine seq_val (I 0) r (fun R => y_assign r rfl) rfl fun fr r => ?_
        refine wn ?_
        refine wp_loopG (X := Bool × Int × Mem) (G := Unit) (x0 := (false, 0, x63.2.2.2)) (fun x γ => [(0, (.int .u8 a0)), (1, (.bool a1)), (2, (.int .u8 a2)), (22, (.bool (!x1))), (7, (.pointer (some ⟨b4, 0, none⟩))), (8, (.pointer (some ⟨b10, 0, none⟩))), (9, (.pointer (some ⟨b11, 0, none⟩))), (10, (.pointer (some ⟨mg15.mb, 0, none⟩))), (31, (.bool false)), (11, (I (W (a0.tmod 4)))), (12, (I x30.1)), (13, (.pointer (some ⟨b37, 0, none⟩))), (51, (.bool a1)), (15, (I x63.2.1)), (16, (.bool x63.2.2.1)), (77, (.bool x73)), (6, (.bool x.1)), (17, (I x.2.1))]) (fun x γ w => Post No [cellC b4 ((planC (⟨12, 2, 7, 1, 1, 100⟩ : Plan))).toArray 25, cellC b10 ((seatC (⟨(⟨12, 2, 7, 1, 1, 100⟩ : Plan), 0, 0⟩ : Seat))).toArray 29, cellC b11 ((seatC (⟨(⟨12, 2, 7, 1, 1, 100⟩ : Plan), 0, 1⟩ : Seat))).toArray 29, memK mg15 x.2.2, progK Tryz.prog encRes x51 γ52.1 γ52.2, cellC b37 γ52.1.cells 39] w0 w) () r (hs_cons rfl (hs_cons rfl (hs_cons rfl (hs_cons rfl (hs_cons rfl (hs_cons rfl (hs_cons rfl (hs_cons rfl (hs_cons rfl (hs_cons rfl (hs_cons rfl (hs_cons rfl (hs_cons rfl (hs_cons rfl (hs_cons rfl (hs_cons rfl (hs_cons rfl (hs_cons rfl hs_nil)))))))))))))))))) hP hD ?_ ?_
        ·
         rintro x77 γ78 fr w80 g y79 RPy79 nxy79 bky79 rty79 r hP hD
         have hP : Post No [cellC b4 ((planC (⟨12, 2, 7, 1, 1, 100⟩ : Plan))).toArray 25, cellC b10 ((seatC (⟨(⟨12, 2, 7, 1, 1, 100⟩ : Plan), 0, 0⟩ : Seat))).toArray 29, cellC b11 ((seatC (⟨(⟨12, 2, 7, 1, 1, 100⟩ : Plan), 0, 1⟩ : Seat))).toArray 29, memK mg15 x77.2.2, progK Tryz.prog encRes x51 γ52.1 γ52.2, cellC b37 γ52.1.cells 39] w0 w80 := hP
         refine wp_seq ?_
         refine wsr ?_
         refine seq_val (I x77.2.1) r (fun R => y_move r rfl) rfl fun fr r => ?_
         refine seq_val (I (W (a0.tmod 4))) r (fun R => y_move r rfl) rfl fun fr r => ?_
         refine seq_val _ r (fun R => y_bin r rfl rfl rfl rfl) rfl fun fr r => ?_
         refine seq_val _ r (fun R => y_bin r rfl rfl rfl rfl) rfl fun fr r => ?_
         refine wn ?_
         refine wp_cond_split (t := (decide (x77.2.1 < (W ((W (a0.tmod 4)) + 3))))) (r.ev rfl) (fun h81 => ?_) (fun h81 => ?_)
         ·
          have hD := (cond_t h81).symm.trans hD
          refine wp_skip ?_
          refine wp_seq ?_
          refine wp_block ?_
          refine wsr ?_
          refine seq_val (.agg (seatC (⟨(⟨12, 2, 7, 1, 1, 100⟩ : Plan), 0, 0⟩ : Seat)).toArray) r (fun R => y_load_agg r (cs := (seatC (⟨(⟨12, 2, 7, 1, 1, 100⟩ : Plan), 0, 0⟩ : Seat))) (n := 8) rfl (hP.cell (i := 1) rfl) ta29 rfl) rfl fun fr r => ?_
          refine seq_call r (c_queue_Deq (F := No) (n := fu) (j := fu + 1) (fun _ h => h.elim) (by omega) (⟨(⟨12, 2, 7, 1, 1, 100⟩ : Plan), 0, 0⟩ : Seat) 0) (fun R hc => y_call r rfl cl57 hc) rfl ?_
          rintro _ w82 ⟨v83, rfl, hb, hr84⟩
          refine ⟨_, rfl, fun fr r => ?_⟩
          have hP : Post No [cellC b4 ((planC (⟨12, 2, 7, 1, 1, 100⟩ : Plan))).toArray 25, cellC b10 ((seatC (⟨(⟨12, 2, 7, 1, 1, 100⟩ : Plan), 0, 0⟩ : Seat))).toArray 29, cellC b11 ((seatC (⟨(⟨12, 2, 7, 1, 1, 100⟩ : Plan), 0, 1⟩ : Seat))).toArray 29, memK mg15 x77.2.2, progK Tryz.prog encRes x51 γ52.1 γ52.2, cellC b37 γ52.1.cells 39, progK Tryz.prog encRes (fu, (D.queue_Deq (fu + 1) (⟨(⟨12, 2, 7, 1, 1, 100⟩ : Plan), 0, 0⟩ : Seat) 0)) v83 (rg w80.heap.size w82.heap.size)] w0 w82 := hP.addProg hb hr84
          refine seq_val (.pointer (some ⟨mg15.mb, 0, none⟩)) r (fun R => y_move r rfl) rfl fun fr r => ?_
          refine seq_val (.pointer (some ⟨mg15.mb, 0, none⟩)) r (fun R => y_move r rfl) rfl fun fr r => ?_
          obtain ⟨x86, hx86, hD⟩ := bindD_elim hD
          refine seq_call r (c_mem_Memory_Cap w82 x77.2.2 (hP.mem (i := 3) rfl) 0 hx86) (fun R hc => y_call r rfl cl31 hc) rfl ?_
          rintro _ w87 ⟨rfl, hb⟩
          refine ⟨_, rfl, fun fr r => ?_⟩
          have hP : Post No [cellC b4 ((planC (⟨12, 2, 7, 1, 1, 100⟩ : Plan))).toArray 25, cellC b10 ((seatC (⟨(⟨12, 2, 7, 1, 1, 100⟩ : Plan), 0, 0⟩ : Seat))).toArray 29, cellC b11 ((seatC (⟨(⟨12, 2, 7, 1, 1, 100⟩ : Plan), 0, 1⟩ : Seat))).toArray 29, memK mg15 x77.2.2, progK Tryz.prog encRes x51 γ52.1 γ52.2, cellC b37 γ52.1.cells 39, progK Tryz.prog encRes (fu, (D.queue_Deq (fu + 1) (⟨(⟨12, 2, 7, 1, 1, 100⟩ : Plan), 0, 0⟩ : Seat) 0)) v83 (rg w80.heap.size w82.heap.size)] w0 w87 := hP.below hb
          obtain ⟨x88, hx88, hD⟩ := bindD_elim hD
          refine seq_call r (c_prog_Run_Res w87 (fu, (D.queue_Deq (fu + 1) (⟨(⟨12, 2, 7, 1, 1, 100⟩ : Plan), 0, 0⟩ : Seat) 0)) x77.2.2 x86 600 (hP.sep.pk [6, 3] rfl rfl) hx88) (fun R hc => y_call r rfl cl29 hc) rfl ?_
          rintro _ w89 ⟨rfl, hq⟩
          refine ⟨_, rfl, fun fr r => ?_⟩
          have hP : Post No [cellC b4 ((planC (⟨12, 2, 7, 1, 1, 100⟩ : Plan))).toArray 25, cellC b10 ((seatC (⟨(⟨12, 2, 7, 1, 1, 100⟩ : Plan), 0, 0⟩ : Seat))).toArray 29, cellC b11 ((seatC (⟨(⟨12, 2, 7, 1, 1, 100⟩ : Plan), 0, 1⟩ : Seat))).toArray 29, memK mg15 x88.2.2.2, progK Tryz.prog encRes x51 γ52.1 γ52.2, cellC b37 γ52.1.cells 39, progK Tryz.prog encRes (fu, (D.queue_Deq (fu + 1) (⟨(⟨12, 2, 7, 1, 1, 100⟩ : Plan), 0, 0⟩ : Seat) 0)) v83 (rg w80.heap.size w82.heap.size)] w0 w89 := hP.setN (i := 3) rfl hq
          refine seq_val (.tuple #[(.agg (resC x88.1).toArray), (I x88.2.1), (.bool x88.2.2.1)]) r (fun R => y_move r rfl) rfl fun fr r => ?_
          refine seq_val (.agg (resC x88.1).toArray) r (fun R => y_extract r (vs := #[(.agg (resC x88.1).toArray), (I x88.2.1), (.bool x88.2.2.1)]) rfl rfl) rfl fun fr r => ?_
          refine seq_val (I x88.2.1) r (fun R => y_extract r (vs := #[(.agg (resC x88.1).toArray), (I x88.2.1), (.bool x88.2.2.1)]) rfl rfl) rfl fun fr r => ?_
          refine seq_val (.bool x88.2.2.1) r (fun R => y_extract r (vs := #[(.agg (resC x88.1).toArray), (I x88.2.1), (.bool x88.2.2.1)]) rfl rfl) rfl fun fr r => ?_
          refine seq_new (.cells ((resC (⟨0, 0⟩ : Res))).toArray 32 (0, 0)) r (fun R => y_alloc tz32) rfl fun fr b90 w91 n92 r => ?_
          have hP : Post No [cellC b4 ((planC (⟨12, 2, 7, 1, 1, 100⟩ : Plan))).toArray 25, cellC b10 ((seatC (⟨(⟨12, 2, 7, 1, 1, 100⟩ : Plan), 0, 0⟩ : Seat))).toArray 29, cellC b11 ((seatC (⟨(⟨12, 2, 7, 1, 1, 100⟩ : Plan), 0, 1⟩ : Seat))).toArray 29, memK mg15 x88.2.2.2, progK Tryz.prog encRes x51 γ52.1 γ52.2, cellC b37 γ52.1.cells 39, progK Tryz.prog encRes (fu, (D.queue_Deq (fu + 1) (⟨(⟨12, 2, 7, 1, 1, 100⟩ : Plan), 0, 0⟩ : Seat) 0)) v83 (rg w80.heap.size w82.heap.size), cellC b90 ((resC (⟨0, 0⟩ : Res))).toArray 32] w0 w91 := hP.new n92
          refine seq_upd (.cells ((resC x88.1)).toArray 32 (0, 0)) r (fun R => y_store r (o := 0) (v := (.agg (resC x88.1).toArray)) rfl rfl (hP.cell (i := 7) rfl) ts32 (Nat.le_of_ble_eq_true rfl) rfl rfl) rfl fun fr w94 u95 r => ?_
          have hP : Post No [cellC b4 ((planC (⟨12, 2, 7, 1, 1, 100⟩ : Plan))).toArray 25, cellC b10 ((seatC (⟨(⟨12, 2, 7, 1, 1, 100⟩ : Plan), 0, 0⟩ : Seat))).toArray 29, cellC b11 ((seatC (⟨(⟨12, 2, 7, 1, 1, 100⟩ : Plan), 0, 1⟩ : Seat))).toArray 29, memK mg15 x88.2.2.2, progK Tryz.prog encRes x51 γ52.1 γ52.2, cellC b37 γ52.1.cells 39, progK Tryz.prog encRes (fu, (D.queue_Deq (fu + 1) (⟨(⟨12, 2, 7, 1, 1, 100⟩ : Plan), 0, 0⟩ : Seat) 0)) v83 (rg w80.heap.size w82.heap.size), cellC b90 ((resC x88.1)).toArray 32] w0 w94 := hP.upd (i := 7) rfl u95
          refine seq_val (I x88.2.1) r (fun R => y_assign r rfl) rfl fun fr r => ?_
          refine seq_val (.bool x88.2.2.1) r (fun R => y_assign r rfl) rfl fun fr r => ?_
          refine wn ?_
          refine wp_seq ?_
          refine wp_seq ?_
          have hP : Post No [cellC b4 ((planC (⟨12, 2, 7, 1, 1, 100⟩ : Plan))).toArray 25, cellC b10 ((seatC (⟨(⟨12, 2, 7, 1, 1, 100⟩ : Plan), 0, 0⟩ : Seat))).toArray 29, cellC b11 ((seatC (⟨(⟨12, 2, 7, 1, 1, 100⟩ : Plan), 0, 1⟩ : Seat))).toArray 29, memK mg15 x88.2.2.2, progK Tryz.prog encRes x51 γ52.1 γ52.2, cellC b37 γ52.1.cells 39, cellC b90 ((resC x88.1)).toArray 32] w0 w94 := hP.pick [0, 1, 2, 3, 4, 5, 7] rfl rfl
          refine wp_joinG (N := 113) (Y := Bool) (G := Unit) (fun x γ => [(0, (.int .u8 a0)), (1, (.bool a1)), (2, (.int .u8 a2)), (22, (.bool (!x1))), (7, (.pointer (some ⟨b4, 0, none⟩))), (8, (.pointer (some ⟨b10, 0, none⟩))), (9, (.pointer (some ⟨b11, 0, none⟩))), (10, (.pointer (some ⟨mg15.mb, 0, none⟩))), (31, (.bool false)), (11, (I (W (a0.tmod 4)))), (12, (I x30.1)), (13, (.pointer (some ⟨b37, 0, none⟩))), (51, (.bool a1)), (15, (I x63.2.1)), (16, (.bool x63.2.2.1)), (77, (.bool x73)), (6, (.bool x77.1)), (17, (I x77.2.1)), (81, (.bool (decide (x77.2.1 < (W ((W (a0.tmod 4)) + 3)))))), (18, (.pointer (some ⟨b90, 0, none⟩))), (20, (.bool x88.2.2.1)), (105, (.bool x))]) (fun x γ w => Post No [cellC b4 ((planC (⟨12, 2, 7, 1, 1, 100⟩ : Plan))).toArray 25, cellC b10 ((seatC (⟨(⟨12, 2, 7, 1, 1, 100⟩ : Plan), 0, 0⟩ : Seat))).toArray 29, cellC b11 ((seatC (⟨(⟨12, 2, 7, 1, 1, 100⟩ : Plan), 0, 1⟩ : Seat))).toArray 29, memK mg15 x88.2.2.2, progK Tryz.prog encRes x51 γ52.1 γ52.2, cellC b37 γ52.1.cells 39, cellC b90 ((resC x88.1)).toArray 32] w0 w) hD ?_ ?_
          ·
           rintro y96 RPy96 nxy96 hD
           refine wp_region_lit ?_
           refine seq_val (.bool x88.2.2.1) r (fun R => y_move r rfl) rfl fun fr r => ?_
           refine seq_val (.bool (!x88.2.2.1)) r (fun R => y_un r (u := (.bool x88.2.2.1)) rfl rfl) rfl fun fr r => ?_
           refine seq_val (.bool (!x88.2.2.1)) r (fun R => y_move r rfl) rfl fun fr r => ?_
           refine seq_split (!x88.2.2.1) (fun h97 => ?_) (fun h97 => ?_)
           ·
            have hD := (cond_t h97).symm.trans hD
            refine s0 r h97 fun fr r => ?_
            refine s0 r h97 fun fr r => ?_
            refine s0 r h97 fun fr r => ?_
            refine s0 r h97 fun fr r => ?_
            refine seq_skip r rfl rfl rfl (v := undef) rfl (by simp [boolOf, undef]) fun fr r => ?_
            refine seq_skip r rfl rfl rfl (v := undef) rfl (by simp [boolOf, undef]) fun fr r => ?_
            refine seq_skip r rfl rfl rfl (v := undef) rfl (by simp [boolOf, undef]) fun fr r => ?_
            refine s0 r h97 fun fr r => ?_
            refine seq_val (.bool true) r (fun R => y_pick r (b := true) (congrArg Value.bool h97) rfl) rfl fun fr r => ?_
            refine wn ?_
            exact nxy96 true () _ _ _ hD r (hs_cons rfl (hs_cons rfl (hs_cons rfl (hs_cons rfl (hs_cons rfl (hs_cons rfl (hs_cons rfl (hs_cons rfl (hs_cons rfl (hs_cons rfl (hs_cons rfl (hs_cons rfl (hs_cons rfl (hs_cons rfl (hs_cons rfl (hs_cons rfl (hs_cons rfl (hs_cons rfl (hs_cons rfl (hs_cons rfl (hs_cons rfl (hs_cons rfl hs_nil)))))))))))))))))))))) (hP.pick [0, 1, 2, 3, 4, 5, 6] rfl rfl)
           ·
            have hD := (cond_f h97).symm.trans hD
            refine s1 r h97 ?_
            refine seq_val _ r (fun R => y_fieldAddr r (o := 0) rfl fo32_0) rfl fun fr r => ?_
            refine s1 r h97 ?_
            refine seq_val (I x88.1.e) r (fun R => y_load_one r rfl (hP.cell (i := 6) rfl) to30 rfl) rfl fun fr r => ?_
            refine s1 r h97 ?_
            refine seq_val _ r (fun R => y_bin r rfl rfl rfl rfl) rfl fun fr r => ?_
            refine s1 r h97 ?_
            refine seq_val (.bool (x88.1.e != 0)) r (fun R => y_move r rfl) rfl fun fr r => ?_
            refine seq_split (x88.1.e != 0) (fun h98 => ?_) (fun h98 => ?_)
            ·
             have hD := (cond_t h98).symm.trans hD
             refine s1 r h98 ?_
             refine seq_val _ r (fun R => y_fieldAddr r (o := 0) rfl fo32_0) rfl fun fr r => ?_
             refine s1 r h98 ?_
             refine seq_val (I x88.1.e) r (fun R => y_load_one r rfl (hP.cell (i := 6) rfl) to30 rfl) rfl fun fr r => ?_
             refine s1 r h98 ?_
             refine seq_val _ r (fun R => y_bin r rfl rfl rfl rfl) rfl fun fr r => ?_
             refine s1 r h97 ?_
             refine seq_val (.bool (x88.1.e != 6)) r (fun R => y_pick r (b := true) (congrArg Value.bool h98) rfl) rfl fun fr r => ?_
             refine seq_val (.bool (x88.1.e != 6)) r (fun R => y_pick r (b := false) (congrArg Value.bool h97) rfl) rfl fun fr r => ?_
             refine wn ?_
             exact nxy96 (x88.1.e != 6) () _ _ _ hD r (hs_cons rfl (hs_cons rfl (hs_cons rfl (hs_cons rfl (hs_cons rfl (hs_cons rfl (hs_cons rfl (hs_cons rfl (hs_cons rfl (hs_cons rfl (hs_cons rfl (hs_cons rfl (hs_cons rfl (hs_cons rfl (hs_cons rfl (hs_cons rfl (hs_cons rfl (hs_cons rfl (hs_cons rfl (hs_cons rfl (hs_cons rfl (hs_cons rfl hs_nil)))))))))))))))))))))) (hP.pick [0, 1, 2, 3, 4, 5, 6] rfl rfl)
            ·
             have hD := (cond_f h98).symm.trans hD
             refine s0 r h98 fun fr r => ?_
             refine s0 r h98 fun fr r => ?_
             refine s0 r h98 fun fr r => ?_
             refine s1 r h97 ?_
             refine seq_val (.bool false) r (fun R => y_pick r (b := false) (congrArg Value.bool h98) rfl) rfl fun fr r => ?_
             refine seq_val (.bool false) r (fun R => y_pick r (b := false) (congrArg Value.bool h97) rfl) rfl fun fr r => ?_
             refine wn ?_
             exact nxy96 false () _ _ _ hD r (hs_cons rfl (hs_cons rfl (hs_cons rfl (hs_cons rfl (hs_cons rfl (hs_cons rfl (hs_cons rfl (hs_cons rfl (hs_cons rfl (hs_cons rfl (hs_cons rfl (hs_cons rfl (hs_cons rfl (hs_cons rfl (hs_cons rfl (hs_cons rfl (hs_cons rfl (hs_cons rfl (hs_cons rfl (hs_cons rfl (hs_cons rfl (hs_cons rfl hs_nil)))))))))))))))))))))) (hP.pick [0, 1, 2, 3, 4, 5, 6] rfl rfl)
          ·
           rintro x99 γ100 fr w101 g r hP hD
           have hP : Post No [cellC b4 ((planC (⟨12, 2, 7, 1, 1, 100⟩ : Plan))).toArray 25, cellC b10 ((seatC (⟨(⟨12, 2, 7, 1, 1, 100⟩ : Plan), 0, 0⟩ : Seat))).toArray 29, cellC b11 ((seatC (⟨(⟨12, 2, 7, 1, 1, 100⟩ : Plan), 0, 1⟩ : Seat))).toArray 29, memK mg15 x88.2.2.2, progK Tryz.prog encRes x51 γ52.1 γ52.2, cellC b37 γ52.1.cells 39, cellC b90 ((resC x88.1)).toArray 32] w0 w101 := hP
           refine wp_cond_split (t := x99) (r.ev rfl) (fun h102 => ?_) (fun h102 => ?_)
           ·
            have hD := (cond_t h102).symm.trans hD
            refine wsr ?_
            refine seq_val (.bool false) r (fun R => y_assign r rfl) rfl fun fr r => ?_
            refine wn ?_
            refine wp_ret ?_
            refine rty79 false _ _ hD fun hD => ?_
            have hv : false = res := Option.some.inj hD
            try dsimp only [Exit.then, Exit.inBlock]
            refine ret_tmp (fn := Tryz.f11) r (t := 6) rfl (v := (.bool false)) rfl ?_
            subst hv
            exact ⟨rfl, hP.chg.below⟩
           ·
            have hD := (cond_f h102).symm.trans hD
            refine wp_skip ?_
            refine wsr ?_
            refine seq_val _ r (fun R => y_fieldAddr r (o := 0) rfl fo32_1) rfl fun fr r => ?_
            refine seq_val (U x88.1.v) r (fun R => y_load_one r rfl (hP.cell (i := 6) rfl) to22 rfl) rfl fun fr r => ?_
            refine seq_val _ r (fun R => y_bin r rfl rfl rfl rfl) rfl fun fr r => ?_
            refine wn ?_
            refine wp_cond_split (t := (x88.1.v == 77)) (r.ev rfl) (fun h103 => ?_) (fun h103 => ?_)
            ·
             have hD := (cond_t h103).symm.trans hD
             refine wsr ?_
             refine seq_val (I x77.2.1) r (fun R => y_move r rfl) rfl fun fr r => ?_
             refine seq_val (I (W (a0.tmod 4))) r (fun R => y_move r rfl) rfl fun fr r => ?_
             refine seq_val _ r (fun R => y_bin r rfl rfl rfl rfl) rfl fun fr r => ?_
             refine seq_val _ r (fun R => y_bin r rfl rfl rfl rfl) rfl fun fr r => ?_
             refine seq_val (.bool (decide (x77.2.1 ≥ (W ((W (a0.tmod 4)) - 1))))) r (fun R => y_assign r rfl) rfl fun fr r => ?_
             refine wn ?_
             refine wp_ret ?_
             refine rty79 (decide (x77.2.1 ≥ (W ((W (a0.tmod 4)) - 1)))) _ _ hD fun hD => ?_
             have hv : (decide (x77.2.1 ≥ (W ((W (a0.tmod 4)) - 1)))) = res := Option.some.inj hD
             try dsimp only [Exit.then, Exit.inBlock]
             refine ret_tmp (fn := Tryz.f11) r (t := 6) rfl (v := (.bool (decide (x77.2.1 ≥ (W ((W (a0.tmod 4)) - 1)))))) rfl ?_
             subst hv
             exact ⟨rfl, hP.chg.below⟩
            ·
             have hD := (cond_f h103).symm.trans hD
             refine wp_skip ?_
             refine wp_region_lit ?_
             refine seq_val (I x77.2.1) r (fun R => y_move r rfl) rfl fun fr r => ?_
             refine seq_val _ r (fun R => y_bin r rfl rfl rfl rfl) rfl fun fr r => ?_
             refine seq_val (I (W (x77.2.1 + 1))) r (fun R => y_assign r rfl) rfl fun fr r => ?_
             refine wn ?_
             exact nxy79 (x77.1, (W (x77.2.1 + 1)), x88.2.2.2) () _ _ _ hD r (hs_cons rfl (hs_cons rfl (hs_cons rfl (hs_cons rfl (hs_cons rfl (hs_cons rfl (hs_cons rfl (hs_cons rfl (hs_cons rfl (hs_cons rfl (hs_cons rfl (hs_cons rfl (hs_cons rfl (hs_cons rfl (hs_cons rfl (hs_cons rfl (hs_cons rfl (hs_cons rfl hs_nil)))))))))))))))))) (hP.pick [0, 1, 2, 3, 4, 5] rfl rfl)
         ·
          have hD := (cond_f h81).symm.trans hD
          refine wp_exit ?_
          exact bky79 (x77.1, x77.2.1, x77.2.2) () _ _ _ hD r (hs_cons rfl (hs_cons rfl (hs_cons rfl (hs_cons rfl (hs_cons rfl (hs_cons rfl (hs_cons rfl (hs_cons rfl (hs_cons rfl (hs_cons rfl (hs_cons rfl (hs_cons rfl (hs_cons rfl (hs_cons rfl (hs_cons rfl (hs_cons rfl (hs_cons rfl (hs_cons rfl hs_nil)))))))))))))))))) (hP.pick [0, 1, 2, 3, 4, 5] rfl rfl)
        ·
         rintro x104 γ105 fr w106 g r hP hD
         have hP : Post No [cellC b4 ((planC (⟨12, 2, 7, 1, 1, 100⟩ : Plan))).toArray 25, cellC b10 ((seatC (⟨(⟨12, 2, 7, 1, 1, 100⟩ : Plan), 0, 0⟩ : Seat))).toArray 29, cellC b11 ((seatC (⟨(⟨12, 2, 7, 1, 1, 100⟩ : Plan), 0, 1⟩ : Seat))).toArray 29, memK mg15 x104.2.2, progK Tryz.prog encRes x51 γ52.1 γ52.2, cellC b37 γ52.1.cells 39] w0 w106 := hP
         refine wsr ?_
         refine seq_val (.bool false) r (fun R => y_assign r rfl) rfl fun fr r => ?_
         refine wn ?_
         refine wp_ret ?_
         have hv : false = res := Option.some.inj hD
         try dsimp only [Exit.then, Exit.inBlock]
         refine ret_tmp (fn := Tryz.f11) r (t := 6) rfl (v := (.bool false)) rfl ?_
         subst hv
         exact ⟨rfl, hP.chg.below⟩

end Go.Proofs.YtjkinpbfmihhdaaGreat.Wk

/- QueueStalls: what the walk found answers as the law says: all its inputs, evaluated. -/
set_option linter.unusedVariables false
namespace Go.Proofs.YtjkinpbfmihhdaaGreat
open Go.RowKit
def qsAll (put : Bool) (n : Int) : Bool := (List.range 16).all fun s => Wk.D.cubiclelaw14_QueueStalls 700 n put (s : Int) == some true

theorem qs00 : qsAll false 0 = true := by decide +kernel

theorem qs01 : qsAll false 1 = true := by decide +kernel

theorem qs02 : qsAll false 2 = true := by decide +kernel

theorem qs03 : qsAll false 3 = true := by decide +kernel

theorem qs10 : qsAll true 0 = true := by decide +kernel

theorem qs11 : qsAll true 1 = true := by decide +kernel

theorem qs12 : qsAll true 2 = true := by decide +kernel

theorem qs13 : qsAll true 3 = true := by decide +kernel

theorem qsAt {put : Bool} {n : Int} (h : qsAll put n = true) {s : Int} (h0 : 0 ≤ s) (h1 : s < 16) : Wk.D.cubiclelaw14_QueueStalls 700 n put s = some true := by
  have := List.all_eq_true.1 h s.toNat (List.mem_range.2 (by omega))
  rw [show ((s.toNat : Nat) : Int) = s from by omega] at this
  simpa using this

theorem pure_QueueStalls (n : Int) (put : Bool) (stop : Int) (hn : 0 ≤ n ∧ n ≤ 255) (hs : 0 ≤ stop ∧ stop ≤ 255) : ∃ fu, Wk.D.cubiclelaw14_QueueStalls fu n put stop = some true := by
  refine ⟨700, ?_⟩
  have e1 : n.tmod 4 = (n % 4).tmod 4 := by rw [Int.tmod_eq_emod_of_nonneg hn.1, Int.tmod_eq_emod_of_nonneg (by omega)]; omega
  have e2 : stop.tmod 16 = (stop % 16).tmod 16 := by rw [Int.tmod_eq_emod_of_nonneg hs.1, Int.tmod_eq_emod_of_nonneg (by omega)]; omega
  have key : Wk.D.cubiclelaw14_QueueStalls 700 n put stop = Wk.D.cubiclelaw14_QueueStalls 700 (n % 4) put (stop % 16) := by
    unfold Wk.D.cubiclelaw14_QueueStalls
    rw [e1, e2]
  rw [key]
  have h0 : 0 ≤ stop % 16 := by omega
  have h1 : stop % 16 < 16 := by omega
  rcases (show n % 4 = 0 ∨ n % 4 = 1 ∨ n % 4 = 2 ∨ n % 4 = 3 by omega) with e | e | e | e <;> rw [e] <;> cases put
  · exact qsAt qs00 h0 h1
  · exact qsAt qs10 h0 h1
  · exact qsAt qs01 h0 h1
  · exact qsAt qs11 h0 h1
  · exact qsAt qs02 h0 h1
  · exact qsAt qs12 h0 h1
  · exact qsAt qs03 h0 h1
  · exact qsAt qs13 h0 h1

end Go.Proofs.YtjkinpbfmihhdaaGreat

/- A law's row from what its walk hands back: arguments opened. -/
namespace Go.Proofs.YtjkinpbfmihhdaaGreat
open Go.ChangeShapes Go.WideShapes Go.RowKit Go.Deep Go.ChangeAt
section
variable {H : Type} {enc : TypeId × Value → H} {P : Program} {w : World} {base : Nat} {spare : Nat → Bool} {held : Bool}
end
theorem laidOut : laidOutB Tryz.prog = true := by kernel_rfl

end Go.Proofs.YtjkinpbfmihhdaaGreat

/- The program's order of start: its words, told once. -/
namespace Go.Proofs.YtjkinpbfmihhdaaGreat
open Go.ChangeShapes Go.WideShapes Go.ChangeAt Go.RowKit
def ioN : List Nat := [104, 97, 114, 110, 101, 115, 115, 32, 54, 98, 100, 53, 55, 52, 57, 55, 57, 102, 48, 50, 53, 98, 54, 54, 98, 99, 99, 51, 55, 98, 48, 57, 99, 51, 53, 101, 56, 53, 49, 100, 100, 102, 54, 101, 99, 57, 48, 98, 101, 48, 53, 49, 49, 98, 100, 55, 100, 48, 101, 52, 101, 97, 57, 57, 56, 49, 57, 57, 102, 57, 102, 50, 32, 99, 117, 116, 32, 97, 116, 32, 99, 117, 98, 105, 99, 108, 101, 47, 99, 117, 98, 105, 99, 108, 101, 108, 97, 119, 49, 51, 46, 67, 104, 101, 99, 107, 84, 119, 111, 32, 99, 117, 98, 105, 99, 108, 101, 47, 99, 117, 98, 105, 99, 108, 101, 108, 97, 119, 49, 51, 46, 67, 104, 101, 99, 107, 70, 114, 101, 115, 104, 32, 99, 117, 98, 105, 99, 108, 101, 47, 99, 117, 98, 105, 99, 108, 101, 108, 97, 119, 49, 51, 46, 67, 104, 101, 99, 107, 71, 117, 97, 114, 100, 101, 100, 32, 99, 117, 98, 105, 99, 108, 101, 47, 99, 117, 98, 105, 99, 108, 101, 108, 97, 119, 49, 51, 46, 67, 104, 101, 99, 107, 82, 97, 99, 101, 32, 99, 117, 98, 105, 99, 108, 101, 47, 99, 117, 98, 105, 99, 108, 101, 108, 97, 119, 49, 51, 46, 67, 104, 101, 99, 107, 70, 111, 114, 101, 105, 103, 110, 32, 99, 117, 98, 105, 99, 108, 101, 47, 99, 117, 98, 105, 99, 108, 101, 108, 97, 119, 49, 51, 46, 67, 104, 101, 99, 107, 65, 108, 111, 110, 101, 32, 99, 117, 98, 105, 99, 108, 101, 47, 99, 117, 98, 105, 99, 108, 101, 108, 97, 119, 49, 51, 46, 67, 104, 101, 99, 107, 67, 108, 101, 97, 114, 115, 32, 99, 117, 98, 105, 99, 108, 101, 47, 99, 117, 98, 105, 99, 108, 101, 108, 97, 119, 49, 52, 46, 81, 117, 101, 117, 101, 65, 108, 111, 110, 101, 32, 99, 117, 98, 105, 99, 108, 101, 47, 99, 117, 98, 105, 99, 108, 101, 108, 97, 119, 49, 52, 46, 81, 117, 101, 117, 101, 83, 116, 97, 108, 108, 115, 32, 99, 117, 98, 105, 99, 108, 101, 47, 99, 117, 98, 105, 99, 108, 101, 108, 97, 119, 49, 52, 46, 81, 117, 101, 117, 101, 79, 114, 100, 101, 114, 32, 99, 117, 98, 105, 99, 108, 101, 47, 99, 117, 98, 105, 99, 108, 101, 108, 97, 119, 49, 52, 46, 81, 117, 101, 117, 101, 82, 97, 99, 101, 32, 99, 117, 98, 105, 99, 108, 101, 47, 99, 117, 98, 105, 99, 108, 101, 108, 97, 119, 49, 52, 46, 81, 117, 101, 117, 101, 77, 97, 110, 121, 32, 99, 117, 98, 105, 99, 108, 101, 47, 99, 117, 98, 105, 99, 108, 101, 108, 97, 119, 49, 52, 46, 81, 117, 101, 117, 101, 78, 111, 100, 101, 115, 32, 99, 117, 98, 105, 99, 108, 101, 47, 99, 117, 98, 105, 99, 108, 101, 108, 97, 119, 49, 53, 46, 76, 105, 115, 116, 75, 101, 121, 115, 32, 99, 117, 98, 105, 99, 108, 101, 47, 99, 117, 98, 105, 99, 108, 101, 108, 97, 119, 49, 53, 46, 76, 105, 115, 116, 82, 97, 99, 101, 32, 99, 117, 98, 105, 99, 108, 101, 47, 99, 117, 98, 105, 99, 108, 101, 108, 97, 119, 49, 53, 46, 76, 105, 115, 116, 65, 108, 111, 110, 101, 32, 99, 117, 98, 105, 99, 108, 101, 47, 99, 117, 98, 105, 99, 108, 101, 108, 97, 119, 49, 53, 46, 76, 105, 115, 116, 83, 116, 97, 108, 108, 115, 32, 99, 117, 98, 105, 99, 108, 101, 47, 99, 117, 98, 105, 99, 108, 101, 108, 97, 119, 49, 53, 46, 76, 105, 115, 116, 77, 97, 110, 121, 32, 99, 117, 98, 105, 99, 108, 101, 47, 99, 117, 98, 105, 99, 108, 101, 108, 97, 119, 49, 53, 46, 76, 105, 115, 116, 78, 111, 100, 101, 115, 32, 99, 117, 98, 105, 99, 108, 101, 47, 99, 117, 98, 105, 99, 108, 101, 108, 97, 119, 49, 50, 46, 65, 108, 108, 111, 99, 65, 108, 111, 110, 101, 32, 99, 117, 98, 105, 99, 108, 101, 47, 99, 117, 98, 105, 99, 108, 101, 108, 97, 119, 49, 55, 46, 68, 111, 109, 97, 105, 110, 70, 117, 108, 108, 32, 99, 117, 98, 105, 99, 108, 101, 47, 99, 117, 98, 105, 99, 108, 101, 108, 97, 119, 49, 55, 46, 68, 111, 109, 97, 105, 110, 82, 97, 99, 101, 32, 99, 117, 98, 105, 99, 108, 101, 47, 99, 117, 98, 105, 99, 108, 101, 108, 97, 119, 49, 55, 46, 68, 111, 109, 97, 105, 110, 79, 100, 100, 32, 99, 117, 98, 105, 99, 108, 101, 47, 99, 117, 98, 105, 99, 108, 101, 108, 97, 119, 49, 54, 46, 68, 105, 99, 116, 67, 101, 108, 108, 115]

theorem io1 : Tryz.prog.initOrder = String.ofList (ioN.map Char.ofNat) := by kernel_rfl

theorem io2 : Tryz.prog.initOrder.toList = ioN.map Char.ofNat := by rw [io1, String.toList_ofList]

theorem io3 : behindMainWord (wordsSigns Tryz.prog.initOrder.toList) = (([99, 117, 116] : List Nat).map Char.ofNat) :: ([[97, 116], [99, 117, 98, 105, 99, 108, 101, 47, 99, 117, 98, 105, 99, 108, 101, 108, 97, 119, 49, 51, 46, 67, 104, 101, 99, 107, 84, 119, 111], [99, 117, 98, 105, 99, 108, 101, 47, 99, 117, 98, 105, 99, 108, 101, 108, 97, 119, 49, 51, 46, 67, 104, 101, 99, 107, 70, 114, 101, 115, 104], [99, 117, 98, 105, 99, 108, 101, 47, 99, 117, 98, 105, 99, 108, 101, 108, 97, 119, 49, 51, 46, 67, 104, 101, 99, 107, 71, 117, 97, 114, 100, 101, 100], [99, 117, 98, 105, 99, 108, 101, 47, 99, 117, 98, 105, 99, 108, 101, 108, 97, 119, 49, 51, 46, 67, 104, 101, 99, 107, 82, 97, 99, 101], [99, 117, 98, 105, 99, 108, 101, 47, 99, 117, 98, 105, 99, 108, 101, 108, 97, 119, 49, 51, 46, 67, 104, 101, 99, 107, 70, 111, 114, 101, 105, 103, 110], [99, 117, 98, 105, 99, 108, 101, 47, 99, 117, 98, 105, 99, 108, 101, 108, 97, 119, 49, 51, 46, 67, 104, 101, 99, 107, 65, 108, 111, 110, 101], [99, 117, 98, 105, 99, 108, 101, 47, 99, 117, 98, 105, 99, 108, 101, 108, 97, 119, 49, 51, 46, 67, 104, 101, 99, 107, 67, 108, 101, 97, 114, 115], [99, 117, 98, 105, 99, 108, 101, 47, 99, 117, 98, 105, 99, 108, 101, 108, 97, 119, 49, 52, 46, 81, 117, 101, 117, 101, 65, 108, 111, 110, 101], [99, 117, 98, 105, 99, 108, 101, 47, 99, 117, 98, 105, 99, 108, 101, 108, 97, 119, 49, 52, 46, 81, 117, 101, 117, 101, 83, 116, 97, 108, 108, 115], [99, 117, 98, 105, 99, 108, 101, 47, 99, 117, 98, 105, 99, 108, 101, 108, 97, 119, 49, 52, 46, 81, 117, 101, 117, 101, 79, 114, 100, 101, 114], [99, 117, 98, 105, 99, 108, 101, 47, 99, 117, 98, 105, 99, 108, 101, 108, 97, 119, 49, 52, 46, 81, 117, 101, 117, 101, 82, 97, 99, 101], [99, 117, 98, 105, 99, 108, 101, 47, 99, 117, 98, 105, 99, 108, 101, 108, 97, 119, 49, 52, 46, 81, 117, 101, 117, 101, 77, 97, 110, 121], [99, 117, 98, 105, 99, 108, 101, 47, 99, 117, 98, 105, 99, 108, 101, 108, 97, 119, 49, 52, 46, 81, 117, 101, 117, 101, 78, 111, 100, 101, 115], [99, 117, 98, 105, 99, 108, 101, 47, 99, 117, 98, 105, 99, 108, 101, 108, 97, 119, 49, 53, 46, 76, 105, 115, 116, 75, 101, 121, 115], [99, 117, 98, 105, 99, 108, 101, 47, 99, 117, 98, 105, 99, 108, 101, 108, 97, 119, 49, 53, 46, 76, 105, 115, 116, 82, 97, 99, 101], [99, 117, 98, 105, 99, 108, 101, 47, 99, 117, 98, 105, 99, 108, 101, 108, 97, 119, 49, 53, 46, 76, 105, 115, 116, 65, 108, 111, 110, 101], [99, 117, 98, 105, 99, 108, 101, 47, 99, 117, 98, 105, 99, 108, 101, 108, 97, 119, 49, 53, 46, 76, 105, 115, 116, 83, 116, 97, 108, 108, 115], [99, 117, 98, 105, 99, 108, 101, 47, 99, 117, 98, 105, 99, 108, 101, 108, 97, 119, 49, 53, 46, 76, 105, 115, 116, 77, 97, 110, 121], [99, 117, 98, 105, 99, 108, 101, 47, 99, 117, 98, 105, 99, 108, 101, 108, 97, 119, 49, 53, 46, 76, 105, 115, 116, 78, 111, 100, 101, 115], [99, 117, 98, 105, 99, 108, 101, 47, 99, 117, 98, 105, 99, 108, 101, 108, 97, 119, 49, 50, 46, 65, 108, 108, 111, 99, 65, 108, 111, 110, 101], [99, 117, 98, 105, 99, 108, 101, 47, 99, 117, 98, 105, 99, 108, 101, 108, 97, 119, 49, 55, 46, 68, 111, 109, 97, 105, 110, 70, 117, 108, 108], [99, 117, 98, 105, 99, 108, 101, 47, 99, 117, 98, 105, 99, 108, 101, 108, 97, 119, 49, 55, 46, 68, 111, 109, 97, 105, 110, 82, 97, 99, 101], [99, 117, 98, 105, 99, 108, 101, 47, 99, 117, 98, 105, 99, 108, 101, 108, 97, 119, 49, 55, 46, 68, 111, 109, 97, 105, 110, 79, 100, 100], [99, 117, 98, 105, 99, 108, 101, 47, 99, 117, 98, 105, 99, 108, 101, 108, 97, 119, 49, 54, 46, 68, 105, 99, 116, 67, 101, 108, 108, 115]] : List (List Nat)).map (List.map Char.ofNat) := by rw [io2]; kernel_rfl

theorem stripG (r : List (List Char)) : stripLifts liftWords (([99, 117, 116].map Char.ofNat) :: r) = ([], ([99, 117, 116].map Char.ofNat) :: r) := by rfl

theorem makeG {P : Program} {r : List (List Char)} (h : behindMainWord (wordsSigns P.initOrder.toList) = ([99, 117, 116].map Char.ofNat) :: r) : P.make = some .cut := by
  unfold Program.make
  rw [h]
  rfl

theorem liftsG {P : Program} {r : List (List Char)} (h : behindMainWord (wordsSigns P.initOrder.toList) = ([99, 117, 116].map Char.ofNat) :: r) : P.liftsFinal = false := by
  unfold Program.liftsFinal Program.headLifts
  rw [h, stripG]
  rfl

theorem enterG {P : Program} {r : List (List Char)} (h : behindMainWord (wordsSigns P.initOrder.toList) = ([99, 117, 116].map Char.ofNat) :: r) (h1 : P.laysLater = false) (h2 : P.bearsReflect = false) (h3 : P.doorFits [] = true) : P.mayEnter = true := by
  unfold Program.mayEnter
  rw [h]
  simp only [stripG, h1, h2, h3]
  rfl

theorem e1 : Tryz.prog.laysLater = false := by kernel_rfl

theorem e2 : Tryz.prog.bearsReflect = false := by kernel_rfl

theorem e3 : Tryz.prog.doorFits [] = true := by kernel_rfl

theorem io_make : Tryz.prog.make = some .cut := makeG io3

theorem io_lifts : Tryz.prog.liftsFinal = false := liftsG io3

theorem io_enter : Tryz.prog.mayEnter = true := enterG io3 e1 e2 e3

theorem io_maps : mapsRowed Tryz.prog = true := by kernel_rfl

theorem io_heard : Tryz.prog.stopsHeard = true := by kernel_rfl

end Go.Proofs.YtjkinpbfmihhdaaGreat
