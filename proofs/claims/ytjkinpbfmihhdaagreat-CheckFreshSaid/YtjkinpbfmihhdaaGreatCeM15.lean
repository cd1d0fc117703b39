/- Some of our texts, one behind the other. -/
import Derived.Test.YtjkinpbfmihhdaaGreatCeM14
import Derived.WalkKit
import Derived.ProofKit
import Derived.OpenShut
import Derived.ShutString
import Derived.ChangeOld
import Derived.Below
import Derived.Carry
import Derived.SizedLaws
import Derived.Deep.Slices
import Derived.Deep.Fields
import Derived.ChangeSame
import Derived.Test.YtjkinpbfmihhdaaGreatRows
set_option linter.all false
/- Written by a program of ours (wip/gen.py): a law -/
set_option linter.unusedVariables false
set_option maxRecDepth 20000
set_option maxHeartbeats 2000000
namespace Go.Proofs.YtjkinpbfmihhdaaGreat.Wk
open Go.RowKit
theorem cl27 : callable Tryz.prog 27 = true := by kernel_rfl

theorem cl35 : callable Tryz.prog 35 = true := by kernel_rfl

theorem eg32 : Tryz.prog.eqGuardType Tryz.prog.depth 32 = false := by kernel_rfl

theorem eqs32 (x y : Res) (w : World) : (binOp .eql 32 (.agg (resC x).toArray) (.agg (resC y).toArray)).run Tryz.prog w = .ok (.bool (x == y)) w ∧ (binOp .neq 32 (.agg (resC x).toArray) (.agg (resC y).toArray)).run Tryz.prog w = .ok (.bool (!(x == y))) w :=
  eq_ints [(.i64, x.e, y.e), (.u64, x.v, y.v)] (by kernel_rfl) (by kernel_rfl) (by kernel_rfl) (by kernel_rfl) (by cases x; cases y; rw [Bool.eq_iff_iff]; simp)

theorem ti5 : intTy Tryz.prog 5 .u8 = true := by kernel_rfl

theorem ts29 : sized Tryz.prog 29 8 = true := by kernel_rfl

theorem tz29 : zeroOf Tryz.prog 29 = some (.agg (seatC (⟨(⟨0, 0, 0, 0, 0, 0⟩ : Plan), 0, 0⟩ : Seat)).toArray) := by kernel_rfl

def D.zz2s (fu : Nat) (a0 : Plan) (a1 : Int) (a2 : Int) : Option (Bool) := (Option.bind ((D.zz32 fu ).bind (fun (x6 : Bool) => (bif (!x6) then (some true) else (some (!(D.zz1r a0)))))) (fun (x10 : Bool) => (bif x10 then ((D.zz32 fu ).bind (fun (x14 : Bool) => (some x14))) else ((D.zz2w fu a0).bind (fun (x22 : Mem) => (loopThen (fun (x27 : Bool × List Int × Int × Mem) => (bif (decide (x27.2.2.1 < (IntKind.i64.wrap (a1.tmod 40)))) then ((D.zz23 fu x27.2.2.2 0).bind (fun (x36 : Cap) => ((D.zz30 fu (fu, (D.zz2f (fu + 1) (⟨a0, 0, 0⟩ : Seat))) x27.2.2.2 x36 100000).bind (fun (x38 : Res × Int × Bool × Mem) => (bif (x38.1.e != 0) then (Option.bind (bif (x38.1.e == 4) then (some (decide (x27.2.2.1 ≥ a0.nodes))) else (some false)) (fun (x49 : Bool) => (some (Lp.ret x49)))) else (loopThen (fun (x52 : Bool × Int) => (bif (decide (x52.2 < (x27.2.1.length : Int))) then ((getI x27.2.1 x52.2).bind (fun (x57 : Int) => (bif (x57 == x38.1.v) then (some (Lp.ret (Lp.ret false))) else (some (Lp.next (x52.1, (IntKind.i64.wrap (x52.2 + 1)))))))) else (some (Lp.brk (x52.1, x52.2))))) fu (x27.1, 0) (fun (x60 : Bool × Int) => ((appD x27.2.1 ([x38.1.v])).bind (fun (x67 : List Int) => (loopThen (fun (x71 : Bool × Int × Mem) => (bif (decide (x71.2.1 < 3)) then ((D.zz23 fu x71.2.2 0).bind (fun (x80 : Cap) => ((D.zz30 fu (fu, (D.zz19 (⟨a0, 0, 0⟩ : Seat) x38.1.v x71.2.1)) x71.2.2 x80 99).bind (fun (x82 : Res × Int × Bool × Mem) => ((D.zz23 fu x82.2.2.2 0).bind (fun (x94 : Cap) => ((D.zz30 fu (fu, (D.zz2c (⟨a0, 0, 0⟩ : Seat) x38.1.v x71.2.1 a2)) x82.2.2.2 x94 99).bind (fun (x96 : Res × Int × Bool × Mem) => ((D.zz23 fu x96.2.2.2 0).bind (fun (x108 : Cap) => ((D.zz30 fu (fu, (D.zz19 (⟨a0, 0, 0⟩ : Seat) x38.1.v x71.2.1)) x96.2.2.2 x108 99).bind (fun (x110 : Res × Int × Bool × Mem) => (Option.bind (bif (!(x82.1 == (⟨0, 0⟩ : Res))) then (some true) else (bif (!(x96.1 == (⟨0, 0⟩ : Res))) then (some true) else (some (!(x110.1 == (⟨0, a2⟩ : Res)))))) (fun (x121 : Bool) => (bif x121 then (some (Lp.ret (Lp.ret false))) else (some (Lp.next (x71.1, (IntKind.i64.wrap (x71.2.1 + 1)), x110.2.2.2)))))))))))))))))) else (some (Lp.brk (x71.1, x71.2.1, x71.2.2))))) fu (x60.1, 0, x38.2.2.2) (fun (x125 : Bool × Int × Mem) => ((D.zz23 fu x125.2.2 0).bind (fun (x132 : Cap) => ((D.zz30 fu (fu, (D.zz27 (fu + 1) (⟨a0, 0, 0⟩ : Seat) x38.1.v)) x125.2.2 x132 100000).bind (fun (x134 : Res × Int × Bool × Mem) => ((D.zz23 fu x134.2.2.2 0).bind (fun (x146 : Cap) => ((D.zz30 fu (fu, (D.zz19 (⟨a0, 0, 0⟩ : Seat) x38.1.v 0)) x134.2.2.2 x146 99).bind (fun (x148 : Res × Int × Bool × Mem) => (Option.bind (bif (!(x134.1 == (⟨0, 0⟩ : Res))) then (some true) else (some (!(x148.1 == (⟨3, 0⟩ : Res))))) (fun (x158 : Bool) => (bif x158 then (some (Lp.ret false)) else (some (Lp.next (x125.1, x67, (IntKind.i64.wrap (x27.2.2.1 + 1)), x148.2.2.2))))))))))))))))))))))))) else (some (Lp.brk (x27.1, x27.2.1, x27.2.2.1, x27.2.2.2))))) fu (false, [], 0, x22) (fun (x162 : Bool × List Int × Int × Mem) => (some true))))))))

theorem zz6h {fu : Nat} (w0 : World) (a0 : Plan) (a1 : Int) (a2 : Int) {res : Bool} (hD : D.zz2s fu a0 a1 a2 = some res) :
    Calls Tryz.prog 4 #[.agg (planC a0).toArray, .int .u8 a1, .int .u64 a2] w0 (PureRes (.bool res) w0) := by
 refine enter Tryz.func4 rfl 182 rfl rfl fun fr r => ?_
 have hP : Post No [] w0 w0 := Post.nil w0
 unfold D.zz2s at hD
 refine wsr ?_
 refine seq_new (.cells ((planC a0)).toArray 25 (0, 0)) r (fun R => y_box r (v := (.agg (planC a0).toArray)) rfl) rfl fun fr b1 w2 n3 r => ?_
 have hP : Post No [cellC b1 ((planC a0)).toArray 25] w0 w2 := hP.new n3
 refine seq_val (.bool false) r (fun R => zz03 r rfl) rfl fun fr r => ?_
 refine wn ?_
 refine wp_seq ?_
 refine wp_seq ?_
 refine zz3i (N := 182) (Y := Bool) (G := Unit) (fun x γ => [(0, (.agg (planC a0).toArray)), (1, (.int .u8 a1)), (2, (U a2)), (3, (.pointer (some ⟨b1, 0, none⟩))), (6, (.bool false)), (37, (.bool x))]) (fun x γ w => Post No [cellC b1 ((planC a0)).toArray 25] w0 w) hD ?_ ?_
 ·
  rintro y5 RPy5 nxy5 hD
  refine wp_region_lit ?_
  obtain ⟨x6, hx6, hD⟩ := zz0j hD
  refine zz06 r (zz5r w2  hx6) (fun R hc => y_call r rfl cl27 hc) rfl ?_
  rintro _ w7 ⟨rfl, hb⟩
  refine ⟨_, rfl, fun fr r => ?_⟩
  have hP : Post No [cellC b1 ((planC a0)).toArray 25] w0 w7 := hP.below hb
  refine seq_val (.bool (!x6)) r (fun R => y_un r (u := (.bool x6)) rfl rfl) rfl fun fr r => ?_
  refine seq_val (.bool (!x6)) r (fun R => y_move r rfl) rfl fun fr r => ?_
  refine zz0q (!x6) (fun h8 => ?_) (fun h8 => ?_)
  ·
   have hD := (cond_t h8).symm.trans hD
   refine s0 r h8 fun fr r => ?_
   refine s0 r h8 fun fr r => ?_
   refine s0 r h8 fun fr r => ?_
   refine seq_val (.bool true) r (fun R => y_pick r (b := true) (congrArg Value.bool h8) rfl) rfl fun fr r => ?_
   refine wn ?_
   exact nxy5 true () _ _ _ hD r (hs_cons rfl (hs_cons rfl (hs_cons rfl (hs_cons rfl (hs_cons rfl (hs_cons rfl hs_nil)))))) (hP.pick [0] rfl rfl)
  ·
   have hD := (cond_f h8).symm.trans hD
   refine s1 r h8 ?_
   refine seq_val (.agg (planC a0).toArray) r (fun R => zz05 r (cs := (planC a0)) (n := 6) rfl (hP.cell (i := 0) rfl) ta25 rfl) rfl fun fr r => ?_
   refine s1 r h8 ?_
   refine zz06 r (c_cubiclelaw13_few w7 a0) (fun R hc => y_call r rfl cl35 hc) rfl ?_
   rintro _ w9 ⟨rfl, hb⟩
   refine ⟨_, rfl, fun fr r => ?_⟩
   have hP : Post No [cellC b1 ((planC a0)).toArray 25] w0 w9 := hP.below hb
   refine s1 r h8 ?_
   refine seq_val (.bool (!(D.zz1r a0))) r (fun R => y_un r (u := (.bool (D.zz1r a0))) rfl rfl) rfl fun fr r => ?_
   refine seq_val (.bool (!(D.zz1r a0))) r (fun R => y_pick r (b := false) (congrArg Value.bool h8) rfl) rfl fun fr r => ?_
   refine wn ?_
   exact nxy5 (!(D.zz1r a0)) () _ _ _ hD r (hs_cons rfl (hs_cons rfl (hs_cons rfl (hs_cons rfl (hs_cons rfl (hs_cons rfl hs_nil)))))) (hP.pick [0] rfl rfl)
 ·
  rintro x10 γ11 fr w12 g r hP hD
  have hP : Post No [cellC b1 ((planC a0)).toArray 25] w0 w12 := hP
  refine wp_cond_split (t := x10) (r.ev rfl) (fun h13 => ?_) (fun h13 => ?_)
  ·
   have hD := (cond_t h13).symm.trans hD
   refine wsr ?_
   obtain ⟨x14, hx14, hD⟩ := zz0j hD
   refine zz06 r (zz5r w12  hx14) (fun R hc => y_call r rfl cl27 hc) rfl ?_
   rintro _ w15 ⟨rfl, hb⟩
   refine ⟨_, rfl, fun fr r => ?_⟩
   have hP : Post No [cellC b1 ((planC a0)).toArray 25] w0 w15 := hP.below hb
   refine seq_val (.bool x14) r (fun R => zz03 r rfl) rfl fun fr r => ?_
   refine wn ?_
   refine wp_ret ?_
   have hv : x14 = res := Option.some.inj hD
   try dsimp only [Exit.then, Exit.inBlock]
   refine ret_tmp (fn := Tryz.f4) r (t := 6) rfl (v := (.bool x14)) rfl ?_
   subst hv
   exact ⟨rfl, hP.chg.below⟩
  ·
   have hD := (cond_f h13).symm.trans hD
   refine wp_skip ?_
   refine wsr ?_
   refine seq_val (.agg (planC a0).toArray) r (fun R => zz05 r (cs := (planC a0)) (n := 6) rfl (hP.cell (i := 0) rfl) ta25 rfl) rfl fun fr r => ?_
   refine seq_val (.agg (seatC (⟨a0, 0, 0⟩ : Seat)).toArray) r (fun R => y_build r (by kernel_rfl)) rfl fun fr r => ?_
   refine seq_new (.cells ((seatC (⟨(⟨0, 0, 0, 0, 0, 0⟩ : Plan), 0, 0⟩ : Seat))).toArray 29 (0, 0)) r (fun R => y_alloc tz29) rfl fun fr b16 w17 n18 r => ?_
   have hP : Post No [cellC b1 ((planC a0)).toArray 25, cellC b16 ((seatC (⟨(⟨0, 0, 0, 0, 0, 0⟩ : Plan), 0, 0⟩ : Seat))).toArray 29] w0 w17 := hP.new n18
   refine seq_upd (.cells ((seatC (⟨a0, 0, 0⟩ : Seat))).toArray 29 (0, 0)) r (fun R => y_store r (o := 0) (v := (.agg (seatC (⟨a0, 0, 0⟩ : Seat)).toArray)) rfl rfl (hP.cell (i := 1) rfl) ts29 (Nat.le_of_ble_eq_true rfl) rfl rfl) rfl fun fr w20 u21 r => ?_
   have hP : Post No [cellC b1 ((planC a0)).toArray 25, cellC b16 ((seatC (⟨a0, 0, 0⟩ : Seat))).toArray 29] w0 w20 := hP.upd (i := 1) rfl u21
   refine wn ?_
   refine wsr ?_
   refine seq_val (.agg (planC a0).toArray) r (fun R => zz05 r (cs := (planC a0)) (n := 6) rfl (hP.cell (i := 0) rfl) ta25 rfl) rfl fun fr r => ?_
   obtain ⟨x22, hx22, hD⟩ := zz0j hD
   refine zz06 r (zz64 w20 a0 hx22) (fun R hc => y_call r rfl cl28 hc) rfl ?_
   rintro _ w23 ⟨mg24, rfl, hq⟩
   refine ⟨_, rfl, fun fr r => ?_⟩
   have hP : Post No [cellC b1 ((planC a0)).toArray 25, cellC b16 ((seatC (⟨a0, 0, 0⟩ : Seat))).toArray 29, memK mg24 x22] w0 w23 := hP.add hq
   refine seq_val (.pointer (some ⟨mg24.mb, 0, none⟩)) r (fun R => zz03 r rfl) rfl fun fr r => ?_
   refine wn ?_
   refine wp_seq ?_
   refine wsr ?_
   refine seq_val (.pointer (some ⟨mg24.mb, 0, none⟩)) r (fun R => y_move r rfl) rfl fun fr r => ?_
   refine seq_val _ r (fun R => y_bin r rfl rfl rfl rfl) rfl fun fr r => ?_
   refine wn ?_
   refine wp_cond_split (t := false) (r.ev rfl) (fun h => absurd ((rfl : false = _).symm.trans h) (by decide)) (fun _ => ?_)
   refine wp_skip ?_
   refine wsr ?_
   refine seq_val (Value.slice none 0 0) r (fun R => zz03 r rfl) rfl fun fr r => ?_
   refine wn ?_
   refine wp_seq ?_
   refine wsr ?_
   refine seq_val (I 0) r (fun R => zz03 r rfl) rfl fun fr r => ?_
   refine wn ?_
   have hP : Post No [cellC b1 ((planC a0)).toArray 25, cellC b16 ((seatC (⟨a0, 0, 0⟩ : Seat))).toArray 29, memK mg24 x22, rowK 22 1 u64 (Value.slice none 0 0) ([])] w0 w23 := hP.nilRow 22 1 u64
   refine zz6b (X := Bool × List Int × Int × Mem) (G := Value) (x0 := (false, [], 0, x22)) (fun x γ => [(0, (.agg (planC a0).toArray)), (1, (.int .u8 a1)), (2, (U a2)), (3, (.pointer (some ⟨b1, 0, none⟩))), (37, (.bool x10)), (7, (.pointer (some ⟨b16, 0, none⟩))), (8, (.pointer (some ⟨mg24.mb, 0, none⟩))), (44, (.bool false)), (6, (.bool x.1)), (9, γ), (10, (I x.2.2.1))]) (fun x γ w => Post No [cellC b1 ((planC a0)).toArray 25, cellC b16 ((seatC (⟨a0, 0, 0⟩ : Seat))).toArray 29, memK mg24 x.2.2.2, rowK 22 1 u64 γ x.2.1] w0 w) (Value.slice none 0 0) r (hs_cons rfl (hs_cons rfl (hs_cons rfl (hs_cons rfl (hs_cons rfl (hs_cons rfl (hs_cons rfl (hs_cons rfl (hs_cons rfl (hs_cons rfl (hs_cons rfl hs_nil))))))))))) hP hD ?_ ?_
   ·
    rintro x27 γ28 fr w30 g y29 RPy29 nxy29 bky29 rty29 r hP hD
    have hP : Post No [cellC b1 ((planC a0)).toArray 25, cellC b16 ((seatC (⟨a0, 0, 0⟩ : Seat))).toArray 29, memK mg24 x27.2.2.2, rowK 22 1 u64 γ28 x27.2.1] w0 w30 := hP
    refine wp_seq ?_
    refine wsr ?_
    refine seq_val (I x27.2.2.1) r (fun R => y_move r rfl) rfl fun fr r => ?_
    refine seq_val (.int .u8 a1) r (fun R => y_move r rfl) rfl fun fr r => ?_
    refine seq_val _ r (fun R => y_bin r rfl rfl rfl rfl) rfl fun fr r => ?_
    refine seq_val (I (W (a1.tmod 40))) r (fun R => zz1u r rfl ti5 ti3) rfl fun fr r => ?_
    refine seq_val _ r (fun R => y_bin r rfl rfl rfl rfl) rfl fun fr r => ?_
    refine wn ?_
    refine wp_cond_split (t := (decide (x27.2.2.1 < (W (a1.tmod 40))))) (r.ev rfl) (fun h31 => ?_) (fun h31 => ?_)
    ·
     have hD := (cond_t h31).symm.trans hD
     refine wp_skip ?_
     refine wp_seq ?_
     refine wp_block ?_
     refine wsr ?_
     refine seq_val (.agg (seatC (⟨a0, 0, 0⟩ : Seat)).toArray) r (fun R => zz05 r (cs := (seatC (⟨a0, 0, 0⟩ : Seat))) (n := 8) rfl (hP.cell (i := 1) rfl) ta29 rfl) rfl fun fr r => ?_
     refine zz06 r (c_check_New (F := No) (n := fu) (j := fu + 1) (fun _ h => h.elim) (by omega) (⟨a0, 0, 0⟩ : Seat)) (fun R hc => y_call r rfl cl30 hc) rfl ?_
     rintro _ w32 ⟨v33, rfl, hb, hr34⟩
     refine ⟨_, rfl, fun fr r => ?_⟩
     have hP : Post No [cellC b1 ((planC a0)).toArray 25, cellC b16 ((seatC (⟨a0, 0, 0⟩ : Seat))).toArray 29, memK mg24 x27.2.2.2, rowK 22 1 u64 γ28 x27.2.1, progK Tryz.prog encRes (fu, (D.zz2f (fu + 1) (⟨a0, 0, 0⟩ : Seat))) v33 (rg w30.heap.size w32.heap.size)] w0 w32 := hP.addProg hb hr34
     refine seq_val (.pointer (some ⟨mg24.mb, 0, none⟩)) r (fun R => y_move r rfl) rfl fun fr r => ?_
     refine seq_val (.pointer (some ⟨mg24.mb, 0, none⟩)) r (fun R => y_move r rfl) rfl fun fr r => ?_
     obtain ⟨x36, hx36, hD⟩ := zz0j hD
     refine zz06 r (zz2a w32 x27.2.2.2 (hP.mem (i := 2) rfl) 0 hx36) (fun R hc => y_call r rfl cl31 hc) rfl ?_
     rintro _ w37 ⟨rfl, hb⟩
     refine ⟨_, rfl, fun fr r => ?_⟩
     have hP : Post No [cellC b1 ((planC a0)).toArray 25, cellC b16 ((seatC (⟨a0, 0, 0⟩ : Seat))).toArray 29, memK mg24 x27.2.2.2, rowK 22 1 u64 γ28 x27.2.1, progK Tryz.prog encRes (fu, (D.zz2f (fu + 1) (⟨a0, 0, 0⟩ : Seat))) v33 (rg w30.heap.size w32.heap.size)] w0 w37 := hP.below hb
     obtain ⟨x38, hx38, hD⟩ := zz0j hD
     refine zz06 r (zz37 w37 (fu, (D.zz2f (fu + 1) (⟨a0, 0, 0⟩ : Seat))) x27.2.2.2 x36 100000 (hP.sep.pk [4, 2] rfl rfl) hx38) (fun R hc => y_call r rfl cl29 hc) rfl ?_
     rintro _ w39 ⟨rfl, hq⟩
     refine ⟨_, rfl, fun fr r => ?_⟩
     have hP : Post No [cellC b1 ((planC a0)).toArray 25, cellC b16 ((seatC (⟨a0, 0, 0⟩ : Seat))).toArray 29, memK mg24 x38.2.2.2, rowK 22 1 u64 γ28 x27.2.1, progK Tryz.prog encRes (fu, (D.zz2f (fu + 1) (⟨a0, 0, 0⟩ : Seat))) v33 (rg w30.heap.size w32.heap.size)] w0 w39 := hP.setN (i := 2) rfl hq
     refine seq_val (.tuple #[(.agg (resC x38.1).toArray), (I x38.2.1), (.bool x38.2.2.1)]) r (fun R => y_move r rfl) rfl fun fr r => ?_
     refine seq_val (.agg (resC x38.1).toArray) r (fun R => zz0x r (vs := #[(.agg (resC x38.1).toArray), (I x38.2.1), (.bool x38.2.2.1)]) rfl rfl) rfl fun fr r => ?_
     refine seq_val (I x38.2.1) r (fun R => zz0x r (vs := #[(.agg (resC x38.1).toArray), (I x38.2.1), (.bool x38.2.2.1)]) rfl rfl) rfl fun fr r => ?_
     refine seq_val (.bool x38.2.2.1) r (fun R => zz0x r (vs := #[(.agg (resC x38.1).toArray), (I x38.2.1), (.bool x38.2.2.1)]) rfl rfl) rfl fun fr r => ?_
     refine seq_new (.cells ((resC (⟨0, 0⟩ : Res))).toArray 32 (0, 0)) r (fun R => y_alloc tz32) rfl fun fr b40 w41 n42 r => ?_
     have hP : Post No [cellC b1 ((planC a0)).toArray 25, cellC b16 ((seatC (⟨a0, 0, 0⟩ : Seat))).toArray 29, memK mg24 x38.2.2.2, rowK 22 1 u64 γ28 x27.2.1, progK Tryz.prog encRes (fu, (D.zz2f (fu + 1) (⟨a0, 0, 0⟩ : Seat))) v33 (rg w30.heap.size w32.heap.size), cellC b40 ((resC (⟨0, 0⟩ : Res))).toArray 32] w0 w41 := hP.new n42
     refine seq_upd (.cells ((resC x38.1)).toArray 32 (0, 0)) r (fun R => y_store r (o := 0) (v := (.agg (resC x38.1).toArray)) rfl rfl (hP.cell (i := 5) rfl) ts32 (Nat.le_of_ble_eq_true rfl) rfl rfl) rfl fun fr w44 u45 r => ?_
     have hP : Post No [cellC b1 ((planC a0)).toArray 25, cellC b16 ((seatC (⟨a0, 0, 0⟩ : Seat))).toArray 29, memK mg24 x38.2.2.2, rowK 22 1 u64 γ28 x27.2.1, progK Tryz.prog encRes (fu, (D.zz2f (fu + 1) (⟨a0, 0, 0⟩ : Seat))) v33 (rg w30.heap.size w32.heap.size), cellC b40 ((resC x38.1)).toArray 32] w0 w44 := hP.upd (i := 5) rfl u45
     refine seq_val (I x38.2.1) r (fun R => zz03 r rfl) rfl fun fr r => ?_
     refine seq_val (.bool x38.2.2.1) r (fun R => zz03 r rfl) rfl fun fr r => ?_
     refine wn ?_
     refine wp_seq ?_
     refine wsr ?_
     refine seq_val _ r (fun R => zz02 r (o := 0) rfl fo32_0) rfl fun fr r => ?_
     refine seq_val (I x38.1.e) r (fun R => zz01 r rfl (hP.cell (i := 5) rfl) to30 rfl) rfl fun fr r => ?_
     refine seq_val _ r (fun R => y_bin r rfl rfl rfl rfl) rfl fun fr r => ?_
     refine wn ?_
     refine wp_cond_split (t := (x38.1.e != 0)) (r.ev rfl) (fun h46 => ?_) (fun h46 => ?_)
     ·
      have hD := (cond_t h46).symm.trans hD
      refine wp_seq ?_
      have hP : Post No [cellC b1 ((planC a0)).toArray 25, cellC b16 ((seatC (⟨a0, 0, 0⟩ : Seat))).toArray 29, memK mg24 x38.2.2.2, rowK 22 1 u64 γ28 x27.2.1, cellC b40 ((resC x38.1)).toArray 32] w0 w44 := hP.pick [0, 1, 2, 3, 5] rfl rfl
      refine zz3i (N := 182) (Y := Bool) (G := Unit) (fun x γ => [(0, (.agg (planC a0).toArray)), (1, (.int .u8 a1)), (2, (U a2)), (3, (.pointer (some ⟨b1, 0, none⟩))), (37, (.bool x10)), (7, (.pointer (some ⟨b16, 0, none⟩))), (8, (.pointer (some ⟨mg24.mb, 0, none⟩))), (44, (.bool false)), (9, γ28), (10, (I x27.2.2.1)), (49, (.bool (decide (x27.2.2.1 < (W (a1.tmod 40)))))), (11, (.pointer (some ⟨b40, 0, none⟩))), (64, (.bool (x38.1.e != 0))), (6, (.bool x))]) (fun x γ w => Post No [cellC b1 ((planC a0)).toArray 25, cellC b16 ((seatC (⟨a0, 0, 0⟩ : Seat))).toArray 29, memK mg24 x38.2.2.2, rowK 22 1 u64 γ28 x27.2.1, cellC b40 ((resC x38.1)).toArray 32] w0 w) hD ?_ ?_
      ·
       rintro y47 RPy47 nxy47 hD
       refine wp_region_lit ?_
       refine seq_val _ r (fun R => zz02 r (o := 0) rfl fo32_0) rfl fun fr r => ?_
       refine seq_val (I x38.1.e) r (fun R => zz01 r rfl (hP.cell (i := 4) rfl) to30 rfl) rfl fun fr r => ?_
       refine seq_val _ r (fun R => y_bin r rfl rfl rfl rfl) rfl fun fr r => ?_
       refine seq_val (.bool (x38.1.e == 4)) r (fun R => y_move r rfl) rfl fun fr r => ?_
       refine zz0q (x38.1.e == 4) (fun h48 => ?_) (fun h48 => ?_)
       ·
        have hD := (cond_t h48).symm.trans hD
        refine s1 r h48 ?_
        refine seq_val (I x27.2.2.1) r (fun R => y_move r rfl) rfl fun fr r => ?_
        refine s1 r h48 ?_
        refine seq_val _ r (fun R => zz02 r (o := 0) rfl fo25_0) rfl fun fr r => ?_
        refine s1 r h48 ?_
        refine seq_val (I a0.nodes) r (fun R => zz01 r rfl (hP.cell (i := 0) rfl) to3 rfl) rfl fun fr r => ?_
        refine s1 r h48 ?_
        refine seq_val _ r (fun R => y_bin r rfl rfl rfl rfl) rfl fun fr r => ?_
        refine seq_val (.bool (decide (x27.2.2.1 ≥ a0.nodes))) r (fun R => y_pick r (b := true) (congrArg Value.bool h48) rfl) rfl fun fr r => ?_
        refine seq_val (.bool (decide (x27.2.2.1 ≥ a0.nodes))) r (fun R => zz03 r rfl) rfl fun fr r => ?_
        refine wn ?_
        exact nxy47 (decide (x27.2.2.1 ≥ a0.nodes)) () _ _ _ hD r (hs_cons rfl (hs_cons rfl (hs_cons rfl (hs_cons rfl (hs_cons rfl (hs_cons rfl (hs_cons rfl (hs_cons rfl (hs_cons rfl (hs_cons rfl (hs_cons rfl (hs_cons rfl (hs_cons rfl (hs_cons rfl hs_nil)))))))))))))) (hP.pick [0, 1, 2, 3, 4] rfl rfl)
       ·
        have hD := (cond_f h48).symm.trans hD
        refine s0 r h48 fun fr r => ?_
        refine s0 r h48 fun fr r => ?_
        refine s0 r h48 fun fr r => ?_
        refine s0 r h48 fun fr r => ?_
        refine seq_val (.bool false) r (fun R => y_pick r (b := false) (congrArg Value.bool h48) rfl) rfl fun fr r => ?_
        refine seq_val (.bool false) r (fun R => zz03 r rfl) rfl fun fr r => ?_
        refine wn ?_
        exact nxy47 false () _ _ _ hD r (hs_cons rfl (hs_cons rfl (hs_cons rfl (hs_cons rfl (hs_cons rfl (hs_cons rfl (hs_cons rfl (hs_cons rfl (hs_cons rfl (hs_cons rfl (hs_cons rfl (hs_cons rfl (hs_cons rfl (hs_cons rfl hs_nil)))))))))))))) (hP.pick [0, 1, 2, 3, 4] rfl rfl)
      ·
       rintro x49 γ50 fr w51 g r hP hD
       have hP : Post No [cellC b1 ((planC a0)).toArray 25, cellC b16 ((seatC (⟨a0, 0, 0⟩ : Seat))).toArray 29, memK mg24 x38.2.2.2, rowK 22 1 u64 γ28 x27.2.1, cellC b40 ((resC x38.1)).toArray 32] w0 w51 := hP
       refine wp_ret ?_
       refine rty29 x49 _ _ hD fun hD => ?_
       have hv : x49 = res := Option.some.inj hD
       try dsimp only [Exit.then, Exit.inBlock]
       refine ret_tmp (fn := Tryz.f4) r (t := 6) rfl (v := (.bool x49)) rfl ?_
       subst hv
       exact ⟨rfl, hP.chg.below⟩
     ·
      have hD := (cond_f h46).symm.trans hD
      refine wp_skip ?_
      refine wp_seq ?_
      refine wsr ?_
      refine seq_val (I 0) r (fun R => zz03 r rfl) rfl fun fr r => ?_
      refine wn ?_
      have hP : Post No [cellC b1 ((planC a0)).toArray 25, cellC b16 ((seatC (⟨a0, 0, 0⟩ : Seat))).toArray 29, memK mg24 x38.2.2.2, rowK 22 1 u64 γ28 x27.2.1, cellC b40 ((resC x38.1)).toArray 32] w0 w44 := hP.pick [0, 1, 2, 3, 5] rfl rfl
      refine zz6b (X := Bool × Int) (G := Unit) (x0 := (x27.1, 0)) (fun x γ => [(0, (.agg (planC a0).toArray)), (1, (.int .u8 a1)), (2, (U a2)), (3, (.pointer (some ⟨b1, 0, none⟩))), (37, (.bool x10)), (7, (.pointer (some ⟨b16, 0, none⟩))), (8, (.pointer (some ⟨mg24.mb, 0, none⟩))), (44, (.bool false)), (9, γ28), (10, (I x27.2.2.1)), (49, (.bool (decide (x27.2.2.1 < (W (a1.tmod 40)))))), (11, (.pointer (some ⟨b40, 0, none⟩))), (64, (.bool (x38.1.e != 0))), (6, (.bool x.1)), (14, (I x.2))]) (fun x γ w => Post No [cellC b1 ((planC a0)).toArray 25, cellC b16 ((seatC (⟨a0, 0, 0⟩ : Seat))).toArray 29, memK mg24 x38.2.2.2, rowK 22 1 u64 γ28 x27.2.1, cellC b40 ((resC x38.1)).toArray 32] w0 w) () r (hs_cons rfl (hs_cons rfl (hs_cons rfl (hs_cons rfl (hs_cons rfl (hs_cons rfl (hs_cons rfl (hs_cons rfl (hs_cons rfl (hs_cons rfl (hs_cons rfl (hs_cons rfl (hs_cons rfl (hs_cons rfl (hs_cons rfl hs_nil))))))))))))))) hP hD ?_ ?_
      ·
       rintro x52 γ53 fr w55 g y54 RPy54 nxy54 bky54 rty54 r hP hD
       have hP : Post No [cellC b1 ((planC a0)).toArray 25, cellC b16 ((seatC (⟨a0, 0, 0⟩ : Seat))).toArray 29, memK mg24 x38.2.2.2, rowK 22 1 u64 γ28 x27.2.1, cellC b40 ((resC x38.1)).toArray 32] w0 w55 := hP
       refine wp_seq ?_
       refine wsr ?_
       refine seq_val (I x52.2) r (fun R => y_move r rfl) rfl fun fr r => ?_
       refine seq_val γ28 r (fun R => y_move r rfl) rfl fun fr r => ?_
       refine seq_val (I (x27.2.1.length : Int)) r (fun R => zz6t r (hP.row (i := 3) rfl).ro is49 rfl) rfl fun fr r => ?_
       refine seq_val _ r (fun R => y_bin r rfl rfl rfl rfl) rfl fun fr r => ?_
       refine wn ?_
       refine wp_cond_split (t := (decide (x52.2 < (x27.2.1.length : Int)))) (r.ev rfl) (fun h56 => ?_) (fun h56 => ?_)
       ·
        have hD := (cond_t h56).symm.trans hD
        refine wp_skip ?_
        refine wp_seq ?_
        refine wp_block ?_
        refine wp_seq ?_
        obtain ⟨x57, hx57, hD⟩ := zz0j hD
        refine zz4b [.val γ28, .val (I x52.2), .val (.pointer (some ⟨rowB γ28, rowO γ28 + x52.2.toNat * 1, none⟩)), .val (U x57), .val (.pointer (some ⟨b40, 1, none⟩)), .val (U x38.1.v), .val (.bool (x57 == x38.1.v))] mixed r (by kernel_rfl) ?_ ?_
        ·
         refine fc r (fun fr1 g w' hb' hd r' => y_move r' rfl bz) ?_
         refine fc r (fun fr1 g w' hb' hd r' => y_move r' rfl bz) ?_
         refine fc r (fun fr1 g w' hb' hd r' => zz39 r' ((hP.below (dr hb')).row (i := 3) rfl).ro hx57 sl49 (hd 0 rfl).1 (hd 1 rfl).1 bz) ?_
         refine fc r (fun fr1 g w' hb' hd r' => zz2t r' (u := (U x57)) (RoAt.at_ (f := u64) (x := x57) ((hP.below (dr hb')).row (i := 3) rfl).ro (fun _ => rfl) hx57) (hd 2 rfl).1 to22 bz) ?_
         refine fc r (fun fr1 g w' hb' hd r' => zz02 r' (b := b40) (o := 0) rfl fo32_1 bz) ?_
         refine fc r (fun fr1 g w' hb' hd r' => zz01 r' (hd 4 rfl).1 ((hP.below (dr hb')).cell (i := 4) rfl) to22 rfl bz) ?_
         refine fc r (fun fr1 g w' hb' hd r' => y_bin r' (hd 3 rfl).1 (hd 5 rfl).1 rfl rfl bz) ?_
         exact zz2e
        ·
         intro fr gg w58 hb hΦ hap r
         have r := r.congr (sc ((hΦ 6 rfl).1) (sc ((hΦ 5 rfl).1) (sc ((hΦ 4 rfl).1) (sc ((hΦ 3 rfl).1) (sc ((hΦ 2 rfl).1) (sc ((hΦ 1 rfl).1) (sc ((hΦ 0 rfl).1) rfl)))))))
         have hP : Post No [cellC b1 ((planC a0)).toArray 25, cellC b16 ((seatC (⟨a0, 0, 0⟩ : Seat))).toArray 29, memK mg24 x38.2.2.2, rowK 22 1 u64 γ28 x27.2.1, cellC b40 ((resC x38.1)).toArray 32] w0 w58 := hP.below hb
         refine wp_cond_split (t := (x57 == x38.1.v)) (r.ev rfl) (fun h59 => ?_) (fun h59 => ?_)
         ·
          have hD := (cond_t h59).symm.trans hD
          refine wsr ?_
          refine seq_val (.bool false) r (fun R => zz03 r rfl) rfl fun fr r => ?_
          refine wn ?_
          refine wp_ret ?_
          refine rty54 (Lp.ret false) _ _ hD fun hD => ?_
          refine rty29 false _ _ hD fun hD => ?_
          have hv : false = res := Option.some.inj hD
          try dsimp only [Exit.then, Exit.inBlock]
          refine ret_tmp (fn := Tryz.f4) r (t := 6) rfl (v := (.bool false)) rfl ?_
          subst hv
          exact ⟨rfl, hP.chg.below⟩
         ·
          have hD := (cond_f h59).symm.trans hD
          refine wp_skip ?_
          refine wp_region_lit ?_
          refine seq_val (I x52.2) r (fun R => y_move r rfl) rfl fun fr r => ?_
          refine seq_val _ r (fun R => y_bin r rfl rfl rfl rfl) rfl fun fr r => ?_
          refine seq_val (I (W (x52.2 + 1))) r (fun R => zz03 r rfl) rfl fun fr r => ?_
          refine wn ?_
          exact nxy54 (x52.1, (W (x52.2 + 1))) () _ _ _ hD r (hs_cons rfl (hs_cons rfl (hs_cons rfl (hs_cons rfl (hs_cons rfl (hs_cons rfl (hs_cons rfl (hs_cons rfl (hs_cons rfl (hs_cons rfl (hs_cons rfl (hs_cons rfl (hs_cons rfl (hs_cons rfl (hs_cons rfl hs_nil))))))))))))))) (hP.pick [0, 1, 2, 3, 4] rfl rfl)
       ·
        have hD := (cond_f h56).symm.trans hD
        refine wp_exit ?_
        exact bky54 (x52.1, x52.2) () _ _ _ hD r (hs_cons rfl (hs_cons rfl (hs_cons rfl (hs_cons rfl (hs_cons rfl (hs_cons rfl (hs_cons rfl (hs_cons rfl (hs_cons rfl (hs_cons rfl (hs_cons rfl (hs_cons rfl (hs_cons rfl (hs_cons rfl (hs_cons rfl hs_nil))))))))))))))) (hP.pick [0, 1, 2, 3, 4] rfl rfl)
      ·
       rintro x60 γ61 fr w62 g r hP hD
       have hP : Post No [cellC b1 ((planC a0)).toArray 25, cellC b16 ((seatC (⟨a0, 0, 0⟩ : Seat))).toArray 29, memK mg24 x38.2.2.2, rowK 22 1 u64 γ28 x27.2.1, cellC b40 ((resC x38.1)).toArray 32] w0 w62 := hP
       refine wsr ?_
       refine seq_val γ28 r (fun R => y_move r rfl) rfl fun fr r => ?_
       refine seq_val _ r (fun R => zz02 r (o := 0) rfl fo32_1) rfl fun fr r => ?_
       refine seq_val (U x38.1.v) r (fun R => zz01 r rfl (hP.cell (i := 4) rfl) to22 rfl) rfl fun fr r => ?_
       refine seq_newS (.cells (([x38.1.v]).flatMap u64).toArray 22 (0, 0)) 1 r (fun R => zz42 r (by kernel_rfl)) rfl fun fr b63 w64 n65 r => ?_
       have hP : Post No [cellC b1 ((planC a0)).toArray 25, cellC b16 ((seatC (⟨a0, 0, 0⟩ : Seat))).toArray 29, memK mg24 x38.2.2.2, rowK 22 1 u64 γ28 x27.2.1, cellC b40 ((resC x38.1)).toArray 32, rowK 22 1 u64 (.slice (some ⟨b63, 0, none⟩) 1 1) ([x38.1.v])] w0 w64 := hP.newRow n65 (fun _ => rfl) rfl
       obtain ⟨x67, hx67, hD⟩ := zz0j hD
       refine seq_app 22 1 u64 γ28 r (fun R => y_append r rt49 (fun _ => rfl) (fun _ => rfl) (hP.row (i := 3) rfl) (hP.row (i := 5) rfl).ro hx67 rfl rfl) rfl fun fr v68 w69 ha70 r => ?_
       have hP : Post No [cellC b1 ((planC a0)).toArray 25, cellC b16 ((seatC (⟨a0, 0, 0⟩ : Seat))).toArray 29, memK mg24 x38.2.2.2, rowK 22 1 u64 v68 x67, cellC b40 ((resC x38.1)).toArray 32, rowK 22 1 u64 (.slice (some ⟨b63, 0, none⟩) 1 1) ([x38.1.v])] w0 w69 := hP.append (i := 3) rfl ha70
       refine seq_val v68 r (fun R => zz03 r rfl) rfl fun fr r => ?_
       refine wn ?_
       refine wp_seq ?_
       refine wsr ?_
       refine seq_val (I 0) r (fun R => zz03 r rfl) rfl fun fr r => ?_
       refine wn ?_
       have hP : Post No [cellC b1 ((planC a0)).toArray 25, cellC b16 ((seatC (⟨a0, 0, 0⟩ : Seat))).toArray 29, memK mg24 x38.2.2.2, rowK 22 1 u64 v68 x67, cellC b40 ((resC x38.1)).toArray 32] w0 w69 := hP.pick [0, 1, 2, 3, 4] rfl rfl
       refine zz6b (X := Bool × Int × Mem) (G := Unit) (x0 := (x60.1, 0, x38.2.2.2)) (fun x γ => [(0, (.agg (planC a0).toArray)), (1, (.int .u8 a1)), (2, (U a2)), (3, (.pointer (some ⟨b1, 0, none⟩))), (37, (.bool x10)), (7, (.pointer (some ⟨b16, 0, none⟩))), (8, (.pointer (some ⟨mg24.mb, 0, none⟩))), (44, (.bool false)), (9, v68), (10, (I x27.2.2.1)), (49, (.bool (decide (x27.2.2.1 < (W (a1.tmod 40)))))), (11, (.pointer (some ⟨b40, 0, none⟩))), (64, (.bool (x38.1.e != 0))), (14, (I x60.2)), (6, (.bool x.1)), (15, (I x.2.1))]) (fun x γ w => Post No [cellC b1 ((planC a0)).toArray 25, cellC b16 ((seatC (⟨a0, 0, 0⟩ : Seat))).toArray 29, memK mg24 x.2.2, rowK 22 1 u64 v68 x67, cellC b40 ((resC x38.1)).toArray 32] w0 w) () r (hs_cons rfl (hs_cons rfl (hs_cons rfl (hs_cons rfl (hs_cons rfl (hs_cons rfl (hs_cons rfl (hs_cons rfl (hs_cons rfl (hs_cons rfl (hs_cons rfl (hs_cons rfl (hs_cons rfl (hs_cons rfl (hs_cons rfl (hs_cons rfl hs_nil)))))))))))))))) hP hD ?_ ?_
       ·
        rintro x71 γ72 fr w74 g y73 RPy73 nxy73 bky73 rty73 r hP hD
        have hP : Post No [cellC b1 ((planC a0)).toArray 25, cellC b16 ((seatC (⟨a0, 0, 0⟩ : Seat))).toArray 29, memK mg24 x71.2.2, rowK 22 1 u64 v68 x67, cellC b40 ((resC x38.1)).toArray 32] w0 w74 := hP
        refine wp_seq ?_
        refine wsr ?_
        refine seq_val (I x71.2.1) r (fun R => y_move r rfl) rfl fun fr r => ?_
        refine seq_val _ r (fun R => y_bin r rfl rfl rfl rfl) rfl fun fr r => ?_
        refine wn ?_
        refine wp_cond_split (t := (decide (x71.2.1 < 3))) (r.ev rfl) (fun h75 => ?_) (fun h75 => ?_)
        ·
         have hD := (cond_t h75).symm.trans hD
         refine wp_skip ?_
         refine wp_seq ?_
         refine wp_block ?_
         refine wsr ?_
         refine seq_val (.agg (seatC (⟨a0, 0, 0⟩ : Seat)).toArray) r (fun R => zz05 r (cs := (seatC (⟨a0, 0, 0⟩ : Seat))) (n := 8) rfl (hP.cell (i := 1) rfl) ta29 rfl) rfl fun fr r => ?_
         refine seq_val _ r (fun R => zz02 r (o := 0) rfl fo32_1) rfl fun fr r => ?_
         refine seq_val (U x38.1.v) r (fun R => zz01 r rfl (hP.cell (i := 4) rfl) to22 rfl) rfl fun fr r => ?_
         refine seq_val (I x71.2.1) r (fun R => y_move r rfl) rfl fun fr r => ?_
         refine zz06 r (c_check_Read (F := No) (n := fu) (fun _ h => h.elim) (⟨a0, 0, 0⟩ : Seat) x38.1.v x71.2.1) (fun R hc => y_call r rfl cl33 hc) rfl ?_
         rintro _ w76 ⟨v77, rfl, hb, hr78⟩
         refine ⟨_, rfl, fun fr r => ?_⟩
         have hP : Post No [cellC b1 ((planC a0)).toArray 25, cellC b16 ((seatC (⟨a0, 0, 0⟩ : Seat))).toArray 29, memK mg24 x71.2.2, rowK 22 1 u64 v68 x67, cellC b40 ((resC x38.1)).toArray 32, progK Tryz.prog encRes (fu, (D.zz19 (⟨a0, 0, 0⟩ : Seat) x38.1.v x71.2.1)) v77 (rg w74.heap.size w76.heap.size)] w0 w76 := hP.addProg hb hr78
         refine seq_val (.pointer (some ⟨mg24.mb, 0, none⟩)) r (fun R => y_move r rfl) rfl fun fr r => ?_
         refine seq_val (.pointer (some ⟨mg24.mb, 0, none⟩)) r (fun R => y_move r rfl) rfl fun fr r => ?_
         obtain ⟨x80, hx80, hD⟩ := zz0j hD
         refine zz06 r (zz2a w76 x71.2.2 (hP.mem (i := 2) rfl) 0 hx80) (fun R hc => y_call r rfl cl31 hc) rfl ?_
         rintro _ w81 ⟨rfl, hb⟩
         refine ⟨_, rfl, fun fr r => ?_⟩
         have hP : Post No [cellC b1 ((planC a0)).toArray 25, cellC b16 ((seatC (⟨a0, 0, 0⟩ : Seat))).toArray 29, memK mg24 x71.2.2, rowK 22 1 u64 v68 x67, cellC b40 ((resC x38.1)).toArray 32, progK Tryz.prog encRes (fu, (D.zz19 (⟨a0, 0, 0⟩ : Seat) x38.1.v x71.2.1)) v77 (rg w74.heap.size w76.heap.size)] w0 w81 := hP.below hb
         obtain ⟨x82, hx82, hD⟩ := zz0j hD
         refine zz06 r (zz37 w81 (fu, (D.zz19 (⟨a0, 0, 0⟩ : Seat) x38.1.v x71.2.1)) x71.2.2 x80 99 (hP.sep.pk [5, 2] rfl rfl) hx82) (fun R hc => y_call r rfl cl29 hc) rfl ?_
         rintro _ w83 ⟨rfl, hq⟩
         refine ⟨_, rfl, fun fr r => ?_⟩
         have hP : Post No [cellC b1 ((planC a0)).toArray 25, cellC b16 ((seatC (⟨a0, 0, 0⟩ : Seat))).toArray 29, memK mg24 x82.2.2.2, rowK 22 1 u64 v68 x67, cellC b40 ((resC x38.1)).toArray 32, progK Tryz.prog encRes (fu, (D.zz19 (⟨a0, 0, 0⟩ : Seat) x38.1.v x71.2.1)) v77 (rg w74.heap.size w76.heap.size)] w0 w83 := hP.setN (i := 2) rfl hq
         refine seq_val (.tuple #[(.agg (resC x82.1).toArray), (I x82.2.1), (.bool x82.2.2.1)]) r (fun R => y_move r rfl) rfl fun fr r => ?_
         refine seq_val (.agg (resC x82.1).toArray) r (fun R => zz0x r (vs := #[(.agg (resC x82.1).toArray), (I x82.2.1), (.bool x82.2.2.1)]) rfl rfl) rfl fun fr r => ?_
         refine seq_val (I x82.2.1) r (fun R => zz0x r (vs := #[(.agg (resC x82.1).toArray), (I x82.2.1), (.bool x82.2.2.1)]) rfl rfl) rfl fun fr r => ?_
         refine seq_val (.bool x82.2.2.1) r (fun R => zz0x r (vs := #[(.agg (resC x82.1).toArray), (I x82.2.1), (.bool x82.2.2.1)]) rfl rfl) rfl fun fr r => ?_
         refine seq_new (.cells ((resC (⟨0, 0⟩ : Res))).toArray 32 (0, 0)) r (fun R => y_alloc tz32) rfl fun fr b84 w85 n86 r => ?_
         have hP : Post No [cellC b1 ((planC a0)).toArray 25, cellC b16 ((seatC (⟨a0, 0, 0⟩ : Seat))).toArray 29, memK mg24 x82.2.2.2, rowK 22 1 u64 v68 x67, cellC b40 ((resC x38.1)).toArray 32, progK Tryz.prog encRes (fu, (D.zz19 (⟨a0, 0, 0⟩ : Seat) x38.1.v x71.2.1)) v77 (rg w74.heap.size w76.heap.size), cellC b84 ((resC (⟨0, 0⟩ : Res))).toArray 32] w0 w85 := hP.new n86
         refine seq_upd (.cells ((resC x82.1)).toArray 32 (0, 0)) r (fun R => y_store r (o := 0) (v := (.agg (resC x82.1).toArray)) rfl rfl (hP.cell (i := 6) rfl) ts32 (Nat.le_of_ble_eq_true rfl) rfl rfl) rfl fun fr w88 u89 r => ?_
         have hP : Post No [cellC b1 ((planC a0)).toArray 25, cellC b16 ((seatC (⟨a0, 0, 0⟩ : Seat))).toArray 29, memK mg24 x82.2.2.2, rowK 22 1 u64 v68 x67, cellC b40 ((resC x38.1)).toArray 32, progK Tryz.prog encRes (fu, (D.zz19 (⟨a0, 0, 0⟩ : Seat) x38.1.v x71.2.1)) v77 (rg w74.heap.size w76.heap.size), cellC b84 ((resC x82.1)).toArray 32] w0 w88 := hP.upd (i := 6) rfl u89
         refine seq_val (I x82.2.1) r (fun R => zz03 r rfl) rfl fun fr r => ?_
         refine seq_val (.bool x82.2.2.1) r (fun R => zz03 r rfl) rfl fun fr r => ?_
         refine wn ?_
         refine wsr ?_
         refine seq_val (.agg (seatC (⟨a0, 0, 0⟩ : Seat)).toArray) r (fun R => zz05 r (cs := (seatC (⟨a0, 0, 0⟩ : Seat))) (n := 8) rfl (hP.cell (i := 1) rfl) ta29 rfl) rfl fun fr r => ?_
         refine seq_val _ r (fun R => zz02 r (o := 0) rfl fo32_1) rfl fun fr r => ?_
         refine seq_val (U x38.1.v) r (fun R => zz01 r rfl (hP.cell (i := 4) rfl) to22 rfl) rfl fun fr r => ?_
         refine seq_val (I x71.2.1) r (fun R => y_move r rfl) rfl fun fr r => ?_
         refine seq_val (U a2) r (fun R => y_move r rfl) rfl fun fr r => ?_
         refine zz06 r (c_check_Write (F := No) (n := fu) (fun _ h => h.elim) (⟨a0, 0, 0⟩ : Seat) x38.1.v x71.2.1 a2) (fun R hc => y_call r rfl cl32 hc) rfl ?_
         rintro _ w90 ⟨v91, rfl, hb, hr92⟩
         refine ⟨_, rfl, fun fr r => ?_⟩
         have hP : Post No [cellC b1 ((planC a0)).toArray 25, cellC b16 ((seatC (⟨a0, 0, 0⟩ : Seat))).toArray 29, memK mg24 x82.2.2.2, rowK 22 1 u64 v68 x67, cellC b40 ((resC x38.1)).toArray 32, progK Tryz.prog encRes (fu, (D.zz19 (⟨a0, 0, 0⟩ : Seat) x38.1.v x71.2.1)) v77 (rg w74.heap.size w76.heap.size), cellC b84 ((resC x82.1)).toArray 32, progK Tryz.prog encRes (fu, (D.zz2c (⟨a0, 0, 0⟩ : Seat) x38.1.v x71.2.1 a2)) v91 (rg w88.heap.size w90.heap.size)] w0 w90 := hP.addProg hb hr92
         refine seq_val (.pointer (some ⟨mg24.mb, 0, none⟩)) r (fun R => y_move r rfl) rfl fun fr r => ?_
         refine seq_val (.pointer (some ⟨mg24.mb, 0, none⟩)) r (fun R => y_move r rfl) rfl fun fr r => ?_
         obtain ⟨x94, hx94, hD⟩ := zz0j hD
         refine zz06 r (zz2a w90 x82.2.2.2 (hP.mem (i := 2) rfl) 0 hx94) (fun R hc => y_call r rfl cl31 hc) rfl ?_
         rintro _ w95 ⟨rfl, hb⟩
         refine ⟨_, rfl, fun fr r => ?_⟩
         have hP : Post No [cellC b1 ((planC a0)).toArray 25, cellC b16 ((seatC (⟨a0, 0, 0⟩ : Seat))).toArray 29, memK mg24 x82.2.2.2, rowK 22 1 u64 v68 x67, cellC b40 ((resC x38.1)).toArray 32, progK Tryz.prog encRes (fu, (D.zz19 (⟨a0, 0, 0⟩ : Seat) x38.1.v x71.2.1)) v77 (rg w74.heap.size w76.heap.size), cellC b84 ((resC x82.1)).toArray 32, progK Tryz.prog encRes (fu, (D.zz2c (⟨a0, 0, 0⟩ : Seat) x38.1.v x71.2.1 a2)) v91 (rg w88.heap.size w90.heap.size)] w0 w95 := hP.below hb
         obtain ⟨x96, hx96, hD⟩ := zz0j hD
         refine zz06 r (zz37 w95 (fu, (D.zz2c (⟨a0, 0, 0⟩ : Seat) x38.1.v x71.2.1 a2)) x82.2.2.2 x94 99 (hP.sep.pk [7, 2] rfl rfl) hx96) (fun R hc => y_call r rfl cl29 hc) rfl ?_
         rintro _ w97 ⟨rfl, hq⟩
         refine ⟨_, rfl, fun fr r => ?_⟩
         have hP : Post No [cellC b1 ((planC a0)).toArray 25, cellC b16 ((seatC (⟨a0, 0, 0⟩ : Seat))).toArray 29, memK mg24 x96.2.2.2, rowK 22 1 u64 v68 x67, cellC b40 ((resC x38.1)).toArray 32, progK Tryz.prog encRes (fu, (D.zz19 (⟨a0, 0, 0⟩ : Seat) x38.1.v x71.2.1)) v77 (rg w74.heap.size w76.heap.size), cellC b84 ((resC x82.1)).toArray 32, progK Tryz.prog encRes (fu, (D.zz2c (⟨a0, 0, 0⟩ : Seat) x38.1.v x71.2.1 a2)) v91 (rg w88.heap.size w90.heap.size)] w0 w97 := hP.setN (i := 2) rfl hq
         refine seq_val (.tuple #[(.agg (resC x96.1).toArray), (I x96.2.1), (.bool x96.2.2.1)]) r (fun R => y_move r rfl) rfl fun fr r => ?_
         refine seq_val (.agg (resC x96.1).toArray) r (fun R => zz0x r (vs := #[(.agg (resC x96.1).toArray), (I x96.2.1), (.bool x96.2.2.1)]) rfl rfl) rfl fun fr r => ?_
         refine seq_val (I x96.2.1) r (fun R => zz0x r (vs := #[(.agg (resC x96.1).toArray), (I x96.2.1), (.bool x96.2.2.1)]) rfl rfl) rfl fun fr r => ?_
         refine seq_val (.bool x96.2.2.1) r (fun R => zz0x r (vs := #[(.agg (resC x96.1).toArray), (I x96.2.1), (.bool x96.2.2.1)]) rfl rfl) rfl fun fr r => ?_
         refine seq_new (.cells ((resC (⟨0, 0⟩ : Res))).toArray 32 (0, 0)) r (fun R => y_alloc tz32) rfl fun fr b98 w99 n100 r => ?_
         have hP : Post No [cellC b1 ((planC a0)).toArray 25, cellC b16 ((seatC (⟨a0, 0, 0⟩ : Seat))).toArray 29, memK mg24 x96.2.2.2, rowK 22 1 u64 v68 x67, cellC b40 ((resC x38.1)).toArray 32, progK Tryz.prog encRes (fu, (D.zz19 (⟨a0, 0, 0⟩ : Seat) x38.1.v x71.2.1)) v77 (rg w74.heap.size w76.heap.size), cellC b84 ((resC x82.1)).toArray 32, progK Tryz.prog encRes (fu, (D.zz2c (⟨a0, 0, 0⟩ : Seat) x38.1.v x71.2.1 a2)) v91 (rg w88.heap.size w90.heap.size), cellC b98 ((resC (⟨0, 0⟩ : Res))).toArray 32] w0 w99 := hP.new n100
         refine seq_upd (.cells ((resC x96.1)).toArray 32 (0, 0)) r (fun R => y_store r (o := 0) (v := (.agg (resC x96.1).toArray)) rfl rfl (hP.cell (i := 8) rfl) ts32 (Nat.le_of_ble_eq_true rfl) rfl rfl) rfl fun fr w102 u103 r => ?_
         have hP : Post No [cellC b1 ((planC a0)).toArray 25, cellC b16 ((seatC (⟨a0, 0, 0⟩ : Seat))).toArray 29, memK mg24 x96.2.2.2, rowK 22 1 u64 v68 x67, cellC b40 ((resC x38.1)).toArray 32, progK Tryz.prog encRes (fu, (D.zz19 (⟨a0, 0, 0⟩ : Seat) x38.1.v x71.2.1)) v77 (rg w74.heap.size w76.heap.size), cellC b84 ((resC x82.1)).toArray 32, progK Tryz.prog encRes (fu, (D.zz2c (⟨a0, 0, 0⟩ : Seat) x38.1.v x71.2.1 a2)) v91 (rg w88.heap.size w90.heap.size), cellC b98 ((resC x96.1)).toArray 32] w0 w102 := hP.upd (i := 8) rfl u103
         refine seq_val (I x96.2.1) r (fun R => zz03 r rfl) rfl fun fr r => ?_
         refine seq_val (.bool x96.2.2.1) r (fun R => zz03 r rfl) rfl fun fr r => ?_
         refine wn ?_
         refine wsr ?_
         refine seq_val (.agg (seatC (⟨a0, 0, 0⟩ : Seat)).toArray) r (fun R => zz05 r (cs := (seatC (⟨a0, 0, 0⟩ : Seat))) (n := 8) rfl (hP.cell (i := 1) rfl) ta29 rfl) rfl fun fr r => ?_
         refine seq_val _ r (fun R => zz02 r (o := 0) rfl fo32_1) rfl fun fr r => ?_
         refine seq_val (U x38.1.v) r (fun R => zz01 r rfl (hP.cell (i := 4) rfl) to22 rfl) rfl fun fr r => ?_
         refine seq_val (I x71.2.1) r (fun R => y_move r rfl) rfl fun fr r => ?_
         refine zz06 r (c_check_Read (F := No) (n := fu) (fun _ h => h.elim) (⟨a0, 0, 0⟩ : Seat) x38.1.v x71.2.1) (fun R hc => y_call r rfl cl33 hc) rfl ?_
         rintro _ w104 ⟨v105, rfl, hb, hr106⟩
         refine ⟨_, rfl, fun fr r => ?_⟩
         have hP : Post No [cellC b1 ((planC a0)).toArray 25, cellC b16 ((seatC (⟨a0, 0, 0⟩ : Seat))).toArray 29, memK mg24 x96.2.2.2, rowK 22 1 u64 v68 x67, cellC b40 ((resC x38.1)).toArray 32, progK Tryz.prog encRes (fu, (D.zz19 (⟨a0, 0, 0⟩ : Seat) x38.1.v x71.2.1)) v77 (rg w74.heap.size w76.heap.size), cellC b84 ((resC x82.1)).toArray 32, progK Tryz.prog encRes (fu, (D.zz2c (⟨a0, 0, 0⟩ : Seat) x38.1.v x71.2.1 a2)) v91 (rg w88.heap.size w90.heap.size), cellC b98 ((resC x96.1)).toArray 32, progK Tryz.prog encRes (fu, (D.zz19 (⟨a0, 0, 0⟩ : Seat) x38.1.v x71.2.1)) v105 (rg w102.heap.size w104.heap.size)] w0 w104 := hP.addProg hb hr106
         refine seq_val (.pointer (some ⟨mg24.mb, 0, none⟩)) r (fun R => y_move r rfl) rfl fun fr r => ?_
         refine seq_val (.pointer (some ⟨mg24.mb, 0, none⟩)) r (fun R => y_move r rfl) rfl fun fr r => ?_
         obtain ⟨x108, hx108, hD⟩ := zz0j hD
         refine zz06 r (zz2a w104 x96.2.2.2 (hP.mem (i := 2) rfl) 0 hx108) (fun R hc => y_call r rfl cl31 hc) rfl ?_
         rintro _ w109 ⟨rfl, hb⟩
         refine ⟨_, rfl, fun fr r => ?_⟩
         have hP : Post No [cellC b1 ((planC a0)).toArray 25, cellC b16 ((seatC (⟨a0, 0, 0⟩ : Seat))).toArray 29, memK mg24 x96.2.2.2, rowK 22 1 u64 v68 x67, cellC b40 ((resC x38.1)).toArray 32, progK Tryz.prog encRes (fu, (D.zz19 (⟨a0, 0, 0⟩ : Seat) x38.1.v x71.2.1)) v77 (rg w74.heap.size w76.heap.size), cellC b84 ((resC x82.1)).toArray 32, progK Tryz.prog encRes (fu, (D.zz2c (⟨a0, 0, 0⟩ : Seat) x38.1.v x71.2.1 a2)) v91 (rg w88.heap.size w90.heap.size), cellC b98 ((resC x96.1)).toArray 32, progK Tryz.prog encRes (fu, (D.zz19 (⟨a0, 0, 0⟩ : Seat) x38.1.v x71.2.1)) v105 (rg w102.heap.size w104.heap.size)] w0 w109 := hP.below hb
         obtain ⟨x110, hx110, hD⟩ := zz0j hD
         refine zz06 r (zz37 w109 (fu, (D.zz19 (⟨a0, 0, 0⟩ : Seat) x38.1.v x71.2.1)) x96.2.2.2 x108 99 (hP.sep.pk [9, 2] rfl rfl) hx110) (fun R hc => y_call r rfl cl29 hc) rfl ?_
         rintro _ w111 ⟨rfl, hq⟩
         refine ⟨_, rfl, fun fr r => ?_⟩
         have hP : Post No [cellC b1 ((planC a0)).toArray 25, cellC b16 ((seatC (⟨a0, 0, 0⟩ : Seat))).toArray 29, memK mg24 x110.2.2.2, rowK 22 1 u64 v68 x67, cellC b40 ((resC x38.1)).toArray 32, progK Tryz.prog encRes (fu, (D.zz19 (⟨a0, 0, 0⟩ : Seat) x38.1.v x71.2.1)) v77 (rg w74.heap.size w76.heap.size), cellC b84 ((resC x82.1)).toArray 32, progK Tryz.prog encRes (fu, (D.zz2c (⟨a0, 0, 0⟩ : Seat) x38.1.v x71.2.1 a2)) v91 (rg w88.heap.size w90.heap.size), cellC b98 ((resC x96.1)).toArray 32, progK Tryz.prog encRes (fu, (D.zz19 (⟨a0, 0, 0⟩ : Seat) x38.1.v x71.2.1)) v105 (rg w102.heap.size w104.heap.size)] w0 w111 := hP.setN (i := 2) rfl hq
         refine seq_val (.tuple #[(.agg (resC x110.1).toArray), (I x110.2.1), (.bool x110.2.2.1)]) r (fun R => y_move r rfl) rfl fun fr r => ?_
         refine seq_val (.agg (resC x110.1).toArray) r (fun R => zz0x r (vs := #[(.agg (resC x110.1).toArray), (I x110.2.1), (.bool x110.2.2.1)]) rfl rfl) rfl fun fr r => ?_
         refine seq_val (I x110.2.1) r (fun R => zz0x r (vs := #[(.agg (resC x110.1).toArray), (I x110.2.1), (.bool x110.2.2.1)]) rfl rfl) rfl fun fr r => ?_
         refine seq_val (.bool x110.2.2.1) r (fun R => zz0x r (vs := #[(.agg (resC x110.1).toArray), (I x110.2.1), (.bool x110.2.2.1)]) rfl rfl) rfl fun fr r => ?_
         refine seq_new (.cells ((resC (⟨0, 0⟩ : Res))).toArray 32 (0, 0)) r (fun R => y_alloc tz32) rfl fun fr b112 w113 n114 r => ?_
         have hP : Post No [cellC b1 ((planC a0)).toArray 25, cellC b16 ((seatC (⟨a0, 0, 0⟩ : Seat))).toArray 29, memK mg24 x110.2.2.2, rowK 22 1 u64 v68 x67, cellC b40 ((resC x38.1)).toArray 32, progK Tryz.prog encRes (fu, (D.zz19 (⟨a0, 0, 0⟩ : Seat) x38.1.v x71.2.1)) v77 (rg w74.heap.size w76.heap.size), cellC b84 ((resC x82.1)).toArray 32, progK Tryz.prog encRes (fu, (D.zz2c (⟨a0, 0, 0⟩ : Seat) x38.1.v x71.2.1 a2)) v91 (rg w88.heap.size w90.heap.size), cellC b98 ((resC x96.1)).toArray 32, progK Tryz.prog encRes (fu, (D.zz19 (⟨a0, 0, 0⟩ : Seat) x38.1.v x71.2.1)) v105 (rg w102.heap.size w104.heap.size), cellC b112 ((resC (⟨0, 0⟩ : Res))).toArray 32] w0 w113 := hP.new n114
         refine seq_upd (.cells ((resC x110.1)).toArray 32 (0, 0)) r (fun R => y_store r (o := 0) (v := (.agg (resC x110.1).toArray)) rfl rfl (hP.cell (i := 10) rfl) ts32 (Nat.le_of_ble_eq_true rfl) rfl rfl) rfl fun fr w116 u117 r => ?_
         have hP : Post No [cellC b1 ((planC a0)).toArray 25, cellC b16 ((seatC (⟨a0, 0, 0⟩ : Seat))).toArray 29, memK mg24 x110.2.2.2, rowK 22 1 u64 v68 x67, cellC b40 ((resC x38.1)).toArray 32, progK Tryz.prog encRes (fu, (D.zz19 (⟨a0, 0, 0⟩ : Seat) x38.1.v x71.2.1)) v77 (rg w74.heap.size w76.heap.size), cellC b84 ((resC x82.1)).toArray 32, progK Tryz.prog encRes (fu, (D.zz2c (⟨a0, 0, 0⟩ : Seat) x38.1.v x71.2.1 a2)) v91 (rg w88.heap.size w90.heap.size), cellC b98 ((resC x96.1)).toArray 32, progK Tryz.prog encRes (fu, (D.zz19 (⟨a0, 0, 0⟩ : Seat) x38.1.v x71.2.1)) v105 (rg w102.heap.size w104.heap.size), cellC b112 ((resC x110.1)).toArray 32] w0 w116 := hP.upd (i := 10) rfl u117
         refine seq_val (I x110.2.1) r (fun R => zz03 r rfl) rfl fun fr r => ?_
         refine seq_val (.bool x110.2.2.1) r (fun R => zz03 r rfl) rfl fun fr r => ?_
         refine wn ?_
         refine wp_seq ?_
         have hP : Post No [cellC b1 ((planC a0)).toArray 25, cellC b16 ((seatC (⟨a0, 0, 0⟩ : Seat))).toArray 29, memK mg24 x110.2.2.2, rowK 22 1 u64 v68 x67, cellC b40 ((resC x38.1)).toArray 32, cellC b84 ((resC x82.1)).toArray 32, cellC b98 ((resC x96.1)).toArray 32, cellC b112 ((resC x110.1)).toArray 32] w0 w116 := hP.pick [0, 1, 2, 3, 4, 6, 8, 10] rfl rfl
         refine zz3i (N := 182) (Y := Bool) (G := Unit) (fun x γ => [(0, (.agg (planC a0).toArray)), (1, (.int .u8 a1)), (2, (U a2)), (3, (.pointer (some ⟨b1, 0, none⟩))), (37, (.bool x10)), (7, (.pointer (some ⟨b16, 0, none⟩))), (8, (.pointer (some ⟨mg24.mb, 0, none⟩))), (44, (.bool false)), (9, v68), (10, (I x27.2.2.1)), (49, (.bool (decide (x27.2.2.1 < (W (a1.tmod 40)))))), (11, (.pointer (some ⟨b40, 0, none⟩))), (64, (.bool (x38.1.e != 0))), (14, (I x60.2)), (6, (.bool x71.1)), (15, (I x71.2.1)), (93, (.bool (decide (x71.2.1 < 3)))), (16, (.pointer (some ⟨b84, 0, none⟩))), (19, (.pointer (some ⟨b98, 0, none⟩))), (22, (.pointer (some ⟨b112, 0, none⟩))), (149, (.bool x))]) (fun x γ w => Post No [cellC b1 ((planC a0)).toArray 25, cellC b16 ((seatC (⟨a0, 0, 0⟩ : Seat))).toArray 29, memK mg24 x110.2.2.2, rowK 22 1 u64 v68 x67, cellC b40 ((resC x38.1)).toArray 32, cellC b84 ((resC x82.1)).toArray 32, cellC b98 ((resC x96.1)).toArray 32, cellC b112 ((resC x110.1)).toArray 32] w0 w) hD ?_ ?_
         ·
          rintro y118 RPy118 nxy118 hD
          refine wp_region_lit ?_
          refine seq_val (.agg (resC x82.1).toArray) r (fun R => zz05 r (cs := (resC x82.1)) (n := 2) rfl (hP.cell (i := 5) rfl) ta32 rfl) rfl fun fr r => ?_
          refine seq_val (.agg (resC (⟨0, 0⟩ : Res)).toArray) r (fun R => y_build r (by kernel_rfl)) rfl fun fr r => ?_
          refine seq_val _ r (fun R => y_bin r rfl rfl (run_eqGuard_agg _ _ _ _ _ _ _ eg32) (eqs32 _ _ _).2) rfl fun fr r => ?_
          refine seq_val (.bool (!(x82.1 == (⟨0, 0⟩ : Res)))) r (fun R => y_move r rfl) rfl fun fr r => ?_
          refine zz0q (!(x82.1 == (⟨0, 0⟩ : Res))) (fun h119 => ?_) (fun h119 => ?_)
          ·
           have hD := (cond_t h119).symm.trans hD
           refine s0 r h119 fun fr r => ?_
           refine s0 r h119 fun fr r => ?_
           refine s0 r h119 fun fr r => ?_
           refine seq_val (.bool true) r (fun R => y_pick r (b := true) (congrArg Value.bool h119) rfl) rfl fun fr r => ?_
           refine seq_val (.bool true) r (fun R => y_move r rfl) rfl fun fr r => ?_
           refine s0 r (rfl : true = _) fun fr r => ?_
           refine s0 r (rfl : true = _) fun fr r => ?_
           refine s0 r (rfl : true = _) fun fr r => ?_
           refine s0 r (rfl : true = _) fun fr r => ?_
           refine seq_val (.bool true) r (fun R => y_pick r (b := true) (congrArg Value.bool (rfl : true = _)) rfl) rfl fun fr r => ?_
           refine wn ?_
           exact nxy118 true () _ _ _ hD r (hs_cons rfl (hs_cons rfl (hs_cons rfl (hs_cons rfl (hs_cons rfl (hs_cons rfl (hs_cons rfl (hs_cons rfl (hs_cons rfl (hs_cons rfl (hs_cons rfl (hs_cons rfl (hs_cons rfl (hs_cons rfl (hs_cons rfl (hs_cons rfl (hs_cons rfl (hs_cons rfl (hs_cons rfl (hs_cons rfl (hs_cons rfl hs_nil))))))))))))))))))))) (hP.pick [0, 1, 2, 3, 4, 5, 6, 7] rfl rfl)
          ·
           have hD := (cond_f h119).symm.trans hD
           refine s1 r h119 ?_
           refine seq_val (.agg (resC x96.1).toArray) r (fun R => zz05 r (cs := (resC x96.1)) (n := 2) rfl (hP.cell (i := 6) rfl) ta32 rfl) rfl fun fr r => ?_
           refine s1 r h119 ?_
           refine seq_val (.agg (resC (⟨0, 0⟩ : Res)).toArray) r (fun R => y_build r (by kernel_rfl)) rfl fun fr r => ?_
           refine s1 r h119 ?_
           refine seq_val _ r (fun R => y_bin r rfl rfl (run_eqGuard_agg _ _ _ _ _ _ _ eg32) (eqs32 _ _ _).2) rfl fun fr r => ?_
           refine seq_val (.bool (!(x96.1 == (⟨0, 0⟩ : Res)))) r (fun R => y_pick r (b := false) (congrArg Value.bool h119) rfl) rfl fun fr r => ?_
           refine seq_val (.bool (!(x96.1 == (⟨0, 0⟩ : Res)))) r (fun R => y_move r rfl) rfl fun fr r => ?_
           refine zz0q (!(x96.1 == (⟨0, 0⟩ : Res))) (fun h120 => ?_) (fun h120 => ?_)
           ·
            have hD := (cond_t h120).symm.trans hD
            refine s0 r h120 fun fr r => ?_
            refine s0 r h120 fun fr r => ?_
            refine s0 r h120 fun fr r => ?_
            refine s0 r h120 fun fr r => ?_
            refine seq_val (.bool true) r (fun R => y_pick r (b := true) (congrArg Value.bool h120) rfl) rfl fun fr r => ?_
            refine wn ?_
            exact nxy118 true () _ _ _ hD r (hs_cons rfl (hs_cons rfl (hs_cons rfl (hs_cons rfl (hs_cons rfl (hs_cons rfl (hs_cons rfl (hs_cons rfl (hs_cons rfl (hs_cons rfl (hs_cons rfl (hs_cons rfl (hs_cons rfl (hs_cons rfl (hs_cons rfl (hs_cons rfl (hs_cons rfl (hs_cons rfl (hs_cons rfl (hs_cons rfl (hs_cons rfl hs_nil))))))))))))))))))))) (hP.pick [0, 1, 2, 3, 4, 5, 6, 7] rfl rfl)
           ·
            have hD := (cond_f h120).symm.trans hD
            refine s1 r h120 ?_
            refine seq_val (.agg (resC x110.1).toArray) r (fun R => zz05 r (cs := (resC x110.1)) (n := 2) rfl (hP.cell (i := 7) rfl) ta32 rfl) rfl fun fr r => ?_
            refine s1 r h120 ?_
            refine seq_val (U a2) r (fun R => y_move r rfl) rfl fun fr r => ?_
            refine s1 r h120 ?_
            refine seq_val (.agg (resC (⟨0, a2⟩ : Res)).toArray) r (fun R => y_build r (by kernel_rfl)) rfl fun fr r => ?_
            refine s1 r h120 ?_
            refine seq_val _ r (fun R => y_bin r rfl rfl (run_eqGuard_agg _ _ _ _ _ _ _ eg32) (eqs32 _ _ _).2) rfl fun fr r => ?_
            refine seq_val (.bool (!(x110.1 == (⟨0, a2⟩ : Res)))) r (fun R => y_pick r (b := false) (congrArg Value.bool h120) rfl) rfl fun fr r => ?_
            refine wn ?_
            exact nxy118 (!(x110.1 == (⟨0, a2⟩ : Res))) () _ _ _ hD r (hs_cons rfl (hs_cons rfl (hs_cons rfl (hs_cons rfl (hs_cons rfl (hs_cons rfl (hs_cons rfl (hs_cons rfl (hs_cons rfl (hs_cons rfl (hs_cons rfl (hs_cons rfl (hs_cons rfl (hs_cons rfl (hs_cons rfl (hs_cons rfl (hs_cons rfl (hs_cons rfl (hs_cons rfl (hs_cons rfl (hs_cons rfl hs_nil))))))))))))))))))))) (hP.pick [0, 1, 2, 3, 4, 5, 6, 7] rfl rfl)
         ·
          rintro x121 γ122 fr w123 g r hP hD
          have hP : Post No [cellC b1 ((planC a0)).toArray 25, cellC b16 ((seatC (⟨a0, 0, 0⟩ : Seat))).toArray 29, memK mg24 x110.2.2.2, rowK 22 1 u64 v68 x67, cellC b40 ((resC x38.1)).toArray 32, cellC b84 ((resC x82.1)).toArray 32, cellC b98 ((resC x96.1)).toArray 32, cellC b112 ((resC x110.1)).toArray 32] w0 w123 := hP
          refine wp_cond_split (t := x121) (r.ev rfl) (fun h124 => ?_) (fun h124 => ?_)
          ·
           have hD := (cond_t h124).symm.trans hD
           refine wsr ?_
           refine seq_val (.bool false) r (fun R => zz03 r rfl) rfl fun fr r => ?_
           refine wn ?_
           refine wp_ret ?_
           refine rty73 (Lp.ret false) _ _ hD fun hD => ?_
           refine rty29 false _ _ hD fun hD => ?_
           have hv : false = res := Option.some.inj hD
           try dsimp only [Exit.then, Exit.inBlock]
           refine ret_tmp (fn := Tryz.f4) r (t := 6) rfl (v := (.bool false)) rfl ?_
           subst hv
           exact ⟨rfl, hP.chg.below⟩
          ·
           have hD := (cond_f h124).symm.trans hD
           refine wp_skip ?_
           refine wp_region_lit ?_
           refine seq_val (I x71.2.1) r (fun R => y_move r rfl) rfl fun fr r => ?_
           refine seq_val _ r (fun R => y_bin r rfl rfl rfl rfl) rfl fun fr r => ?_
           refine seq_val (I (W (x71.2.1 + 1))) r (fun R => zz03 r rfl) rfl fun fr r => ?_
           refine wn ?_
           exact nxy73 (x71.1, (W (x71.2.1 + 1)), x110.2.2.2) () _ _ _ hD r (hs_cons rfl (hs_cons rfl (hs_cons rfl (hs_cons rfl (hs_cons rfl (hs_cons rfl (hs_cons rfl (hs_cons rfl (hs_cons rfl (hs_cons rfl (hs_cons rfl (hs_cons rfl (hs_cons rfl (hs_cons rfl (hs_cons rfl (hs_cons rfl hs_nil)))))))))))))))) (hP.pick [0, 1, 2, 3, 4] rfl rfl)
        ·
         have hD := (cond_f h75).symm.trans hD
         refine wp_exit ?_
         exact bky73 (x71.1, x71.2.1, x71.2.2) () _ _ _ hD r (hs_cons rfl (hs_cons rfl (hs_cons rfl (hs_cons rfl (hs_cons rfl (hs_cons rfl (hs_cons rfl (hs_cons rfl (hs_cons rfl (hs_cons rfl (hs_cons rfl (hs_cons rfl (hs_cons rfl (hs_cons rfl (hs_cons rfl (hs_cons rfl hs_nil)))))))))))))))) (hP.pick [0, 1, 2, 3, 4] rfl rfl)
       ·
        rintro x125 γ126 fr w127 g r hP hD
        have hP : Post No [cellC b1 ((planC a0)).toArray 25, cellC b16 ((seatC (⟨a0, 0, 0⟩ : Seat))).toArray 29, memK mg24 x125.2.2, rowK 22 1 u64 v68 x67, cellC b40 ((resC x38.1)).toArray 32] w0 w127 := hP
        refine wsr ?_
        refine seq_val (.agg (seatC (⟨a0, 0, 0⟩ : Seat)).toArray) r (fun R => zz05 r (cs := (seatC (⟨a0, 0, 0⟩ : Seat))) (n := 8) rfl (hP.cell (i := 1) rfl) ta29 rfl) rfl fun fr r => ?_
        refine seq_val _ r (fun R => zz02 r (o := 0) rfl fo32_1) rfl fun fr r => ?_
        refine seq_val (U x38.1.v) r (fun R => zz01 r rfl (hP.cell (i := 4) rfl) to22 rfl) rfl fun fr r => ?_
        refine zz06 r (c_check_Drop (F := No) (n := fu) (j := fu + 1) (fun _ h => h.elim) (by omega) (⟨a0, 0, 0⟩ : Seat) x38.1.v) (fun R hc => y_call r rfl cl36 hc) rfl ?_
        rintro _ w128 ⟨v129, rfl, hb, hr130⟩
        refine ⟨_, rfl, fun fr r => ?_⟩
        have hP : Post No [cellC b1 ((planC a0)).toArray 25, cellC b16 ((seatC (⟨a0, 0, 0⟩ : Seat))).toArray 29, memK mg24 x125.2.2, rowK 22 1 u64 v68 x67, cellC b40 ((resC x38.1)).toArray 32, progK Tryz.prog encRes (fu, (D.zz27 (fu + 1) (⟨a0, 0, 0⟩ : Seat) x38.1.v)) v129 (rg w127.heap.size w128.heap.size)] w0 w128 := hP.addProg hb hr130
        refine seq_val (.pointer (some ⟨mg24.mb, 0, none⟩)) r (fun R => y_move r rfl) rfl fun fr r => ?_
        refine seq_val (.pointer (some ⟨mg24.mb, 0, none⟩)) r (fun R => y_move r rfl) rfl fun fr r => ?_
        obtain ⟨x132, hx132, hD⟩ := zz0j hD
        refine zz06 r (zz2a w128 x125.2.2 (hP.mem (i := 2) rfl) 0 hx132) (fun R hc => y_call r rfl cl31 hc) rfl ?_
        rintro _ w133 ⟨rfl, hb⟩
        refine ⟨_, rfl, fun fr r => ?_⟩
        have hP : Post No [cellC b1 ((planC a0)).toArray 25, cellC b16 ((seatC (⟨a0, 0, 0⟩ : Seat))).toArray 29, memK mg24 x125.2.2, rowK 22 1 u64 v68 x67, cellC b40 ((resC x38.1)).toArray 32, progK Tryz.prog encRes (fu, (D.zz27 (fu + 1) (⟨a0, 0, 0⟩ : Seat) x38.1.v)) v129 (rg w127.heap.size w128.heap.size)] w0 w133 := hP.below hb
        obtain ⟨x134, hx134, hD⟩ := zz0j hD
        refine zz06 r (zz37 w133 (fu, (D.zz27 (fu + 1) (⟨a0, 0, 0⟩ : Seat) x38.1.v)) x125.2.2 x132 100000 (hP.sep.pk [5, 2] rfl rfl) hx134) (fun R hc => y_call r rfl cl29 hc) rfl ?_
        rintro _ w135 ⟨rfl, hq⟩
        refine ⟨_, rfl, fun fr r => ?_⟩
        have hP : Post No [cellC b1 ((planC a0)).toArray 25, cellC b16 ((seatC (⟨a0, 0, 0⟩ : Seat))).toArray 29, memK mg24 x134.2.2.2, rowK 22 1 u64 v68 x67, cellC b40 ((resC x38.1)).toArray 32, progK Tryz.prog encRes (fu, (D.zz27 (fu + 1) (⟨a0, 0, 0⟩ : Seat) x38.1.v)) v129 (rg w127.heap.size w128.heap.size)] w0 w135 := hP.setN (i := 2) rfl hq
        refine seq_val (.tuple #[(.agg (resC x134.1).toArray), (I x134.2.1), (.bool x134.2.2.1)]) r (fun R => y_move r rfl) rfl fun fr r => ?_
        refine seq_val (.agg (resC x134.1).toArray) r (fun R => zz0x r (vs := #[(.agg (resC x134.1).toArray), (I x134.2.1), (.bool x134.2.2.1)]) rfl rfl) rfl fun fr r => ?_
        refine seq_val (I x134.2.1) r (fun R => zz0x r (vs := #[(.agg (resC x134.1).toArray), (I x134.2.1), (.bool x134.2.2.1)]) rfl rfl) rfl fun fr r => ?_
        refine seq_val (.bool x134.2.2.1) r (fun R => zz0x r (vs := #[(.agg (resC x134.1).toArray), (I x134.2.1), (.bool x134.2.2.1)]) rfl rfl) rfl fun fr r => ?_
        refine seq_new (.cells ((resC (⟨0, 0⟩ : Res))).toArray 32 (0, 0)) r (fun R => y_alloc tz32) rfl fun fr b136 w137 n138 r => ?_
        have hP : Post No [cellC b1 ((planC a0)).toArray 25, cellC b16 ((seatC (⟨a0, 0, 0⟩ : Seat))).toArray 29, memK mg24 x134.2.2.2, rowK 22 1 u64 v68 x67, cellC b40 ((resC x38.1)).toArray 32, progK Tryz.prog encRes (fu, (D.zz27 (fu + 1) (⟨a0, 0, 0⟩ : Seat) x38.1.v)) v129 (rg w127.heap.size w128.heap.size), cellC b136 ((resC (⟨0, 0⟩ : Res))).toArray 32] w0 w137 := hP.new n138
        refine seq_upd (.cells ((resC x134.1)).toArray 32 (0, 0)) r (fun R => y_store r (o := 0) (v := (.agg (resC x134.1).toArray)) rfl rfl (hP.cell (i := 6) rfl) ts32 (Nat.le_of_ble_eq_true rfl) rfl rfl) rfl fun fr w140 u141 r => ?_
        have hP : Post No [cellC b1 ((planC a0)).toArray 25, cellC b16 ((seatC (⟨a0, 0, 0⟩ : Seat))).toArray 29, memK mg24 x134.2.2.2, rowK 22 1 u64 v68 x67, cellC b40 ((resC x38.1)).toArray 32, progK Tryz.prog encRes (fu, (D.zz27 (fu + 1) (⟨a0, 0, 0⟩ : Seat) x38.1.v)) v129 (rg w127.heap.size w128.heap.size), cellC b136 ((resC x134.1)).toArray 32] w0 w140 := hP.upd (i := 6) rfl u141
        refine seq_val (I x134.2.1) r (fun R => zz03 r rfl) rfl fun fr r => ?_
        refine seq_val (.bool x134.2.2.1) r (fun R => zz03 r rfl) rfl fun fr r => ?_
        refine wn ?_
        refine wsr ?_
        refine seq_val (.agg (seatC (⟨a0, 0, 0⟩ : Seat)).toArray) r (fun R => zz05 r (cs := (seatC (⟨a0, 0, 0⟩ : Seat))) (n := 8) rfl (hP.cell (i := 1) rfl) ta29 rfl) rfl fun fr r => ?_
        refine seq_val _ r (fun R => zz02 r (o := 0) rfl fo32_1) rfl fun fr r => ?_
        refine seq_val (U x38.1.v) r (fun R => zz01 r rfl (hP.cell (i := 4) rfl) to22 rfl) rfl fun fr r => ?_
        refine zz06 r (c_check_Read (F := No) (n := fu) (fun _ h => h.elim) (⟨a0, 0, 0⟩ : Seat) x38.1.v 0) (fun R hc => y_call r rfl cl33 hc) rfl ?_
        rintro _ w142 ⟨v143, rfl, hb, hr144⟩
        refine ⟨_, rfl, fun fr r => ?_⟩
        have hP : Post No [cellC b1 ((planC a0)).toArray 25, cellC b16 ((seatC (⟨a0, 0, 0⟩ : Seat))).toArray 29, memK mg24 x134.2.2.2, rowK 22 1 u64 v68 x67, cellC b40 ((resC x38.1)).toArray 32, progK Tryz.prog encRes (fu, (D.zz27 (fu + 1) (⟨a0, 0, 0⟩ : Seat) x38.1.v)) v129 (rg w127.heap.size w128.heap.size), cellC b136 ((resC x134.1)).toArray 32, progK Tryz.prog encRes (fu, (D.zz19 (⟨a0, 0, 0⟩ : Seat) x38.1.v 0)) v143 (rg w140.heap.size w142.heap.size)] w0 w142 := hP.addProg hb hr144
        refine seq_val (.pointer (some ⟨mg24.mb, 0, none⟩)) r (fun R => y_move r rfl) rfl fun fr r => ?_
        refine seq_val (.pointer (some ⟨mg24.mb, 0, none⟩)) r (fun R => y_move r rfl) rfl fun fr r => ?_
        obtain ⟨x146, hx146, hD⟩ := zz0j hD
        refine zz06 r (zz2a w142 x134.2.2.2 (hP.mem (i := 2) rfl) 0 hx146) (fun R hc => y_call r rfl cl31 hc) rfl ?_
        rintro _ w147 ⟨rfl, hb⟩
        refine ⟨_, rfl, fun fr r => ?_⟩
        have hP : Post No [cellC b1 ((planC a0)).toArray 25, cellC b16 ((seatC (⟨a0, 0, 0⟩ : Seat))).toArray 29, memK mg24 x134.2.2.2, rowK 22 1 u64 v68 x67, cellC b40 ((resC x38.1)).toArray 32, progK Tryz.prog encRes (fu, (D.zz27 (fu + 1) (⟨a0, 0, 0⟩ : Seat) x38.1.v)) v129 (rg w127.heap.size w128.heap.size), cellC b136 ((resC x134.1)).toArray 32, progK Tryz.prog encRes (fu, (D.zz19 (⟨a0, 0, 0⟩ : Seat) x38.1.v 0)) v143 (rg w140.heap.size w142.heap.size)] w0 w147 := hP.below hb
        obtain ⟨x148, hx148, hD⟩ := zz0j hD
        refine zz06 r (zz37 w147 (fu, (D.zz19 (⟨a0, 0, 0⟩ : Seat) x38.1.v 0)) x134.2.2.2 x146 99 (hP.sep.pk [7, 2] rfl rfl) hx148) (fun R hc => y_call r rfl cl29 hc) rfl ?_
        rintro _ w149 ⟨rfl, hq⟩
        refine ⟨_, rfl, fun fr r => ?_⟩
        have hP : Post No [cellC b1 ((planC a0)).toArray 25, cellC b16 ((seatC (⟨a0, 0, 0⟩ : Seat))).toArray 29, memK mg24 x148.2.2.2, rowK 22 1 u64 v68 x67, cellC b40 ((resC x38.1)).toArray 32, progK Tryz.prog encRes (fu, (D.zz27 (fu + 1) (⟨a0, 0, 0⟩ : Seat) x38.1.v)) v129 (rg w127.heap.size w128.heap.size), cellC b136 ((resC x134.1)).toArray 32, progK Tryz.prog encRes (fu, (D.zz19 (⟨a0, 0, 0⟩ : Seat) x38.1.v 0)) v143 (rg w140.heap.size w142.heap.size)] w0 w149 := hP.setN (i := 2) rfl hq
        refine seq_val (.tuple #[(.agg (resC x148.1).toArray), (I x148.2.1), (.bool x148.2.2.1)]) r (fun R => y_move r rfl) rfl fun fr r => ?_
        refine seq_val (.agg (resC x148.1).toArray) r (fun R => zz0x r (vs := #[(.agg (resC x148.1).toArray), (I x148.2.1), (.bool x148.2.2.1)]) rfl rfl) rfl fun fr r => ?_
        refine seq_val (I x148.2.1) r (fun R => zz0x r (vs := #[(.agg (resC x148.1).toArray), (I x148.2.1), (.bool x148.2.2.1)]) rfl rfl) rfl fun fr r => ?_
        refine seq_val (.bool x148.2.2.1) r (fun R => zz0x r (vs := #[(.agg (resC x148.1).toArray), (I x148.2.1), (.bool x148.2.2.1)]) rfl rfl) rfl fun fr r => ?_
        refine seq_new (.cells ((resC (⟨0, 0⟩ : Res))).toArray 32 (0, 0)) r (fun R => y_alloc tz32) rfl fun fr b150 w151 n152 r => ?_
        have hP : Post No [cellC b1 ((planC a0)).toArray 25, cellC b16 ((seatC (⟨a0, 0, 0⟩ : Seat))).toArray 29, memK mg24 x148.2.2.2, rowK 22 1 u64 v68 x67, cellC b40 ((resC x38.1)).toArray 32, progK Tryz.prog encRes (fu, (D.zz27 (fu + 1) (⟨a0, 0, 0⟩ : Seat) x38.1.v)) v129 (rg w127.heap.size w128.heap.size), cellC b136 ((resC x134.1)).toArray 32, progK Tryz.prog encRes (fu, (D.zz19 (⟨a0, 0, 0⟩ : Seat) x38.1.v 0)) v143 (rg w140.heap.size w142.heap.size), cellC b150 ((resC (⟨0, 0⟩ : Res))).toArray 32] w0 w151 := hP.new n152
        refine seq_upd (.cells ((resC x148.1)).toArray 32 (0, 0)) r (fun R => y_store r (o := 0) (v := (.agg (resC x148.1).toArray)) rfl rfl (hP.cell (i := 8) rfl) ts32 (Nat.le_of_ble_eq_true rfl) rfl rfl) rfl fun fr w154 u155 r => ?_
        have hP : Post No [cellC b1 ((planC a0)).toArray 25, cellC b16 ((seatC (⟨a0, 0, 0⟩ : Seat))).toArray 29, memK mg24 x148.2.2.2, rowK 22 1 u64 v68 x67, cellC b40 ((resC x38.1)).toArray 32, progK Tryz.prog encRes (fu, (D.zz27 (fu + 1) (⟨a0, 0, 0⟩ : Seat) x38.1.v)) v129 (rg w127.heap.size w128.heap.size), cellC b136 ((resC x134.1)).toArray 32, progK Tryz.prog encRes (fu, (D.zz19 (⟨a0, 0, 0⟩ : Seat) x38.1.v 0)) v143 (rg w140.heap.size w142.heap.size), cellC b150 ((resC x148.1)).toArray 32] w0 w154 := hP.upd (i := 8) rfl u155
        refine seq_val (I x148.2.1) r (fun R => zz03 r rfl) rfl fun fr r => ?_
        refine seq_val (.bool x148.2.2.1) r (fun R => zz03 r rfl) rfl fun fr r => ?_
        refine wn ?_
        refine wp_seq ?_
        have hP : Post No [cellC b1 ((planC a0)).toArray 25, cellC b16 ((seatC (⟨a0, 0, 0⟩ : Seat))).toArray 29, memK mg24 x148.2.2.2, rowK 22 1 u64 v68 x67, cellC b40 ((resC x38.1)).toArray 32, cellC b136 ((resC x134.1)).toArray 32, cellC b150 ((resC x148.1)).toArray 32] w0 w154 := hP.pick [0, 1, 2, 3, 4, 6, 8] rfl rfl
        refine zz3i (N := 182) (Y := Bool) (G := Unit) (fun x γ => [(0, (.agg (planC a0).toArray)), (1, (.int .u8 a1)), (2, (U a2)), (3, (.pointer (some ⟨b1, 0, none⟩))), (37, (.bool x10)), (7, (.pointer (some ⟨b16, 0, none⟩))), (8, (.pointer (some ⟨mg24.mb, 0, none⟩))), (44, (.bool false)), (9, v68), (10, (I x27.2.2.1)), (49, (.bool (decide (x27.2.2.1 < (W (a1.tmod 40)))))), (11, (.pointer (some ⟨b40, 0, none⟩))), (64, (.bool (x38.1.e != 0))), (14, (I x60.2)), (6, (.bool x125.1)), (15, (I x125.2.1)), (25, (.pointer (some ⟨b136, 0, none⟩))), (28, (.pointer (some ⟨b150, 0, none⟩))), (181, (.bool x))]) (fun x γ w => Post No [cellC b1 ((planC a0)).toArray 25, cellC b16 ((seatC (⟨a0, 0, 0⟩ : Seat))).toArray 29, memK mg24 x148.2.2.2, rowK 22 1 u64 v68 x67, cellC b40 ((resC x38.1)).toArray 32, cellC b136 ((resC x134.1)).toArray 32, cellC b150 ((resC x148.1)).toArray 32] w0 w) hD ?_ ?_
        ·
         rintro y156 RPy156 nxy156 hD
         refine wp_region_lit ?_
         refine seq_val (.agg (resC x134.1).toArray) r (fun R => zz05 r (cs := (resC x134.1)) (n := 2) rfl (hP.cell (i := 5) rfl) ta32 rfl) rfl fun fr r => ?_
         refine seq_val (.agg (resC (⟨0, 0⟩ : Res)).toArray) r (fun R => y_build r (by kernel_rfl)) rfl fun fr r => ?_
         refine seq_val _ r (fun R => y_bin r rfl rfl (run_eqGuard_agg _ _ _ _ _ _ _ eg32) (eqs32 _ _ _).2) rfl fun fr r => ?_
         refine seq_val (.bool (!(x134.1 == (⟨0, 0⟩ : Res)))) r (fun R => y_move r rfl) rfl fun fr r => ?_
         refine zz0q (!(x134.1 == (⟨0, 0⟩ : Res))) (fun h157 => ?_) (fun h157 => ?_)
         ·
          have hD := (cond_t h157).symm.trans hD
          refine s0 r h157 fun fr r => ?_
          refine s0 r h157 fun fr r => ?_
          refine s0 r h157 fun fr r => ?_
          refine seq_val (.bool true) r (fun R => y_pick r (b := true) (congrArg Value.bool h157) rfl) rfl fun fr r => ?_
          refine wn ?_
          exact nxy156 true () _ _ _ hD r (hs_cons rfl (hs_cons rfl (hs_cons rfl (hs_cons rfl (hs_cons rfl (hs_cons rfl (hs_cons rfl (hs_cons rfl (hs_cons rfl (hs_cons rfl (hs_cons rfl (hs_cons rfl (hs_cons rfl (hs_cons rfl (hs_cons rfl (hs_cons rfl (hs_cons rfl (hs_cons rfl (hs_cons rfl hs_nil))))))))))))))))))) (hP.pick [0, 1, 2, 3, 4, 5, 6] rfl rfl)
         ·
          have hD := (cond_f h157).symm.trans hD
          refine s1 r h157 ?_
          refine seq_val (.agg (resC x148.1).toArray) r (fun R => zz05 r (cs := (resC x148.1)) (n := 2) rfl (hP.cell (i := 6) rfl) ta32 rfl) rfl fun fr r => ?_
          refine s1 r h157 ?_
          refine seq_val (.agg (resC (⟨3, 0⟩ : Res)).toArray) r (fun R => y_build r (by kernel_rfl)) rfl fun fr r => ?_
          refine s1 r h157 ?_
          refine seq_val _ r (fun R => y_bin r rfl rfl (run_eqGuard_agg _ _ _ _ _ _ _ eg32) (eqs32 _ _ _).2) rfl fun fr r => ?_
          refine seq_val (.bool (!(x148.1 == (⟨3, 0⟩ : Res)))) r (fun R => y_pick r (b := false) (congrArg Value.bool h157) rfl) rfl fun fr r => ?_
          refine wn ?_
          exact nxy156 (!(x148.1 == (⟨3, 0⟩ : Res))) () _ _ _ hD r (hs_cons rfl (hs_cons rfl (hs_cons rfl (hs_cons rfl (hs_cons rfl (hs_cons rfl (hs_cons rfl (hs_cons rfl (hs_cons rfl (hs_cons rfl (hs_cons rfl (hs_cons rfl (hs_cons rfl (hs_cons rfl (hs_cons rfl (hs_cons rfl (hs_cons rfl (hs_cons rfl (hs_cons rfl hs_nil))))))))))))))))))) (hP.pick [0, 1, 2, 3, 4, 5, 6] rfl rfl)
        ·
         rintro x158 γ159 fr w160 g r hP hD
         have hP : Post No [cellC b1 ((planC a0)).toArray 25, cellC b16 ((seatC (⟨a0, 0, 0⟩ : Seat))).toArray 29, memK mg24 x148.2.2.2, rowK 22 1 u64 v68 x67, cellC b40 ((resC x38.1)).toArray 32, cellC b136 ((resC x134.1)).toArray 32, cellC b150 ((resC x148.1)).toArray 32] w0 w160 := hP
         refine wp_cond_split (t := x158) (r.ev rfl) (fun h161 => ?_) (fun h161 => ?_)
         ·
          have hD := (cond_t h161).symm.trans hD
          refine wsr ?_
          refine seq_val (.bool false) r (fun R => zz03 r rfl) rfl fun fr r => ?_
          refine wn ?_
          refine wp_ret ?_
          refine rty29 false _ _ hD fun hD => ?_
          have hv : false = res := Option.some.inj hD
          try dsimp only [Exit.then, Exit.inBlock]
          refine ret_tmp (fn := Tryz.f4) r (t := 6) rfl (v := (.bool false)) rfl ?_
          subst hv
          exact ⟨rfl, hP.chg.below⟩
         ·
          have hD := (cond_f h161).symm.trans hD
          refine wp_skip ?_
          refine wp_region_lit ?_
          refine seq_val (I x27.2.2.1) r (fun R => y_move r rfl) rfl fun fr r => ?_
          refine seq_val _ r (fun R => y_bin r rfl rfl rfl rfl) rfl fun fr r => ?_
          refine seq_val (I (W (x27.2.2.1 + 1))) r (fun R => zz03 r rfl) rfl fun fr r => ?_
          refine wn ?_
          exact nxy29 (x125.1, x67, (W (x27.2.2.1 + 1)), x148.2.2.2) v68 _ _ _ hD r (hs_cons rfl (hs_cons rfl (hs_cons rfl (hs_cons rfl (hs_cons rfl (hs_cons rfl (hs_cons rfl (hs_cons rfl (hs_cons rfl (hs_cons rfl (hs_cons rfl hs_nil))))))))))) (hP.pick [0, 1, 2, 3] rfl rfl)
    ·
     have hD := (cond_f h31).symm.trans hD
     refine wp_exit ?_
     exact bky29 (x27.1, x27.2.1, x27.2.2.1, x27.2.2.2) γ28 _ _ _ hD r (hs_cons rfl (hs_cons rfl (hs_cons rfl (hs_cons rfl (hs_cons rfl (hs_cons rfl (hs_cons rfl (hs_cons rfl (hs_cons rfl (hs_cons rfl (hs_cons rfl hs_nil))))))))))) (hP.pick [0, 1, 2, 3] rfl rfl)
   ·
    rintro x162 γ163 fr w164 g r hP hD
    have hP : Post No [cellC b1 ((planC a0)).toArray 25, cellC b16 ((seatC (⟨a0, 0, 0⟩ : Seat))).toArray 29, memK mg24 x162.2.2.2, rowK 22 1 u64 γ163 x162.2.1] w0 w164 := hP
    refine wsr ?_
    refine seq_val (.bool true) r (fun R => zz03 r rfl) rfl fun fr r => ?_
    refine wn ?_
    refine wp_ret ?_
    have hv : true = res := Option.some.inj hD
    try dsimp only [Exit.then, Exit.inBlock]
    refine ret_tmp (fn := Tryz.f4) r (t := 6) rfl (v := (.bool true)) rfl ?_
    subst hv
    exact ⟨rfl, hP.chg.below⟩

end Go.Proofs.YtjkinpbfmihhdaaGreat.Wk

/- CheckFresh: what the walk found answers as the law says. -/
set_option linter.unusedVariables false
namespace Go.Proofs.YtjkinpbfmihhdaaGreat
open Go.RowKit
theorem awake13f : D.zz32 4000 = some true := by decide +kernel

theorem few13f_eq {p : Plan} (h : D.zz1r p = true) : PF p ∧ p.nodes ≤ 40 ∧ p.retire ≤ 40 ∧ p.domains ≤ 6 ∧ p.buckets ≤ 10 := by
  unfold D.zz1r at h
  cases h1 : D.zz1k p <;> rw [h1] at h
  · cases h
  have hp := ref_formed h
  exact ⟨hp, ref_few hp h1⟩

/-- What was granted so far, by node and generation: none will be granted again. -/
structure FreshP (N : Int) (P : Pool) (hd : List (Int × Int)) : Prop where
  fr0 : ∀ n, n ∈ P.fr → (P.st n).mode = 0 ∧ ∀ g, (n, g) ∈ hd → g < (P.st n).gen
  rt2 : ∀ n, n ∈ P.rt → (∃ g, (n, g) ∈ hd) ∧ ∀ g, (n, g) ∈ hd → g ≤ (P.st n).gen
  all : ∀ n, 0 ≤ n → n < N → n ∈ P.fr ∨ n ∈ P.rt ∨ ∃ g, (n, g) ∈ hd

theorem scan_sup {P : Pool} {m n : Int} (hd : P.rt.Nodup) (h : n ∈ P.fr) : n ∈ (P.scan m).fr := by
  unfold Pool.scan
  rw [back_fr m _ _ (List.pairwise_reverse.2 (hd.imp fun h e => h e.symm))]
  have : ∀ (k L : List Int), n ∈ L → n ∈ k.foldl (fun l n => if (D.zz0g (P.st n) m).mode = 3 then l else n :: l) L := by
    intro k
    induction k with
    | nil => exact fun L h => h
    | cons a k ih =>
      intro L h
      refine ih _ ?_
      show n ∈ (if (D.zz0g (P.st a) m).mode = 3 then L else a :: L)
      split
      · exact h
      · exact List.mem_cons_of_mem _ h
  exact this _ _ h

theorem FreshP.scan {N : Int} {P : Pool} {hd : List (Int × Int)} (h : FreshP N P hd) (hn : P.rt.Nodup) (hds : ∀ n, n ∈ P.rt → n ∉ P.fr) (hg : ∀ n, n ∈ P.rt → 0 ≤ (P.st n).gen ∧ (P.st n).gen ≤ 1073741823) (m : Int) : FreshP N (P.scan m) hd := by
  have hst : ∀ n, (P.scan m).st n = if n ∈ P.rt then D.zz0g (P.st n) m else P.st n := fun n => by
    unfold Pool.scan
    rw [back_st _ _ _ (List.pairwise_reverse.2 (hn.imp fun h e => h e.symm))]
    simp only [List.mem_reverse]
  refine ⟨fun n hm => ?_, fun n hm => (by rw [scan_rt] at hm; cases hm), fun n n0 n1 => ?_⟩
  · rw [hst]
    rcases scan_sub2 hn hm with ⟨h1, h2⟩ | h1
    · rw [if_pos h1]
      obtain ⟨g0, g1⟩ := hg n h1
      refine ⟨(freed_mode _ _).resolve_left h2, fun g hgm => ?_⟩
      have hle := (h.rt2 n h1).2 g hgm
      unfold D.zz0g at h2 ⊢
      cases hc : decide ((P.st n).gen ≥ m)
      · show g < IntKind.i64.wrap ((P.st n).gen + 1)
        rw [wrap_id (by omega) (by omega)]; omega
      · rw [hc] at h2
        exact absurd rfl h2
    · rw [if_neg fun h2 => hds n h2 h1]
      exact h.fr0 n h1
  · rcases h.all n n0 n1 with h1 | h1 | h1
    · exact .inl (scan_sup hn h1)
    · exact .inr (.inr (h.rt2 n h1).1)
    · exact .inr (.inr h1)

theorem sub_len : ∀ {l k : List Int}, l.Nodup → (∀ x, x ∈ l → x ∈ k) → l.length ≤ k.length
  | [], k, _, _ => Nat.zero_le _
  | a :: l, k, hn, hs => by
    obtain ⟨h1, h2⟩ := List.nodup_cons.1 hn
    have ha := hs a (List.mem_cons_self ..)
    have := sub_len (k := k.erase a) h2 fun x hx => (List.mem_erase_of_ne (fun e => h1 (by rw [← e]; exact hx))).2 (hs x (List.mem_cons_of_mem _ hx))
    rw [List.length_erase_of_mem ha] at this
    have := List.length_pos_of_mem ha
    simp only [List.length_cons]
    omega

def hw0 (x : Int × Int) : Int := D.zz0u ⟨x.1, x.2, 0⟩

theorem hw0_inj {n g n' g' : Int} (h1 : HF ⟨n, g, 0⟩) (h2 : HF ⟨n', g', 0⟩) (h : hw0 (n, g) = hw0 (n', g')) : n = n' ∧ g = g' := by
  unfold hw0 at h
  rw [hword_val h1, hword_val h2] at h
  obtain ⟨a1, a2, a3, a4, _, _⟩ := h1
  obtain ⟨b1, b2, b3, b4, _, _⟩ := h2
  simp only at *
  omega

/-- A node is granted: its fields are zero. -/
theorem PoolAt.grantZ {p : Plan} (hp : PF p) (hnn : p.nodes ≤ 1000) {t : Int} (ht : 0 ≤ t ∧ t < p.threads) {ws : List Int} {P : Pool} {g k : Int} (hk : 0 ≤ k ∧ k ≤ 2) (h : PoolAt p t ws P g) (hg : g < 900000) (J : Nat) (hJ : 1100 < J) :
    ∃ (m : Nat) (ws' : List Int) (g' : Int), m ≤ 70 * P.rt.length + 10 ∧ g' ≤ g + P.rt.length + 1 ∧ Runs (D.zz5m J p t k) ws m (P.grant p.gen k).2 ws' ∧ PoolAt p t ws' (P.grant p.gen k).1 g' ∧ ((P.grant p.gen k).2.e = 0 → ∀ f, 0 ≤ f → f < 3 → rd ws' (fp p (P.grant p.gen k).2.node f) = 0) := by
  have hN := zz2b hp
  have hz := hz_in hp
  obtain ⟨p1, p2, p3⟩ := rb_in hp ht
  have hrm := h.ret.room
  have hr2 := hp.r2
  obtain ⟨fr, rt, st⟩ := P
  cases fr with
  | cons n l =>
    have hn := h.free.range n (List.mem_cons_self ..)
    obtain ⟨K, rfl⟩ : ∃ K, J = K + 1 := ⟨J - 1, by omega⟩
    obtain ⟨ws', hr, hl, hF, hst, ho⟩ := new_pop hp (t := t) h.free (by omega) (by omega) (h.st n hn.1 hn.2) hk K
    refine ⟨5, ws', g + 1, by omega, by omega, hr, h.took hp ht hk hl hF hst ho, fun _ f f0 f1 => ?_⟩
    exact (ho _ (by show 0 < sp p n + 2 + f; unfold sp; omega) (by show sp p n + 2 + f ≠ sp p n; omega)).trans (h.zero n f (List.mem_cons_self ..) f0 f1)
  | nil =>
    obtain ⟨K, rfl⟩ : ∃ K, J = K + 1 := ⟨J - 1, by omega⟩
    obtain ⟨m1, ws1, g1, hm1, hg1, hr1, h1, hk1⟩ := h.scan hp hnn ht hg (K + 1) hJ
    have hnew : ∀ {m : Nat} {gr : Grant} {ws' : List Int}, Runs (T.bind (D.zz2z (K + 1) p) (fun x => D.zz22 p k x)) ws1 m gr ws' → Runs (D.zz5m (K + 1) p t k) ws (m1 + 1 + m) gr ws' := fun {m gr ws'} hr => by
      refine (Runs.bind (g := fun x => D.zz3h (K + 1) p k t (fun x => D.zz22 p k x) x) (pop_none hp h.free (by omega) K) (m := m1 + m) ?_).cast (by omega)
      unfold D.zz3h
      rw [show ((-1 : Int) != -1) = false from rfl]
      exact Runs.bind (g := fun x => D.zz5a (K + 1) p (fun x => D.zz22 p k x) x) hr1 hr
    show ∃ (m : Nat) (ws' : List Int) (g' : Int), _ ∧ _ ∧ Runs _ ws m (((⟨[], rt, st⟩ : Pool).scan p.gen).out k).2 ws' ∧ PoolAt p t ws' (((⟨[], rt, st⟩ : Pool).scan p.gen).out k).1 g' ∧ ((((⟨[], rt, st⟩ : Pool).scan p.gen).out k).2.e = 0 → ∀ f, 0 ≤ f → f < 3 → rd ws' (fp p (((⟨[], rt, st⟩ : Pool).scan p.gen).out k).2.node f) = 0)
    have hgl : g1 < 1000000 := by omega
    generalize hQ : (⟨[], rt, st⟩ : Pool).scan p.gen = Q at h1
    obtain ⟨fr', rt', st'⟩ := Q
    cases fr' with
    | nil =>
      exact ⟨m1 + 1 + 1, ws1, g1, by omega, by omega, hnew (again_none hp h1.free hgl K), h1, fun h => by cases h⟩
    | cons n l =>
      have hn := h1.free.range n (List.mem_cons_self ..)
      obtain ⟨ws', hr, hl, hF, hst, ho⟩ := again_some hp h1.free (by omega) hgl (h1.st n hn.1 hn.2) hk K
      refine ⟨m1 + 1 + 5, ws', g1 + 1, by omega, by omega, hnew hr, h1.took hp ht hk hl hF hst ho, fun _ f f0 f1 => ?_⟩
      exact (ho _ (by show 0 < sp p n + 2 + f; unfold sp; omega) (by show sp p n + 2 + f ≠ sp p n; omega)).trans (h1.zero n f (List.mem_cons_self ..) f0 f1)

theorem new_runsZ {s : Seat} (hs : D.zz0n s = true) (hnn : s.p.nodes ≤ 1000) {ws : List Int} {P : Pool} {g : Int} (h : PoolAt s.p s.thread ws P g) (hg : g < 900000) (J : Nat) (hJ : 1100 < J) : ∃ (m : Nat) (ws' : List Int) (g' : Int), m ≤ 70 * P.rt.length + 10 ∧ g' ≤ g + P.rt.length + 1 ∧
    Runs (D.zz2f J s) ws m (if (P.grant s.p.gen 0).2.e = 0 then ⟨0, D.zz0u ⟨(P.grant s.p.gen 0).2.node, (P.grant s.p.gen 0).2.gen, s.tenant⟩⟩ else ⟨(P.grant s.p.gen 0).2.e, 0⟩) ws' ∧ PoolAt s.p s.thread ws' (P.grant s.p.gen 0).1 g' ∧ ((P.grant s.p.gen 0).2.e = 0 → ∀ f, 0 ≤ f → f < 3 → rd ws' (fp s.p (P.grant s.p.gen 0).2.node f) = 0) := by
  obtain ⟨hp, _, ht⟩ := zz52.1 hs
  obtain ⟨m, ws', g', hm, hg', hr, hP, hk⟩ := h.grantZ hp hnn ht (k := 0) (by omega) hg J hJ
  refine ⟨m, ws', g', hm, hg', ?_, hP, hk⟩
  unfold D.zz2f
  rw [hs]
  simp only [Bool.not_true, cond_false]
  refine (Runs.bind (g := fun x => D.zz51 s x) hr (m := 0) ?_).cast (by omega)
  unfold D.zz51
  split
  · rename_i e
    rw [show ((P.grant s.p.gen 0).2.e != 0) = false from by simpa using e]
    exact .done _ _
  · rename_i e
    rw [show ((P.grant s.p.gen 0).2.e != 0) = true from by simpa using e]
    exact .done _ _

/-- A node that was granted is dropped: what was granted so far grows by it. -/
theorem FreshP.drop {N : Int} {l rt : List Int} {st : Int → State} {hd : List (Int × Int)} {n g : Int} (h : FreshP N ⟨n :: l, rt, st⟩ hd) (hnl : n ∉ l) (hnr : n ∉ rt) (hg : (st n).gen = g) (hdup : rt.Nodup) (hds : ∀ q, q ∈ rt → q ∉ l)
    (hgen : ∀ q, q ∈ rt → 0 ≤ (st q).gen ∧ (st q).gen ≤ 1073741823) {st' : Int → State} (hst : ∀ q, q ≠ n → st' q = st q) (hst2 : st' n = ⟨g, 2, 0⟩) (room m : Int) : FreshP N ((⟨l, rt, st'⟩ : Pool).stash room m n) (hd ++ [(n, g)]) := by
  have hmem : ∀ q e, (q, e) ∈ hd ++ [(n, g)] → (q, e) ∈ hd ∨ (q = n ∧ e = g) := fun q e hq => by
    rcases List.mem_append.1 hq with hq | hq
    · exact .inl hq
    · have := List.mem_singleton.1 hq
      exact .inr (by simpa using this)
  have h2 : FreshP N ⟨l, rt, st'⟩ (hd ++ [(n, g)]) := by
    refine ⟨fun q hq => ?_, fun q hq => ?_, fun q q0 q1 => ?_⟩
    · have hne : q ≠ n := fun e => hnl (e ▸ hq)
      have := h.fr0 q (List.mem_cons_of_mem _ hq)
      show (st' q).mode = 0 ∧ ∀ g', _ → g' < (st' q).gen
      rw [hst q hne]
      refine ⟨this.1, fun e he => ?_⟩
      rcases hmem q e he with he | ⟨he, _⟩
      · exact this.2 e he
      · exact absurd he hne
    · have hne : q ≠ n := fun e => hnr (e ▸ hq)
      have := h.rt2 q hq
      show _ ∧ ∀ g', _ → g' ≤ (st' q).gen
      rw [hst q hne]
      refine ⟨⟨this.1.choose, List.mem_append_left _ this.1.choose_spec⟩, fun e he => ?_⟩
      rcases hmem q e he with he | ⟨he, _⟩
      · exact this.2 e he
      · exact absurd he hne
    · by_cases e : q = n
      · exact .inr (.inr ⟨g, by rw [e]; exact List.mem_append_right _ (List.mem_singleton.2 rfl)⟩)
      · rcases h.all q q0 q1 with h1 | h1 | ⟨g', h1⟩
        · exact .inl ((List.mem_cons.1 h1).resolve_left e)
        · exact .inr (.inl h1)
        · exact .inr (.inr ⟨g', List.mem_append_left _ h1⟩)
  have hle : ∀ e, (n, e) ∈ hd ++ [(n, g)] → e ≤ g := fun e he => by
    rcases hmem n e he with he | ⟨_, he⟩
    · have := (h.fr0 n (List.mem_cons_self ..)).2 e he
      replace this : e < (st n).gen := this
      omega
    · omega
  have key : ∀ Q : Pool, FreshP N Q (hd ++ [(n, g)]) → (Q.st n).gen = g → FreshP N ⟨Q.fr, Q.rt ++ [n], Q.st⟩ (hd ++ [(n, g)]) := fun Q hQ hQn => by
    refine ⟨hQ.fr0, fun q hq => ?_, fun q q0 q1 => ?_⟩
    · rcases List.mem_append.1 hq with hq | hq
      · exact hQ.rt2 q hq
      · rw [List.mem_singleton.1 hq]
        exact ⟨⟨g, List.mem_append_right _ (List.mem_singleton.2 rfl)⟩, fun e he => by
          show e ≤ (Q.st n).gen
          rw [hQn]; exact hle e he⟩
    · rcases hQ.all q q0 q1 with h1 | h1 | h1
      · exact .inl h1
      · exact .inr (.inl (List.mem_append_left _ h1))
      · exact .inr (.inr h1)
  have hgn : (st' n).gen = g := by rw [hst2]
  unfold Pool.stash
  split
  · exact key _ h2 hgn
  · refine key _ (h2.scan hdup hds (fun q hq => ?_) m) ?_
    · show 0 ≤ (st' q).gen ∧ (st' q).gen ≤ 1073741823
      rw [hst q fun e => hnr (e ▸ hq)]
      exact hgen q hq
    · rw [scan_st (P := ⟨l, rt, st'⟩) hnr hdup]; exact hgn

/-- What holds before each turn. -/
def FreshI (p : Plan) (i : Nat) (x : Bool × List Int × Int × Mem) : Prop := x.2.2.1 = (i : Int) ∧ ∃ P g hd, g ≤ 100 * (i : Int) ∧ PoolAt p 0 x.2.2.2.ws P g ∧ FreshP p.nodes P hd ∧ x.2.1 = hd.map hw0 ∧ hd.length = i ∧ ∀ n g, (n, g) ∈ hd → HF ⟨n, g, 0⟩

theorem pure_CheckFresh (p : Plan) (turns v : Int) (_ : -9223372036854775808 ≤ p.nodes ∧ p.nodes ≤ 9223372036854775807) (_ : -9223372036854775808 ≤ p.threads ∧ p.threads ≤ 9223372036854775807)
    (_ : -9223372036854775808 ≤ p.retire ∧ p.retire ≤ 9223372036854775807) (_ : -9223372036854775808 ≤ p.domains ∧ p.domains ≤ 9223372036854775807) (_ : -9223372036854775808 ≤ p.buckets ∧ p.buckets ≤ 9223372036854775807)
    (_ : -9223372036854775808 ≤ p.gen ∧ p.gen ≤ 9223372036854775807) (htu : 0 ≤ turns ∧ turns ≤ 255) (hv : 0 ≤ v ∧ v ≤ 18446744073709551615) :
    ∃ fu, Wk.D.zz2s fu p turns v = some true := by
  refine ⟨4000, ?_⟩
  unfold Wk.D.zz2s
  rw [awake13f]
  simp only [Option.bind_some, Bool.not_true, cond_false]
  cases hfw : D.zz1r p
  case false => rfl
  simp only [Bool.not_true, cond_false, Option.bind_some]
  obtain ⟨hp, hfw⟩ := few13f_eq hfw
  have ht1 := hp.t1
  have hn1 := hp.n1
  have hz := hz_in hp
  have hT : 0 ≤ turns.tmod 40 ∧ turns.tmod 40 < 40 := by rw [Int.tmod_eq_emod_of_nonneg htu.1]; omega
  rw [zz1h (show -1000000 ≤ turns.tmod 40 by omega) (by omega)]
  generalize turns.tmod 40 = T at hT
  have ht : (0 : Int) ≤ 0 ∧ 0 < p.threads := by omega
  have hs : D.zz0n ⟨p, 0, 0⟩ = true := zz52.2 ⟨hp, by show (0 : Int) ≤ 0 ∧ (0 : Int) < 64; omega, ht⟩
  obtain ⟨M, hM, hL⟩ := laid_eq hp hfw (fu := 4000) (by omega)
  rw [hM]
  simp only [Option.bind_some]
  refine loop_invR (fun o => o = some true) (FreshI p) T.toNat 4000
    ⟨rfl, ⟨allN p, [], fun _ => ⟨0, 0, 0⟩⟩, 0, [], by omega, PoolAt.start hp hL ht, ⟨fun _ _ => ⟨rfl, fun _ h => (by cases h)⟩, fun _ h => (by cases h), fun n n0 n1 => .inl ?_⟩, rfl, rfl, fun _ _ h => (by cases h)⟩ (by omega) ?_ ?_
  · unfold allN
    refine List.mem_map.2 ⟨n.toNat, by simp; omega, by omega⟩
  · rintro i ⟨b, had, x, M1⟩ hi ⟨rfl, P, g, hd, hg, hP, hF, rfl, hlen, hH⟩
    simp only at hg hP ⊢
    rw [show decide ((i : Int) < T) = true from by simp; omega]
    simp only [cond_true, Cap_eq, Option.bind_some]
    have hrm := hP.ret.room
    obtain ⟨m, w1, g1, hm, hg1, hr, hP1, hZ⟩ := new_runsZ (s := ⟨p, 0, 0⟩) hs (by simp only; omega) hP (by omega) 4001 (by omega)
    simp only at hr hP1 hZ
    obtain ⟨c, hc⟩ := runR (fu := 4000) (most := 100000) (M := M1) hr (by omega) (by omega) (by omega)
    rw [hc]
    simp only [Option.bind_some]
    have hgen : ∀ n, n ∈ P.rt → 0 ≤ (P.st n).gen ∧ (P.st n).gen ≤ 1073741823 := fun n hn => by
      have hr := (hP.ret.range n hn)
      have := (hP.st n hr.1 hr.2).2
      exact ⟨this.g0, this.g1⟩
    -- the pool from which a node is taken
    obtain ⟨Q, hQ, hQu, hQr, hQd, hQk, hQg, hgr⟩ : ∃ Q : Pool, FreshP p.nodes Q hd ∧ Q.fr.Nodup ∧ Q.rt.Nodup ∧ (∀ n, n ∈ Q.rt → n ∉ Q.fr) ∧ (∀ n, n ∈ Q.fr → 0 ≤ n ∧ n < p.nodes) ∧ (∀ n, n ∈ Q.rt → 0 ≤ (Q.st n).gen ∧ (Q.st n).gen ≤ 1073741823) ∧ P.grant p.gen 0 = Q.out 0 := by
      unfold Pool.grant
      split
      · obtain ⟨_, _, _, _, _, _, hS, _⟩ := hP.scan hp (by omega) ht (by omega) 4001 (by omega)
        exact ⟨_, hF.scan hP.nod hP.dis hgen p.gen, hS.free.nodup, hS.nod, hS.dis, fun n hn => hS.free.range n hn, fun n hn => (by rw [scan_rt] at hn; cases hn), rfl⟩
      · exact ⟨P, hF, hP.free.nodup, hP.nod, hP.dis, fun n hn => hP.free.range n hn, hgen, rfl⟩
    rw [hgr] at hP1 hZ ⊢
    obtain ⟨fr, rt, st⟩ := Q
    cases fr with
    | nil =>
      have h40 : ((4 : Int) = 0) = False := by simp
      simp only [Pool.out, h40, if_false]
      refine .inr ⟨_, rfl, ?_⟩
      have hle : p.nodes ≤ i := by
        have := sub_len (l := allN p) (k := hd.map (·.1)) ?_ fun n hn => ?_
        · rw [List.length_map, hlen] at this
          unfold allN at this
          simp at this
          omega
        · have := (laid_free hp hL).nodup
          exact this
        · have hr := (laid_free hp hL).range n hn
          rcases hQ.all n hr.1 hr.2 with h1 | h1 | ⟨g, h1⟩
          · cases h1
          · obtain ⟨g, h2⟩ := (hQ.rt2 n h1).1
            exact List.mem_map.2 ⟨_, h2, rfl⟩
          · exact List.mem_map.2 ⟨_, h1, rfl⟩
      rw [show decide ((i : Int) ≥ p.nodes) = true from by simpa using hle]
    | cons n l =>
      refine .inl ?_
      simp only [Pool.out] at hP1 hZ ⊢
      have hnl := (List.nodup_cons.1 hQu).1
      have hnr : n ∉ rt := fun h => hQd n h (List.mem_cons_self ..)
      have hnR := hQk n (List.mem_cons_self ..)
      have hmode := (hQ.fr0 n (List.mem_cons_self ..))
      simp only at hmode
      obtain ⟨hm0, hlt⟩ := hmode
      have hSt := hP1.st n hnR.1 hnR.2
      simp only [if_true] at hSt
      have hgn : 0 ≤ (st n).gen ∧ (st n).gen ≤ 1073741823 := ⟨hSt.2.g0, hSt.2.g1⟩
      generalize hge : (st n).gen = e at *
      have hHF : HF ⟨n, e, 0⟩ := ⟨hnR.1, by show n < 1048576; omega, hgn.1, hgn.2, by show (0 : Int) ≤ 0; omega, by show (0 : Int) < 64; omega⟩
      have hmine : D.zz08 (hw0 (n, e)) 0 p.nodes = (⟨n, e, 0⟩, true) := mine_hword hHF rfl hnR.2
      simp only [if_true]
      rw [show D.zz0u ⟨n, e, 0⟩ = hw0 (n, e) from rfl]
      simp only [bne_self_eq_false, cond_false]
      have hz0 : ∀ {ws : List Int} {P : Pool} {g : Int}, PoolAt p 0 ws P g → rd ws (hp0 p 0) = 0 := fun h => h.hz 0 (by omega) (by omega)
      generalize hP1d : (⟨l, rt, fun q => if q = n then D.zz10 (st n) 0 else st q⟩ : Pool) = P1 at hP1
      have hfr1 : P1.fr = l := by rw [← hP1d]
      have hlive : ∀ {ws : List Int} {g : Int}, PoolAt p 0 ws P1 g → rd ws (sp p n) = D.zz07 (D.zz1b ⟨n, e, 0⟩) := fun {ws g} h => by
        rw [(h.st n hnR.1 hnR.2).1, ← hP1d]
        simp only [if_true]
        unfold D.zz10 D.zz1b
        rw [hge]
      refine loop_inv (fun o => ∃ x', o = some (Lp.next x') ∧ FreshI p (i + 1) x') (fun (j : Nat) (x : Bool × Int) => x = (b, (j : Int))) (hd.map hw0).length 4000 rfl (by rw [List.length_map]; omega) ?_ ?_
      · rintro j x hj rfl
        simp only
        rw [show decide ((j : Int) < ((hd.map hw0).length : Int)) = true from by simpa using hj]
        simp only [cond_true]
        rw [getI_nat hj]
        simp only [Option.bind_some]
        have hmem : (hd.map hw0)[j] ∈ hd.map hw0 := List.getElem_mem hj
        obtain ⟨⟨n', e'⟩, h1, h2⟩ := List.mem_map.1 hmem
        have hne : ((hd.map hw0)[j] == hw0 (n, e)) = false := by
          rw [← h2]
          refine beq_false_of_ne fun he => ?_
          obtain ⟨r1, r2⟩ := hw0_inj (hH n' e' h1) hHF he
          have := hlt e' (r1 ▸ h1)
          omega
        rw [hne, zz1h (show -1000000 ≤ (j : Int) + 1 by omega) (by rw [List.length_map] at hj; omega)]
        exact ⟨_, rfl, by simp⟩
      rintro x rfl
      simp only
      rw [show decide ((((hd.map hw0).length : Nat) : Int) < ((hd.map hw0).length : Int)) = false from by simp]
      refine ⟨_, rfl, ?_⟩
      simp only
      have ha : appD (hd.map hw0) [hw0 (n, e)] = some (hd.map hw0 ++ [hw0 (n, e)]) := by unfold appD; rw [if_pos (by simp only [Modest2, List.length_singleton, List.length_map]; omega)]
      rw [ha]
      simp only [Option.bind_some]
      refine loop_inv (fun o => ∃ x', o = some (Lp.next x') ∧ FreshI p (i + 1) x') (fun (j : Nat) (x : Bool × Int × Mem) => x.1 = b ∧ x.2.1 = (j : Int) ∧ PoolAt p 0 x.2.2.ws P1 g1 ∧ ∀ f, (j : Int) ≤ f → f < 3 → rd x.2.2.ws (fp p n f) = 0) 3 4000 ⟨rfl, rfl, hP1, fun f f0 f1 => hZ trivial f (by omega) f1⟩ (by omega) ?_ ?_
      · rintro j ⟨_, x, M2⟩ hj ⟨rfl, rfl, hP2, hz2⟩
        simp only at hP2 hz2 ⊢
        rw [show decide ((j : Int) < 3) = true from by simp; omega]
        simp only [cond_true]
        have hf : (0 : Int) ≤ j ∧ (j : Int) < 3 := by omega
        have hnl1 : n ∉ P1.fr := by rw [hfr1]; exact hnl
        obtain ⟨w3, hr3, he3⟩ := read_runs (s := ⟨p, 0, 0⟩) hs hP2.free.len hmine hnR hf (hz0 hP2) (hlive hP2)
        have hP3 := hP2.same hp ht he3
        obtain ⟨w4, hr4, he4⟩ := write_runs (s := ⟨p, 0, 0⟩) hs hP3.free.len hmine hnR hf (hz0 hP3) (hlive hP3) v
        have hP4 := hP3.putf hp ht hnR hnl1 hf he4.1 (fun q q0 hne => by rw [he4.2 q q0, if_neg hne])
        obtain ⟨w5, hr5, he5⟩ := read_runs (s := ⟨p, 0, 0⟩) hs hP4.free.len hmine hnR hf (hz0 hP4) (hlive hP4)
        have hP5 := hP4.same hp ht he5
        obtain ⟨q1, q2, q3⟩ := sp_in hp hnR
        have hfp : ∀ f, fp p n f = sp p n + 2 + f := fun f => rfl
        try simp only at hr3
        try simp only at hr4
        try simp only at hr5
        try simp only at he4
        rw [hz2 j (by omega) (by omega)] at hr3
        rw [he4.2 (fp p n j) (by rw [hfp]; omega), if_pos rfl] at hr5
        obtain ⟨c3, hc3⟩ := runR (fu := 4000) (most := 99) (M := M2) hr3 (by omega) (by omega) (by omega)
        obtain ⟨c4, hc4⟩ := runR (fu := 4000) (most := 99) (M := ⟨w3, c3⟩) hr4 (by omega) (by omega) (by omega)
        obtain ⟨c5, hc5⟩ := runR (fu := 4000) (most := 99) (M := ⟨w4, c4⟩) hr5 (by omega) (by omega) (by omega)
        try simp only [Cap_eq, Option.bind_some]
        rw [hc3]
        simp only [Option.bind_some]
        rw [hc4]
        simp only [Option.bind_some]
        rw [hc5]
        simp only [Option.bind_some, beq_self_eq_true, Bool.not_true, cond_false]
        rw [zz1h (show -1000000 ≤ (j : Int) + 1 by omega) (by omega)]
        refine ⟨_, rfl, rfl, by simp, hP5, fun f f0 f1 => ?_⟩
        have f2 : (j : Int) + 1 ≤ f := by simpa using f0
        show rd w5 _ = 0
        rw [he5.2 _ (by rw [hfp]; omega), he4.2 _ (by rw [hfp]; omega), if_neg (by rw [hfp, hfp]; omega), he3.2 _ (by rw [hfp]; omega)]
        exact hz2 f (by omega) f1
      rintro ⟨_, x, M2⟩ ⟨rfl, rfl, hP2, _⟩
      simp only at hP2 ⊢
      rw [show decide (((3 : Nat) : Int) < 3) = false from rfl]
      refine ⟨_, rfl, ?_⟩
      try simp only [Cap_eq, Option.bind_some]
      have hx : P1.st n = ⟨e, 1, 0⟩ := by
        rw [← hP1d]
        simp only [if_true]
        unfold D.zz10
        rw [hge]
      have hrt1 : P1.rt = rt := by rw [← hP1d]
      obtain ⟨m5, w6, g6, hm5, hg6, hr6, hP6, hl6, _⟩ := drop_runs (s := ⟨p, 0, 0⟩) hs (by simp only; omega) hP2 (by omega) 4001 (by omega) hmine hnR hgn hx (by rw [hrt1]; exact hnr) (by rw [hfr1]; exact hnl)
      have hrm6 := hP2.ret.room
      simp only at hm5 hg6 hr6 hP6
      obtain ⟨c6, hc6⟩ := runR (fu := 4000) (most := 100000) (M := M2) hr6 (by omega) (by omega) (by omega)
      rw [hc6]
      simp only [Option.bind_some]
      have hst6 := hP6.st n hnR.1 hnR.2
      have hs6 : ((⟨P1.fr, P1.rt, fun q => if q = n then ⟨e, 2, 0⟩ else P1.st q⟩ : Pool).stash p.retire p.gen n).st n = ⟨e, 2, 0⟩ := by
        unfold Pool.stash
        split
        · exact if_pos rfl
        · rw [scan_st (P := ⟨P1.fr, P1.rt, fun q => if q = n then ⟨e, 2, 0⟩ else P1.st q⟩) (by rw [hrt1]; exact hnr) (by rw [hrt1]; exact hQr)]
          exact if_pos rfl
      have hbad : rd w6 (sp p n) ≠ D.zz07 (D.zz1b ⟨n, e, 0⟩) := fun he => by
        have h2 := swd_inj hst6.2 (live_SF (h := ⟨n, e, 0⟩) hgn) (hst6.1.symm.trans he)
        rw [hs6] at h2
        cases h2
      have hr7 := look_bad (s := ⟨p, 0, 0⟩) hs hP6.free.len hmine hnR (f := 0) (by omega) (do_ := fun x y => D.zz6r x y) hbad
      obtain ⟨c7, hc7⟩ := runR (fu := 4000) (most := 99) (t := D.zz19 ⟨p, 0, 0⟩ (hw0 (n, e)) 0) (M := ⟨w6, c6⟩) hr7 (by omega) (by omega) (by omega)
      rw [hc7]
      simp only [Option.bind_some, beq_self_eq_true, Bool.not_true, cond_false]
      rw [zz1h (show -1000000 ≤ (i : Int) + 1 by omega) (by omega)]
      have hrt6 : (P1.rt.length : Int) ≤ p.retire := hrm6
      have hrt0 : (P.rt.length : Int) ≤ p.retire := hrm
      refine ⟨_, rfl, by simp, _, g6, hd ++ [(n, e)], by simp only [Int.natCast_add]; omega, hP6, ?_, by simp, by simp [hlen], fun n' e' h => ?_⟩
      · rw [hfr1, hrt1]
        refine hQ.drop hnl hnr hge hQr (fun q hq hq' => hQd q hq (List.mem_cons_of_mem _ hq')) hQg (fun q hne => ?_) (if_pos rfl) _ _
        show (if q = n then _ else P1.st q) = st q
        rw [if_neg hne, ← hP1d]
        exact if_neg hne
      · rcases List.mem_append.1 h with h | h
        · exact hH n' e' h
        · have := List.mem_singleton.1 h
          obtain ⟨rfl, rfl⟩ := Prod.mk.inj this
          exact hHF
  · rintro ⟨b, had, x, M1⟩ ⟨rfl, _⟩
    simp only
    rw [show decide ((T.toNat : Int) < T) = false from by simp; omega]
    exact ⟨_, rfl, trivial⟩

end Go.Proofs.YtjkinpbfmihhdaaGreat

/- A law's row from what its walk hands back: arguments opened. -/
namespace Go.Proofs.YtjkinpbfmihhdaaGreat
open Go.ChangeShapes Go.WideShapes Go.RowKit Go.Deep Go.ChangeAt
section
variable {H : Type} {enc : TypeId × Value → H} {P : Program} {w : World} {base : Nat} {spare : Nat → Bool} {held : Bool}
theorem one_of_drop {α : Type} {l : List α} {j : Nat} (h : j < l.length) : (l.drop j).take 1 = [l[j]] := by
  rw [List.drop_eq_getElem_cons h]
  rfl

/-- A struct by value whose fields are integers, of whatever number. -/
theorem open_structI {r : Reach} {b0 : Nat} {t : TypeId} {fs : Array Go.Field} {v : Value} {d : DataW H} {p : List MemPlace} (ks : List IntKind) (hs : P.underlying t = some (.struct fs)) (hone : oneCellFields P fs = true)
    (hC : P.cellsOf t = fs.size) (hk : fs.toList.map (fun f => P.underlying f.type) = ks.map fun k => some (.int k))
    (hv : Value.okWide P w r b0 t v) (h : DataW.Trod enc P w base spare held t v d p) :
    ∃ ns : List Int, v = .agg (List.zipWith Value.int ks ns).toArray ∧ ns.length = ks.length ∧ ∀ q, q ∈ List.zip ks ns → (Lit.int q.1 q.2).wf = true := by
  obtain ⟨cs, rfl, hsz⟩ := okWide_struct hs hv
  obtain ⟨fuel, hf⟩ := h
  obtain ⟨xs, n, _, hx, hl, hlen, hfs⟩ := DataW.trod_struct hs hf
  have hkl : ks.length = fs.size := by
    have := congrArg List.length hk
    simpa using this.symm
  have hcl : cs.size = fs.size := hsz.trans hC
  have hat : ∀ j (hj : j < cs.size), ∃ (k : IntKind) (m : Int), ks[j]? = some k ∧ cs[j] = .int k m ∧ (Lit.int k m).wf = true := by
    intro j hj
    have hjf : fs[j]? = some fs[j] := by simp
    obtain ⟨ho, hc⟩ := hone_of hone j _ hjf
    have h1 := hfs j _ hjf
    rw [ho, hc] at h1
    have hcs : ((Value.agg cs).cells.toList.drop j).take 1 = [cs[j]] := by
      have := one_of_drop (l := cs.toList) (j := j) (by simpa using hj)
      simpa [Value.cells] using this
    rw [hcs] at h1
    have hxs : xs[j]? = some (xs[j]'(by omega)) := by simp
    rw [hxs] at h1
    have hu : (fs.toList.map (fun f => P.underlying f.type))[j]? = some (P.underlying fs[j].type) := by simp [hjf]
    rw [hk] at hu
    obtain ⟨k, hk1, hk2⟩ : ∃ k, ks[j]? = some k ∧ some (.int k) = P.underlying fs[j].type := by
      simpa using hu
    obtain ⟨m, hm, _, hw⟩ := DataW.trod_int hk2.symm h1
    exact ⟨k, m, hk1, by simpa using hm, hw⟩
  refine ⟨cs.toList.map intOf, ?_, by simp; omega, ?_⟩
  · congr 1
    apply Array.ext_getElem?
    intro j
    rcases Nat.lt_or_ge j cs.size with hj | hj
    · obtain ⟨k, m, h1, h2, _⟩ := hat j hj
      simp [List.getElem?_zipWith, h1, hj, h2, intOf]
    · simp [List.getElem?_zipWith, hj]
  · intro q hq
    obtain ⟨j, hj, he⟩ := List.mem_iff_getElem.1 hq
    simp only [List.length_zip, List.length_map, Array.length_toList] at hj
    obtain ⟨k, m, h1, h2, h3⟩ := hat j (by omega)
    have hk3 : ks[j]'(by omega) = k := by
      have := List.getElem?_eq_getElem (l := ks) (i := j) (by omega)
      rw [h1] at this
      exact (Option.some.inj this).symm
    simp only [List.getElem_zip, List.getElem_map] at he
    rw [← he]
    simp only [hk3, Array.getElem_toList, h2, intOf]
    exact h3

end
theorem list6 {α : Type} {l : List α} (h : l.length = 6) : ∃ x0 x1 x2 x3 x4 x5, l = [x0, x1, x2, x3, x4, x5] := by
  match l, h with
  | [x0, x1, x2, x3, x4, x5], _ => exact ⟨x0, x1, x2, x3, x4, x5, rfl⟩

theorem laidOut : laidOutB Tryz.prog = true := by kernel_rfl

end Go.Proofs.YtjkinpbfmihhdaaGreat

/- The program's order of start: its words, told once. -/
namespace Go.Proofs.YtjkinpbfmihhdaaGreat
open Go.ChangeShapes Go.WideShapes Go.ChangeAt Go.RowKit
def ioN : List Nat := [104, 97, 114, 110, 101, 115, 115, 32, 54, 98, 100, 53, 55, 52, 57, 55, 57, 102, 48, 50, 53, 98, 54, 54, 98, 99, 99, 51, 55, 98, 48, 57, 99, 51, 53, 101, 56, 53, 49, 100, 100, 102, 54, 101, 99, 57, 48, 98, 101, 48, 53, 49, 49, 98, 100, 55, 100, 48, 101, 52, 101, 97, 57, 57, 56, 49, 57, 57, 102, 57, 102, 50, 32, 99, 117, 116, 32, 97, 116, 32, 99, 117, 98, 105, 99, 108, 101, 47, 99, 117, 98, 105, 99, 108, 101, 108, 97, 119, 49, 51, 46, 67, 104, 101, 99, 107, 84, 119, 111, 32, 99, 117, 98, 105, 99, 108, 101, 47, 99, 117, 98, 105, 99, 108, 101, 108, 97, 119, 49, 51, 46, 67, 104, 101, 99, 107, 70, 114, 101, 115, 104, 32, 99, 117, 98, 105, 99, 108, 101, 47, 99, 117, 98, 105, 99, 108, 101, 108, 97, 119, 49, 51, 46, 67, 104, 101, 99, 107, 71, 117, 97, 114, 100, 101, 100, 32, 99, 117, 98, 105, 99, 108, 101, 47, 99, 117, 98, 105, 99, 108, 101, 108, 97, 119, 49, 51, 46, 67, 104, 101, 99, 107, 82, 97, 99, 101, 32, 99, 117, 98, 105, 99, 108, 101, 47, 99, 117, 98, 105, 99, 108, 101, 108, 97, 119, 49, 51, 46, 67, 104, 101, 99, 107, 70, 111, 114, 101, 105, 103, 110, 32, 99, 117, 98, 105, 99, 108, 101, 47, 99, 117, 98, 105, 99, 108, 101, 108, 97, 119, 49, 51, 46, 67, 104, 101, 99, 107, 65, 108, 111, 110, 101, 32, 99, 117, 98, 105, 99, 108, 101, 47, 99, 117, 98, 105, 99, 108, 101, 108, 97, 119, 49, 51, 46, 67, 104, 101, 99, 107, 67, 108, 101, 97, 114, 115, 32, 99, 117, 98, 105, 99, 108, 101, 47, 99, 117, 98, 105, 99, 108, 101, 108, 97, 119, 49, 52, 46, 81, 117, 101, 117, 101, 65, 108, 111, 110, 101, 32, 99, 117, 98, 105, 99, 108, 101, 47, 99, 117, 98, 105, 99, 108, 101, 108, 97, 119, 49, 52, 46, 81, 117, 101, 117, 101, 83, 116, 97, 108, 108, 115, 32, 99, 117, 98, 105, 99, 108, 101, 47, 99, 117, 98, 105, 99, 108, 101, 108, 97, 119, 49, 52, 46, 81, 117, 101, 117, 101, 79, 114, 100, 101, 114, 32, 99, 117, 98, 105, 99, 108, 101, 47, 99, 117, 98, 105, 99, 108, 101, 108, 97, 119, 49, 52, 46, 81, 117, 101, 117, 101, 82, 97, 99, 101, 32, 99, 117, 98, 105, 99, 108, 101, 47, 99, 117, 98, 105, 99, 108, 101, 108, 97, 119, 49, 52, 46, 81, 117, 101, 117, 101, 77, 97, 110, 121, 32, 99, 117, 98, 105, 99, 108, 101, 47, 99, 117, 98, 105, 99, 108, 101, 108, 97, 119, 49, 52, 46, 81, 117, 101, 117, 101, 78, 111, 100, 101, 115, 32, 99, 117, 98, 105, 99, 108, 101, 47, 99, 117, 98, 105, 99, 108, 101, 108, 97, 119, 49, 53, 46, 76, 105, 115, 116, 75, 101, 121, 115, 32, 99, 117, 98, 105, 99, 108, 101, 47, 99, 117, 98, 105, 99, 108, 101, 108, 97, 119, 49, 53, 46, 76, 105, 115, 116, 82, 97, 99, 101, 32, 99, 117, 98, 105, 99, 108, 101, 47, 99, 117, 98, 105, 99, 108, 101, 108, 97, 119, 49, 53, 46, 76, 105, 115, 116, 65, 108, 111, 110, 101, 32, 99, 117, 98, 105, 99, 108, 101, 47, 99, 117, 98, 105, 99, 108, 101, 108, 97, 119, 49, 53, 46, 76, 105, 115, 116, 83, 116, 97, 108, 108, 115, 32, 99, 117, 98, 105, 99, 108, 101, 47, 99, 117, 98, 105, 99, 108, 101, 108, 97, 119, 49, 53, 46, 76, 105, 115, 116, 77, 97, 110, 121, 32, 99, 117, 98, 105, 99, 108, 101, 47, 99, 117, 98, 105, 99, 108, 101, 108, 97, 119, 49, 53, 46, 76, 105, 115, 116, 78, 111, 100, 101, 115, 32, 99, 117, 98, 105, 99, 108, 101, 47, 99, 117, 98, 105, 99, 108, 101, 108, 97, 119, 49, 50, 46, 65, 108, 108, 111, 99, 65, 108, 111, 110, 101, 32, 99, 117, 98, 105, 99, 108, 101, 47, 99, 117, 98, 105, 99, 108, 101, 108, 97, 119, 49, 55, 46, 68, 111, 109, 97, 105, 110, 70, 117, 108, 108, 32, 99, 117, 98, 105, 99, 108, 101, 47, 99, 117, 98, 105, 99, 108, 101, 108, 97, 119, 49, 55, 46, 68, 111, 109, 97, 105, 110, 82, 97, 99, 101, 32, 99, 117, 98, 105, 99, 108, 101, 47, 99, 117, 98, 105, 99, 108, 101, 108, 97, 119, 49, 55, 46, 68, 111, 109, 97, 105, 110, 79, 100, 100, 32, 99, 117, 98, 105, 99, 108, 101, 47, 99, 117, 98, 105, 99, 108, 101, 108, 97, 119, 49, 54, 46, 68, 105, 99, 116, 67, 101, 108, 108, 115]

theorem io1 : Tryz.prog.initOrder = String.ofList (ioN.map Char.ofNat) := by kernel_rfl

theorem io2 : Tryz.prog.initOrder.toList = ioN.map Char.ofNat := by rw [io1, String.toList_ofList]

theorem io3 : behindMainWord (wordsSigns Tryz.prog.initOrder.toList) = (([99, 117, 116] : List Nat).map Char.ofNat) :: ([[97, 116], [99, 117, 98, 105, 99, 108, 101, 47, 99, 117, 98, 105, 99, 108, 101, 108, 97, 119, 49, 51, 46, 67, 104, 101, 99, 107, 84, 119, 111], [99, 117, 98, 105, 99, 108, 101, 47, 99, 117, 98, 105, 99, 108, 101, 108, 97, 119, 49, 51, 46, 67, 104, 101, 99, 107, 70, 114, 101, 115, 104], [99, 117, 98, 105, 99, 108, 101, 47, 99, 117, 98, 105, 99, 108, 101, 108, 97, 119, 49, 51, 46, 67, 104, 101, 99, 107, 71, 117, 97, 114, 100, 101, 100], [99, 117, 98, 105, 99, 108, 101, 47, 99, 117, 98, 105, 99, 108, 101, 108, 97, 119, 49, 51, 46, 67, 104, 101, 99, 107, 82, 97, 99, 101], [99, 117, 98, 105, 99, 108, 101, 47, 99, 117, 98, 105, 99, 108, 101, 108, 97, 119, 49, 51, 46, 67, 104, 101, 99, 107, 70, 111, 114, 101, 105, 103, 110], [99, 117, 98, 105, 99, 108, 101, 47, 99, 117, 98, 105, 99, 108, 101, 108, 97, 119, 49, 51, 46, 67, 104, 101, 99, 107, 65, 108, 111, 110, 101], [99, 117, 98, 105, 99, 108, 101, 47, 99, 117, 98, 105, 99, 108, 101, 108, 97, 119, 49, 51, 46, 67, 104, 101, 99, 107, 67, 108, 101, 97, 114, 115], [99, 117, 98, 105, 99, 108, 101, 47, 99, 117, 98, 105, 99, 108, 101, 108, 97, 119, 49, 52, 46, 81, 117, 101, 117, 101, 65, 108, 111, 110, 101], [99, 117, 98, 105, 99, 108, 101, 47, 99, 117, 98, 105, 99, 108, 101, 108, 97, 119, 49, 52, 46, 81, 117, 101, 117, 101, 83, 116, 97, 108, 108, 115], [99, 117, 98, 105, 99, 108, 101, 47, 99, 117, 98, 105, 99, 108, 101, 108, 97, 119, 49, 52, 46, 81, 117, 101, 117, 101, 79, 114, 100, 101, 114], [99, 117, 98, 105, 99, 108, 101, 47, 99, 117, 98, 105, 99, 108, 101, 108, 97, 119, 49, 52, 46, 81, 117, 101, 117, 101, 82, 97, 99, 101], [99, 117, 98, 105, 99, 108, 101, 47, 99, 117, 98, 105, 99, 108, 101, 108, 97, 119, 49, 52, 46, 81, 117, 101, 117, 101, 77, 97, 110, 121], [99, 117, 98, 105, 99, 108, 101, 47, 99, 117, 98, 105, 99, 108, 101, 108, 97, 119, 49, 52, 46, 81, 117, 101, 117, 101, 78, 111, 100, 101, 115], [99, 117, 98, 105, 99, 108, 101, 47, 99, 117, 98, 105, 99, 108, 101, 108, 97, 119, 49, 53, 46, 76, 105, 115, 116, 75, 101, 121, 115], [99, 117, 98, 105, 99, 108, 101, 47, 99, 117, 98, 105, 99, 108, 101, 108, 97, 119, 49, 53, 46, 76, 105, 115, 116, 82, 97, 99, 101], [99, 117, 98, 105, 99, 108, 101, 47, 99, 117, 98, 105, 99, 108, 101, 108, 97, 119, 49, 53, 46, 76, 105, 115, 116, 65, 108, 111, 110, 101], [99, 117, 98, 105, 99, 108, 101, 47, 99, 117, 98, 105, 99, 108, 101, 108, 97, 119, 49, 53, 46, 76, 105, 115, 116, 83, 116, 97, 108, 108, 115], [99, 117, 98, 105, 99, 108, 101, 47, 99, 117, 98, 105, 99, 108, 101, 108, 97, 119, 49, 53, 46, 76, 105, 115, 116, 77, 97, 110, 121], [99, 117, 98, 105, 99, 108, 101, 47, 99, 117, 98, 105, 99, 108, 101, 108, 97, 119, 49, 53, 46, 76, 105, 115, 116, 78, 111, 100, 101, 115], [99, 117, 98, 105, 99, 108, 101, 47, 99, 117, 98, 105, 99, 108, 101, 108, 97, 119, 49, 50, 46, 65, 108, 108, 111, 99, 65, 108, 111, 110, 101], [99, 117, 98, 105, 99, 108, 101, 47, 99, 117, 98, 105, 99, 108, 101, 108, 97, 119, 49, 55, 46, 68, 111, 109, 97, 105, 110, 70, 117, 108, 108], [99, 117, 98, 105, 99, 108, 101, 47, 99, 117, 98, 105, 99, 108, 101, 108, 97, 119, 49, 55, 46, 68, 111, 109, 97, 105, 110, 82, 97, 99, 101], [99, 117, 98, 105, 99, 108, 101, 47, 99, 117, 98, 105, 99, 108, 101, 108, 97, 119, 49, 55, 46, 68, 111, 109, 97, 105, 110, 79, 100, 100], [99, 117, 98, 105, 99, 108, 101, 47, 99, 117, 98, 105, 99, 108, 101, 108, 97, 119, 49, 54, 46, 68, 105, 99, 116, 67, 101, 108, 108, 115]] : List (List Nat)).map (List.map Char.ofNat) := by rw [io2]; kernel_rfl

theorem stripG (r : List (List Char)) : stripLifts liftWords (([99, 117, 116].map Char.ofNat) :: r) = ([], ([99, 117, 116].map Char.ofNat) :: r) := by rfl

theorem makeG {P : Program} {r : List (List Char)} (h : behindMainWord (wordsSigns P.initOrder.toList) = ([99, 117, 116].map Char.ofNat) :: r) : P.make = some .cut := by
  unfold Program.make
  rw [h]
  rfl

theorem liftsG {P : Program} {r : List (List Char)} (h : behindMainWord (wordsSigns P.initOrder.toList) = ([99, 117, 116].map Char.ofNat) :: r) : P.liftsFinal = false := by
  unfold Program.liftsFinal Program.headLifts
  rw [h, stripG]
  rfl

theorem enterG {P : Program} {r : List (List Char)} (h : behindMainWord (wordsSigns P.initOrder.toList) = ([99, 117, 116].map Char.ofNat) :: r) (h1 : P.laysLater = false) (h2 : P.bearsReflect = false) (h3 : P.doorFits [] = true) : P.mayEnter = true := by
  unfold Program.mayEnter
  rw [h]
  simp only [stripG, h1, h2, h3]
  rfl

theorem e1 : Tryz.prog.laysLater = false := by kernel_rfl

theorem e2 : Tryz.prog.bearsReflect = false := by kernel_rfl

theorem e3 : Tryz.prog.doorFits [] = true := by kernel_rfl

theorem io_make : Tryz.prog.make = some .cut := makeG io3

theorem io_lifts : Tryz.prog.liftsFinal = false := liftsG io3

theorem io_enter : Tryz.prog.mayEnter = true := enterG io3 e1 e2 e3

theorem io_maps : mapsRowed Tryz.prog = true := by kernel_rfl

theorem io_heard : Tryz.prog.stopsHeard = true := by kernel_rfl

end Go.Proofs.YtjkinpbfmihhdaaGreat
