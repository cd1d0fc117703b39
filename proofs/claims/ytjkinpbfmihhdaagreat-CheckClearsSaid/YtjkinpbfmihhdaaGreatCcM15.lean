/- Some of our texts, one behind the other. -/
import Derived.Test.YtjkinpbfmihhdaaGreatCcM14
import Derived.WalkKit
import Derived.ProofKit
import Derived.OpenShut
import Derived.ShutString
import Derived.ChangeOld
import Derived.Below
import Derived.Carry
import Derived.SizedLaws
import Derived.Deep.Slices
import Derived.Deep.Fields
import Derived.ChangeSame
import Derived.Test.YtjkinpbfmihhdaaGreatRows
import Derived.ChangeSlices
import Derived.Test.YtjkinpbfmihhdaaGreatCcM3
set_option linter.all false
/- Written by a program of ours (wip/gen.py): a law -/
set_option linter.unusedVariables false
set_option maxRecDepth 20000
set_option maxHeartbeats 2000000
namespace Go.Proofs.YtjkinpbfmihhdaaGreat.Wk
open Go.RowKit
theorem cl27 : callable Tryz.prog 27 = true := by kernel_rfl

theorem cl35 : callable Tryz.prog 35 = true := by kernel_rfl

theorem cl43 : callable Tryz.prog 43 = true := by kernel_rfl

theorem fo81_0 : fieldOff Tryz.prog 81 0 0 = true := by kernel_rfl

theorem fo81_1 : fieldOff Tryz.prog 81 1 6 = true := by kernel_rfl

theorem is71 : isSlice Tryz.prog 71 = true := by kernel_rfl

theorem sl71 : sliceTy Tryz.prog 71 8 = true := by kernel_rfl

theorem ta61 : tyA Tryz.prog 61 6 = true := by kernel_rfl

theorem ti79 : intTy Tryz.prog 79 .i8 = true := by kernel_rfl

theorem to79 : tyO Tryz.prog 79 = true := by kernel_rfl

theorem ts29 : sized Tryz.prog 29 8 = true := by kernel_rfl

theorem ts61 : sized Tryz.prog 61 6 = true := by kernel_rfl

theorem tz29 : zeroOf Tryz.prog 29 = some (.agg (seatC (⟨(⟨0, 0, 0, 0, 0, 0⟩ : Plan), 0, 0⟩ : Seat)).toArray) := by kernel_rfl

theorem tz61 : zeroOf Tryz.prog 61 = some (.agg (opRC (⟨0, 0, 0, 0, 0, 0⟩ : OpR)).toArray) := by kernel_rfl

def D.zz2c (fu : Nat) (a0 : Plan) (a1 : List Pick) : Option (Bool) := (Option.bind ((D.zz2y fu ).bind (fun (x6 : Bool) => (bif (!x6) then (some true) else (bif (!(D.zz1m a0)) then (some true) else (some (decide ((a1.length : Int) > 60))))))) (fun (x11 : Bool) => (bif x11 then ((D.zz2y fu ).bind (fun (x15 : Bool) => (some x15))) else ((D.zz2r fu a0).bind (fun (x23 : Mem) => (loopThen (fun (x28 : Bool × List Int × Int × Mem) => (bif (decide (x28.2.2.1 < (a1.length : Int))) then ((getI a1 x28.2.2.1).bind (fun (x33 : Pick) => (Option.bind ((getI a1 x28.2.2.1).bind (fun (x41 : Pick) => (bif (decide (x41.of_ ≥ 0)) then ((getI a1 x28.2.2.1).bind (fun (x43 : Pick) => (some (decide ((IntKind.i64.wrap x43.of_) < (x28.2.1.length : Int)))))) else (some false)))) (fun (x44 : Bool) => (Option.bind (bif x44 then ((getI a1 x28.2.2.1).bind (fun (x49 : Pick) => ((getI x28.2.1 x49.of_).bind (fun (x50 : Int) => ((some ({ x33.o with h := x50 })).bind (fun (x53 : OpR) => (some x53))))))) else (some x33.o)) (fun (x54 : OpR) => ((D.zz3s fu x28.2.2.2 0).bind (fun (x61 : Cap) => ((D.zz5w fu (fu, (D.zz18 (fu + 1) (⟨a0, 0, (IntKind.i64.wrap (a0.threads - 1))⟩ : Seat) x54)) x28.2.2.2 x61 100000).bind (fun (x63 : Res × Int × Bool × Mem) => (Option.bind (bif (x54.code == 1) then (some (x63.1.e == 0)) else (some false)) (fun (x73 : Bool) => (Option.bind (bif x73 then ((appD x28.2.1 ([x63.1.v])).bind (fun (x82 : List Int) => (some x82))) else (some x28.2.1)) (fun (x86 : List Int) => (loopThen (fun (x89 : Bool × Int) => (bif (decide (x89.2 < 3)) then (Option.bind (bif (!x63.2.2.1) then (some true) else ((D.zz3e fu x63.2.2.2 0 (D.zz1j a0 ((⟨a0, 0, (IntKind.i64.wrap (a0.threads - 1))⟩ : Seat).thread) x89.2)).bind (fun (x97 : Int) => (some (x97 != 0))))) (fun (x99 : Bool) => (bif x99 then (some (Lp.ret (Lp.ret false))) else (some (Lp.next (x89.1, (IntKind.i64.wrap (x89.2 + 1)))))))) else (some (Lp.brk (x89.1, x89.2))))) fu (x28.1, 0) (fun (x103 : Bool × Int) => (some (Lp.next (x103.1, x86, (IntKind.i64.wrap (x28.2.2.1 + 1)), x63.2.2.2))))))))))))))))))) else (some (Lp.brk (x28.1, x28.2.1, x28.2.2.1, x28.2.2.2))))) fu (false, [], 0, x23) (fun (x106 : Bool × List Int × Int × Mem) => (some true))))))))

theorem zz6d {fu : Nat} (w0 : World) (a0 : Plan) {a1_v : Value} (a1 : List Pick) (a1_h : RoAt 81 8 pickC a1_v a1 w0) {res : Bool} (hD : D.zz2c fu a0 a1 = some res) :
    Calls Tryz.prog 9 #[.agg (planC a0).toArray, a1_v] w0 (PureRes (.bool res) w0) := by
 refine enter Tryz.func9 rfl 113 rfl rfl fun fr r => ?_
 have hP : Post No [] w0 w0 := Post.nil w0
 have hP : Post No [roK 81 8 pickC a1_v a1] w0 w0 := hP.addRo zz5p a1_h rfl a1_h.lt
 unfold D.zz2c at hD
 refine wsr ?_
 refine seq_new (.cells ((planC a0)).toArray 25 (0, 0)) r (fun R => y_box r (v := (.agg (planC a0).toArray)) rfl) rfl fun fr b1 w2 n3 r => ?_
 have hP : Post No [roK 81 8 pickC a1_v a1, cellC b1 ((planC a0)).toArray 25] w0 w2 := hP.new n3
 refine seq_val (.bool false) r (fun R => zz03 r rfl) rfl fun fr r => ?_
 refine wn ?_
 refine wp_seq ?_
 refine wp_seq ?_
 refine zz2w (N := 113) (Y := Bool) (G := Unit) (fun x γ => [(0, (.agg (planC a0).toArray)), (1, a1_v), (2, (.pointer (some ⟨b1, 0, none⟩))), (4, (.bool false)), (25, (.bool x))]) (fun x γ w => Post No [roK 81 8 pickC a1_v a1, cellC b1 ((planC a0)).toArray 25] w0 w) hD ?_ ?_
 ·
  rintro y5 RPy5 nxy5 hD
  refine wp_region_lit ?_
  obtain ⟨x6, hx6, hD⟩ := zz0k hD
  refine zz06 r (zz5q w2  hx6) (fun R hc => y_call r rfl cl27 hc) rfl ?_
  rintro _ w7 ⟨rfl, hb⟩
  refine ⟨_, rfl, fun fr r => ?_⟩
  have hP : Post No [roK 81 8 pickC a1_v a1, cellC b1 ((planC a0)).toArray 25] w0 w7 := hP.below hb
  refine seq_val (.bool (!x6)) r (fun R => y_un r (u := (.bool x6)) rfl rfl) rfl fun fr r => ?_
  refine seq_val (.bool (!x6)) r (fun R => y_move r rfl) rfl fun fr r => ?_
  refine zz0p (!x6) (fun h8 => ?_) (fun h8 => ?_)
  ·
   have hD := (cond_t h8).symm.trans hD
   refine s0 r h8 fun fr r => ?_
   refine s0 r h8 fun fr r => ?_
   refine s0 r h8 fun fr r => ?_
   refine seq_val (.bool true) r (fun R => y_pick r (b := true) (congrArg Value.bool h8) rfl) rfl fun fr r => ?_
   refine seq_val (.bool true) r (fun R => y_move r rfl) rfl fun fr r => ?_
   refine s0 r (rfl : true = _) fun fr r => ?_
   refine s0 r (rfl : true = _) fun fr r => ?_
   refine s0 r (rfl : true = _) fun fr r => ?_
   refine seq_val (.bool true) r (fun R => y_pick r (b := true) (congrArg Value.bool (rfl : true = _)) rfl) rfl fun fr r => ?_
   refine wn ?_
   exact nxy5 true () _ _ _ hD r (hs_cons rfl (hs_cons rfl (hs_cons rfl (hs_cons rfl (hs_cons rfl hs_nil))))) (hP.pick [0, 1] rfl rfl)
  ·
   have hD := (cond_f h8).symm.trans hD
   refine s1 r h8 ?_
   refine seq_val (.agg (planC a0).toArray) r (fun R => zz05 r (cs := (planC a0)) (n := 6) rfl (hP.cell (i := 1) rfl) ta25 rfl) rfl fun fr r => ?_
   refine s1 r h8 ?_
   refine zz06 r (zz9q w7 a0) (fun R hc => y_call r rfl cl35 hc) rfl ?_
   rintro _ w9 ⟨rfl, hb⟩
   refine ⟨_, rfl, fun fr r => ?_⟩
   have hP : Post No [roK 81 8 pickC a1_v a1, cellC b1 ((planC a0)).toArray 25] w0 w9 := hP.below hb
   refine s1 r h8 ?_
   refine seq_val (.bool (!(D.zz1m a0))) r (fun R => y_un r (u := (.bool (D.zz1m a0))) rfl rfl) rfl fun fr r => ?_
   refine seq_val (.bool (!(D.zz1m a0))) r (fun R => y_pick r (b := false) (congrArg Value.bool h8) rfl) rfl fun fr r => ?_
   refine seq_val (.bool (!(D.zz1m a0))) r (fun R => y_move r rfl) rfl fun fr r => ?_
   refine zz0p (!(D.zz1m a0)) (fun h10 => ?_) (fun h10 => ?_)
   ·
    have hD := (cond_t h10).symm.trans hD
    refine s0 r h10 fun fr r => ?_
    refine s0 r h10 fun fr r => ?_
    refine s0 r h10 fun fr r => ?_
    refine seq_val (.bool true) r (fun R => y_pick r (b := true) (congrArg Value.bool h10) rfl) rfl fun fr r => ?_
    refine wn ?_
    exact nxy5 true () _ _ _ hD r (hs_cons rfl (hs_cons rfl (hs_cons rfl (hs_cons rfl (hs_cons rfl hs_nil))))) (hP.pick [0, 1] rfl rfl)
   ·
    have hD := (cond_f h10).symm.trans hD
    refine s1 r h10 ?_
    refine seq_val a1_v r (fun R => y_move r rfl) rfl fun fr r => ?_
    refine s1 r h10 ?_
    refine seq_val (I (a1.length : Int)) r (fun R => zz5r r (hP.ro (i := 0) rfl) is71 rfl) rfl fun fr r => ?_
    refine s1 r h10 ?_
    refine seq_val _ r (fun R => y_bin r rfl rfl rfl rfl) rfl fun fr r => ?_
    refine seq_val (.bool (decide ((a1.length : Int) > 60))) r (fun R => y_pick r (b := false) (congrArg Value.bool h10) rfl) rfl fun fr r => ?_
    refine wn ?_
    exact nxy5 (decide ((a1.length : Int) > 60)) () _ _ _ hD r (hs_cons rfl (hs_cons rfl (hs_cons rfl (hs_cons rfl (hs_cons rfl hs_nil))))) (hP.pick [0, 1] rfl rfl)
 ·
  rintro x11 γ12 fr w13 g r hP hD
  have hP : Post No [roK 81 8 pickC a1_v a1, cellC b1 ((planC a0)).toArray 25] w0 w13 := hP
  refine wp_cond_split (t := x11) (r.ev rfl) (fun h14 => ?_) (fun h14 => ?_)
  ·
   have hD := (cond_t h14).symm.trans hD
   refine wsr ?_
   obtain ⟨x15, hx15, hD⟩ := zz0k hD
   refine zz06 r (zz5q w13  hx15) (fun R hc => y_call r rfl cl27 hc) rfl ?_
   rintro _ w16 ⟨rfl, hb⟩
   refine ⟨_, rfl, fun fr r => ?_⟩
   have hP : Post No [roK 81 8 pickC a1_v a1, cellC b1 ((planC a0)).toArray 25] w0 w16 := hP.below hb
   refine seq_val (.bool x15) r (fun R => zz03 r rfl) rfl fun fr r => ?_
   refine wn ?_
   refine wp_ret ?_
   have hv : x15 = res := Option.some.inj hD
   try dsimp only [Exit.then, Exit.inBlock]
   refine ret_tmp (fn := Tryz.f9) r (t := 4) rfl (v := (.bool x15)) rfl ?_
   subst hv
   exact ⟨rfl, hP.chg.below⟩
  ·
   have hD := (cond_f h14).symm.trans hD
   refine wp_skip ?_
   refine wsr ?_
   refine seq_val (.agg (planC a0).toArray) r (fun R => zz05 r (cs := (planC a0)) (n := 6) rfl (hP.cell (i := 1) rfl) ta25 rfl) rfl fun fr r => ?_
   refine seq_val _ r (fun R => zz02 r (o := 0) rfl fo25_1) rfl fun fr r => ?_
   refine seq_val (I a0.threads) r (fun R => zz00 r rfl (hP.cell (i := 1) rfl) to3 rfl) rfl fun fr r => ?_
   refine seq_val _ r (fun R => y_bin r rfl rfl rfl rfl) rfl fun fr r => ?_
   refine seq_val (.agg (seatC (⟨a0, 0, (W (a0.threads - 1))⟩ : Seat)).toArray) r (fun R => y_build r (by kernel_rfl)) rfl fun fr r => ?_
   refine seq_new (.cells ((seatC (⟨(⟨0, 0, 0, 0, 0, 0⟩ : Plan), 0, 0⟩ : Seat))).toArray 29 (0, 0)) r (fun R => y_alloc tz29) rfl fun fr b17 w18 n19 r => ?_
   have hP : Post No [roK 81 8 pickC a1_v a1, cellC b1 ((planC a0)).toArray 25, cellC b17 ((seatC (⟨(⟨0, 0, 0, 0, 0, 0⟩ : Plan), 0, 0⟩ : Seat))).toArray 29] w0 w18 := hP.new n19
   refine seq_upd (.cells ((seatC (⟨a0, 0, (W (a0.threads - 1))⟩ : Seat))).toArray 29 (0, 0)) r (fun R => y_store r (o := 0) (v := (.agg (seatC (⟨a0, 0, (W (a0.threads - 1))⟩ : Seat)).toArray)) rfl rfl (hP.cell (i := 2) rfl) ts29 (Nat.le_of_ble_eq_true rfl) rfl rfl) rfl fun fr w21 u22 r => ?_
   have hP : Post No [roK 81 8 pickC a1_v a1, cellC b1 ((planC a0)).toArray 25, cellC b17 ((seatC (⟨a0, 0, (W (a0.threads - 1))⟩ : Seat))).toArray 29] w0 w21 := hP.upd (i := 2) rfl u22
   refine wn ?_
   refine wsr ?_
   refine seq_val (.agg (planC a0).toArray) r (fun R => zz05 r (cs := (planC a0)) (n := 6) rfl (hP.cell (i := 1) rfl) ta25 rfl) rfl fun fr r => ?_
   obtain ⟨x23, hx23, hD⟩ := zz0k hD
   refine zz06 r (zz66 w21 a0 hx23) (fun R hc => y_call r rfl cl28 hc) rfl ?_
   rintro _ w24 ⟨mg25, rfl, hq⟩
   refine ⟨_, rfl, fun fr r => ?_⟩
   have hP : Post No [roK 81 8 pickC a1_v a1, cellC b1 ((planC a0)).toArray 25, cellC b17 ((seatC (⟨a0, 0, (W (a0.threads - 1))⟩ : Seat))).toArray 29, memK mg25 x23] w0 w24 := hP.add hq
   refine seq_val (.pointer (some ⟨mg25.mb, 0, none⟩)) r (fun R => zz03 r rfl) rfl fun fr r => ?_
   refine wn ?_
   refine wp_seq ?_
   refine wsr ?_
   refine seq_val (.pointer (some ⟨mg25.mb, 0, none⟩)) r (fun R => y_move r rfl) rfl fun fr r => ?_
   refine seq_val _ r (fun R => y_bin r rfl rfl rfl rfl) rfl fun fr r => ?_
   refine wn ?_
   refine wp_cond_split (t := false) (r.ev rfl) (fun h => absurd ((rfl : false = _).symm.trans h) (by decide)) (fun _ => ?_)
   refine wp_skip ?_
   refine wsr ?_
   refine seq_val (Value.slice none 0 0) r (fun R => zz03 r rfl) rfl fun fr r => ?_
   refine wn ?_
   refine wp_seq ?_
   refine wsr ?_
   refine seq_val (I 0) r (fun R => zz03 r rfl) rfl fun fr r => ?_
   refine wn ?_
   have hP : Post No [roK 81 8 pickC a1_v a1, cellC b1 ((planC a0)).toArray 25, cellC b17 ((seatC (⟨a0, 0, (W (a0.threads - 1))⟩ : Seat))).toArray 29, memK mg25 x23, rowK 22 1 u64 (Value.slice none 0 0) ([])] w0 w24 := hP.nilRow 22 1 u64
   refine zz6x (X := Bool × List Int × Int × Mem) (G := Value) (x0 := (false, [], 0, x23)) (fun x γ => [(0, (.agg (planC a0).toArray)), (1, a1_v), (2, (.pointer (some ⟨b1, 0, none⟩))), (25, (.bool x11)), (5, (.pointer (some ⟨b17, 0, none⟩))), (6, (.pointer (some ⟨mg25.mb, 0, none⟩))), (35, (.bool false)), (4, (.bool x.1)), (7, γ), (8, (I x.2.2.1))]) (fun x γ w => Post No [roK 81 8 pickC a1_v a1, cellC b1 ((planC a0)).toArray 25, cellC b17 ((seatC (⟨a0, 0, (W (a0.threads - 1))⟩ : Seat))).toArray 29, memK mg25 x.2.2.2, rowK 22 1 u64 γ x.2.1] w0 w) (Value.slice none 0 0) r (hs_cons rfl (hs_cons rfl (hs_cons rfl (hs_cons rfl (hs_cons rfl (hs_cons rfl (hs_cons rfl (hs_cons rfl (hs_cons rfl (hs_cons rfl hs_nil)))))))))) hP hD ?_ ?_
   ·
    rintro x28 γ29 fr w31 g y30 RPy30 nxy30 bky30 rty30 r hP hD
    have hP : Post No [roK 81 8 pickC a1_v a1, cellC b1 ((planC a0)).toArray 25, cellC b17 ((seatC (⟨a0, 0, (W (a0.threads - 1))⟩ : Seat))).toArray 29, memK mg25 x28.2.2.2, rowK 22 1 u64 γ29 x28.2.1] w0 w31 := hP
    refine wp_seq ?_
    refine wsr ?_
    refine seq_val (I x28.2.2.1) r (fun R => y_move r rfl) rfl fun fr r => ?_
    refine seq_val a1_v r (fun R => y_move r rfl) rfl fun fr r => ?_
    refine seq_val (I (a1.length : Int)) r (fun R => zz5r r (hP.ro (i := 0) rfl) is71 rfl) rfl fun fr r => ?_
    refine seq_val _ r (fun R => y_bin r rfl rfl rfl rfl) rfl fun fr r => ?_
    refine wn ?_
    refine wp_cond_split (t := (decide (x28.2.2.1 < (a1.length : Int)))) (r.ev rfl) (fun h32 => ?_) (fun h32 => ?_)
    ·
     have hD := (cond_t h32).symm.trans hD
     refine wp_skip ?_
     refine wp_seq ?_
     refine wp_block ?_
     refine wsr ?_
     refine seq_val a1_v r (fun R => y_move r rfl) rfl fun fr r => ?_
     refine seq_val (I x28.2.2.1) r (fun R => y_move r rfl) rfl fun fr r => ?_
     obtain ⟨x33, hx33, hD⟩ := zz0k hD
     refine seq_val (.pointer (some ⟨rowB a1_v, rowO a1_v + x28.2.2.1.toNat * 8, none⟩)) r (fun R => zz2d r (hP.ro (i := 0) rfl) hx33 sl71 rfl rfl) rfl fun fr r => ?_
     refine seq_val _ r (fun R => zz02 r (b := rowB a1_v) (o := rowO a1_v + x28.2.2.1.toNat * 8) (k := 0) rfl fo81_0) rfl fun fr r => ?_
     refine seq_val (.agg (opRC x33.o).toArray) r (fun R => zz7t r (cs := (opRC x33.o)) ((RoAt.at_ (f := pickC) (x := x33) (hP.ro (i := 0) rfl) (fun _ => rfl) hx33).part 0 6) rfl ta61) rfl fun fr r => ?_
     refine seq_new (.cells ((opRC (⟨0, 0, 0, 0, 0, 0⟩ : OpR))).toArray 61 (0, 0)) r (fun R => y_alloc tz61) rfl fun fr b34 w35 n36 r => ?_
     have hP : Post No [roK 81 8 pickC a1_v a1, cellC b1 ((planC a0)).toArray 25, cellC b17 ((seatC (⟨a0, 0, (W (a0.threads - 1))⟩ : Seat))).toArray 29, memK mg25 x28.2.2.2, rowK 22 1 u64 γ29 x28.2.1, cellC b34 ((opRC (⟨0, 0, 0, 0, 0, 0⟩ : OpR))).toArray 61] w0 w35 := hP.new n36
     refine seq_upd (.cells ((opRC x33.o)).toArray 61 (0, 0)) r (fun R => y_store r (o := 0) (v := (.agg (opRC x33.o).toArray)) rfl rfl (hP.cell (i := 5) rfl) ts61 (Nat.le_of_ble_eq_true rfl) rfl rfl) rfl fun fr w38 u39 r => ?_
     have hP : Post No [roK 81 8 pickC a1_v a1, cellC b1 ((planC a0)).toArray 25, cellC b17 ((seatC (⟨a0, 0, (W (a0.threads - 1))⟩ : Seat))).toArray 29, memK mg25 x28.2.2.2, rowK 22 1 u64 γ29 x28.2.1, cellC b34 ((opRC x33.o)).toArray 61] w0 w38 := hP.upd (i := 5) rfl u39
     refine wn ?_
     refine wp_seq ?_
     refine wp_seq ?_
     refine zz2w (N := 113) (Y := Bool) (G := Unit) (fun x γ => [(0, (.agg (planC a0).toArray)), (1, a1_v), (2, (.pointer (some ⟨b1, 0, none⟩))), (25, (.bool x11)), (5, (.pointer (some ⟨b17, 0, none⟩))), (6, (.pointer (some ⟨mg25.mb, 0, none⟩))), (35, (.bool false)), (4, (.bool x28.1)), (7, γ29), (8, (I x28.2.2.1)), (39, (.bool (decide (x28.2.2.1 < (a1.length : Int))))), (9, (.pointer (some ⟨b34, 0, none⟩))), (63, (.bool x))]) (fun x γ w => Post No [roK 81 8 pickC a1_v a1, cellC b1 ((planC a0)).toArray 25, cellC b17 ((seatC (⟨a0, 0, (W (a0.threads - 1))⟩ : Seat))).toArray 29, memK mg25 x28.2.2.2, rowK 22 1 u64 γ29 x28.2.1, cellC b34 ((opRC x33.o)).toArray 61] w0 w) hD ?_ ?_
     ·
      rintro y40 RPy40 nxy40 hD
      refine wp_region_lit ?_
      refine seq_val a1_v r (fun R => y_move r rfl) rfl fun fr r => ?_
      refine seq_val (I x28.2.2.1) r (fun R => y_move r rfl) rfl fun fr r => ?_
      obtain ⟨x41, hx41, hD⟩ := zz0k hD
      refine seq_val (.pointer (some ⟨rowB a1_v, rowO a1_v + x28.2.2.1.toNat * 8, none⟩)) r (fun R => zz2d r (hP.ro (i := 0) rfl) hx41 sl71 rfl rfl) rfl fun fr r => ?_
      refine seq_val _ r (fun R => zz02 r (b := rowB a1_v) (o := rowO a1_v + x28.2.2.1.toNat * 8) (k := 6) rfl fo81_1) rfl fun fr r => ?_
      refine seq_val (.int .i8 x41.of_) r (fun R => zz26 r (u := (.int .i8 x41.of_)) ((RoAt.at_ (f := pickC) (x := x41) (hP.ro (i := 0) rfl) (fun _ => rfl) hx41).part 6 1) rfl to79) rfl fun fr r => ?_
      refine seq_val _ r (fun R => y_bin r rfl rfl rfl rfl) rfl fun fr r => ?_
      refine seq_val (.bool (decide (x41.of_ ≥ 0))) r (fun R => y_move r rfl) rfl fun fr r => ?_
      refine zz0p (decide (x41.of_ ≥ 0)) (fun h42 => ?_) (fun h42 => ?_)
      ·
       have hD := (cond_t h42).symm.trans hD
       refine s1 r h42 ?_
       refine seq_val a1_v r (fun R => y_move r rfl) rfl fun fr r => ?_
       refine s1 r h42 ?_
       refine seq_val (I x28.2.2.1) r (fun R => y_move r rfl) rfl fun fr r => ?_
       refine s1 r h42 ?_
       obtain ⟨x43, hx43, hD⟩ := zz0k hD
       refine seq_val (.pointer (some ⟨rowB a1_v, rowO a1_v + x28.2.2.1.toNat * 8, none⟩)) r (fun R => zz2d r (hP.ro (i := 0) rfl) hx43 sl71 rfl rfl) rfl fun fr r => ?_
       refine s1 r h42 ?_
       refine seq_val _ r (fun R => zz02 r (b := rowB a1_v) (o := rowO a1_v + x28.2.2.1.toNat * 8) (k := 6) rfl fo81_1) rfl fun fr r => ?_
       refine s1 r h42 ?_
       refine seq_val (.int .i8 x43.of_) r (fun R => zz26 r (u := (.int .i8 x43.of_)) ((RoAt.at_ (f := pickC) (x := x43) (hP.ro (i := 0) rfl) (fun _ => rfl) hx43).part 6 1) rfl to79) rfl fun fr r => ?_
       refine s1 r h42 ?_
       refine seq_val (I (W x43.of_)) r (fun R => zz1w r rfl ti79 ti3) rfl fun fr r => ?_
       refine s1 r h42 ?_
       refine seq_val γ29 r (fun R => y_move r rfl) rfl fun fr r => ?_
       refine s1 r h42 ?_
       refine seq_val (I (x28.2.1.length : Int)) r (fun R => zz5r r (hP.row (i := 4) rfl).ro is49 rfl) rfl fun fr r => ?_
       refine s1 r h42 ?_
       refine seq_val _ r (fun R => y_bin r rfl rfl rfl rfl) rfl fun fr r => ?_
       refine seq_val (.bool (decide ((W x43.of_) < (x28.2.1.length : Int)))) r (fun R => y_pick r (b := true) (congrArg Value.bool h42) rfl) rfl fun fr r => ?_
       refine wn ?_
       exact nxy40 (decide ((W x43.of_) < (x28.2.1.length : Int))) () _ _ _ hD r (hs_cons rfl (hs_cons rfl (hs_cons rfl (hs_cons rfl (hs_cons rfl (hs_cons rfl (hs_cons rfl (hs_cons rfl (hs_cons rfl (hs_cons rfl (hs_cons rfl (hs_cons rfl (hs_cons rfl hs_nil))))))))))))) (hP.pick [0, 1, 2, 3, 4, 5] rfl rfl)
      ·
       have hD := (cond_f h42).symm.trans hD
       refine s0 r h42 fun fr r => ?_
       refine s0 r h42 fun fr r => ?_
       refine s0 r h42 fun fr r => ?_
       refine s0 r h42 fun fr r => ?_
       refine s0 r h42 fun fr r => ?_
       refine s0 r h42 fun fr r => ?_
       refine s0 r h42 fun fr r => ?_
       refine s0 r h42 fun fr r => ?_
       refine s0 r h42 fun fr r => ?_
       refine seq_val (.bool false) r (fun R => y_pick r (b := false) (congrArg Value.bool h42) rfl) rfl fun fr r => ?_
       refine wn ?_
       exact nxy40 false () _ _ _ hD r (hs_cons rfl (hs_cons rfl (hs_cons rfl (hs_cons rfl (hs_cons rfl (hs_cons rfl (hs_cons rfl (hs_cons rfl (hs_cons rfl (hs_cons rfl (hs_cons rfl (hs_cons rfl (hs_cons rfl hs_nil))))))))))))) (hP.pick [0, 1, 2, 3, 4, 5] rfl rfl)
     ·
      rintro x44 γ45 fr w46 g r hP hD
      have hP : Post No [roK 81 8 pickC a1_v a1, cellC b1 ((planC a0)).toArray 25, cellC b17 ((seatC (⟨a0, 0, (W (a0.threads - 1))⟩ : Seat))).toArray 29, memK mg25 x28.2.2.2, rowK 22 1 u64 γ29 x28.2.1, cellC b34 ((opRC x33.o)).toArray 61] w0 w46 := hP
      refine zz2w (N := 113) (Y := OpR) (G := Unit) (fun x γ => [(0, (.agg (planC a0).toArray)), (1, a1_v), (2, (.pointer (some ⟨b1, 0, none⟩))), (25, (.bool x11)), (5, (.pointer (some ⟨b17, 0, none⟩))), (6, (.pointer (some ⟨mg25.mb, 0, none⟩))), (35, (.bool false)), (4, (.bool x28.1)), (7, γ29), (8, (I x28.2.2.1)), (39, (.bool (decide (x28.2.2.1 < (a1.length : Int))))), (9, (.pointer (some ⟨b34, 0, none⟩))), (63, (.bool x44))]) (fun x γ w => Post No [roK 81 8 pickC a1_v a1, cellC b1 ((planC a0)).toArray 25, cellC b17 ((seatC (⟨a0, 0, (W (a0.threads - 1))⟩ : Seat))).toArray 29, memK mg25 x28.2.2.2, rowK 22 1 u64 γ29 x28.2.1, cellC b34 ((opRC x)).toArray 61] w0 w) hD ?_ ?_
      ·
       rintro y47 RPy47 nxy47 hD
       refine wp_cond_split (t := x44) (r.ev rfl) (fun h48 => ?_) (fun h48 => ?_)
       ·
        have hD := (cond_t h48).symm.trans hD
        refine wp_region_lit ?_
        refine seq_val γ29 r (fun R => y_move r rfl) rfl fun fr r => ?_
        refine seq_val a1_v r (fun R => y_move r rfl) rfl fun fr r => ?_
        refine seq_val (I x28.2.2.1) r (fun R => y_move r rfl) rfl fun fr r => ?_
        obtain ⟨x49, hx49, hD⟩ := zz0k hD
        refine seq_val (.pointer (some ⟨rowB a1_v, rowO a1_v + x28.2.2.1.toNat * 8, none⟩)) r (fun R => zz2d r (hP.ro (i := 0) rfl) hx49 sl71 rfl rfl) rfl fun fr r => ?_
        refine seq_val _ r (fun R => zz02 r (b := rowB a1_v) (o := rowO a1_v + x28.2.2.1.toNat * 8) (k := 6) rfl fo81_1) rfl fun fr r => ?_
        refine seq_val (.int .i8 x49.of_) r (fun R => zz26 r (u := (.int .i8 x49.of_)) ((RoAt.at_ (f := pickC) (x := x49) (hP.ro (i := 0) rfl) (fun _ => rfl) hx49).part 6 1) rfl to79) rfl fun fr r => ?_
        obtain ⟨x50, hx50, hD⟩ := zz0k hD
        refine seq_val (.pointer (some ⟨rowB γ29, rowO γ29 + x49.of_.toNat * 1, none⟩)) r (fun R => zz2d r (hP.row (i := 4) rfl).ro hx50 sl49 rfl rfl) rfl fun fr r => ?_
        refine seq_val (U x50) r (fun R => zz26 r (u := (U x50)) (RoAt.at_ (f := u64) (x := x50) (hP.row (i := 4) rfl).ro (fun _ => rfl) hx50) rfl to22) rfl fun fr r => ?_
        refine seq_val _ r (fun R => zz02 r (o := 0) rfl fo61_3) rfl fun fr r => ?_
        refine seq_upd (.cells ((opRC ({ x33.o with h := x50 }))).toArray 61 (0, 0)) r (fun R => y_store r (o := 3) (v := (U x50)) rfl rfl (hP.cell (i := 5) rfl) ts22 (Nat.le_of_ble_eq_true rfl) rfl rfl) rfl fun fr w51 u52 r => ?_
        have hP : Post No [roK 81 8 pickC a1_v a1, cellC b1 ((planC a0)).toArray 25, cellC b17 ((seatC (⟨a0, 0, (W (a0.threads - 1))⟩ : Seat))).toArray 29, memK mg25 x28.2.2.2, rowK 22 1 u64 γ29 x28.2.1, cellC b34 ((opRC ({ x33.o with h := x50 }))).toArray 61] w0 w51 := hP.upd (i := 5) rfl u52
        obtain ⟨x53, hx53, hD⟩ := zz0k hD
        have ex53 := Option.some.inj hx53
        rw [ex53] at hP
        refine wn ?_
        exact nxy47 x53 () _ _ _ hD r (hs_cons rfl (hs_cons rfl (hs_cons rfl (hs_cons rfl (hs_cons rfl (hs_cons rfl (hs_cons rfl (hs_cons rfl (hs_cons rfl (hs_cons rfl (hs_cons rfl (hs_cons rfl (hs_cons rfl hs_nil))))))))))))) (hP.pick [0, 1, 2, 3, 4, 5] rfl rfl)
       ·
        have hD := (cond_f h48).symm.trans hD
        refine wp_skip ?_
        exact nxy47 x33.o () _ _ _ hD r (hs_cons rfl (hs_cons rfl (hs_cons rfl (hs_cons rfl (hs_cons rfl (hs_cons rfl (hs_cons rfl (hs_cons rfl (hs_cons rfl (hs_cons rfl (hs_cons rfl (hs_cons rfl (hs_cons rfl hs_nil))))))))))))) (hP.pick [0, 1, 2, 3, 4, 5] rfl rfl)
      ·
       rintro x54 γ55 fr w56 g r hP hD
       have hP : Post No [roK 81 8 pickC a1_v a1, cellC b1 ((planC a0)).toArray 25, cellC b17 ((seatC (⟨a0, 0, (W (a0.threads - 1))⟩ : Seat))).toArray 29, memK mg25 x28.2.2.2, rowK 22 1 u64 γ29 x28.2.1, cellC b34 ((opRC x54)).toArray 61] w0 w56 := hP
       refine wsr ?_
       refine seq_val (.agg (seatC (⟨a0, 0, (W (a0.threads - 1))⟩ : Seat)).toArray) r (fun R => zz05 r (cs := (seatC (⟨a0, 0, (W (a0.threads - 1))⟩ : Seat))) (n := 8) rfl (hP.cell (i := 2) rfl) ta29 rfl) rfl fun fr r => ?_
       refine seq_val (.agg (opRC x54).toArray) r (fun R => zz05 r (cs := (opRC x54)) (n := 6) rfl (hP.cell (i := 5) rfl) ta61 rfl) rfl fun fr r => ?_
       refine zz06 r (zz90 (F := No) (n := fu) (j := fu + 1) (fun _ h => h.elim) (by omega) (⟨a0, 0, (W (a0.threads - 1))⟩ : Seat) x54) (fun R hc => y_call r rfl cl43 hc) rfl ?_
       rintro _ w57 ⟨v58, rfl, hb, hr59⟩
       refine ⟨_, rfl, fun fr r => ?_⟩
       have hP : Post No [roK 81 8 pickC a1_v a1, cellC b1 ((planC a0)).toArray 25, cellC b17 ((seatC (⟨a0, 0, (W (a0.threads - 1))⟩ : Seat))).toArray 29, memK mg25 x28.2.2.2, rowK 22 1 u64 γ29 x28.2.1, cellC b34 ((opRC x54)).toArray 61, progK Tryz.prog encRes (fu, (D.zz18 (fu + 1) (⟨a0, 0, (W (a0.threads - 1))⟩ : Seat) x54)) v58 (rg w56.heap.size w57.heap.size)] w0 w57 := hP.addProg hb hr59
       refine seq_val (.pointer (some ⟨mg25.mb, 0, none⟩)) r (fun R => y_move r rfl) rfl fun fr r => ?_
       refine seq_val (.pointer (some ⟨mg25.mb, 0, none⟩)) r (fun R => y_move r rfl) rfl fun fr r => ?_
       obtain ⟨x61, hx61, hD⟩ := zz0k hD
       refine zz06 r (zz60 w57 x28.2.2.2 (hP.mem (i := 3) rfl) 0 hx61) (fun R hc => y_call r rfl cl31 hc) rfl ?_
       rintro _ w62 ⟨rfl, hb⟩
       refine ⟨_, rfl, fun fr r => ?_⟩
       have hP : Post No [roK 81 8 pickC a1_v a1, cellC b1 ((planC a0)).toArray 25, cellC b17 ((seatC (⟨a0, 0, (W (a0.threads - 1))⟩ : Seat))).toArray 29, memK mg25 x28.2.2.2, rowK 22 1 u64 γ29 x28.2.1, cellC b34 ((opRC x54)).toArray 61, progK Tryz.prog encRes (fu, (D.zz18 (fu + 1) (⟨a0, 0, (W (a0.threads - 1))⟩ : Seat) x54)) v58 (rg w56.heap.size w57.heap.size)] w0 w62 := hP.below hb
       obtain ⟨x63, hx63, hD⟩ := zz0k hD
       refine zz06 r (zz9b w62 (fu, (D.zz18 (fu + 1) (⟨a0, 0, (W (a0.threads - 1))⟩ : Seat) x54)) x28.2.2.2 x61 100000 (hP.sep.pk [6, 3] rfl rfl) hx63) (fun R hc => y_call r rfl cl29 hc) rfl ?_
       rintro _ w64 ⟨rfl, hq⟩
       refine ⟨_, rfl, fun fr r => ?_⟩
       have hP : Post No [roK 81 8 pickC a1_v a1, cellC b1 ((planC a0)).toArray 25, cellC b17 ((seatC (⟨a0, 0, (W (a0.threads - 1))⟩ : Seat))).toArray 29, memK mg25 x63.2.2.2, rowK 22 1 u64 γ29 x28.2.1, cellC b34 ((opRC x54)).toArray 61, progK Tryz.prog encRes (fu, (D.zz18 (fu + 1) (⟨a0, 0, (W (a0.threads - 1))⟩ : Seat) x54)) v58 (rg w56.heap.size w57.heap.size)] w0 w64 := hP.setN (i := 3) rfl hq
       refine seq_val (.tuple #[(.agg (resC x63.1).toArray), (I x63.2.1), (.bool x63.2.2.1)]) r (fun R => y_move r rfl) rfl fun fr r => ?_
       refine seq_val (.agg (resC x63.1).toArray) r (fun R => zz1c r (vs := #[(.agg (resC x63.1).toArray), (I x63.2.1), (.bool x63.2.2.1)]) rfl rfl) rfl fun fr r => ?_
       refine seq_val (I x63.2.1) r (fun R => zz1c r (vs := #[(.agg (resC x63.1).toArray), (I x63.2.1), (.bool x63.2.2.1)]) rfl rfl) rfl fun fr r => ?_
       refine seq_val (.bool x63.2.2.1) r (fun R => zz1c r (vs := #[(.agg (resC x63.1).toArray), (I x63.2.1), (.bool x63.2.2.1)]) rfl rfl) rfl fun fr r => ?_
       refine seq_new (.cells ((resC (⟨0, 0⟩ : Res))).toArray 32 (0, 0)) r (fun R => y_alloc tz32) rfl fun fr b65 w66 n67 r => ?_
       have hP : Post No [roK 81 8 pickC a1_v a1, cellC b1 ((planC a0)).toArray 25, cellC b17 ((seatC (⟨a0, 0, (W (a0.threads - 1))⟩ : Seat))).toArray 29, memK mg25 x63.2.2.2, rowK 22 1 u64 γ29 x28.2.1, cellC b34 ((opRC x54)).toArray 61, progK Tryz.prog encRes (fu, (D.zz18 (fu + 1) (⟨a0, 0, (W (a0.threads - 1))⟩ : Seat) x54)) v58 (rg w56.heap.size w57.heap.size), cellC b65 ((resC (⟨0, 0⟩ : Res))).toArray 32] w0 w66 := hP.new n67
       refine seq_upd (.cells ((resC x63.1)).toArray 32 (0, 0)) r (fun R => y_store r (o := 0) (v := (.agg (resC x63.1).toArray)) rfl rfl (hP.cell (i := 7) rfl) ts32 (Nat.le_of_ble_eq_true rfl) rfl rfl) rfl fun fr w69 u70 r => ?_
       have hP : Post No [roK 81 8 pickC a1_v a1, cellC b1 ((planC a0)).toArray 25, cellC b17 ((seatC (⟨a0, 0, (W (a0.threads - 1))⟩ : Seat))).toArray 29, memK mg25 x63.2.2.2, rowK 22 1 u64 γ29 x28.2.1, cellC b34 ((opRC x54)).toArray 61, progK Tryz.prog encRes (fu, (D.zz18 (fu + 1) (⟨a0, 0, (W (a0.threads - 1))⟩ : Seat) x54)) v58 (rg w56.heap.size w57.heap.size), cellC b65 ((resC x63.1)).toArray 32] w0 w69 := hP.upd (i := 7) rfl u70
       refine seq_val (I x63.2.1) r (fun R => zz03 r rfl) rfl fun fr r => ?_
       refine seq_val (.bool x63.2.2.1) r (fun R => zz03 r rfl) rfl fun fr r => ?_
       refine wn ?_
       refine wp_seq ?_
       refine wp_seq ?_
       have hP : Post No [roK 81 8 pickC a1_v a1, cellC b1 ((planC a0)).toArray 25, cellC b17 ((seatC (⟨a0, 0, (W (a0.threads - 1))⟩ : Seat))).toArray 29, memK mg25 x63.2.2.2, rowK 22 1 u64 γ29 x28.2.1, cellC b34 ((opRC x54)).toArray 61, cellC b65 ((resC x63.1)).toArray 32] w0 w69 := hP.pick [0, 1, 2, 3, 4, 5, 7] rfl rfl
       refine zz2w (N := 113) (Y := Bool) (G := Unit) (fun x γ => [(0, (.agg (planC a0).toArray)), (1, a1_v), (2, (.pointer (some ⟨b1, 0, none⟩))), (25, (.bool x11)), (5, (.pointer (some ⟨b17, 0, none⟩))), (6, (.pointer (some ⟨mg25.mb, 0, none⟩))), (35, (.bool false)), (4, (.bool x28.1)), (7, γ29), (8, (I x28.2.2.1)), (39, (.bool (decide (x28.2.2.1 < (a1.length : Int))))), (9, (.pointer (some ⟨b34, 0, none⟩))), (63, (.bool x44)), (10, (.pointer (some ⟨b65, 0, none⟩))), (12, (.bool x63.2.2.1)), (91, (.bool x))]) (fun x γ w => Post No [roK 81 8 pickC a1_v a1, cellC b1 ((planC a0)).toArray 25, cellC b17 ((seatC (⟨a0, 0, (W (a0.threads - 1))⟩ : Seat))).toArray 29, memK mg25 x63.2.2.2, rowK 22 1 u64 γ29 x28.2.1, cellC b34 ((opRC x54)).toArray 61, cellC b65 ((resC x63.1)).toArray 32] w0 w) hD ?_ ?_
       ·
        rintro y71 RPy71 nxy71 hD
        refine wp_region_lit ?_
        refine seq_val _ r (fun R => zz02 r (o := 0) rfl fo61_0) rfl fun fr r => ?_
        refine seq_val (I x54.code) r (fun R => zz00 r rfl (hP.cell (i := 5) rfl) to3 rfl) rfl fun fr r => ?_
        refine seq_val _ r (fun R => y_bin r rfl rfl rfl rfl) rfl fun fr r => ?_
        refine seq_val (.bool (x54.code == 1)) r (fun R => y_move r rfl) rfl fun fr r => ?_
        refine zz0p (x54.code == 1) (fun h72 => ?_) (fun h72 => ?_)
        ·
         have hD := (cond_t h72).symm.trans hD
         refine s1 r h72 ?_
         refine seq_val _ r (fun R => zz02 r (o := 0) rfl fo32_0) rfl fun fr r => ?_
         refine s1 r h72 ?_
         refine seq_val (I x63.1.e) r (fun R => zz00 r rfl (hP.cell (i := 6) rfl) to30 rfl) rfl fun fr r => ?_
         refine s1 r h72 ?_
         refine seq_val _ r (fun R => y_bin r rfl rfl rfl rfl) rfl fun fr r => ?_
         refine seq_val (.bool (x63.1.e == 0)) r (fun R => y_pick r (b := true) (congrArg Value.bool h72) rfl) rfl fun fr r => ?_
         refine wn ?_
         exact nxy71 (x63.1.e == 0) () _ _ _ hD r (hs_cons rfl (hs_cons rfl (hs_cons rfl (hs_cons rfl (hs_cons rfl (hs_cons rfl (hs_cons rfl (hs_cons rfl (hs_cons rfl (hs_cons rfl (hs_cons rfl (hs_cons rfl (hs_cons rfl (hs_cons rfl (hs_cons rfl (hs_cons rfl hs_nil)))))))))))))))) (hP.pick [0, 1, 2, 3, 4, 5, 6] rfl rfl)
        ·
         have hD := (cond_f h72).symm.trans hD
         refine s0 r h72 fun fr r => ?_
         refine s0 r h72 fun fr r => ?_
         refine s0 r h72 fun fr r => ?_
         refine seq_val (.bool false) r (fun R => y_pick r (b := false) (congrArg Value.bool h72) rfl) rfl fun fr r => ?_
         refine wn ?_
         exact nxy71 false () _ _ _ hD r (hs_cons rfl (hs_cons rfl (hs_cons rfl (hs_cons rfl (hs_cons rfl (hs_cons rfl (hs_cons rfl (hs_cons rfl (hs_cons rfl (hs_cons rfl (hs_cons rfl (hs_cons rfl (hs_cons rfl (hs_cons rfl (hs_cons rfl (hs_cons rfl hs_nil)))))))))))))))) (hP.pick [0, 1, 2, 3, 4, 5, 6] rfl rfl)
       ·
        rintro x73 γ74 fr w75 g r hP hD
        have hP : Post No [roK 81 8 pickC a1_v a1, cellC b1 ((planC a0)).toArray 25, cellC b17 ((seatC (⟨a0, 0, (W (a0.threads - 1))⟩ : Seat))).toArray 29, memK mg25 x63.2.2.2, rowK 22 1 u64 γ29 x28.2.1, cellC b34 ((opRC x54)).toArray 61, cellC b65 ((resC x63.1)).toArray 32] w0 w75 := hP
        refine zz2w (N := 113) (Y := List Int) (G := Value) (fun x γ => [(0, (.agg (planC a0).toArray)), (1, a1_v), (2, (.pointer (some ⟨b1, 0, none⟩))), (25, (.bool x11)), (5, (.pointer (some ⟨b17, 0, none⟩))), (6, (.pointer (some ⟨mg25.mb, 0, none⟩))), (35, (.bool false)), (4, (.bool x28.1)), (8, (I x28.2.2.1)), (39, (.bool (decide (x28.2.2.1 < (a1.length : Int))))), (9, (.pointer (some ⟨b34, 0, none⟩))), (63, (.bool x44)), (10, (.pointer (some ⟨b65, 0, none⟩))), (12, (.bool x63.2.2.1)), (91, (.bool x73)), (7, γ)]) (fun x γ w => Post No [roK 81 8 pickC a1_v a1, cellC b1 ((planC a0)).toArray 25, cellC b17 ((seatC (⟨a0, 0, (W (a0.threads - 1))⟩ : Seat))).toArray 29, memK mg25 x63.2.2.2, rowK 22 1 u64 γ x, cellC b34 ((opRC x54)).toArray 61, cellC b65 ((resC x63.1)).toArray 32] w0 w) hD ?_ ?_
        ·
         rintro y76 RPy76 nxy76 hD
         refine wp_cond_split (t := x73) (r.ev rfl) (fun h77 => ?_) (fun h77 => ?_)
         ·
          have hD := (cond_t h77).symm.trans hD
          refine wp_region_lit ?_
          refine seq_val γ29 r (fun R => y_move r rfl) rfl fun fr r => ?_
          refine seq_val _ r (fun R => zz02 r (o := 0) rfl fo32_1) rfl fun fr r => ?_
          refine seq_val (U x63.1.v) r (fun R => zz00 r rfl (hP.cell (i := 6) rfl) to22 rfl) rfl fun fr r => ?_
          refine zz9c (.cells (([x63.1.v]).flatMap u64).toArray 22 (0, 0)) 1 r (fun R => zz40 r (by kernel_rfl)) rfl fun fr b78 w79 n80 r => ?_
          have hP : Post No [roK 81 8 pickC a1_v a1, cellC b1 ((planC a0)).toArray 25, cellC b17 ((seatC (⟨a0, 0, (W (a0.threads - 1))⟩ : Seat))).toArray 29, memK mg25 x63.2.2.2, rowK 22 1 u64 γ29 x28.2.1, cellC b34 ((opRC x54)).toArray 61, cellC b65 ((resC x63.1)).toArray 32, rowK 22 1 u64 (.slice (some ⟨b78, 0, none⟩) 1 1) ([x63.1.v])] w0 w79 := hP.newRow n80 (fun _ => rfl) rfl
          obtain ⟨x82, hx82, hD⟩ := zz0k hD
          refine seq_app 22 1 u64 γ29 r (fun R => zzef r rt49 (fun _ => rfl) (fun _ => rfl) (hP.row (i := 4) rfl) (hP.row (i := 7) rfl).ro hx82 rfl rfl) rfl fun fr v83 w84 ha85 r => ?_
          have hP : Post No [roK 81 8 pickC a1_v a1, cellC b1 ((planC a0)).toArray 25, cellC b17 ((seatC (⟨a0, 0, (W (a0.threads - 1))⟩ : Seat))).toArray 29, memK mg25 x63.2.2.2, rowK 22 1 u64 v83 x82, cellC b34 ((opRC x54)).toArray 61, cellC b65 ((resC x63.1)).toArray 32, rowK 22 1 u64 (.slice (some ⟨b78, 0, none⟩) 1 1) ([x63.1.v])] w0 w84 := hP.append (i := 4) rfl ha85
          refine seq_val v83 r (fun R => zz03 r rfl) rfl fun fr r => ?_
          refine wn ?_
          exact nxy76 x82 v83 _ _ _ hD r (hs_cons rfl (hs_cons rfl (hs_cons rfl (hs_cons rfl (hs_cons rfl (hs_cons rfl (hs_cons rfl (hs_cons rfl (hs_cons rfl (hs_cons rfl (hs_cons rfl (hs_cons rfl (hs_cons rfl (hs_cons rfl (hs_cons rfl (hs_cons rfl hs_nil)))))))))))))))) (hP.pick [0, 1, 2, 3, 4, 5, 6] rfl rfl)
         ·
          have hD := (cond_f h77).symm.trans hD
          refine wp_skip ?_
          exact nxy76 x28.2.1 γ29 _ _ _ hD r (hs_cons rfl (hs_cons rfl (hs_cons rfl (hs_cons rfl (hs_cons rfl (hs_cons rfl (hs_cons rfl (hs_cons rfl (hs_cons rfl (hs_cons rfl (hs_cons rfl (hs_cons rfl (hs_cons rfl (hs_cons rfl (hs_cons rfl (hs_cons rfl hs_nil)))))))))))))))) (hP.pick [0, 1, 2, 3, 4, 5, 6] rfl rfl)
        ·
         rintro x86 γ87 fr w88 g r hP hD
         have hP : Post No [roK 81 8 pickC a1_v a1, cellC b1 ((planC a0)).toArray 25, cellC b17 ((seatC (⟨a0, 0, (W (a0.threads - 1))⟩ : Seat))).toArray 29, memK mg25 x63.2.2.2, rowK 22 1 u64 γ87 x86, cellC b34 ((opRC x54)).toArray 61, cellC b65 ((resC x63.1)).toArray 32] w0 w88 := hP
         refine wsr ?_
         refine seq_val (I 0) r (fun R => zz03 r rfl) rfl fun fr r => ?_
         refine wn ?_
         refine zz6x (X := Bool × Int) (G := Unit) (x0 := (x28.1, 0)) (fun x γ => [(0, (.agg (planC a0).toArray)), (1, a1_v), (2, (.pointer (some ⟨b1, 0, none⟩))), (25, (.bool x11)), (5, (.pointer (some ⟨b17, 0, none⟩))), (6, (.pointer (some ⟨mg25.mb, 0, none⟩))), (35, (.bool false)), (8, (I x28.2.2.1)), (39, (.bool (decide (x28.2.2.1 < (a1.length : Int))))), (9, (.pointer (some ⟨b34, 0, none⟩))), (63, (.bool x44)), (10, (.pointer (some ⟨b65, 0, none⟩))), (12, (.bool x63.2.2.1)), (91, (.bool x73)), (7, γ87), (4, (.bool x.1)), (13, (I x.2))]) (fun x γ w => Post No [roK 81 8 pickC a1_v a1, cellC b1 ((planC a0)).toArray 25, cellC b17 ((seatC (⟨a0, 0, (W (a0.threads - 1))⟩ : Seat))).toArray 29, memK mg25 x63.2.2.2, rowK 22 1 u64 γ87 x86, cellC b34 ((opRC x54)).toArray 61, cellC b65 ((resC x63.1)).toArray 32] w0 w) () r (hs_cons rfl (hs_cons rfl (hs_cons rfl (hs_cons rfl (hs_cons rfl (hs_cons rfl (hs_cons rfl (hs_cons rfl (hs_cons rfl (hs_cons rfl (hs_cons rfl (hs_cons rfl (hs_cons rfl (hs_cons rfl (hs_cons rfl (hs_cons rfl (hs_cons rfl hs_nil))))))))))))))))) hP hD ?_ ?_
         ·
          rintro x89 γ90 fr w92 g y91 RPy91 nxy91 bky91 rty91 r hP hD
          have hP : Post No [roK 81 8 pickC a1_v a1, cellC b1 ((planC a0)).toArray 25, cellC b17 ((seatC (⟨a0, 0, (W (a0.threads - 1))⟩ : Seat))).toArray 29, memK mg25 x63.2.2.2, rowK 22 1 u64 γ87 x86, cellC b34 ((opRC x54)).toArray 61, cellC b65 ((resC x63.1)).toArray 32] w0 w92 := hP
          refine wp_seq ?_
          refine wsr ?_
          refine seq_val (I x89.2) r (fun R => y_move r rfl) rfl fun fr r => ?_
          refine seq_val _ r (fun R => y_bin r rfl rfl rfl rfl) rfl fun fr r => ?_
          refine wn ?_
          refine wp_cond_split (t := (decide (x89.2 < 3))) (r.ev rfl) (fun h93 => ?_) (fun h93 => ?_)
          ·
           have hD := (cond_t h93).symm.trans hD
           refine wp_skip ?_
           refine wp_seq ?_
           refine wp_block ?_
           refine wp_seq ?_
           refine zz2w (N := 113) (Y := Bool) (G := Unit) (fun x γ => [(0, (.agg (planC a0).toArray)), (1, a1_v), (2, (.pointer (some ⟨b1, 0, none⟩))), (25, (.bool x11)), (5, (.pointer (some ⟨b17, 0, none⟩))), (6, (.pointer (some ⟨mg25.mb, 0, none⟩))), (35, (.bool false)), (8, (I x28.2.2.1)), (39, (.bool (decide (x28.2.2.1 < (a1.length : Int))))), (9, (.pointer (some ⟨b34, 0, none⟩))), (63, (.bool x44)), (10, (.pointer (some ⟨b65, 0, none⟩))), (12, (.bool x63.2.2.1)), (91, (.bool x73)), (7, γ87), (4, (.bool x89.1)), (13, (I x89.2)), (98, (.bool (decide (x89.2 < 3)))), (112, (.bool x))]) (fun x γ w => Post No [roK 81 8 pickC a1_v a1, cellC b1 ((planC a0)).toArray 25, cellC b17 ((seatC (⟨a0, 0, (W (a0.threads - 1))⟩ : Seat))).toArray 29, memK mg25 x63.2.2.2, rowK 22 1 u64 γ87 x86, cellC b34 ((opRC x54)).toArray 61, cellC b65 ((resC x63.1)).toArray 32] w0 w) hD ?_ ?_
           ·
            rintro y94 RPy94 nxy94 hD
            refine wp_region_lit ?_
            refine seq_val (.bool x63.2.2.1) r (fun R => y_move r rfl) rfl fun fr r => ?_
            refine seq_val (.bool (!x63.2.2.1)) r (fun R => y_un r (u := (.bool x63.2.2.1)) rfl rfl) rfl fun fr r => ?_
            refine seq_val (.bool (!x63.2.2.1)) r (fun R => y_move r rfl) rfl fun fr r => ?_
            refine zz0p (!x63.2.2.1) (fun h95 => ?_) (fun h95 => ?_)
            ·
             have hD := (cond_t h95).symm.trans hD
             refine s0 r h95 fun fr r => ?_
             refine s0 r h95 fun fr r => ?_
             refine s0 r h95 fun fr r => ?_
             refine s0 r h95 fun fr r => ?_
             refine s0 r h95 fun fr r => ?_
             refine s0 r h95 fun fr r => ?_
             refine s0 r h95 fun fr r => ?_
             refine s0 r h95 fun fr r => ?_
             refine seq_val (.bool true) r (fun R => y_pick r (b := true) (congrArg Value.bool h95) rfl) rfl fun fr r => ?_
             refine wn ?_
             exact nxy94 true () _ _ _ hD r (hs_cons rfl (hs_cons rfl (hs_cons rfl (hs_cons rfl (hs_cons rfl (hs_cons rfl (hs_cons rfl (hs_cons rfl (hs_cons rfl (hs_cons rfl (hs_cons rfl (hs_cons rfl (hs_cons rfl (hs_cons rfl (hs_cons rfl (hs_cons rfl (hs_cons rfl (hs_cons rfl (hs_cons rfl hs_nil))))))))))))))))))) (hP.pick [0, 1, 2, 3, 4, 5, 6] rfl rfl)
            ·
             have hD := (cond_f h95).symm.trans hD
             refine s1 r h95 ?_
             refine seq_val (.pointer (some ⟨mg25.mb, 0, none⟩)) r (fun R => y_move r rfl) rfl fun fr r => ?_
             refine s1 r h95 ?_
             refine seq_val (.agg (planC a0).toArray) r (fun R => zz05 r (cs := (planC a0)) (n := 6) rfl (hP.cell (i := 1) rfl) ta25 rfl) rfl fun fr r => ?_
             refine s1 r h95 ?_
             refine seq_val _ r (fun R => zz02 r (o := 0) rfl fo29_2) rfl fun fr r => ?_
             refine s1 r h95 ?_
             refine seq_val (I (⟨a0, 0, (W (a0.threads - 1))⟩ : Seat).thread) r (fun R => zz00 r rfl (hP.cell (i := 2) rfl) to3 rfl) rfl fun fr r => ?_
             refine s1 r h95 ?_
             refine seq_val (I x89.2) r (fun R => y_move r rfl) rfl fun fr r => ?_
             refine s1 r h95 ?_
             refine zz06 r (zz4s w92 a0 ((⟨a0, 0, (W (a0.threads - 1))⟩ : Seat).thread) x89.2) (fun R hc => y_call r rfl cl52 hc) rfl ?_
             rintro _ w96 ⟨rfl, hb⟩
             refine ⟨_, rfl, fun fr r => ?_⟩
             have hP : Post No [roK 81 8 pickC a1_v a1, cellC b1 ((planC a0)).toArray 25, cellC b17 ((seatC (⟨a0, 0, (W (a0.threads - 1))⟩ : Seat))).toArray 29, memK mg25 x63.2.2.2, rowK 22 1 u64 γ87 x86, cellC b34 ((opRC x54)).toArray 61, cellC b65 ((resC x63.1)).toArray 32] w0 w96 := hP.below hb
             refine s1 r h95 ?_
             obtain ⟨x97, hx97, hD⟩ := zz0k hD
             refine zz06 r (zzac w96 x63.2.2.2 (hP.mem (i := 3) rfl) 0 (D.zz1j a0 ((⟨a0, 0, (W (a0.threads - 1))⟩ : Seat).thread) x89.2) hx97) (fun R hc => y_call r rfl cl51 hc) rfl ?_
             rintro _ w98 ⟨rfl, hb⟩
             refine ⟨_, rfl, fun fr r => ?_⟩
             have hP : Post No [roK 81 8 pickC a1_v a1, cellC b1 ((planC a0)).toArray 25, cellC b17 ((seatC (⟨a0, 0, (W (a0.threads - 1))⟩ : Seat))).toArray 29, memK mg25 x63.2.2.2, rowK 22 1 u64 γ87 x86, cellC b34 ((opRC x54)).toArray 61, cellC b65 ((resC x63.1)).toArray 32] w0 w98 := hP.below hb
             refine s1 r h95 ?_
             refine seq_val _ r (fun R => y_bin r rfl rfl rfl rfl) rfl fun fr r => ?_
             refine seq_val (.bool (x97 != 0)) r (fun R => y_pick r (b := false) (congrArg Value.bool h95) rfl) rfl fun fr r => ?_
             refine wn ?_
             exact nxy94 (x97 != 0) () _ _ _ hD r (hs_cons rfl (hs_cons rfl (hs_cons rfl (hs_cons rfl (hs_cons rfl (hs_cons rfl (hs_cons rfl (hs_cons rfl (hs_cons rfl (hs_cons rfl (hs_cons rfl (hs_cons rfl (hs_cons rfl (hs_cons rfl (hs_cons rfl (hs_cons rfl (hs_cons rfl (hs_cons rfl (hs_cons rfl hs_nil))))))))))))))))))) (hP.pick [0, 1, 2, 3, 4, 5, 6] rfl rfl)
           ·
            rintro x99 γ100 fr w101 g r hP hD
            have hP : Post No [roK 81 8 pickC a1_v a1, cellC b1 ((planC a0)).toArray 25, cellC b17 ((seatC (⟨a0, 0, (W (a0.threads - 1))⟩ : Seat))).toArray 29, memK mg25 x63.2.2.2, rowK 22 1 u64 γ87 x86, cellC b34 ((opRC x54)).toArray 61, cellC b65 ((resC x63.1)).toArray 32] w0 w101 := hP
            refine wp_cond_split (t := x99) (r.ev rfl) (fun h102 => ?_) (fun h102 => ?_)
            ·
             have hD := (cond_t h102).symm.trans hD
             refine wsr ?_
             refine seq_val (.bool false) r (fun R => zz03 r rfl) rfl fun fr r => ?_
             refine wn ?_
             refine wp_ret ?_
             refine rty91 (Lp.ret false) _ _ hD fun hD => ?_
             refine rty30 false _ _ hD fun hD => ?_
             have hv : false = res := Option.some.inj hD
             try dsimp only [Exit.then, Exit.inBlock]
             refine ret_tmp (fn := Tryz.f9) r (t := 4) rfl (v := (.bool false)) rfl ?_
             subst hv
             exact ⟨rfl, hP.chg.below⟩
            ·
             have hD := (cond_f h102).symm.trans hD
             refine wp_skip ?_
             refine wp_region_lit ?_
             refine seq_val (I x89.2) r (fun R => y_move r rfl) rfl fun fr r => ?_
             refine seq_val _ r (fun R => y_bin r rfl rfl rfl rfl) rfl fun fr r => ?_
             refine seq_val (I (W (x89.2 + 1))) r (fun R => zz03 r rfl) rfl fun fr r => ?_
             refine wn ?_
             exact nxy91 (x89.1, (W (x89.2 + 1))) () _ _ _ hD r (hs_cons rfl (hs_cons rfl (hs_cons rfl (hs_cons rfl (hs_cons rfl (hs_cons rfl (hs_cons rfl (hs_cons rfl (hs_cons rfl (hs_cons rfl (hs_cons rfl (hs_cons rfl (hs_cons rfl (hs_cons rfl (hs_cons rfl (hs_cons rfl (hs_cons rfl hs_nil))))))))))))))))) (hP.pick [0, 1, 2, 3, 4, 5, 6] rfl rfl)
          ·
           have hD := (cond_f h93).symm.trans hD
           refine wp_exit ?_
           exact bky91 (x89.1, x89.2) () _ _ _ hD r (hs_cons rfl (hs_cons rfl (hs_cons rfl (hs_cons rfl (hs_cons rfl (hs_cons rfl (hs_cons rfl (hs_cons rfl (hs_cons rfl (hs_cons rfl (hs_cons rfl (hs_cons rfl (hs_cons rfl (hs_cons rfl (hs_cons rfl (hs_cons rfl (hs_cons rfl hs_nil))))))))))))))))) (hP.pick [0, 1, 2, 3, 4, 5, 6] rfl rfl)
         ·
          rintro x103 γ104 fr w105 g r hP hD
          have hP : Post No [roK 81 8 pickC a1_v a1, cellC b1 ((planC a0)).toArray 25, cellC b17 ((seatC (⟨a0, 0, (W (a0.threads - 1))⟩ : Seat))).toArray 29, memK mg25 x63.2.2.2, rowK 22 1 u64 γ87 x86, cellC b34 ((opRC x54)).toArray 61, cellC b65 ((resC x63.1)).toArray 32] w0 w105 := hP
          refine wp_region_lit ?_
          refine seq_val (I x28.2.2.1) r (fun R => y_move r rfl) rfl fun fr r => ?_
          refine seq_val _ r (fun R => y_bin r rfl rfl rfl rfl) rfl fun fr r => ?_
          refine seq_val (I (W (x28.2.2.1 + 1))) r (fun R => zz03 r rfl) rfl fun fr r => ?_
          refine wn ?_
          exact nxy30 (x103.1, x86, (W (x28.2.2.1 + 1)), x63.2.2.2) γ87 _ _ _ hD r (hs_cons rfl (hs_cons rfl (hs_cons rfl (hs_cons rfl (hs_cons rfl (hs_cons rfl (hs_cons rfl (hs_cons rfl (hs_cons rfl (hs_cons rfl hs_nil)))))))))) (hP.pick [0, 1, 2, 3, 4] rfl rfl)
    ·
     have hD := (cond_f h32).symm.trans hD
     refine wp_exit ?_
     exact bky30 (x28.1, x28.2.1, x28.2.2.1, x28.2.2.2) γ29 _ _ _ hD r (hs_cons rfl (hs_cons rfl (hs_cons rfl (hs_cons rfl (hs_cons rfl (hs_cons rfl (hs_cons rfl (hs_cons rfl (hs_cons rfl (hs_cons rfl hs_nil)))))))))) (hP.pick [0, 1, 2, 3, 4] rfl rfl)
   ·
    rintro x106 γ107 fr w108 g r hP hD
    have hP : Post No [roK 81 8 pickC a1_v a1, cellC b1 ((planC a0)).toArray 25, cellC b17 ((seatC (⟨a0, 0, (W (a0.threads - 1))⟩ : Seat))).toArray 29, memK mg25 x106.2.2.2, rowK 22 1 u64 γ107 x106.2.1] w0 w108 := hP
    refine wsr ?_
    refine seq_val (.bool true) r (fun R => zz03 r rfl) rfl fun fr r => ?_
    refine wn ?_
    refine wp_ret ?_
    have hv : true = res := Option.some.inj hD
    try dsimp only [Exit.then, Exit.inBlock]
    refine ret_tmp (fn := Tryz.f9) r (t := 4) rfl (v := (.bool true)) rfl ?_
    subst hv
    exact ⟨rfl, hP.chg.below⟩

end Go.Proofs.YtjkinpbfmihhdaaGreat.Wk

/- CheckClears: what the walk found answers as the law says. -/
set_option linter.unusedVariables false
namespace Go.Proofs.YtjkinpbfmihhdaaGreat
open Go.RowKit
theorem zzg6 : D.zz2y 4000 = some true := by decide +kernel

theorem zzg9 {p : Plan} (h : D.zz1m p = true) : PF p ∧ p.nodes ≤ 40 ∧ p.retire ≤ 40 ∧ p.domains ≤ 6 ∧ p.buckets ≤ 10 := by
  unfold D.zz1m at h
  cases h1 : D.zz1l p <;> rw [h1] at h
  · cases h
  have hp := zzce h
  exact ⟨hp, ref_few hp h1⟩

theorem zzb1 (p : Plan) (l : List Pick) (_ : -9223372036854775808 ≤ p.nodes ∧ p.nodes ≤ 9223372036854775807) (_ : -9223372036854775808 ≤ p.threads ∧ p.threads ≤ 9223372036854775807)
    (_ : -9223372036854775808 ≤ p.retire ∧ p.retire ≤ 9223372036854775807) (_ : -9223372036854775808 ≤ p.domains ∧ p.domains ≤ 9223372036854775807) (_ : -9223372036854775808 ≤ p.buckets ∧ p.buckets ≤ 9223372036854775807)
    (_ : -9223372036854775808 ≤ p.gen ∧ p.gen ≤ 9223372036854775807)
    (hb : ∀ x, x ∈ l → (-9223372036854775808 ≤ x.o.code ∧ x.o.code ≤ 9223372036854775807) ∧ (-9223372036854775808 ≤ x.o.d ∧ x.o.d ≤ 9223372036854775807) ∧ (-9223372036854775808 ≤ x.o.f ∧ x.o.f ≤ 9223372036854775807) ∧ (0 ≤ x.o.h ∧ x.o.h ≤ 18446744073709551615) ∧ (0 ≤ x.o.a ∧ x.o.a ≤ 18446744073709551615) ∧ (0 ≤ x.o.b ∧ x.o.b ≤ 18446744073709551615) ∧ (-128 ≤ x.of_ ∧ x.of_ ≤ 127) ∧ (0 ≤ x.bit ∧ x.bit ≤ 255)) :
    ∃ fu, Wk.D.zz2c fu p l = some true := by
  refine ⟨4000, ?_⟩
  unfold Wk.D.zz2c
  rw [zzg6]
  simp only [Option.bind_some, Bool.not_true, cond_false]
  cases hfw : D.zz1m p
  case false => rfl
  simp only [Bool.not_true, cond_false, Option.bind_some]
  cases hl : decide ((l.length : Int) > 60)
  case true => rfl
  simp only [decide_eq_false_iff_not] at hl
  simp only [cond_false]
  obtain ⟨hp, hfw⟩ := zzg9 hfw
  have ht1 := hp.t1
  have hz := hz_in hp
  have htt : p.threads ≤ 1000000 := by have := hp.t2; omega
  rw [zz1g (show -1000000 ≤ p.threads - 1 by omega) (by omega)]
  generalize htd : p.threads - 1 = t
  have ht : 0 ≤ t ∧ t < p.threads := by omega
  have hs : D.zz0n ⟨p, 0, t⟩ = true := zz3d.2 ⟨hp, by show (0 : Int) ≤ 0 ∧ (0 : Int) < 64; omega, ht⟩
  obtain ⟨M, hM, hL⟩ := laid_eq hp hfw (fu := 4000) (by omega)
  rw [hM]
  simp only [Option.bind_some]
  refine zzeg (fun o => o = some true) (fun (i : Nat) (x : Bool × List Int × Int × Mem) => x.2.2.1 = (i : Int) ∧ x.2.1.length ≤ i ∧ (∀ w, w ∈ x.2.1 → U64 w) ∧ ∃ P g, g ≤ 50 * (i : Int) ∧ BoxAt p t x.2.2.2.ws P g) l.length 4000
    ⟨rfl, by simp, fun w h => (by cases h), ⟨allN p, [], fun _ => ⟨0, 0, 0⟩⟩, 0, by omega, PoolAt.start hp hL ht, ⟨fun _ _ => rfl, fun _ h => (by cases h)⟩⟩ (by omega) ?_ ?_
  · rintro i ⟨b, had, x, M1⟩ hi ⟨rfl, hlen, hu, P, g, hg, hB⟩
    simp only at hlen hu hg hB ⊢
    have hbi := hb l[i] (List.getElem_mem hi)
    rw [show decide ((i : Int) < (l.length : Int)) = true from by simp; omega]
    simp only [cond_true]
    rw [zzf0 hi]
    simp only [Option.bind_some]
    generalize hq : l[i] = q at hbi ⊢
    obtain ⟨b1, b2, b3, b4, b5, b6, b7, b8⟩ := hbi
    -- the operation that is done
    have hop : ∃ o : OpR, U64 o.h ∧ (Option.bind (bif (decide (q.of_ ≥ 0)) then some (decide ((IntKind.i64.wrap q.of_) < (had.length : Int))) else (some false)) (fun (x44 : Bool) => (bif x44 then ((getI had q.of_).bind (fun (x50 : Int) => some ({ q.o with h := x50 }))) else (some q.o)))) = some o := by
      cases h1 : decide (q.of_ ≥ 0)
      · exact ⟨q.o, ⟨b4.1, by omega⟩, rfl⟩
      simp only [decide_eq_true_eq] at h1
      simp only [cond_true, Option.bind_some]
      rw [zz1g (show -1000000 ≤ q.of_ by omega) (by omega)]
      cases h2 : decide (q.of_ < (had.length : Int))
      · exact ⟨q.o, ⟨b4.1, by omega⟩, rfl⟩
      simp only [decide_eq_true_eq] at h2
      obtain ⟨m, hm⟩ := Int.eq_ofNat_of_zero_le h1
      have hm' : m < had.length := by omega
      simp only [cond_true]
      rw [hm, zzf0 hm']
      exact ⟨{ q.o with h := had[m] }, hu _ (List.getElem_mem hm'), rfl⟩
    obtain ⟨o, ho, he⟩ := hop
    have he2 : ∀ f : OpR → Option (Lp (Bool × List Int × Int × Mem) Bool), (Option.bind (bif (decide (q.of_ ≥ 0)) then some (decide ((IntKind.i64.wrap q.of_) < (had.length : Int))) else (some false)) (fun (x44 : Bool) => Option.bind (bif x44 then ((getI had q.of_).bind (fun (x50 : Int) => some ({ q.o with h := x50 }))) else (some q.o)) f)) = f o := fun f => by
      have := congrArg (fun z => Option.bind z f) he
      simp only [Option.bind_some] at this
      rw [← this, Option.bind_assoc]
    rw [he2]
    simp only [Cap_eq, Option.bind_some]
    obtain ⟨m, r, ws', P', g', hm, hg', hr, hB', hr1⟩ := zzfu (s := ⟨p, 0, t⟩) hs hfw.1 hfw.2.1 hB (by omega) 4001 (by omega) o ho
    obtain ⟨c, hc⟩ := runR (fu := 4000) (most := 100000) (M := M1) hr (by omega) (by omega) (by omega)
    rw [hc]
    simp only [Option.bind_some, Bool.not_true, cond_false]
    have hin : ∀ had' : List Int, (loopThen (fun (x89 : Bool × Int) => (bif (decide (x89.2 < 3)) then (Option.bind ((D.zz3e 4000 ⟨ws', c⟩ 0 (D.zz1j p t x89.2)).bind (fun (x97 : Int) => (some (x97 != 0)))) (fun (x99 : Bool) => (bif x99 then (some (Lp.ret (Lp.ret false))) else (some (Lp.next (x89.1, (IntKind.i64.wrap (x89.2 + 1)))))))) else (some (Lp.brk (x89.1, x89.2))))) 4000 (b, 0) (fun (x103 : Bool × Int) => (some (Lp.next (x103.1, had', (IntKind.i64.wrap ((i : Int) + 1)), (⟨ws', c⟩ : Mem))) : Option (Lp (Bool × List Int × Int × Mem) Bool)))) = some (Lp.next (b, had', ((i + 1 : Nat) : Int), (⟨ws', c⟩ : Mem))) := by
      intro had'
      have hl' := hB'.pool.free.len
      unfold Len at hl'
      simp only at hl'
      have hN := hp.n1
      obtain ⟨q1, q2, q3⟩ := sp_in hp (n := 0) ⟨by omega, by omega⟩
      unfold sp at q1 q2
      refine zzeg (fun z => z = some (Lp.next (b, had', ((i + 1 : Nat) : Int), (⟨ws', c⟩ : Mem)))) (fun (j : Nat) (x : Bool × Int) => x = (b, (j : Int))) 3 4000 rfl (by omega) ?_ ?_
      · rintro j x hj rfl
        simp only
        rw [show decide ((j : Int) < 3) = true from by simp; omega]
        simp only [cond_true]
        have hH : D.zz1j p t (j : Int) = D.zz0f p + (t * 3 + j) := by rw [zzc0 hp, if_pos (by omega)]; omega
        rw [hH, Peek_eq (by omega) (by simp only; omega)]
        simp only [Option.bind_some]
        rw [hB'.pool.hz (t * 3 + j) (by omega) (by show t * 3 + (j : Int) < p.threads * 3; omega)]
        simp only [bne_self_eq_false, cond_false]
        rw [zz1g (show -1000000 ≤ (j : Int) + 1 by omega) (by omega)]
        exact ⟨_, rfl, by simp⟩
      · rintro x rfl
        refine ⟨_, rfl, ?_⟩
        simp only
        rw [zz1g (show -1000000 ≤ (i : Int) + 1 by omega) (by omega)]
        simp
    have hgg : g' ≤ 50 * ((i + 1 : Nat) : Int) := by omega
    cases hcode : (o.code == 1) && (r.e == 0)
    · have : (Option.bind (bif (o.code == 1) then (some (r.e == 0)) else (some false)) fun (x73 : Bool) => Option.bind (bif x73 then ((appD had ([r.v])).bind (fun (x82 : List Int) => (some x82))) else (some had)) (fun z => some z)) = some had := by
        cases h1 : (o.code == 1)
        · rfl
        · rw [h1] at hcode
          simp only [Bool.true_and] at hcode
          rw [hcode]; rfl
      cases h1 : (o.code == 1)
      · simp only [cond_false, Option.bind_some]
        exact ⟨_, hin had, rfl, by simp only; omega, hu, P', g', hgg, hB'⟩
      · rw [h1] at hcode
        simp only [Bool.true_and] at hcode
        simp only [cond_true, Option.bind_some]
        rw [hcode]
        simp only [cond_false, Option.bind_some]
        exact ⟨_, hin had, rfl, by simp only; omega, hu, P', g', hgg, hB'⟩
    · obtain ⟨h1, h2⟩ := Bool.and_eq_true_iff.1 hcode
      rw [h1, h2]
      have ha : appD had [r.v] = some (had ++ [r.v]) := by unfold appD; rw [if_pos (by simp only [Modest2, List.length_singleton]; omega)]
      simp only [cond_true, Option.bind_some, ha]
      refine ⟨_, hin (had ++ [r.v]), rfl, by simp only [List.length_append, List.length_singleton]; omega, fun w hw => ?_, P', g', hgg, hB'⟩
      rcases List.mem_append.1 hw with hw | hw
      · exact hu w hw
      · rw [List.mem_singleton.1 hw]; exact hr1 h1
  · rintro ⟨b, had, x, M1⟩ ⟨rfl, _⟩
    simp only
    rw [show decide ((l.length : Int) < (l.length : Int)) = false from by simp]
    exact ⟨_, rfl, trivial⟩

end Go.Proofs.YtjkinpbfmihhdaaGreat

/- A law's row from what its walk hands back: arguments opened. -/
namespace Go.Proofs.YtjkinpbfmihhdaaGreat
open Go.ChangeShapes Go.WideShapes Go.RowKit Go.Deep Go.ChangeAt
section
variable {H : Type} {enc : TypeId × Value → H} {P : Program} {w : World} {base : Nat} {spare : Nat → Bool} {held : Bool}
theorem zzeb {α : Type} {l : List α} {j : Nat} (h : j < l.length) : (l.drop j).take 1 = [l[j]] := by
  rw [List.drop_eq_getElem_cons h]
  rfl

/-- A struct by value whose fields are integers, of whatever number. -/
theorem zzd8 {r : Reach} {b0 : Nat} {t : TypeId} {fs : Array Go.Field} {v : Value} {d : DataW H} {p : List MemPlace} (ks : List IntKind) (hs : P.underlying t = some (.struct fs)) (hone : oneCellFields P fs = true)
    (hC : P.cellsOf t = fs.size) (hk : fs.toList.map (fun f => P.underlying f.type) = ks.map fun k => some (.int k))
    (hv : Value.okWide P w r b0 t v) (h : DataW.Trod enc P w base spare held t v d p) :
    ∃ ns : List Int, v = .agg (List.zipWith Value.int ks ns).toArray ∧ ns.length = ks.length ∧ ∀ q, q ∈ List.zip ks ns → (Lit.int q.1 q.2).wf = true := by
  obtain ⟨cs, rfl, hsz⟩ := okWide_struct hs hv
  obtain ⟨fuel, hf⟩ := h
  obtain ⟨xs, n, _, hx, hl, hlen, hfs⟩ := DataW.trod_struct hs hf
  have hkl : ks.length = fs.size := by
    have := congrArg List.length hk
    simpa using this.symm
  have hcl : cs.size = fs.size := hsz.trans hC
  have hat : ∀ j (hj : j < cs.size), ∃ (k : IntKind) (m : Int), ks[j]? = some k ∧ cs[j] = .int k m ∧ (Lit.int k m).wf = true := by
    intro j hj
    have hjf : fs[j]? = some fs[j] := by simp
    obtain ⟨ho, hc⟩ := hone_of hone j _ hjf
    have h1 := hfs j _ hjf
    rw [ho, hc] at h1
    have hcs : ((Value.agg cs).cells.toList.drop j).take 1 = [cs[j]] := by
      have := zzeb (l := cs.toList) (j := j) (by simpa using hj)
      simpa [Value.cells] using this
    rw [hcs] at h1
    have hxs : xs[j]? = some (xs[j]'(by omega)) := by simp
    rw [hxs] at h1
    have hu : (fs.toList.map (fun f => P.underlying f.type))[j]? = some (P.underlying fs[j].type) := by simp [hjf]
    rw [hk] at hu
    obtain ⟨k, hk1, hk2⟩ : ∃ k, ks[j]? = some k ∧ some (.int k) = P.underlying fs[j].type := by
      simpa using hu
    obtain ⟨m, hm, _, hw⟩ := DataW.trod_int hk2.symm h1
    exact ⟨k, m, hk1, by simpa using hm, hw⟩
  refine ⟨cs.toList.map intOf, ?_, by simp; omega, ?_⟩
  · congr 1
    apply Array.ext_getElem?
    intro j
    rcases Nat.lt_or_ge j cs.size with hj | hj
    · obtain ⟨k, m, h1, h2, _⟩ := hat j hj
      simp [List.getElem?_zipWith, h1, hj, h2, intOf]
    · simp [List.getElem?_zipWith, hj]
  · intro q hq
    obtain ⟨j, hj, he⟩ := List.mem_iff_getElem.1 hq
    simp only [List.length_zip, List.length_map, Array.length_toList] at hj
    obtain ⟨k, m, h1, h2, h3⟩ := hat j (by omega)
    have hk3 : ks[j]'(by omega) = k := by
      have := List.getElem?_eq_getElem (l := ks) (i := j) (by omega)
      rw [h1] at this
      exact (Option.some.inj this).symm
    simp only [List.getElem_zip, List.getElem_map] at he
    rw [← he]
    simp only [hk3, Array.getElem_toList, h2, intOf]
    exact h3

end
theorem list6 {α : Type} {l : List α} (h : l.length = 6) : ∃ x0 x1 x2 x3 x4 x5, l = [x0, x1, x2, x3, x4, x5] := by
  match l, h with
  | [x0, x1, x2, x3, x4, x5], _ => exact ⟨x0, x1, x2, x3, x4, x5, rfl⟩

theorem list8 {α : Type} {l : List α} (h : l.length = 8) : ∃ x0 x1 x2 x3 x4 x5 x6 x7, l = [x0, x1, x2, x3, x4, x5, x6, x7] := by
  match l, h with
  | [x0, x1, x2, x3, x4, x5, x6, x7], _ => exact ⟨x0, x1, x2, x3, x4, x5, x6, x7, rfl⟩

theorem laidOut : laidOutB Tryz.prog = true := by kernel_rfl

end Go.Proofs.YtjkinpbfmihhdaaGreat

/- The program's order of start: its words, told once. -/
namespace Go.Proofs.YtjkinpbfmihhdaaGreat
open Go.ChangeShapes Go.WideShapes Go.ChangeAt Go.RowKit
def ioN : List Nat := [104, 97, 114, 110, 101, 115, 115, 32, 54, 98, 100, 53, 55, 52, 57, 55, 57, 102, 48, 50, 53, 98, 54, 54, 98, 99, 99, 51, 55, 98, 48, 57, 99, 51, 53, 101, 56, 53, 49, 100, 100, 102, 54, 101, 99, 57, 48, 98, 101, 48, 53, 49, 49, 98, 100, 55, 100, 48, 101, 52, 101, 97, 57, 57, 56, 49, 57, 57, 102, 57, 102, 50, 32, 99, 117, 116, 32, 97, 116, 32, 99, 117, 98, 105, 99, 108, 101, 47, 99, 117, 98, 105, 99, 108, 101, 108, 97, 119, 49, 51, 46, 67, 104, 101, 99, 107, 84, 119, 111, 32, 99, 117, 98, 105, 99, 108, 101, 47, 99, 117, 98, 105, 99, 108, 101, 108, 97, 119, 49, 51, 46, 67, 104, 101, 99, 107, 70, 114, 101, 115, 104, 32, 99, 117, 98, 105, 99, 108, 101, 47, 99, 117, 98, 105, 99, 108, 101, 108, 97, 119, 49, 51, 46, 67, 104, 101, 99, 107, 71, 117, 97, 114, 100, 101, 100, 32, 99, 117, 98, 105, 99, 108, 101, 47, 99, 117, 98, 105, 99, 108, 101, 108, 97, 119, 49, 51, 46, 67, 104, 101, 99, 107, 82, 97, 99, 101, 32, 99, 117, 98, 105, 99, 108, 101, 47, 99, 117, 98, 105, 99, 108, 101, 108, 97, 119, 49, 51, 46, 67, 104, 101, 99, 107, 70, 111, 114, 101, 105, 103, 110, 32, 99, 117, 98, 105, 99, 108, 101, 47, 99, 117, 98, 105, 99, 108, 101, 108, 97, 119, 49, 51, 46, 67, 104, 101, 99, 107, 65, 108, 111, 110, 101, 32, 99, 117, 98, 105, 99, 108, 101, 47, 99, 117, 98, 105, 99, 108, 101, 108, 97, 119, 49, 51, 46, 67, 104, 101, 99, 107, 67, 108, 101, 97, 114, 115, 32, 99, 117, 98, 105, 99, 108, 101, 47, 99, 117, 98, 105, 99, 108, 101, 108, 97, 119, 49, 52, 46, 81, 117, 101, 117, 101, 65, 108, 111, 110, 101, 32, 99, 117, 98, 105, 99, 108, 101, 47, 99, 117, 98, 105, 99, 108, 101, 108, 97, 119, 49, 52, 46, 81, 117, 101, 117, 101, 83, 116, 97, 108, 108, 115, 32, 99, 117, 98, 105, 99, 108, 101, 47, 99, 117, 98, 105, 99, 108, 101, 108, 97, 119, 49, 52, 46, 81, 117, 101, 117, 101, 79, 114, 100, 101, 114, 32, 99, 117, 98, 105, 99, 108, 101, 47, 99, 117, 98, 105, 99, 108, 101, 108, 97, 119, 49, 52, 46, 81, 117, 101, 117, 101, 82, 97, 99, 101, 32, 99, 117, 98, 105, 99, 108, 101, 47, 99, 117, 98, 105, 99, 108, 101, 108, 97, 119, 49, 52, 46, 81, 117, 101, 117, 101, 77, 97, 110, 121, 32, 99, 117, 98, 105, 99, 108, 101, 47, 99, 117, 98, 105, 99, 108, 101, 108, 97, 119, 49, 52, 46, 81, 117, 101, 117, 101, 78, 111, 100, 101, 115, 32, 99, 117, 98, 105, 99, 108, 101, 47, 99, 117, 98, 105, 99, 108, 101, 108, 97, 119, 49, 53, 46, 76, 105, 115, 116, 75, 101, 121, 115, 32, 99, 117, 98, 105, 99, 108, 101, 47, 99, 117, 98, 105, 99, 108, 101, 108, 97, 119, 49, 53, 46, 76, 105, 115, 116, 82, 97, 99, 101, 32, 99, 117, 98, 105, 99, 108, 101, 47, 99, 117, 98, 105, 99, 108, 101, 108, 97, 119, 49, 53, 46, 76, 105, 115, 116, 65, 108, 111, 110, 101, 32, 99, 117, 98, 105, 99, 108, 101, 47, 99, 117, 98, 105, 99, 108, 101, 108, 97, 119, 49, 53, 46, 76, 105, 115, 116, 83, 116, 97, 108, 108, 115, 32, 99, 117, 98, 105, 99, 108, 101, 47, 99, 117, 98, 105, 99, 108, 101, 108, 97, 119, 49, 53, 46, 76, 105, 115, 116, 77, 97, 110, 121, 32, 99, 117, 98, 105, 99, 108, 101, 47, 99, 117, 98, 105, 99, 108, 101, 108, 97, 119, 49, 53, 46, 76, 105, 115, 116, 78, 111, 100, 101, 115, 32, 99, 117, 98, 105, 99, 108, 101, 47, 99, 117, 98, 105, 99, 108, 101, 108, 97, 119, 49, 50, 46, 65, 108, 108, 111, 99, 65, 108, 111, 110, 101, 32, 99, 117, 98, 105, 99, 108, 101, 47, 99, 117, 98, 105, 99, 108, 101, 108, 97, 119, 49, 55, 46, 68, 111, 109, 97, 105, 110, 70, 117, 108, 108, 32, 99, 117, 98, 105, 99, 108, 101, 47, 99, 117, 98, 105, 99, 108, 101, 108, 97, 119, 49, 55, 46, 68, 111, 109, 97, 105, 110, 82, 97, 99, 101, 32, 99, 117, 98, 105, 99, 108, 101, 47, 99, 117, 98, 105, 99, 108, 101, 108, 97, 119, 49, 55, 46, 68, 111, 109, 97, 105, 110, 79, 100, 100, 32, 99, 117, 98, 105, 99, 108, 101, 47, 99, 117, 98, 105, 99, 108, 101, 108, 97, 119, 49, 54, 46, 68, 105, 99, 116, 67, 101, 108, 108, 115]

theorem io1 : Tryz.prog.initOrder = String.ofList (ioN.map Char.ofNat) := by kernel_rfl

theorem io2 : Tryz.prog.initOrder.toList = ioN.map Char.ofNat := by rw [io1, String.toList_ofList]

theorem io3 : behindMainWord (wordsSigns Tryz.prog.initOrder.toList) = (([99, 117, 116] : List Nat).map Char.ofNat) :: ([[97, 116], [99, 117, 98, 105, 99, 108, 101, 47, 99, 117, 98, 105, 99, 108, 101, 108, 97, 119, 49, 51, 46, 67, 104, 101, 99, 107, 84, 119, 111], [99, 117, 98, 105, 99, 108, 101, 47, 99, 117, 98, 105, 99, 108, 101, 108, 97, 119, 49, 51, 46, 67, 104, 101, 99, 107, 70, 114, 101, 115, 104], [99, 117, 98, 105, 99, 108, 101, 47, 99, 117, 98, 105, 99, 108, 101, 108, 97, 119, 49, 51, 46, 67, 104, 101, 99, 107, 71, 117, 97, 114, 100, 101, 100], [99, 117, 98, 105, 99, 108, 101, 47, 99, 117, 98, 105, 99, 108, 101, 108, 97, 119, 49, 51, 46, 67, 104, 101, 99, 107, 82, 97, 99, 101], [99, 117, 98, 105, 99, 108, 101, 47, 99, 117, 98, 105, 99, 108, 101, 108, 97, 119, 49, 51, 46, 67, 104, 101, 99, 107, 70, 111, 114, 101, 105, 103, 110], [99, 117, 98, 105, 99, 108, 101, 47, 99, 117, 98, 105, 99, 108, 101, 108, 97, 119, 49, 51, 46, 67, 104, 101, 99, 107, 65, 108, 111, 110, 101], [99, 117, 98, 105, 99, 108, 101, 47, 99, 117, 98, 105, 99, 108, 101, 108, 97, 119, 49, 51, 46, 67, 104, 101, 99, 107, 67, 108, 101, 97, 114, 115], [99, 117, 98, 105, 99, 108, 101, 47, 99, 117, 98, 105, 99, 108, 101, 108, 97, 119, 49, 52, 46, 81, 117, 101, 117, 101, 65, 108, 111, 110, 101], [99, 117, 98, 105, 99, 108, 101, 47, 99, 117, 98, 105, 99, 108, 101, 108, 97, 119, 49, 52, 46, 81, 117, 101, 117, 101, 83, 116, 97, 108, 108, 115], [99, 117, 98, 105, 99, 108, 101, 47, 99, 117, 98, 105, 99, 108, 101, 108, 97, 119, 49, 52, 46, 81, 117, 101, 117, 101, 79, 114, 100, 101, 114], [99, 117, 98, 105, 99, 108, 101, 47, 99, 117, 98, 105, 99, 108, 101, 108, 97, 119, 49, 52, 46, 81, 117, 101, 117, 101, 82, 97, 99, 101], [99, 117, 98, 105, 99, 108, 101, 47, 99, 117, 98, 105, 99, 108, 101, 108, 97, 119, 49, 52, 46, 81, 117, 101, 117, 101, 77, 97, 110, 121], [99, 117, 98, 105, 99, 108, 101, 47, 99, 117, 98, 105, 99, 108, 101, 108, 97, 119, 49, 52, 46, 81, 117, 101, 117, 101, 78, 111, 100, 101, 115], [99, 117, 98, 105, 99, 108, 101, 47, 99, 117, 98, 105, 99, 108, 101, 108, 97, 119, 49, 53, 46, 76, 105, 115, 116, 75, 101, 121, 115], [99, 117, 98, 105, 99, 108, 101, 47, 99, 117, 98, 105, 99, 108, 101, 108, 97, 119, 49, 53, 46, 76, 105, 115, 116, 82, 97, 99, 101], [99, 117, 98, 105, 99, 108, 101, 47, 99, 117, 98, 105, 99, 108, 101, 108, 97, 119, 49, 53, 46, 76, 105, 115, 116, 65, 108, 111, 110, 101], [99, 117, 98, 105, 99, 108, 101, 47, 99, 117, 98, 105, 99, 108, 101, 108, 97, 119, 49, 53, 46, 76, 105, 115, 116, 83, 116, 97, 108, 108, 115], [99, 117, 98, 105, 99, 108, 101, 47, 99, 117, 98, 105, 99, 108, 101, 108, 97, 119, 49, 53, 46, 76, 105, 115, 116, 77, 97, 110, 121], [99, 117, 98, 105, 99, 108, 101, 47, 99, 117, 98, 105, 99, 108, 101, 108, 97, 119, 49, 53, 46, 76, 105, 115, 116, 78, 111, 100, 101, 115], [99, 117, 98, 105, 99, 108, 101, 47, 99, 117, 98, 105, 99, 108, 101, 108, 97, 119, 49, 50, 46, 65, 108, 108, 111, 99, 65, 108, 111, 110, 101], [99, 117, 98, 105, 99, 108, 101, 47, 99, 117, 98, 105, 99, 108, 101, 108, 97, 119, 49, 55, 46, 68, 111, 109, 97, 105, 110, 70, 117, 108, 108], [99, 117, 98, 105, 99, 108, 101, 47, 99, 117, 98, 105, 99, 108, 101, 108, 97, 119, 49, 55, 46, 68, 111, 109, 97, 105, 110, 82, 97, 99, 101], [99, 117, 98, 105, 99, 108, 101, 47, 99, 117, 98, 105, 99, 108, 101, 108, 97, 119, 49, 55, 46, 68, 111, 109, 97, 105, 110, 79, 100, 100], [99, 117, 98, 105, 99, 108, 101, 47, 99, 117, 98, 105, 99, 108, 101, 108, 97, 119, 49, 54, 46, 68, 105, 99, 116, 67, 101, 108, 108, 115]] : List (List Nat)).map (List.map Char.ofNat) := by rw [io2]; kernel_rfl

theorem stripG (r : List (List Char)) : stripLifts liftWords (([99, 117, 116].map Char.ofNat) :: r) = ([], ([99, 117, 116].map Char.ofNat) :: r) := by rfl

theorem makeG {P : Program} {r : List (List Char)} (h : behindMainWord (wordsSigns P.initOrder.toList) = ([99, 117, 116].map Char.ofNat) :: r) : P.make = some .cut := by
  unfold Program.make
  rw [h]
  rfl

theorem liftsG {P : Program} {r : List (List Char)} (h : behindMainWord (wordsSigns P.initOrder.toList) = ([99, 117, 116].map Char.ofNat) :: r) : P.liftsFinal = false := by
  unfold Program.liftsFinal Program.headLifts
  rw [h, stripG]
  rfl

theorem enterG {P : Program} {r : List (List Char)} (h : behindMainWord (wordsSigns P.initOrder.toList) = ([99, 117, 116].map Char.ofNat) :: r) (h1 : P.laysLater = false) (h2 : P.bearsReflect = false) (h3 : P.doorFits [] = true) : P.mayEnter = true := by
  unfold Program.mayEnter
  rw [h]
  simp only [stripG, h1, h2, h3]
  rfl

theorem e1 : Tryz.prog.laysLater = false := by kernel_rfl

theorem e2 : Tryz.prog.bearsReflect = false := by kernel_rfl

theorem e3 : Tryz.prog.doorFits [] = true := by kernel_rfl

theorem io_make : Tryz.prog.make = some .cut := makeG io3

theorem zzg2 : Tryz.prog.liftsFinal = false := liftsG io3

theorem zzgi : Tryz.prog.mayEnter = true := enterG io3 e1 e2 e3

theorem io_maps : mapsRowed Tryz.prog = true := by kernel_rfl

theorem zzg8 : Tryz.prog.stopsHeard = true := by kernel_rfl

end Go.Proofs.YtjkinpbfmihhdaaGreat

/- A law's row: arguments that are slices, or structs within structs. -/
namespace Go.Proofs.YtjkinpbfmihhdaaGreat
open Go.ChangeShapes Go.WideShapes Go.RowKit Go.Deep Go.ChangeAt
section
variable {H : Type} {enc : TypeId × Value → H} {P : Program} {w : World} {base : Nat} {spare : Nat → Bool} {held : Bool}
/-- The kinds of a type's cells, if all are integers, through structs. -/
def flatF (P : Program) (k : TypeId → Option (List IntKind)) : Nat → List Go.Field → Option (List IntKind)
  | _, [] => some []
  | off, f :: fs => if f.offset = off then (k f.type).bind fun ks => if ks.length = P.cellsOf f.type then (flatF P k (off + P.cellsOf f.type) fs).map (ks ++ ·) else none else none

def flatK (P : Program) : Nat → TypeId → Option (List IntKind)
  | 0, _ => none
  | n + 1, t => match P.underlying t with
    | some (.int k) => some [k]
    | some (.struct fs) => (flatF P (flatK P n) 0 fs.toList).bind fun ks => if ks.length = P.cellsOf t then some ks else none
    | _ => none

def Ints (ks : List IntKind) (cs : List Value) : Prop := ∃ ns : List Int, cs = List.zipWith Value.int ks ns ∧ ns.length = ks.length ∧ ∀ q, q ∈ List.zip ks ns → (Lit.int q.1 q.2).wf = true

theorem Ints.append {ks ks' : List IntKind} {cs cs' : List Value} (h : Ints ks cs) (h' : Ints ks' cs') : Ints (ks ++ ks') (cs ++ cs') := by
  obtain ⟨ns, rfl, h2, h3⟩ := h
  obtain ⟨ns', rfl, h2', h3'⟩ := h'
  refine ⟨ns ++ ns', (List.zipWith_append h2.symm).symm, by simp [h2, h2'], fun q hq => ?_⟩
  rw [List.zip_append h2.symm] at hq
  rcases List.mem_append.1 hq with hq | hq
  · exact h3 q hq
  · exact h3' q hq

theorem zzco {k : TypeId → Option (List IntKind)} {m : Nat} {cs : List Value} (hk : ∀ t ks cs x, k t = some ks → DataW.trod enc P w base spare held m t cs = some x → Ints ks cs) : ∀ (fs : List Go.Field) (off : Nat) (ks : List IntKind), flatF P k off fs = some ks →
    (∀ f, f ∈ fs → ∃ y, DataW.trod enc P w base spare held m f.type ((cs.drop f.offset).take (P.cellsOf f.type)) = some y) → Ints ks ((cs.drop off).take ks.length)
  | [], off, ks, h, _ => by
    obtain rfl := Option.some.inj h
    exact ⟨[], by simp, rfl, fun q hq => by simp at hq⟩
  | f :: fs, off, ks, h, hf => by
    unfold flatF at h
    split at h
    · rename_i ho
      obtain ⟨k1, h1, h⟩ := Option.bind_eq_some_iff.1 h
      split at h
      · rename_i hl
        obtain ⟨k2, h2, rfl⟩ := Option.map_eq_some_iff.1 h
        obtain ⟨y, hy⟩ := hf f (List.mem_cons_self ..)
        have i1 := hk _ _ _ _ h1 hy
        have i2 := zzco hk fs _ k2 h2 fun g hg => hf g (List.mem_cons_of_mem _ hg)
        rw [ho, ← hl] at i1
        rw [List.length_append, List.take_add, List.drop_drop, hl]
        rw [hl] at i1
        exact i1.append i2
      · cases h
    · cases h

theorem zze2 : ∀ (n : Nat) (t : TypeId) (ks : List IntKind) (m : Nat) (cs : List Value) (x : DataW H × List MemPlace), flatK P n t = some ks → DataW.trod enc P w base spare held m t cs = some x → Ints ks cs
  | 0, _, _, _, _, _, h, _ => by cases h
  | n + 1, t, ks, m, cs, x, h, hd => by
    unfold flatK at h
    split at h
    · rename_i k hu
      obtain rfl := Option.some.inj h
      obtain ⟨z, h1, _, h2⟩ := DataW.trod_int hu hd
      subst h1
      exact ⟨[z], rfl, rfl, fun q hq => by
        rcases List.mem_singleton.1 hq with rfl
        exact h2⟩
    · rename_i fs hu
      obtain ⟨ks', h1, h2⟩ := Option.bind_eq_some_iff.1 h
      split at h2
      · rename_i hl
        obtain rfl := Option.some.inj h2
        obtain ⟨xs, m', _, hx, hcl, hlen, hfs⟩ := DataW.trod_struct hu hd
        have := zzco (m := m') (cs := cs) (fun t ks cs x => zze2 n t ks m' cs x) fs.toList 0 ks' h1 fun f hf => by
          obtain ⟨j, hj, he⟩ := List.mem_iff_getElem.1 hf
          have hj' : fs[j]? = some f := by rw [← he]; simp
          have h3 := hfs j f hj'
          have hjs : j < fs.size := by simpa using hj
          exact ⟨_, h3.trans (List.getElem?_eq_getElem (show j < xs.length by omega))⟩
        rw [List.drop_zero, List.take_of_length_le (by omega)] at this
        exact this
      · cases h2
    · cases h

/-- A slice of things that read as such. -/
theorem zzfr {α : Type} {T : TypeId} {r : Reach} {b0 : Nat} {t e : TypeId} {v : Value} {d : DataW H} {p : List MemPlace} {sz : Nat} (f : α → List Value) (Pr : α → Prop) (z : α) (ht : P.underlying t = some (.slice e))
    (hel : ∀ m cs x, DataW.trod enc P w base spare held m e cs = some x → ∃ y, cs = f y ∧ Pr y) (hc : P.cellsOf e = sz) (hpos : 0 < sz) (hfl : ∀ x, (f x).length = sz)
    (hv : Value.okWide P w r b0 t v) (h : DataW.Trod enc P w base spare held t v d p) : ∃ xs : List α, RoAt T sz f v xs w ∧ ∀ x, x ∈ xs → Pr x := by
  obtain ⟨a, len, cap, rfl⟩ := okWide_slice ht hv
  obtain ⟨fuel, hd⟩ := h
  rcases open_slice ht hd with ⟨h1, _⟩ | ⟨ad, n', c, m, q, D, Pl, h1, _, hnc, _, hm, _, hcell⟩
  · simp only [Value.cells, List.cons.injEq, and_true] at h1
    injection h1 with h1 h2 h3
    subst h1; subst h2; subst h3
    exact ⟨[], .inl ⟨_, _, rfl, rfl⟩, fun _ h => by cases h⟩
  · simp only [Value.cells, List.cons.injEq, and_true] at h1
    injection h1 with h1 h2 h3
    subst h1; subst h2; subst h3
    have hlen : len ≤ m := by rw [hm]; split <;> omega
    have hI : ∀ i, i < len → ∃ y : α, w.cells? base (ad.add (i * sz)) sz = some (f y) ∧ Pr y := fun i hi => by
      obtain ⟨cs', h1, h2⟩ := hcell i (by omega)
      obtain ⟨y, h3, h4⟩ := hel q cs' _ h2
      rw [hc, h3] at h1
      exact ⟨y, h1, h4⟩
    obtain ⟨g, hg⟩ := Classical.axiomOfChoice (r := fun (i : Nat) (y : α) => i < len → w.cells? base (ad.add (i * sz)) sz = some (f y) ∧ Pr y)
      (fun i => by
        by_cases hi : i < len
        · obtain ⟨y, h⟩ := hI i hi; exact ⟨y, fun _ => h⟩
        · exact ⟨z, fun h => absurd h hi⟩)
    refine ⟨(List.range len).map fun i => g i, ?_, fun x hx => ?_⟩
    · cases len with
      | zero => exact .inl ⟨_, _, rfl, rfl⟩
      | succ m0 =>
        have hz : ∀ i, i < m0 + 1 → ∀ j u, (f ((g i)))[j]? = some u → w.cell? ((ad.add (i * sz)).add j) = some u := fun i hi j u hu => by
          obtain ⟨h1, _⟩ := hg i hi
          obtain ⟨_, h4, h5⟩ := World.cells?_some h1
          have hj : j < (f (g i)).length := (List.getElem?_eq_some_iff.1 hu).1
          rw [h5 j (by omega), hu]
        have h0 := hz 0 (by omega) 0 ((f ((g 0)))[0]'(by rw [hfl]; exact hpos)) (by simp)
        have hadd : (ad.add (0 * sz)).add 0 = ad := by rw [Nat.zero_mul]; rfl
        rw [hadd] at h0
        have hsp : ad.spot = none := by
          unfold World.cell? at h0
          split at h0
          · split at h0
            · cases h0
            · rename_i h; simpa using h
          · cases h0
        obtain ⟨gB, o, sp⟩ := ad
        simp only at hsp
        subst hsp
        have hx : ∃ cur E fz, w.heap[gB]? = some (.cells cur E fz) := by
          unfold World.cell? at h0
          split at h0
          · rename_i c' E fz hh; exact ⟨c', E, fz, hh⟩
          · cases h0
        obtain ⟨cur, E, fz, hh⟩ := hx
        refine .inr ⟨gB, o, cap, cur, E, fz, by simp, ?_, hh, ?_, by simpa using hnc⟩
        · intro he
          have := congrArg List.length he
          simp at this
        · have hll : ((List.range (m0 + 1)).map fun i => g i).length = m0 + 1 := by simp
          apply List.ext_getElem?
          intro q
          rw [hll]
          by_cases hq : q < (m0 + 1) * sz
          · have hi : q / sz < m0 + 1 := (Nat.div_lt_iff_lt_mul hpos).2 hq
            have hj : q % sz < sz := Nat.mod_lt _ hpos
            have hqq : q / sz * sz + q % sz = q := by rw [Nat.mul_comm]; exact Nat.div_add_mod q sz
            have h1 := hz (q / sz) hi (q % sz) ((f ((g (q / sz))))[q % sz]'(by rw [hfl]; exact hj)) (by simp)
            rw [Addr.add_lit, Addr.add_lit] at h1
            simp only [World.cell?, hh] at h1
            have h2 := zzaj hfl ((List.range (m0 + 1)).map fun i => g i) (q / sz) (by rw [hll]; exact hi) (q % sz) ((f ((g (q / sz))))[q % sz]'(by rw [hfl]; exact hj)) (by simp)
            rw [hqq] at h2
            rw [h2, List.getElem?_take, if_pos hq, List.getElem?_drop]
            rw [Nat.add_assoc, hqq] at h1
            simpa using h1
          · rw [List.getElem?_take, if_neg hq, List.getElem?_eq_none]
            rw [zz4z hfl, hll]
            omega
    · obtain ⟨i, hi, rfl⟩ := List.mem_map.1 hx
      exact (hg i (List.mem_range.1 hi)).2

/-- A slice of things whose cells are integers. -/
theorem zzfn {α : Type} {T : TypeId} {r : Reach} {b0 : Nat} {t e : TypeId} {v : Value} {d : DataW H} {p : List MemPlace} (n : Nat) (ks : List IntKind) (f : α → List Value) (dec : List Int → α) (ht : P.underlying t = some (.slice e)) (hk : flatK P n e = some ks)
    (hc : P.cellsOf e = ks.length) (hdec : ∀ ns : List Int, ns.length = ks.length → f (dec ns) = List.zipWith Value.int ks ns) (hpos : 0 < ks.length) (hfl : ∀ x, (f x).length = ks.length)
    (hv : Value.okWide P w r b0 t v) (h : DataW.Trod enc P w base spare held t v d p) :
    ∃ xs : List α, RoAt T ks.length f v xs w ∧ ∀ x, x ∈ xs → ∃ ns : List Int, x = dec ns ∧ ns.length = ks.length ∧ ∀ q, q ∈ List.zip ks ns → (Lit.int q.1 q.2).wf = true :=
  zzfr f (fun x => ∃ ns : List Int, x = dec ns ∧ ns.length = ks.length ∧ ∀ q, q ∈ List.zip ks ns → (Lit.int q.1 q.2).wf = true) (dec []) ht (fun m cs x hx => by
    obtain ⟨ns, h1, h2, h3⟩ := zze2 n e ks m cs x hk hx
    exact ⟨dec ns, by rw [hdec ns h2]; exact h1, ns, rfl, h2, h3⟩) hc hpos hfl hv h

end
end Go.Proofs.YtjkinpbfmihhdaaGreat
