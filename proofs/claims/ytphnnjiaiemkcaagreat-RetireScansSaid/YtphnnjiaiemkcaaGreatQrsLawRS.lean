/- Written by a program of ours (wip/gen.py): a law -/
import Derived.Test.YtphnnjiaiemkcaaGreatQrsL11
set_option linter.unusedVariables false
set_option maxRecDepth 20000
set_option maxHeartbeats 2000000
namespace Go.Proofs.YtphnnjiaiemkcaaGreat.Wk
open Go.RowKit
theorem cl12 : callable Tryz.prog 12 = true := by kernel_rfl

theorem cl13 : callable Tryz.prog 13 = true := by kernel_rfl

theorem cl14 : callable Tryz.prog 14 = true := by kernel_rfl

theorem cl15 : callable Tryz.prog 15 = true := by kernel_rfl

theorem cl19 : callable Tryz.prog 19 = true := by kernel_rfl

theorem cl21 : callable Tryz.prog 21 = true := by kernel_rfl

theorem cl24 : callable Tryz.prog 24 = true := by kernel_rfl

theorem cl25 : callable Tryz.prog 25 = true := by kernel_rfl

theorem cl26 : callable Tryz.prog 26 = true := by kernel_rfl

theorem rt56 : rowTy Tryz.prog 56 4 1 = true := by kernel_rfl

def D.cubiclelaw11_RetireScans (fu : Nat) (a0 : Plan) (a1 : List Int) (a2 : List Bool) : Option (Bool) := (Option.bind ((D.cubiclelaw11_awake fu ).bind (fun (x6 : Bool) => (bif (!x6) then (some true) else (bif (!(D.cubiclelaw11_few a0)) then (some true) else (bif (decide ((a1.length : Int) > 40)) then (some true) else (some (decide ((a2.length : Int) > a0.nodes)))))))) (fun (x12 : Bool) => (bif x12 then ((D.cubiclelaw11_awake fu ).bind (fun (x16 : Bool) => (some x16))) else ((some ({ a0 with gen := 9 })).bind (fun (x26 : Plan) => ((D.cubiclelaw11_popped fu x26 (⟨3, 2, 1⟩ : State)).bind (fun (x27 : Mem) => (loopThen (fun (x32 : Bool × List Int × Int × Mem) => (bif (decide (x32.2.2.1 < (a1.length : Int))) then ((getI a1 x32.2.2.1).bind (fun (x37 : Int) => (Option.bind (bif (decide (x37 < 0)) then (some true) else (bif (decide (x37 ≥ x26.nodes)) then (some true) else ((D.cubicleref09_Has fu x32.2.1 x37).bind (fun (x41 : Bool) => (some x41))))) (fun (x43 : Bool) => (bif x43 then (some (Lp.next (x32.1, x32.2.1, (IntKind.i64.wrap (x32.2.2.1 + 1)), x32.2.2.2))) else ((D.mem_Memory_Cap fu x32.2.2.2 0).bind (fun (x51 : Cap) => ((D.prog_Run_int fu (fu, (D.retire_Put x26 (IntKind.i64.wrap (x26.threads - 1)) x37)) x32.2.2.2 x51 9).bind (fun (x53 : Int × Int × Bool × Mem) => (bif (decide ((x32.2.1.length : Int) ≥ x26.retire)) then (Option.bind (bif (x53.1 != (-1)) then (some true) else (some (!x53.2.2.1))) (fun (x58 : Bool) => (bif x58 then (some (Lp.ret false)) else (some (Lp.next (x32.1, x32.2.1, (IntKind.i64.wrap (x32.2.2.1 + 1)), x53.2.2.2)))))) else ((appD x32.2.1 ([x37])).bind (fun (x66 : List Int) => (Option.bind (bif (x53.1 != (x66.length : Int)) then (some true) else (some (!x53.2.2.1))) (fun (x72 : Bool) => (bif x72 then (some (Lp.ret false)) else (some (Lp.next (x32.1, x66, (IntKind.i64.wrap (x32.2.2.1 + 1)), x53.2.2.2)))))))))))))))))) else (some (Lp.brk (x32.1, x32.2.1, x32.2.2.1, x32.2.2.2))))) fu (false, [], 0, x27) (fun (x76 : Bool × List Int × Int × Mem) => (loopThen (fun (x79 : List Bool × Int × Int × Mem) => (bif (decide (x79.2.2.1 < (x79.1.length : Int))) then (Option.bind ((getI x79.1 x79.2.2.1).bind (fun (x85 : Bool) => (bif x85 then (some (decide (x79.2.1 < (IntKind.i64.wrap (3 * x26.threads))))) else (some false)))) (fun (x87 : Bool) => (Option.bind (bif x87 then ((D.mem_Memory_Cap fu x79.2.2.2 0).bind (fun (x96 : Cap) => ((D.prog_Run_None fu (fu, (D.hazard_Set x26 (IntKind.i64.wrap (x79.2.1.tdiv 3)) (x79.2.1.tmod 3) x79.2.2.1)) x79.2.2.2 x96 9).bind (fun (x98 : Unit × Int × Bool × Mem) => (some (x98.2.2.2, x79.1, (IntKind.i64.wrap (x79.2.1 + 1)))))))) else ((sliceD x79.1 0 x79.2.2.1).bind (fun (x100 : List Bool) => ((appD ([] : List Bool) x100).bind (fun (x101 : List Bool) => ((sliceD x79.1 (IntKind.i64.wrap (x79.2.2.1 + 1)) (x79.1.length : Int)).bind (fun (x106 : List Bool) => ((appD ([false]) x106).bind (fun (x108 : List Bool) => ((appD x101 x108).bind (fun (x112 : List Bool) => (some (x79.2.2.2, x112, x79.2.1))))))))))))) (fun (x116 : Mem × List Bool × Int) => (some (Lp.next (x116.2.1, x116.2.2, (IntKind.i64.wrap (x79.2.2.1 + 1)), x116.1))))))) else (some (Lp.brk (x79.1, x79.2.1, x79.2.2.1, x79.2.2.2))))) fu (a2, 0, 0, x76.2.2.2) (fun (x119 : List Bool × Int × Int × Mem) => ((D.mem_Memory_Cap fu x119.2.2.2 0).bind (fun (x126 : Cap) => ((D.prog_Run_int fu (fu, (D.retire_Scan (fu + 1) x26 (IntKind.i64.wrap (x26.threads - 1)))) x119.2.2.2 x126 100000).bind (fun (x128 : Int × Int × Bool × Mem) => ((D.cubicleref11_Scan fu x76.2.1 x119.1).bind (fun (x130 : List Int × List Int) => (loopThen (fun (x137 : List Int × Int) => (bif (decide (x137.2 < (x130.2.length : Int))) then ((getI x130.2 x137.2).bind (fun (x142 : Int) => ((D.cubicleref09_Push fu x137.1 x142).bind (fun (x143 : List Int) => (some (Lp.next (x143, (IntKind.i64.wrap (x137.2 + 1))))))))) else (some (Lp.brk (x137.1, x137.2))))) fu ([], 0) (fun (x147 : List Int × Int) => (Option.bind (bif (x128.1 != (x130.2.length : Int)) then (some true) else (bif (!x128.2.2.1) then (some true) else ((D.retire_List fu x26 x128.2.2.2 0 (IntKind.i64.wrap (x26.threads - 1))).bind (fun (x153 : List Int) => ((D.cubicleref09_Same fu x153 x130.1).bind (fun (x157 : Bool) => (bif (!x157) then (some true) else ((D.free_List fu x26 x128.2.2.2 0).bind (fun (x160 : List Int) => ((D.cubicleref09_Same fu x160 x147.1).bind (fun (x164 : Bool) => (some (!x164))))))))))))) (fun (x166 : Bool) => (bif x166 then (some false) else (loopThen (fun (x170 : Bool × Int) => (bif (decide (x170.2 < (x130.2.length : Int))) then (Option.bind ((getI x130.2 x170.2).bind (fun (x176 : Int) => ((D.mem_Memory_Peek fu x128.2.2.2 0 (D.plan_Plan_State x26 x176)).bind (fun (x177 : Int) => (bif (x177 != (D.state_State_Word (⟨4, 0, 0⟩ : State))) then (some true) else ((getI x130.2 x170.2).bind (fun (x180 : Int) => ((D.mem_Memory_Peek fu x128.2.2.2 0 (D.plan_Plan_Field x26 x180 0)).bind (fun (x181 : Int) => (bif (x181 != 0) then (some true) else ((getI x130.2 x170.2).bind (fun (x184 : Int) => ((D.mem_Memory_Peek fu x128.2.2.2 0 (D.plan_Plan_Field x26 x184 1)).bind (fun (x185 : Int) => (bif (x185 != 0) then (some true) else ((getI x130.2 x170.2).bind (fun (x188 : Int) => ((D.mem_Memory_Peek fu x128.2.2.2 0 (D.plan_Plan_Field x26 x188 2)).bind (fun (x189 : Int) => (some (x189 != 0))))))))))))))))))))) (fun (x191 : Bool) => (bif x191 then (some (Lp.ret false)) else (some (Lp.next (x170.1, (IntKind.i64.wrap (x170.2 + 1)))))))) else (some (Lp.brk (x170.1, x170.2))))) fu (x76.1, 0) (fun (x195 : Bool × Int) => (some true)))))))))))))))))))))))))

theorem c_cubiclelaw11_RetireScans {fu : Nat} (w0 : World) (a0 : Plan) {a1_v : Value} (a1 : List Int) (a1_h : RoAt 3 1 i64 a1_v a1 w0) {a2_v : Value} (a2 : List Bool) (a2_h : RoAt 4 1 boolE a2_v a2 w0) {res : Bool} (hD : D.cubiclelaw11_RetireScans fu a0 a1 a2 = some res) :
    Calls Tryz.prog 5 #[.agg (planC a0).toArray, a1_v, a2_v] w0 (PureRes (.bool res) w0) := by
 refine enter Tryz.func5 rfl 262 rfl rfl fun fr r => ?_
 have hP : Post No [] w0 w0 := Post.nil w0
 have hP : Post No [roK 3 1 i64 a1_v a1] w0 w0 := hP.addRo norw_nil a1_h rfl a1_h.lt
 have hP : Post No [roK 3 1 i64 a1_v a1, roK 4 1 boolE a2_v a2] w0 w0 := hP.addRo (norw_cons rfl norw_nil) a2_h rfl a2_h.lt
 unfold D.cubiclelaw11_RetireScans at hD
 refine wsr ?_
 refine seq_new (.cells ((planC a0)).toArray 23 (0, 0)) r (fun R => y_box r (v := (.agg (planC a0).toArray)) rfl) rfl fun fr b1 w2 n3 r => ?_
 have hP : Post No [roK 3 1 i64 a1_v a1, roK 4 1 boolE a2_v a2, cellC b1 ((planC a0)).toArray 23] w0 w2 := hP.new n3
 refine seq_val (.bool false) r (fun R => y_assign r rfl) rfl fun fr r => ?_
 refine wn ?_
 refine wp_seq ?_
 refine wp_seq ?_
 refine wp_joinG (N := 262) (Y := Bool) (G := Unit) (fun x γ => [(0, (.agg (planC a0).toArray)), (1, a1_v), (2, a2_v), (3, (.pointer (some ⟨b1, 0, none⟩))), (6, (.bool false)), (43, (.bool x))]) (fun x γ w => Post No [roK 3 1 i64 a1_v a1, roK 4 1 boolE a2_v a2, cellC b1 ((planC a0)).toArray 23] w0 w) hD ?_ ?_
 ·
  rintro y5 RPy5 nxy5 hD
  refine wp_region_lit ?_
  obtain ⟨x6, hx6, hD⟩ := bindD_elim hD
  refine seq_call r (c_cubiclelaw11_awake w2  hx6) (fun R hc => y_call r rfl cl12 hc) rfl ?_
  rintro _ w7 ⟨rfl, hb⟩
  refine ⟨_, rfl, fun fr r => ?_⟩
  have hP : Post No [roK 3 1 i64 a1_v a1, roK 4 1 boolE a2_v a2, cellC b1 ((planC a0)).toArray 23] w0 w7 := hP.below hb
  refine seq_val (.bool (!x6)) r (fun R => y_un r (u := (.bool x6)) rfl rfl) rfl fun fr r => ?_
  refine seq_val (.bool (!x6)) r (fun R => y_move r rfl) rfl fun fr r => ?_
  refine seq_split (!x6) (fun h8 => ?_) (fun h8 => ?_)
  ·
   have hD := (cond_t h8).symm.trans hD
   refine s0 r h8 fun fr r => ?_
   refine s0 r h8 fun fr r => ?_
   refine s0 r h8 fun fr r => ?_
   refine seq_val (.bool true) r (fun R => y_pick r (b := true) (congrArg Value.bool h8) rfl) rfl fun fr r => ?_
   refine seq_val (.bool true) r (fun R => y_move r rfl) rfl fun fr r => ?_
   refine s0 r (rfl : true = _) fun fr r => ?_
   refine s0 r (rfl : true = _) fun fr r => ?_
   refine s0 r (rfl : true = _) fun fr r => ?_
   refine seq_val (.bool true) r (fun R => y_pick r (b := true) (congrArg Value.bool (rfl : true = _)) rfl) rfl fun fr r => ?_
   refine seq_val (.bool true) r (fun R => y_move r rfl) rfl fun fr r => ?_
   refine s0 r (rfl : true = _) fun fr r => ?_
   refine s0 r (rfl : true = _) fun fr r => ?_
   refine s0 r (rfl : true = _) fun fr r => ?_
   refine s0 r (rfl : true = _) fun fr r => ?_
   refine s0 r (rfl : true = _) fun fr r => ?_
   refine seq_val (.bool true) r (fun R => y_pick r (b := true) (congrArg Value.bool (rfl : true = _)) rfl) rfl fun fr r => ?_
   refine wn ?_
   exact nxy5 true () _ _ _ hD r (hs_cons rfl (hs_cons rfl (hs_cons rfl (hs_cons rfl (hs_cons rfl (hs_cons rfl hs_nil)))))) (hP.pick [0, 1, 2] rfl rfl)
  ·
   have hD := (cond_f h8).symm.trans hD
   refine s1 r h8 ?_
   refine seq_val (.agg (planC a0).toArray) r (fun R => y_load_agg r (cs := (planC a0)) (n := 6) rfl (hP.cell (i := 2) rfl) ta23 rfl) rfl fun fr r => ?_
   refine s1 r h8 ?_
   refine seq_call r (c_cubiclelaw11_few w7 a0) (fun R hc => y_call r rfl cl13 hc) rfl ?_
   rintro _ w9 ⟨rfl, hb⟩
   refine ⟨_, rfl, fun fr r => ?_⟩
   have hP : Post No [roK 3 1 i64 a1_v a1, roK 4 1 boolE a2_v a2, cellC b1 ((planC a0)).toArray 23] w0 w9 := hP.below hb
   refine s1 r h8 ?_
   refine seq_val (.bool (!(D.cubiclelaw11_few a0))) r (fun R => y_un r (u := (.bool (D.cubiclelaw11_few a0))) rfl rfl) rfl fun fr r => ?_
   refine seq_val (.bool (!(D.cubiclelaw11_few a0))) r (fun R => y_pick r (b := false) (congrArg Value.bool h8) rfl) rfl fun fr r => ?_
   refine seq_val (.bool (!(D.cubiclelaw11_few a0))) r (fun R => y_move r rfl) rfl fun fr r => ?_
   refine seq_split (!(D.cubiclelaw11_few a0)) (fun h10 => ?_) (fun h10 => ?_)
   ·
    have hD := (cond_t h10).symm.trans hD
    refine s0 r h10 fun fr r => ?_
    refine s0 r h10 fun fr r => ?_
    refine s0 r h10 fun fr r => ?_
    refine seq_val (.bool true) r (fun R => y_pick r (b := true) (congrArg Value.bool h10) rfl) rfl fun fr r => ?_
    refine seq_val (.bool true) r (fun R => y_move r rfl) rfl fun fr r => ?_
    refine s0 r (rfl : true = _) fun fr r => ?_
    refine s0 r (rfl : true = _) fun fr r => ?_
    refine s0 r (rfl : true = _) fun fr r => ?_
    refine s0 r (rfl : true = _) fun fr r => ?_
    refine s0 r (rfl : true = _) fun fr r => ?_
    refine seq_val (.bool true) r (fun R => y_pick r (b := true) (congrArg Value.bool (rfl : true = _)) rfl) rfl fun fr r => ?_
    refine wn ?_
    exact nxy5 true () _ _ _ hD r (hs_cons rfl (hs_cons rfl (hs_cons rfl (hs_cons rfl (hs_cons rfl (hs_cons rfl hs_nil)))))) (hP.pick [0, 1, 2] rfl rfl)
   ·
    have hD := (cond_f h10).symm.trans hD
    refine s1 r h10 ?_
    refine seq_val a1_v r (fun R => y_move r rfl) rfl fun fr r => ?_
    refine s1 r h10 ?_
    refine seq_val (I (a1.length : Int)) r (fun R => y_rowLen r (hP.ro (i := 0) rfl) is24 rfl) rfl fun fr r => ?_
    refine s1 r h10 ?_
    refine seq_val _ r (fun R => y_bin r rfl rfl rfl rfl) rfl fun fr r => ?_
    refine seq_val (.bool (decide ((a1.length : Int) > 40))) r (fun R => y_pick r (b := false) (congrArg Value.bool h10) rfl) rfl fun fr r => ?_
    refine seq_val (.bool (decide ((a1.length : Int) > 40))) r (fun R => y_move r rfl) rfl fun fr r => ?_
    refine seq_split (decide ((a1.length : Int) > 40)) (fun h11 => ?_) (fun h11 => ?_)
    ·
     have hD := (cond_t h11).symm.trans hD
     refine s0 r h11 fun fr r => ?_
     refine s0 r h11 fun fr r => ?_
     refine s0 r h11 fun fr r => ?_
     refine s0 r h11 fun fr r => ?_
     refine s0 r h11 fun fr r => ?_
     refine seq_val (.bool true) r (fun R => y_pick r (b := true) (congrArg Value.bool h11) rfl) rfl fun fr r => ?_
     refine wn ?_
     exact nxy5 true () _ _ _ hD r (hs_cons rfl (hs_cons rfl (hs_cons rfl (hs_cons rfl (hs_cons rfl (hs_cons rfl hs_nil)))))) (hP.pick [0, 1, 2] rfl rfl)
    ·
     have hD := (cond_f h11).symm.trans hD
     refine s1 r h11 ?_
     refine seq_val a2_v r (fun R => y_move r rfl) rfl fun fr r => ?_
     refine s1 r h11 ?_
     refine seq_val (I (a2.length : Int)) r (fun R => y_rowLen r (hP.ro (i := 1) rfl) is56 rfl) rfl fun fr r => ?_
     refine s1 r h11 ?_
     refine seq_val _ r (fun R => y_fieldAddr r (o := 0) rfl fo23_0) rfl fun fr r => ?_
     refine s1 r h11 ?_
     refine seq_val (I a0.nodes) r (fun R => y_load_one r rfl (hP.cell (i := 2) rfl) to3 rfl) rfl fun fr r => ?_
     refine s1 r h11 ?_
     refine seq_val _ r (fun R => y_bin r rfl rfl rfl rfl) rfl fun fr r => ?_
     refine seq_val (.bool (decide ((a2.length : Int) > a0.nodes))) r (fun R => y_pick r (b := false) (congrArg Value.bool h11) rfl) rfl fun fr r => ?_
     refine wn ?_
     exact nxy5 (decide ((a2.length : Int) > a0.nodes)) () _ _ _ hD r (hs_cons rfl (hs_cons rfl (hs_cons rfl (hs_cons rfl (hs_cons rfl (hs_cons rfl hs_nil)))))) (hP.pick [0, 1, 2] rfl rfl)
 ·
  rintro x12 γ13 fr w14 g r hP hD
  have hP : Post No [roK 3 1 i64 a1_v a1, roK 4 1 boolE a2_v a2, cellC b1 ((planC a0)).toArray 23] w0 w14 := hP
  refine wp_cond_split (t := x12) (r.ev rfl) (fun h15 => ?_) (fun h15 => ?_)
  ·
   have hD := (cond_t h15).symm.trans hD
   refine wsr ?_
   obtain ⟨x16, hx16, hD⟩ := bindD_elim hD
   refine seq_call r (c_cubiclelaw11_awake w14  hx16) (fun R hc => y_call r rfl cl12 hc) rfl ?_
   rintro _ w17 ⟨rfl, hb⟩
   refine ⟨_, rfl, fun fr r => ?_⟩
   have hP : Post No [roK 3 1 i64 a1_v a1, roK 4 1 boolE a2_v a2, cellC b1 ((planC a0)).toArray 23] w0 w17 := hP.below hb
   refine seq_val (.bool x16) r (fun R => y_assign r rfl) rfl fun fr r => ?_
   refine wn ?_
   refine wp_ret ?_
   have hv : x16 = res := Option.some.inj hD
   try dsimp only [Exit.then, Exit.inBlock]
   refine ret_tmp (fn := Tryz.f5) r (t := 6) rfl (v := (.bool x16)) rfl ?_
   subst hv
   exact ⟨rfl, hP.chg.below⟩
  ·
   have hD := (cond_f h15).symm.trans hD
   refine wp_skip ?_
   refine wsr ?_
   refine seq_val (.agg (stateC (⟨3, 2, 1⟩ : State)).toArray) r (fun R => y_build r (by kernel_rfl)) rfl fun fr r => ?_
   refine seq_new (.cells ((stateC (⟨0, 0, 0⟩ : State))).toArray 30 (0, 0)) r (fun R => y_alloc tz30) rfl fun fr b18 w19 n20 r => ?_
   have hP : Post No [roK 3 1 i64 a1_v a1, roK 4 1 boolE a2_v a2, cellC b1 ((planC a0)).toArray 23, cellC b18 ((stateC (⟨0, 0, 0⟩ : State))).toArray 30] w0 w19 := hP.new n20
   refine seq_upd (.cells ((stateC (⟨3, 2, 1⟩ : State))).toArray 30 (0, 0)) r (fun R => y_store r (o := 0) (v := (.agg (stateC (⟨3, 2, 1⟩ : State)).toArray)) rfl rfl (hP.cell (i := 3) rfl) ts30 (Nat.le_of_ble_eq_true rfl) rfl rfl) rfl fun fr w22 u23 r => ?_
   have hP : Post No [roK 3 1 i64 a1_v a1, roK 4 1 boolE a2_v a2, cellC b1 ((planC a0)).toArray 23, cellC b18 ((stateC (⟨3, 2, 1⟩ : State))).toArray 30] w0 w22 := hP.upd (i := 3) rfl u23
   refine wn ?_
   refine wsr ?_
   refine seq_val _ r (fun R => y_fieldAddr r (o := 0) rfl fo23_5) rfl fun fr r => ?_
   refine seq_upd (.cells ((planC ({ a0 with gen := 9 }))).toArray 23 (0, 0)) r (fun R => y_store r (o := 5) (v := (I 9)) rfl rfl (hP.cell (i := 2) rfl) ts3 (Nat.le_of_ble_eq_true rfl) rfl rfl) rfl fun fr w24 u25 r => ?_
   have hP : Post No [roK 3 1 i64 a1_v a1, roK 4 1 boolE a2_v a2, cellC b1 ((planC ({ a0 with gen := 9 }))).toArray 23, cellC b18 ((stateC (⟨3, 2, 1⟩ : State))).toArray 30] w0 w24 := hP.upd (i := 2) rfl u25
   obtain ⟨x26, hx26, hD⟩ := bindD_elim hD
   have ex26 := Option.some.inj hx26
   rw [ex26] at hP
   refine wn ?_
   refine wsr ?_
   refine seq_val (.agg (planC x26).toArray) r (fun R => y_load_agg r (cs := (planC x26)) (n := 6) rfl (hP.cell (i := 2) rfl) ta23 rfl) rfl fun fr r => ?_
   refine seq_val (.agg (stateC (⟨3, 2, 1⟩ : State)).toArray) r (fun R => y_load_agg r (cs := (stateC (⟨3, 2, 1⟩ : State))) (n := 3) rfl (hP.cell (i := 3) rfl) ta30 rfl) rfl fun fr r => ?_
   obtain ⟨x27, hx27, hD⟩ := bindD_elim hD
   refine seq_call r (c_cubiclelaw11_popped w24 x26 (⟨3, 2, 1⟩ : State) hx27) (fun R hc => y_call r rfl cl14 hc) rfl ?_
   rintro _ w28 ⟨mg29, rfl, hq⟩
   refine ⟨_, rfl, fun fr r => ?_⟩
   have hP : Post No [roK 3 1 i64 a1_v a1, roK 4 1 boolE a2_v a2, cellC b1 ((planC x26)).toArray 23, cellC b18 ((stateC (⟨3, 2, 1⟩ : State))).toArray 30, memK mg29 x27] w0 w28 := hP.add hq
   refine seq_val (.pointer (some ⟨mg29.mb, 0, none⟩)) r (fun R => y_assign r rfl) rfl fun fr r => ?_
   refine wn ?_
   refine wp_seq ?_
   refine wsr ?_
   refine seq_val (.pointer (some ⟨mg29.mb, 0, none⟩)) r (fun R => y_move r rfl) rfl fun fr r => ?_
   refine seq_val _ r (fun R => y_bin r rfl rfl rfl rfl) rfl fun fr r => ?_
   refine wn ?_
   refine wp_cond_split (t := false) (r.ev rfl) (fun h => absurd ((rfl : false = _).symm.trans h) (by decide)) (fun _ => ?_)
   refine wp_skip ?_
   refine wsr ?_
   refine seq_val (Value.slice none 0 0) r (fun R => y_assign r rfl) rfl fun fr r => ?_
   refine wn ?_
   refine wp_seq ?_
   refine wsr ?_
   refine seq_val (I 0) r (fun R => y_assign r rfl) rfl fun fr r => ?_
   refine wn ?_
   have hP : Post No [roK 3 1 i64 a1_v a1, roK 4 1 boolE a2_v a2, cellC b1 ((planC x26)).toArray 23, cellC b18 ((stateC (⟨3, 2, 1⟩ : State))).toArray 30, memK mg29 x27, rowK 3 1 i64 (Value.slice none 0 0) ([])] w0 w28 := hP.nilRow 3 1 i64
   refine wp_loopG (X := Bool × List Int × Int × Mem) (G := Value) (x0 := (false, [], 0, x27)) (fun x γ => [(0, (.agg (planC a0).toArray)), (1, a1_v), (2, a2_v), (3, (.pointer (some ⟨b1, 0, none⟩))), (43, (.bool x12)), (7, (.pointer (some ⟨b18, 0, none⟩))), (8, (.pointer (some ⟨mg29.mb, 0, none⟩))), (51, (.bool false)), (6, (.bool x.1)), (9, γ), (10, (I x.2.2.1))]) (fun x γ w => Post No [roK 3 1 i64 a1_v a1, roK 4 1 boolE a2_v a2, cellC b1 ((planC x26)).toArray 23, cellC b18 ((stateC (⟨3, 2, 1⟩ : State))).toArray 30, memK mg29 x.2.2.2, rowK 3 1 i64 γ x.2.1] w0 w) (Value.slice none 0 0) r (hs_cons rfl (hs_cons rfl (hs_cons rfl (hs_cons rfl (hs_cons rfl (hs_cons rfl (hs_cons rfl (hs_cons rfl (hs_cons rfl (hs_cons rfl (hs_cons rfl hs_nil))))))))))) hP hD ?_ ?_
   ·
    rintro x32 γ33 fr w35 g y34 RPy34 nxy34 bky34 rty34 r hP hD
    have hP : Post No [roK 3 1 i64 a1_v a1, roK 4 1 boolE a2_v a2, cellC b1 ((planC x26)).toArray 23, cellC b18 ((stateC (⟨3, 2, 1⟩ : State))).toArray 30, memK mg29 x32.2.2.2, rowK 3 1 i64 γ33 x32.2.1] w0 w35 := hP
    refine wp_seq ?_
    refine wsr ?_
    refine seq_val (I x32.2.2.1) r (fun R => y_move r rfl) rfl fun fr r => ?_
    refine seq_val a1_v r (fun R => y_move r rfl) rfl fun fr r => ?_
    refine seq_val (I (a1.length : Int)) r (fun R => y_rowLen r (hP.ro (i := 0) rfl) is24 rfl) rfl fun fr r => ?_
    refine seq_val _ r (fun R => y_bin r rfl rfl rfl rfl) rfl fun fr r => ?_
    refine wn ?_
    refine wp_cond_split (t := (decide (x32.2.2.1 < (a1.length : Int)))) (r.ev rfl) (fun h36 => ?_) (fun h36 => ?_)
    ·
     have hD := (cond_t h36).symm.trans hD
     refine wp_skip ?_
     refine wp_seq ?_
     refine wp_block ?_
     refine wsr ?_
     refine seq_val a1_v r (fun R => y_move r rfl) rfl fun fr r => ?_
     refine seq_val (I x32.2.2.1) r (fun R => y_move r rfl) rfl fun fr r => ?_
     obtain ⟨x37, hx37, hD⟩ := bindD_elim hD
     refine seq_val (.pointer (some ⟨rowB a1_v, rowO a1_v + x32.2.2.1.toNat * 1, none⟩)) r (fun R => y_rowAddr r (hP.ro (i := 0) rfl) hx37 sl24 rfl rfl) rfl fun fr r => ?_
     refine seq_val (I x37) r (fun R => y_loadL_one r (u := (I x37)) (RoAt.at_ (f := i64) (x := x37) (hP.ro (i := 0) rfl) (fun _ => rfl) hx37) rfl to3) rfl fun fr r => ?_
     refine seq_val (I x37) r (fun R => y_assign r rfl) rfl fun fr r => ?_
     refine wn ?_
     refine wp_seq ?_
     refine wp_seq ?_
     refine wp_joinG (N := 262) (Y := Bool) (G := Unit) (fun x γ => [(0, (.agg (planC a0).toArray)), (1, a1_v), (2, a2_v), (3, (.pointer (some ⟨b1, 0, none⟩))), (43, (.bool x12)), (7, (.pointer (some ⟨b18, 0, none⟩))), (8, (.pointer (some ⟨mg29.mb, 0, none⟩))), (51, (.bool false)), (6, (.bool x32.1)), (9, γ33), (10, (I x32.2.2.1)), (55, (.bool (decide (x32.2.2.1 < (a1.length : Int))))), (11, (I x37)), (74, (.bool x))]) (fun x γ w => Post No [roK 3 1 i64 a1_v a1, roK 4 1 boolE a2_v a2, cellC b1 ((planC x26)).toArray 23, cellC b18 ((stateC (⟨3, 2, 1⟩ : State))).toArray 30, memK mg29 x32.2.2.2, rowK 3 1 i64 γ33 x32.2.1] w0 w) hD ?_ ?_
     ·
      rintro y38 RPy38 nxy38 hD
      refine wp_region_lit ?_
      refine seq_val (I x37) r (fun R => y_move r rfl) rfl fun fr r => ?_
      refine seq_val _ r (fun R => y_bin r rfl rfl rfl rfl) rfl fun fr r => ?_
      refine seq_val (.bool (decide (x37 < 0))) r (fun R => y_move r rfl) rfl fun fr r => ?_
      refine seq_split (decide (x37 < 0)) (fun h39 => ?_) (fun h39 => ?_)
      ·
       have hD := (cond_t h39).symm.trans hD
       refine s0 r h39 fun fr r => ?_
       refine s0 r h39 fun fr r => ?_
       refine s0 r h39 fun fr r => ?_
       refine s0 r h39 fun fr r => ?_
       refine seq_val (.bool true) r (fun R => y_pick r (b := true) (congrArg Value.bool h39) rfl) rfl fun fr r => ?_
       refine seq_val (.bool true) r (fun R => y_move r rfl) rfl fun fr r => ?_
       refine s0 r (rfl : true = _) fun fr r => ?_
       refine s0 r (rfl : true = _) fun fr r => ?_
       refine s0 r (rfl : true = _) fun fr r => ?_
       refine seq_val (.bool true) r (fun R => y_pick r (b := true) (congrArg Value.bool (rfl : true = _)) rfl) rfl fun fr r => ?_
       refine wn ?_
       exact nxy38 true () _ _ _ hD r (hs_cons rfl (hs_cons rfl (hs_cons rfl (hs_cons rfl (hs_cons rfl (hs_cons rfl (hs_cons rfl (hs_cons rfl (hs_cons rfl (hs_cons rfl (hs_cons rfl (hs_cons rfl (hs_cons rfl (hs_cons rfl hs_nil)))))))))))))) (hP.pick [0, 1, 2, 3, 4, 5] rfl rfl)
      ·
       have hD := (cond_f h39).symm.trans hD
       refine s1 r h39 ?_
       refine seq_val (I x37) r (fun R => y_move r rfl) rfl fun fr r => ?_
       refine s1 r h39 ?_
       refine seq_val _ r (fun R => y_fieldAddr r (o := 0) rfl fo23_0) rfl fun fr r => ?_
       refine s1 r h39 ?_
       refine seq_val (I x26.nodes) r (fun R => y_load_one r rfl (hP.cell (i := 2) rfl) to3 rfl) rfl fun fr r => ?_
       refine s1 r h39 ?_
       refine seq_val _ r (fun R => y_bin r rfl rfl rfl rfl) rfl fun fr r => ?_
       refine seq_val (.bool (decide (x37 ≥ x26.nodes))) r (fun R => y_pick r (b := false) (congrArg Value.bool h39) rfl) rfl fun fr r => ?_
       refine seq_val (.bool (decide (x37 ≥ x26.nodes))) r (fun R => y_move r rfl) rfl fun fr r => ?_
       refine seq_split (decide (x37 ≥ x26.nodes)) (fun h40 => ?_) (fun h40 => ?_)
       ·
        have hD := (cond_t h40).symm.trans hD
        refine s0 r h40 fun fr r => ?_
        refine s0 r h40 fun fr r => ?_
        refine s0 r h40 fun fr r => ?_
        refine seq_val (.bool true) r (fun R => y_pick r (b := true) (congrArg Value.bool h40) rfl) rfl fun fr r => ?_
        refine wn ?_
        exact nxy38 true () _ _ _ hD r (hs_cons rfl (hs_cons rfl (hs_cons rfl (hs_cons rfl (hs_cons rfl (hs_cons rfl (hs_cons rfl (hs_cons rfl (hs_cons rfl (hs_cons rfl (hs_cons rfl (hs_cons rfl (hs_cons rfl (hs_cons rfl hs_nil)))))))))))))) (hP.pick [0, 1, 2, 3, 4, 5] rfl rfl)
       ·
        have hD := (cond_f h40).symm.trans hD
        refine s1 r h40 ?_
        refine seq_val γ33 r (fun R => y_move r rfl) rfl fun fr r => ?_
        refine s1 r h40 ?_
        refine seq_val (I x37) r (fun R => y_move r rfl) rfl fun fr r => ?_
        refine s1 r h40 ?_
        obtain ⟨x41, hx41, hD⟩ := bindD_elim hD
        refine seq_call r (c_cubicleref09_Has w35 x32.2.1 (hP.row (i := 5) rfl).ro x37 hx41) (fun R hc => y_call r rfl cl15 hc) rfl ?_
        rintro _ w42 ⟨rfl, hb⟩
        refine ⟨_, rfl, fun fr r => ?_⟩
        have hP : Post No [roK 3 1 i64 a1_v a1, roK 4 1 boolE a2_v a2, cellC b1 ((planC x26)).toArray 23, cellC b18 ((stateC (⟨3, 2, 1⟩ : State))).toArray 30, memK mg29 x32.2.2.2, rowK 3 1 i64 γ33 x32.2.1] w0 w42 := hP.below hb
        refine seq_val (.bool x41) r (fun R => y_pick r (b := false) (congrArg Value.bool h40) rfl) rfl fun fr r => ?_
        refine wn ?_
        exact nxy38 x41 () _ _ _ hD r (hs_cons rfl (hs_cons rfl (hs_cons rfl (hs_cons rfl (hs_cons rfl (hs_cons rfl (hs_cons rfl (hs_cons rfl (hs_cons rfl (hs_cons rfl (hs_cons rfl (hs_cons rfl (hs_cons rfl (hs_cons rfl hs_nil)))))))))))))) (hP.pick [0, 1, 2, 3, 4, 5] rfl rfl)
     ·
      rintro x43 γ44 fr w45 g r hP hD
      have hP : Post No [roK 3 1 i64 a1_v a1, roK 4 1 boolE a2_v a2, cellC b1 ((planC x26)).toArray 23, cellC b18 ((stateC (⟨3, 2, 1⟩ : State))).toArray 30, memK mg29 x32.2.2.2, rowK 3 1 i64 γ33 x32.2.1] w0 w45 := hP
      refine wp_cond_split (t := x43) (r.ev rfl) (fun h46 => ?_) (fun h46 => ?_)
      ·
       have hD := (cond_t h46).symm.trans hD
       refine wp_exit ?_
       refine wp_region_lit ?_
       refine seq_val (I x32.2.2.1) r (fun R => y_move r rfl) rfl fun fr r => ?_
       refine seq_val _ r (fun R => y_bin r rfl rfl rfl rfl) rfl fun fr r => ?_
       refine seq_val (I (W (x32.2.2.1 + 1))) r (fun R => y_assign r rfl) rfl fun fr r => ?_
       refine wn ?_
       exact nxy34 (x32.1, x32.2.1, (W (x32.2.2.1 + 1)), x32.2.2.2) γ33 _ _ _ hD r (hs_cons rfl (hs_cons rfl (hs_cons rfl (hs_cons rfl (hs_cons rfl (hs_cons rfl (hs_cons rfl (hs_cons rfl (hs_cons rfl (hs_cons rfl (hs_cons rfl hs_nil))))))))))) (hP.pick [0, 1, 2, 3, 4, 5] rfl rfl)
      ·
       have hD := (cond_f h46).symm.trans hD
       refine wp_skip ?_
       refine wsr ?_
       refine seq_val (.agg (planC x26).toArray) r (fun R => y_load_agg r (cs := (planC x26)) (n := 6) rfl (hP.cell (i := 2) rfl) ta23 rfl) rfl fun fr r => ?_
       refine seq_val _ r (fun R => y_fieldAddr r (o := 0) rfl fo23_1) rfl fun fr r => ?_
       refine seq_val (I x26.threads) r (fun R => y_load_one r rfl (hP.cell (i := 2) rfl) to3 rfl) rfl fun fr r => ?_
       refine seq_val _ r (fun R => y_bin r rfl rfl rfl rfl) rfl fun fr r => ?_
       refine seq_val (I x37) r (fun R => y_move r rfl) rfl fun fr r => ?_
       refine seq_call r (c_retire_Put (F := No) (n := fu) (fun _ h => h.elim) x26 (W (x26.threads - 1)) x37) (fun R hc => y_call r rfl cl17 hc) rfl ?_
       rintro _ w47 ⟨v48, rfl, hb, hr49⟩
       refine ⟨_, rfl, fun fr r => ?_⟩
       have hP : Post No [roK 3 1 i64 a1_v a1, roK 4 1 boolE a2_v a2, cellC b1 ((planC x26)).toArray 23, cellC b18 ((stateC (⟨3, 2, 1⟩ : State))).toArray 30, memK mg29 x32.2.2.2, rowK 3 1 i64 γ33 x32.2.1, progK Tryz.prog encInt (fu, (D.retire_Put x26 (W (x26.threads - 1)) x37)) v48 (rg w45.heap.size w47.heap.size)] w0 w47 := hP.addProg hb hr49
       refine seq_val (.pointer (some ⟨mg29.mb, 0, none⟩)) r (fun R => y_move r rfl) rfl fun fr r => ?_
       refine seq_val (.pointer (some ⟨mg29.mb, 0, none⟩)) r (fun R => y_move r rfl) rfl fun fr r => ?_
       obtain ⟨x51, hx51, hD⟩ := bindD_elim hD
       refine seq_call r (c_mem_Memory_Cap w47 x32.2.2.2 (hP.mem (i := 4) rfl) 0 hx51) (fun R hc => y_call r rfl cl18 hc) rfl ?_
       rintro _ w52 ⟨rfl, hb⟩
       refine ⟨_, rfl, fun fr r => ?_⟩
       have hP : Post No [roK 3 1 i64 a1_v a1, roK 4 1 boolE a2_v a2, cellC b1 ((planC x26)).toArray 23, cellC b18 ((stateC (⟨3, 2, 1⟩ : State))).toArray 30, memK mg29 x32.2.2.2, rowK 3 1 i64 γ33 x32.2.1, progK Tryz.prog encInt (fu, (D.retire_Put x26 (W (x26.threads - 1)) x37)) v48 (rg w45.heap.size w47.heap.size)] w0 w52 := hP.below hb
       obtain ⟨x53, hx53, hD⟩ := bindD_elim hD
       refine seq_call r (c_prog_Run_int w52 (fu, (D.retire_Put x26 (W (x26.threads - 1)) x37)) x32.2.2.2 x51 9 (hP.sep.pk [6, 4] rfl rfl) hx53) (fun R hc => y_call r rfl cl16 hc) rfl ?_
       rintro _ w54 ⟨rfl, hq⟩
       refine ⟨_, rfl, fun fr r => ?_⟩
       have hP : Post No [roK 3 1 i64 a1_v a1, roK 4 1 boolE a2_v a2, cellC b1 ((planC x26)).toArray 23, cellC b18 ((stateC (⟨3, 2, 1⟩ : State))).toArray 30, memK mg29 x53.2.2.2, rowK 3 1 i64 γ33 x32.2.1, progK Tryz.prog encInt (fu, (D.retire_Put x26 (W (x26.threads - 1)) x37)) v48 (rg w45.heap.size w47.heap.size)] w0 w54 := hP.setN (i := 4) rfl hq
       refine seq_val (.tuple #[(I x53.1), (I x53.2.1), (.bool x53.2.2.1)]) r (fun R => y_move r rfl) rfl fun fr r => ?_
       refine seq_val (I x53.1) r (fun R => y_extract r (vs := #[(I x53.1), (I x53.2.1), (.bool x53.2.2.1)]) rfl rfl) rfl fun fr r => ?_
       refine seq_val (I x53.2.1) r (fun R => y_extract r (vs := #[(I x53.1), (I x53.2.1), (.bool x53.2.2.1)]) rfl rfl) rfl fun fr r => ?_
       refine seq_val (.bool x53.2.2.1) r (fun R => y_extract r (vs := #[(I x53.1), (I x53.2.1), (.bool x53.2.2.1)]) rfl rfl) rfl fun fr r => ?_
       refine seq_val (I x53.1) r (fun R => y_assign r rfl) rfl fun fr r => ?_
       refine seq_val (I x53.2.1) r (fun R => y_assign r rfl) rfl fun fr r => ?_
       refine seq_val (.bool x53.2.2.1) r (fun R => y_assign r rfl) rfl fun fr r => ?_
       refine wn ?_
       refine wp_seq ?_
       refine wsr ?_
       refine seq_val γ33 r (fun R => y_move r rfl) rfl fun fr r => ?_
       refine seq_val (I (x32.2.1.length : Int)) r (fun R => y_rowLen r (hP.row (i := 5) rfl).ro is24 rfl) rfl fun fr r => ?_
       refine seq_val _ r (fun R => y_fieldAddr r (o := 0) rfl fo23_2) rfl fun fr r => ?_
       refine seq_val (I x26.retire) r (fun R => y_load_one r rfl (hP.cell (i := 2) rfl) to3 rfl) rfl fun fr r => ?_
       refine seq_val _ r (fun R => y_bin r rfl rfl rfl rfl) rfl fun fr r => ?_
       refine wn ?_
       refine wp_cond_split (t := (decide ((x32.2.1.length : Int) ≥ x26.retire))) (r.ev rfl) (fun h55 => ?_) (fun h55 => ?_)
       ·
        have hD := (cond_t h55).symm.trans hD
        refine wp_seq ?_
        refine wp_seq ?_
        have hP : Post No [roK 3 1 i64 a1_v a1, roK 4 1 boolE a2_v a2, cellC b1 ((planC x26)).toArray 23, cellC b18 ((stateC (⟨3, 2, 1⟩ : State))).toArray 30, memK mg29 x53.2.2.2, rowK 3 1 i64 γ33 x32.2.1] w0 w54 := hP.pick [0, 1, 2, 3, 4, 5] rfl rfl
        refine wp_joinG (N := 262) (Y := Bool) (G := Unit) (fun x γ => [(0, (.agg (planC a0).toArray)), (1, a1_v), (2, a2_v), (3, (.pointer (some ⟨b1, 0, none⟩))), (43, (.bool x12)), (7, (.pointer (some ⟨b18, 0, none⟩))), (8, (.pointer (some ⟨mg29.mb, 0, none⟩))), (51, (.bool false)), (6, (.bool x32.1)), (9, γ33), (10, (I x32.2.2.1)), (55, (.bool (decide (x32.2.2.1 < (a1.length : Int))))), (11, (I x37)), (74, (.bool x43)), (12, (I x53.1)), (14, (.bool x53.2.2.1)), (93, (.bool (decide ((x32.2.1.length : Int) ≥ x26.retire)))), (99, (.bool x))]) (fun x γ w => Post No [roK 3 1 i64 a1_v a1, roK 4 1 boolE a2_v a2, cellC b1 ((planC x26)).toArray 23, cellC b18 ((stateC (⟨3, 2, 1⟩ : State))).toArray 30, memK mg29 x53.2.2.2, rowK 3 1 i64 γ33 x32.2.1] w0 w) hD ?_ ?_
        ·
         rintro y56 RPy56 nxy56 hD
         refine wp_region_lit ?_
         refine seq_val (I x53.1) r (fun R => y_move r rfl) rfl fun fr r => ?_
         refine seq_val _ r (fun R => y_bin r rfl rfl rfl rfl) rfl fun fr r => ?_
         refine seq_val (.bool (x53.1 != (-1))) r (fun R => y_move r rfl) rfl fun fr r => ?_
         refine seq_split (x53.1 != (-1)) (fun h57 => ?_) (fun h57 => ?_)
         ·
          have hD := (cond_t h57).symm.trans hD
          refine s0 r h57 fun fr r => ?_
          refine s0 r h57 fun fr r => ?_
          refine seq_val (.bool true) r (fun R => y_pick r (b := true) (congrArg Value.bool h57) rfl) rfl fun fr r => ?_
          refine wn ?_
          exact nxy56 true () _ _ _ hD r (hs_cons rfl (hs_cons rfl (hs_cons rfl (hs_cons rfl (hs_cons rfl (hs_cons rfl (hs_cons rfl (hs_cons rfl (hs_cons rfl (hs_cons rfl (hs_cons rfl (hs_cons rfl (hs_cons rfl (hs_cons rfl (hs_cons rfl (hs_cons rfl (hs_cons rfl (hs_cons rfl hs_nil)))))))))))))))))) (hP.pick [0, 1, 2, 3, 4, 5] rfl rfl)
         ·
          have hD := (cond_f h57).symm.trans hD
          refine s1 r h57 ?_
          refine seq_val (.bool x53.2.2.1) r (fun R => y_move r rfl) rfl fun fr r => ?_
          refine s1 r h57 ?_
          refine seq_val (.bool (!x53.2.2.1)) r (fun R => y_un r (u := (.bool x53.2.2.1)) rfl rfl) rfl fun fr r => ?_
          refine seq_val (.bool (!x53.2.2.1)) r (fun R => y_pick r (b := false) (congrArg Value.bool h57) rfl) rfl fun fr r => ?_
          refine wn ?_
          exact nxy56 (!x53.2.2.1) () _ _ _ hD r (hs_cons rfl (hs_cons rfl (hs_cons rfl (hs_cons rfl (hs_cons rfl (hs_cons rfl (hs_cons rfl (hs_cons rfl (hs_cons rfl (hs_cons rfl (hs_cons rfl (hs_cons rfl (hs_cons rfl (hs_cons rfl (hs_cons rfl (hs_cons rfl (hs_cons rfl (hs_cons rfl hs_nil)))))))))))))))))) (hP.pick [0, 1, 2, 3, 4, 5] rfl rfl)
        ·
         rintro x58 γ59 fr w60 g r hP hD
         have hP : Post No [roK 3 1 i64 a1_v a1, roK 4 1 boolE a2_v a2, cellC b1 ((planC x26)).toArray 23, cellC b18 ((stateC (⟨3, 2, 1⟩ : State))).toArray 30, memK mg29 x53.2.2.2, rowK 3 1 i64 γ33 x32.2.1] w0 w60 := hP
         refine wp_cond_split (t := x58) (r.ev rfl) (fun h61 => ?_) (fun h61 => ?_)
         ·
          have hD := (cond_t h61).symm.trans hD
          refine wsr ?_
          refine seq_val (.bool false) r (fun R => y_assign r rfl) rfl fun fr r => ?_
          refine wn ?_
          refine wp_ret ?_
          refine rty34 false _ _ hD fun hD => ?_
          have hv : false = res := Option.some.inj hD
          try dsimp only [Exit.then, Exit.inBlock]
          refine ret_tmp (fn := Tryz.f5) r (t := 6) rfl (v := (.bool false)) rfl ?_
          subst hv
          exact ⟨rfl, hP.chg.below⟩
         ·
          have hD := (cond_f h61).symm.trans hD
          refine wp_skip ?_
          refine wp_exit ?_
          refine wp_region_lit ?_
          refine seq_val (I x32.2.2.1) r (fun R => y_move r rfl) rfl fun fr r => ?_
          refine seq_val _ r (fun R => y_bin r rfl rfl rfl rfl) rfl fun fr r => ?_
          refine seq_val (I (W (x32.2.2.1 + 1))) r (fun R => y_assign r rfl) rfl fun fr r => ?_
          refine wn ?_
          exact nxy34 (x32.1, x32.2.1, (W (x32.2.2.1 + 1)), x53.2.2.2) γ33 _ _ _ hD r (hs_cons rfl (hs_cons rfl (hs_cons rfl (hs_cons rfl (hs_cons rfl (hs_cons rfl (hs_cons rfl (hs_cons rfl (hs_cons rfl (hs_cons rfl (hs_cons rfl hs_nil))))))))))) (hP.pick [0, 1, 2, 3, 4, 5] rfl rfl)
       ·
        have hD := (cond_f h55).symm.trans hD
        refine wp_skip ?_
        refine wsr ?_
        refine seq_val γ33 r (fun R => y_move r rfl) rfl fun fr r => ?_
        refine seq_val (I x37) r (fun R => y_move r rfl) rfl fun fr r => ?_
        refine seq_newS (.cells (([x37]).flatMap i64).toArray 3 (0, 0)) 1 r (fun R => y_bslice r (by kernel_rfl)) rfl fun fr b62 w63 n64 r => ?_
        have hP : Post No [roK 3 1 i64 a1_v a1, roK 4 1 boolE a2_v a2, cellC b1 ((planC x26)).toArray 23, cellC b18 ((stateC (⟨3, 2, 1⟩ : State))).toArray 30, memK mg29 x53.2.2.2, rowK 3 1 i64 γ33 x32.2.1, progK Tryz.prog encInt (fu, (D.retire_Put x26 (W (x26.threads - 1)) x37)) v48 (rg w45.heap.size w47.heap.size), rowK 3 1 i64 (.slice (some ⟨b62, 0, none⟩) 1 1) ([x37])] w0 w63 := hP.newRow n64 (fun _ => rfl) rfl
        obtain ⟨x66, hx66, hD⟩ := bindD_elim hD
        refine seq_app 3 1 i64 γ33 r (fun R => y_append r rt24 (fun _ => rfl) (fun _ => rfl) (hP.row (i := 5) rfl) (hP.row (i := 7) rfl).ro hx66 rfl rfl) rfl fun fr v67 w68 ha69 r => ?_
        have hP : Post No [roK 3 1 i64 a1_v a1, roK 4 1 boolE a2_v a2, cellC b1 ((planC x26)).toArray 23, cellC b18 ((stateC (⟨3, 2, 1⟩ : State))).toArray 30, memK mg29 x53.2.2.2, rowK 3 1 i64 v67 x66, progK Tryz.prog encInt (fu, (D.retire_Put x26 (W (x26.threads - 1)) x37)) v48 (rg w45.heap.size w47.heap.size), rowK 3 1 i64 (.slice (some ⟨b62, 0, none⟩) 1 1) ([x37])] w0 w68 := hP.append (i := 5) rfl ha69
        refine seq_val v67 r (fun R => y_assign r rfl) rfl fun fr r => ?_
        refine wn ?_
        refine wp_seq ?_
        have hP : Post No [roK 3 1 i64 a1_v a1, roK 4 1 boolE a2_v a2, cellC b1 ((planC x26)).toArray 23, cellC b18 ((stateC (⟨3, 2, 1⟩ : State))).toArray 30, memK mg29 x53.2.2.2, rowK 3 1 i64 v67 x66] w0 w68 := hP.pick [0, 1, 2, 3, 4, 5] rfl rfl
        refine wp_joinG (N := 262) (Y := Bool) (G := Unit) (fun x γ => [(0, (.agg (planC a0).toArray)), (1, a1_v), (2, a2_v), (3, (.pointer (some ⟨b1, 0, none⟩))), (43, (.bool x12)), (7, (.pointer (some ⟨b18, 0, none⟩))), (8, (.pointer (some ⟨mg29.mb, 0, none⟩))), (51, (.bool false)), (6, (.bool x32.1)), (9, v67), (10, (I x32.2.2.1)), (55, (.bool (decide (x32.2.2.1 < (a1.length : Int))))), (11, (I x37)), (74, (.bool x43)), (12, (I x53.1)), (14, (.bool x53.2.2.1)), (93, (.bool (decide ((x32.2.1.length : Int) ≥ x26.retire)))), (111, (.bool x))]) (fun x γ w => Post No [roK 3 1 i64 a1_v a1, roK 4 1 boolE a2_v a2, cellC b1 ((planC x26)).toArray 23, cellC b18 ((stateC (⟨3, 2, 1⟩ : State))).toArray 30, memK mg29 x53.2.2.2, rowK 3 1 i64 v67 x66] w0 w) hD ?_ ?_
        ·
         rintro y70 RPy70 nxy70 hD
         refine wp_region_lit ?_
         refine seq_val (I x53.1) r (fun R => y_move r rfl) rfl fun fr r => ?_
         refine seq_val v67 r (fun R => y_move r rfl) rfl fun fr r => ?_
         refine seq_val (I (x66.length : Int)) r (fun R => y_rowLen r (hP.row (i := 5) rfl).ro is24 rfl) rfl fun fr r => ?_
         refine seq_val _ r (fun R => y_bin r rfl rfl rfl rfl) rfl fun fr r => ?_
         refine seq_val (.bool (x53.1 != (x66.length : Int))) r (fun R => y_move r rfl) rfl fun fr r => ?_
         refine seq_split (x53.1 != (x66.length : Int)) (fun h71 => ?_) (fun h71 => ?_)
         ·
          have hD := (cond_t h71).symm.trans hD
          refine s0 r h71 fun fr r => ?_
          refine s0 r h71 fun fr r => ?_
          refine seq_val (.bool true) r (fun R => y_pick r (b := true) (congrArg Value.bool h71) rfl) rfl fun fr r => ?_
          refine wn ?_
          exact nxy70 true () _ _ _ hD r (hs_cons rfl (hs_cons rfl (hs_cons rfl (hs_cons rfl (hs_cons rfl (hs_cons rfl (hs_cons rfl (hs_cons rfl (hs_cons rfl (hs_cons rfl (hs_cons rfl (hs_cons rfl (hs_cons rfl (hs_cons rfl (hs_cons rfl (hs_cons rfl (hs_cons rfl (hs_cons rfl hs_nil)))))))))))))))))) (hP.pick [0, 1, 2, 3, 4, 5] rfl rfl)
         ·
          have hD := (cond_f h71).symm.trans hD
          refine s1 r h71 ?_
          refine seq_val (.bool x53.2.2.1) r (fun R => y_move r rfl) rfl fun fr r => ?_
          refine s1 r h71 ?_
          refine seq_val (.bool (!x53.2.2.1)) r (fun R => y_un r (u := (.bool x53.2.2.1)) rfl rfl) rfl fun fr r => ?_
          refine seq_val (.bool (!x53.2.2.1)) r (fun R => y_pick r (b := false) (congrArg Value.bool h71) rfl) rfl fun fr r => ?_
          refine wn ?_
          exact nxy70 (!x53.2.2.1) () _ _ _ hD r (hs_cons rfl (hs_cons rfl (hs_cons rfl (hs_cons rfl (hs_cons rfl (hs_cons rfl (hs_cons rfl (hs_cons rfl (hs_cons rfl (hs_cons rfl (hs_cons rfl (hs_cons rfl (hs_cons rfl (hs_cons rfl (hs_cons rfl (hs_cons rfl (hs_cons rfl (hs_cons rfl hs_nil)))))))))))))))))) (hP.pick [0, 1, 2, 3, 4, 5] rfl rfl)
        ·
         rintro x72 γ73 fr w74 g r hP hD
         have hP : Post No [roK 3 1 i64 a1_v a1, roK 4 1 boolE a2_v a2, cellC b1 ((planC x26)).toArray 23, cellC b18 ((stateC (⟨3, 2, 1⟩ : State))).toArray 30, memK mg29 x53.2.2.2, rowK 3 1 i64 v67 x66] w0 w74 := hP
         refine wp_cond_split (t := x72) (r.ev rfl) (fun h75 => ?_) (fun h75 => ?_)
         ·
          have hD := (cond_t h75).symm.trans hD
          refine wsr ?_
          refine seq_val (.bool false) r (fun R => y_assign r rfl) rfl fun fr r => ?_
          refine wn ?_
          refine wp_ret ?_
          refine rty34 false _ _ hD fun hD => ?_
          have hv : false = res := Option.some.inj hD
          try dsimp only [Exit.then, Exit.inBlock]
          refine ret_tmp (fn := Tryz.f5) r (t := 6) rfl (v := (.bool false)) rfl ?_
          subst hv
          exact ⟨rfl, hP.chg.below⟩
         ·
          have hD := (cond_f h75).symm.trans hD
          refine wp_skip ?_
          refine wp_region_lit ?_
          refine seq_val (I x32.2.2.1) r (fun R => y_move r rfl) rfl fun fr r => ?_
          refine seq_val _ r (fun R => y_bin r rfl rfl rfl rfl) rfl fun fr r => ?_
          refine seq_val (I (W (x32.2.2.1 + 1))) r (fun R => y_assign r rfl) rfl fun fr r => ?_
          refine wn ?_
          exact nxy34 (x32.1, x66, (W (x32.2.2.1 + 1)), x53.2.2.2) v67 _ _ _ hD r (hs_cons rfl (hs_cons rfl (hs_cons rfl (hs_cons rfl (hs_cons rfl (hs_cons rfl (hs_cons rfl (hs_cons rfl (hs_cons rfl (hs_cons rfl (hs_cons rfl hs_nil))))))))))) (hP.pick [0, 1, 2, 3, 4, 5] rfl rfl)
    ·
     have hD := (cond_f h36).symm.trans hD
     refine wp_exit ?_
     exact bky34 (x32.1, x32.2.1, x32.2.2.1, x32.2.2.2) γ33 _ _ _ hD r (hs_cons rfl (hs_cons rfl (hs_cons rfl (hs_cons rfl (hs_cons rfl (hs_cons rfl (hs_cons rfl (hs_cons rfl (hs_cons rfl (hs_cons rfl (hs_cons rfl hs_nil))))))))))) (hP.pick [0, 1, 2, 3, 4, 5] rfl rfl)
   ·
    rintro x76 γ77 fr w78 g r hP hD
    have hP : Post No [roK 3 1 i64 a1_v a1, roK 4 1 boolE a2_v a2, cellC b1 ((planC x26)).toArray 23, cellC b18 ((stateC (⟨3, 2, 1⟩ : State))).toArray 30, memK mg29 x76.2.2.2, rowK 3 1 i64 γ77 x76.2.1] w0 w78 := hP
    refine wsr ?_
    refine seq_val (I 0) r (fun R => y_assign r rfl) rfl fun fr r => ?_
    refine wn ?_
    refine wp_seq ?_
    refine wsr ?_
    refine seq_val (I 0) r (fun R => y_assign r rfl) rfl fun fr r => ?_
    refine wn ?_
    refine wp_loopG (X := List Bool × Int × Int × Mem) (G := Value) (x0 := (a2, 0, 0, x76.2.2.2)) (fun x γ => [(0, (.agg (planC a0).toArray)), (1, a1_v), (3, (.pointer (some ⟨b1, 0, none⟩))), (43, (.bool x12)), (7, (.pointer (some ⟨b18, 0, none⟩))), (8, (.pointer (some ⟨mg29.mb, 0, none⟩))), (51, (.bool false)), (6, (.bool x76.1)), (9, γ77), (10, (I x76.2.2.1)), (2, γ), (15, (I x.2.1)), (16, (I x.2.2.1))]) (fun x γ w => Post No [roK 3 1 i64 a1_v a1, roK 4 1 boolE γ x.1, cellC b1 ((planC x26)).toArray 23, cellC b18 ((stateC (⟨3, 2, 1⟩ : State))).toArray 30, memK mg29 x.2.2.2, rowK 3 1 i64 γ77 x76.2.1] w0 w) a2_v r (hs_cons rfl (hs_cons rfl (hs_cons rfl (hs_cons rfl (hs_cons rfl (hs_cons rfl (hs_cons rfl (hs_cons rfl (hs_cons rfl (hs_cons rfl (hs_cons rfl (hs_cons rfl (hs_cons rfl hs_nil))))))))))))) hP hD ?_ ?_
    ·
     rintro x79 γ80 fr w82 g y81 RPy81 nxy81 bky81 rty81 r hP hD
     have hP : Post No [roK 3 1 i64 a1_v a1, roK 4 1 boolE γ80 x79.1, cellC b1 ((planC x26)).toArray 23, cellC b18 ((stateC (⟨3, 2, 1⟩ : State))).toArray 30, memK mg29 x79.2.2.2, rowK 3 1 i64 γ77 x76.2.1] w0 w82 := hP
     refine wp_seq ?_
     refine wsr ?_
     refine seq_val (I x79.2.2.1) r (fun R => y_move r rfl) rfl fun fr r => ?_
     refine seq_val γ80 r (fun R => y_move r rfl) rfl fun fr r => ?_
     refine seq_val (I (x79.1.length : Int)) r (fun R => y_rowLen r (hP.ro (i := 1) rfl) is56 rfl) rfl fun fr r => ?_
     refine seq_val _ r (fun R => y_bin r rfl rfl rfl rfl) rfl fun fr r => ?_
     refine wn ?_
     refine wp_cond_split (t := (decide (x79.2.2.1 < (x79.1.length : Int)))) (r.ev rfl) (fun h83 => ?_) (fun h83 => ?_)
     ·
      have hD := (cond_t h83).symm.trans hD
      refine wp_skip ?_
      refine wp_seq ?_
      refine wp_block ?_
      refine wp_seq ?_
      refine wp_joinG (N := 262) (Y := Bool) (G := Unit) (fun x γ => [(0, (.agg (planC a0).toArray)), (1, a1_v), (3, (.pointer (some ⟨b1, 0, none⟩))), (43, (.bool x12)), (7, (.pointer (some ⟨b18, 0, none⟩))), (8, (.pointer (some ⟨mg29.mb, 0, none⟩))), (51, (.bool false)), (6, (.bool x76.1)), (9, γ77), (10, (I x76.2.2.1)), (2, γ80), (15, (I x79.2.1)), (16, (I x79.2.2.1)), (115, (.bool (decide (x79.2.2.1 < (x79.1.length : Int))))), (128, (.bool x))]) (fun x γ w => Post No [roK 3 1 i64 a1_v a1, roK 4 1 boolE γ80 x79.1, cellC b1 ((planC x26)).toArray 23, cellC b18 ((stateC (⟨3, 2, 1⟩ : State))).toArray 30, memK mg29 x79.2.2.2, rowK 3 1 i64 γ77 x76.2.1] w0 w) hD ?_ ?_
      ·
       rintro y84 RPy84 nxy84 hD
       refine wp_region_lit ?_
       refine seq_val γ80 r (fun R => y_move r rfl) rfl fun fr r => ?_
       refine seq_val (I x79.2.2.1) r (fun R => y_move r rfl) rfl fun fr r => ?_
       obtain ⟨x85, hx85, hD⟩ := bindD_elim hD
       refine seq_val (.pointer (some ⟨rowB γ80, rowO γ80 + x79.2.2.1.toNat * 1, none⟩)) r (fun R => y_rowAddr r (hP.ro (i := 1) rfl) hx85 sl56 rfl rfl) rfl fun fr r => ?_
       refine seq_val (.bool x85) r (fun R => y_loadL_one r (u := (.bool x85)) (RoAt.at_ (f := boolE) (x := x85) (hP.ro (i := 1) rfl) (fun _ => rfl) hx85) rfl to4) rfl fun fr r => ?_
       refine seq_val (.bool x85) r (fun R => y_move r rfl) rfl fun fr r => ?_
       refine seq_split x85 (fun h86 => ?_) (fun h86 => ?_)
       ·
        have hD := (cond_t h86).symm.trans hD
        refine s1 r h86 ?_
        refine seq_val (I x79.2.1) r (fun R => y_move r rfl) rfl fun fr r => ?_
        refine s1 r h86 ?_
        refine seq_val _ r (fun R => y_fieldAddr r (o := 0) rfl fo23_1) rfl fun fr r => ?_
        refine s1 r h86 ?_
        refine seq_val (I x26.threads) r (fun R => y_load_one r rfl (hP.cell (i := 2) rfl) to3 rfl) rfl fun fr r => ?_
        refine s1 r h86 ?_
        refine seq_val _ r (fun R => y_bin r rfl rfl rfl rfl) rfl fun fr r => ?_
        refine s1 r h86 ?_
        refine seq_val _ r (fun R => y_bin r rfl rfl rfl rfl) rfl fun fr r => ?_
        refine seq_val (.bool (decide (x79.2.1 < (W (3 * x26.threads))))) r (fun R => y_pick r (b := true) (congrArg Value.bool h86) rfl) rfl fun fr r => ?_
        refine wn ?_
        exact nxy84 (decide (x79.2.1 < (W (3 * x26.threads)))) () _ _ _ hD r (hs_cons rfl (hs_cons rfl (hs_cons rfl (hs_cons rfl (hs_cons rfl (hs_cons rfl (hs_cons rfl (hs_cons rfl (hs_cons rfl (hs_cons rfl (hs_cons rfl (hs_cons rfl (hs_cons rfl (hs_cons rfl (hs_cons rfl hs_nil))))))))))))))) (hP.pick [0, 1, 2, 3, 4, 5] rfl rfl)
       ·
        have hD := (cond_f h86).symm.trans hD
        refine s0 r h86 fun fr r => ?_
        refine s0 r h86 fun fr r => ?_
        refine s0 r h86 fun fr r => ?_
        refine s0 r h86 fun fr r => ?_
        refine s0 r h86 fun fr r => ?_
        refine seq_val (.bool false) r (fun R => y_pick r (b := false) (congrArg Value.bool h86) rfl) rfl fun fr r => ?_
        refine wn ?_
        exact nxy84 false () _ _ _ hD r (hs_cons rfl (hs_cons rfl (hs_cons rfl (hs_cons rfl (hs_cons rfl (hs_cons rfl (hs_cons rfl (hs_cons rfl (hs_cons rfl (hs_cons rfl (hs_cons rfl (hs_cons rfl (hs_cons rfl (hs_cons rfl (hs_cons rfl hs_nil))))))))))))))) (hP.pick [0, 1, 2, 3, 4, 5] rfl rfl)
      ·
       rintro x87 γ88 fr w89 g r hP hD
       have hP : Post No [roK 3 1 i64 a1_v a1, roK 4 1 boolE γ80 x79.1, cellC b1 ((planC x26)).toArray 23, cellC b18 ((stateC (⟨3, 2, 1⟩ : State))).toArray 30, memK mg29 x79.2.2.2, rowK 3 1 i64 γ77 x76.2.1] w0 w89 := hP
       refine wp_joinG (N := 262) (Y := Mem × List Bool × Int) (G := Value) (fun x γ => [(0, (.agg (planC a0).toArray)), (1, a1_v), (3, (.pointer (some ⟨b1, 0, none⟩))), (43, (.bool x12)), (7, (.pointer (some ⟨b18, 0, none⟩))), (8, (.pointer (some ⟨mg29.mb, 0, none⟩))), (51, (.bool false)), (6, (.bool x76.1)), (9, γ77), (10, (I x76.2.2.1)), (16, (I x79.2.2.1)), (115, (.bool (decide (x79.2.2.1 < (x79.1.length : Int))))), (128, (.bool x87)), (2, γ), (15, (I x.2.2))]) (fun x γ w => Post No [roK 3 1 i64 a1_v a1, roK 4 1 boolE γ x.2.1, cellC b1 ((planC x26)).toArray 23, cellC b18 ((stateC (⟨3, 2, 1⟩ : State))).toArray 30, memK mg29 x.1, rowK 3 1 i64 γ77 x76.2.1] w0 w) hD ?_ ?_
       ·
        rintro y90 RPy90 nxy90 hD
        refine wp_cond_split (t := x87) (r.ev rfl) (fun h91 => ?_) (fun h91 => ?_)
        ·
         have hD := (cond_t h91).symm.trans hD
         refine wsr ?_
         refine seq_val (.agg (planC x26).toArray) r (fun R => y_load_agg r (cs := (planC x26)) (n := 6) rfl (hP.cell (i := 2) rfl) ta23 rfl) rfl fun fr r => ?_
         refine seq_val (I x79.2.1) r (fun R => y_move r rfl) rfl fun fr r => ?_
         refine seq_val _ r (fun R => y_bin r rfl rfl rfl rfl) rfl fun fr r => ?_
         refine seq_val (I x79.2.1) r (fun R => y_move r rfl) rfl fun fr r => ?_
         refine seq_val _ r (fun R => y_bin r rfl rfl rfl rfl) rfl fun fr r => ?_
         refine seq_val (I x79.2.2.1) r (fun R => y_move r rfl) rfl fun fr r => ?_
         refine seq_call r (c_hazard_Set (F := No) (n := fu) (fun _ h => h.elim) x26 (W (x79.2.1.tdiv 3)) (x79.2.1.tmod 3) x79.2.2.1) (fun R hc => y_call r rfl cl23 hc) rfl ?_
         rintro _ w92 ⟨v93, rfl, hb, hr94⟩
         refine ⟨_, rfl, fun fr r => ?_⟩
         have hP : Post No [roK 3 1 i64 a1_v a1, roK 4 1 boolE γ80 x79.1, cellC b1 ((planC x26)).toArray 23, cellC b18 ((stateC (⟨3, 2, 1⟩ : State))).toArray 30, memK mg29 x79.2.2.2, rowK 3 1 i64 γ77 x76.2.1, progK Tryz.prog encNone (fu, (D.hazard_Set x26 (W (x79.2.1.tdiv 3)) (x79.2.1.tmod 3) x79.2.2.1)) v93 (rg w89.heap.size w92.heap.size)] w0 w92 := hP.addProg hb hr94
         refine seq_val (.pointer (some ⟨mg29.mb, 0, none⟩)) r (fun R => y_move r rfl) rfl fun fr r => ?_
         refine seq_val (.pointer (some ⟨mg29.mb, 0, none⟩)) r (fun R => y_move r rfl) rfl fun fr r => ?_
         obtain ⟨x96, hx96, hD⟩ := bindD_elim hD
         refine seq_call r (c_mem_Memory_Cap w92 x79.2.2.2 (hP.mem (i := 4) rfl) 0 hx96) (fun R hc => y_call r rfl cl18 hc) rfl ?_
         rintro _ w97 ⟨rfl, hb⟩
         refine ⟨_, rfl, fun fr r => ?_⟩
         have hP : Post No [roK 3 1 i64 a1_v a1, roK 4 1 boolE γ80 x79.1, cellC b1 ((planC x26)).toArray 23, cellC b18 ((stateC (⟨3, 2, 1⟩ : State))).toArray 30, memK mg29 x79.2.2.2, rowK 3 1 i64 γ77 x76.2.1, progK Tryz.prog encNone (fu, (D.hazard_Set x26 (W (x79.2.1.tdiv 3)) (x79.2.1.tmod 3) x79.2.2.1)) v93 (rg w89.heap.size w92.heap.size)] w0 w97 := hP.below hb
         obtain ⟨x98, hx98, hD⟩ := bindD_elim hD
         refine seq_call r (c_prog_Run_None w97 (fu, (D.hazard_Set x26 (W (x79.2.1.tdiv 3)) (x79.2.1.tmod 3) x79.2.2.1)) x79.2.2.2 x96 9 (hP.sep.pk [6, 4] rfl rfl) hx98) (fun R hc => y_call r rfl cl22 hc) rfl ?_
         rintro _ w99 ⟨rfl, hq⟩
         refine ⟨_, rfl, fun fr r => ?_⟩
         have hP : Post No [roK 3 1 i64 a1_v a1, roK 4 1 boolE γ80 x79.1, cellC b1 ((planC x26)).toArray 23, cellC b18 ((stateC (⟨3, 2, 1⟩ : State))).toArray 30, memK mg29 x98.2.2.2, rowK 3 1 i64 γ77 x76.2.1, progK Tryz.prog encNone (fu, (D.hazard_Set x26 (W (x79.2.1.tdiv 3)) (x79.2.1.tmod 3) x79.2.2.1)) v93 (rg w89.heap.size w92.heap.size)] w0 w99 := hP.setN (i := 4) rfl hq
         refine wn ?_
         refine wp_region_lit ?_
         refine seq_val (I x79.2.1) r (fun R => y_move r rfl) rfl fun fr r => ?_
         refine seq_val _ r (fun R => y_bin r rfl rfl rfl rfl) rfl fun fr r => ?_
         refine seq_val (I (W (x79.2.1 + 1))) r (fun R => y_assign r rfl) rfl fun fr r => ?_
         refine wn ?_
         exact nxy90 (x98.2.2.2, x79.1, (W (x79.2.1 + 1))) γ80 _ _ _ hD r (hs_cons rfl (hs_cons rfl (hs_cons rfl (hs_cons rfl (hs_cons rfl (hs_cons rfl (hs_cons rfl (hs_cons rfl (hs_cons rfl (hs_cons rfl (hs_cons rfl (hs_cons rfl (hs_cons rfl (hs_cons rfl (hs_cons rfl hs_nil))))))))))))))) (hP.pick [0, 1, 2, 3, 4, 5] rfl rfl)
        ·
         have hD := (cond_f h91).symm.trans hD
         obtain ⟨x100, hx100, hD⟩ := bindD_elim hD
         obtain ⟨x101, hx101, hD⟩ := bindD_elim hD
         obtain ⟨x106, hx106, hD⟩ := bindD_elim hD
         refine wp_freeS 10 [.slice (.cells (([] : List Bool).flatMap boolE).toArray 4 (0, 0)) 0, .val γ80, .val (I x79.2.2.1), .val (sliceV 1 γ80 (0 : Int).toNat x79.2.2.1.toNat), .pred (MkP (fun v : Value => v) (fun v : Value => [rowK 4 1 boolE v x101])) (MkP.st _ _), .pred (MkP (fun v : Value => v) (fun v : Value => [rowK 4 1 boolE v ([false])])) (MkP.st _ _), .val γ80, .val (I x79.2.2.1), .val (I (W (x79.2.2.1 + 1))), .val (sliceV 1 γ80 (W (x79.2.2.1 + 1)).toNat (x79.1.length : Int).toNat)] mixed r (by kernel_rfl) ?_ ?_
         ·
          refine fc r (fun fr1 g w' hb' hd r' => y_bslice r' (c := (([] : List Bool).flatMap boolE).toArray) (E := 4) (by kernel_rfl) (fun b w2 n2 => ⟨n2.below, b, rfl, n2.eq, n2.at_⟩)) ?_
          refine fc r (fun fr1 g w' hb' hd r' => y_move r' rfl bz) ?_
          refine fc r (fun fr1 g w' hb' hd r' => y_move r' rfl bz) ?_
          refine fc r (fun fr1 g w' hb' hd r' => y_cut r' ((hP.below (dr hb')).ro (i := 1) rfl) sl56 (hd 1 rfl).1 rfl (congrArg some (hd 2 rfl).1) rfl rfl rfl rfl hx100 bz) ?_
          refine fc r (fun fr1 g w' hb' hd r' => y_appendE r' rt56 (fun _ => rfl) (fun _ => rfl) (RoAt.slice ((hP.below (dr hb')).ro (i := 1) rfl) (fun _ => rfl) hx100) hx101 (hd 0 rfl).1.1 (hd 3 rfl).1 (fun v2 w2 h1 h2 => ⟨h1, h2⟩)) ?_
          refine fc r (fun fr1 g w' hb' hd r' => y_bslice r' (c := (([false]).flatMap boolE).toArray) (E := 4) (bs1 (rfl) (by kernel_rfl)) (fun b w2 n2 => ⟨n2.below, MkP.newRow n2 (fun _ => rfl) rfl⟩)) ?_
          refine fc r (fun fr1 g w' hb' hd r' => y_move r' rfl bz) ?_
          refine fc r (fun fr1 g w' hb' hd r' => y_move r' rfl bz) ?_
          refine fc r (fun fr1 g w' hb' hd r' => y_bin r' (hd 7 rfl).1 rfl rfl rfl bz) ?_
          refine fc r (fun fr1 g w' hb' hd r' => y_cut r' ((hP.below (dr hb')).ro (i := 1) rfl) sl56 (hd 6 rfl).1 (congrArg some (hd 8 rfl).1) rfl rfl rfl rfl rfl hx106 bz) ?_
          exact eachF_nil
         ·
          intro fr gg w107 hb hΦ hap r
          obtain ⟨v102, g4, hs4⟩ := (hΦ 4 rfl).1
          obtain ⟨v104, g5, hs5⟩ := (hΦ 5 rfl).1
          have r := r.congr (sc ((hΦ 9 rfl).1) (sc ((hΦ 8 rfl).1) (sc ((hΦ 7 rfl).1) (sc ((hΦ 6 rfl).1) (sc g5 (sc g4 (sc ((hΦ 3 rfl).1) (sc ((hΦ 2 rfl).1) (sc ((hΦ 1 rfl).1) (sc rfl rfl))))))))))
          have hP : Post No [roK 3 1 i64 a1_v a1, roK 4 1 boolE γ80 x79.1, cellC b1 ((planC x26)).toArray 23, cellC b18 ((stateC (⟨3, 2, 1⟩ : State))).toArray 30, memK mg29 x79.2.2.2, rowK 3 1 i64 γ77 x76.2.1, rowK 4 1 boolE v102 x101, rowK 4 1 boolE v104 ([false])] w0 w107 := hP.addL (l := [([rowK 4 1 boolE v102 x101], (gg 4).lo, (gg 4).hi), ([rowK 4 1 boolE v104 ([false])], (gg 5).lo, (gg 5).hi)]) hb ⟨hs4, (hΦ 4 rfl).2.1, (disj_cons (hap 4 5 rfl) disj_nil), ⟨hs5, (hΦ 5 rfl).2.1, disj_nil, trivial⟩⟩
          obtain ⟨x108, hx108, hD⟩ := bindD_elim hD
          refine seq_app 4 1 boolE v104 r (fun R => y_append r rt56 (fun _ => rfl) (fun _ => rfl) (hP.row (i := 7) rfl) (RoAt.slice (hP.ro (i := 1) rfl) (fun _ => rfl) hx106) hx108 rfl rfl) rfl fun fr v109 w110 ha111 r => ?_
          have hP : Post No [roK 3 1 i64 a1_v a1, roK 4 1 boolE γ80 x79.1, cellC b1 ((planC x26)).toArray 23, cellC b18 ((stateC (⟨3, 2, 1⟩ : State))).toArray 30, memK mg29 x79.2.2.2, rowK 3 1 i64 γ77 x76.2.1, rowK 4 1 boolE v102 x101, rowK 4 1 boolE v109 x108] w0 w110 := hP.append (i := 7) rfl ha111
          obtain ⟨x112, hx112, hD⟩ := bindD_elim hD
          refine seq_app 4 1 boolE v102 r (fun R => y_append r rt56 (fun _ => rfl) (fun _ => rfl) (hP.row (i := 6) rfl) (hP.row (i := 7) rfl).ro hx112 rfl rfl) rfl fun fr v113 w114 ha115 r => ?_
          have hP : Post No [roK 3 1 i64 a1_v a1, roK 4 1 boolE γ80 x79.1, cellC b1 ((planC x26)).toArray 23, cellC b18 ((stateC (⟨3, 2, 1⟩ : State))).toArray 30, memK mg29 x79.2.2.2, rowK 3 1 i64 γ77 x76.2.1, rowK 4 1 boolE v113 x112, rowK 4 1 boolE v109 x108] w0 w114 := hP.append (i := 6) rfl ha115
          refine seq_val v113 r (fun R => y_assign r rfl) rfl fun fr r => ?_
          refine wn ?_
          have hP : Post No [roK 3 1 i64 a1_v a1, roK 4 1 boolE γ80 x79.1, cellC b1 ((planC x26)).toArray 23, cellC b18 ((stateC (⟨3, 2, 1⟩ : State))).toArray 30, memK mg29 x79.2.2.2, rowK 3 1 i64 γ77 x76.2.1, roK 4 1 boolE v113 x112, rowK 4 1 boolE v109 x108] w0 w114 := hP.toRo (i := 6) rfl
          exact nxy90 (x79.2.2.2, x112, x79.2.1) v113 _ _ _ hD r (hs_cons rfl (hs_cons rfl (hs_cons rfl (hs_cons rfl (hs_cons rfl (hs_cons rfl (hs_cons rfl (hs_cons rfl (hs_cons rfl (hs_cons rfl (hs_cons rfl (hs_cons rfl (hs_cons rfl (hs_cons rfl (hs_cons rfl hs_nil))))))))))))))) (hP.pick [0, 6, 2, 3, 4, 5] rfl rfl)
       ·
        rintro x116 γ117 fr w118 g r hP hD
        have hP : Post No [roK 3 1 i64 a1_v a1, roK 4 1 boolE γ117 x116.2.1, cellC b1 ((planC x26)).toArray 23, cellC b18 ((stateC (⟨3, 2, 1⟩ : State))).toArray 30, memK mg29 x116.1, rowK 3 1 i64 γ77 x76.2.1] w0 w118 := hP
        refine wp_region_lit ?_
        refine seq_val (I x79.2.2.1) r (fun R => y_move r rfl) rfl fun fr r => ?_
        refine seq_val _ r (fun R => y_bin r rfl rfl rfl rfl) rfl fun fr r => ?_
        refine seq_val (I (W (x79.2.2.1 + 1))) r (fun R => y_assign r rfl) rfl fun fr r => ?_
        refine wn ?_
        exact nxy81 (x116.2.1, x116.2.2, (W (x79.2.2.1 + 1)), x116.1) γ117 _ _ _ hD r (hs_cons rfl (hs_cons rfl (hs_cons rfl (hs_cons rfl (hs_cons rfl (hs_cons rfl (hs_cons rfl (hs_cons rfl (hs_cons rfl (hs_cons rfl (hs_cons rfl (hs_cons rfl (hs_cons rfl hs_nil))))))))))))) (hP.pick [0, 1, 2, 3, 4, 5] rfl rfl)
     ·
      have hD := (cond_f h83).symm.trans hD
      refine wp_exit ?_
      exact bky81 (x79.1, x79.2.1, x79.2.2.1, x79.2.2.2) γ80 _ _ _ hD r (hs_cons rfl (hs_cons rfl (hs_cons rfl (hs_cons rfl (hs_cons rfl (hs_cons rfl (hs_cons rfl (hs_cons rfl (hs_cons rfl (hs_cons rfl (hs_cons rfl (hs_cons rfl (hs_cons rfl hs_nil))))))))))))) (hP.pick [0, 1, 2, 3, 4, 5] rfl rfl)
    ·
     rintro x119 γ120 fr w121 g r hP hD
     have hP : Post No [roK 3 1 i64 a1_v a1, roK 4 1 boolE γ120 x119.1, cellC b1 ((planC x26)).toArray 23, cellC b18 ((stateC (⟨3, 2, 1⟩ : State))).toArray 30, memK mg29 x119.2.2.2, rowK 3 1 i64 γ77 x76.2.1] w0 w121 := hP
     refine wsr ?_
     refine seq_val (.agg (planC x26).toArray) r (fun R => y_load_agg r (cs := (planC x26)) (n := 6) rfl (hP.cell (i := 2) rfl) ta23 rfl) rfl fun fr r => ?_
     refine seq_val _ r (fun R => y_fieldAddr r (o := 0) rfl fo23_1) rfl fun fr r => ?_
     refine seq_val (I x26.threads) r (fun R => y_load_one r rfl (hP.cell (i := 2) rfl) to3 rfl) rfl fun fr r => ?_
     refine seq_val _ r (fun R => y_bin r rfl rfl rfl rfl) rfl fun fr r => ?_
     refine seq_call r (c_retire_Scan (F := No) (n := fu) (j := fu + 1) (fun _ h => h.elim) (by omega) x26 (W (x26.threads - 1))) (fun R hc => y_call r rfl cl19 hc) rfl ?_
     rintro _ w122 ⟨v123, rfl, hb, hr124⟩
     refine ⟨_, rfl, fun fr r => ?_⟩
     have hP : Post No [roK 3 1 i64 a1_v a1, roK 4 1 boolE γ120 x119.1, cellC b1 ((planC x26)).toArray 23, cellC b18 ((stateC (⟨3, 2, 1⟩ : State))).toArray 30, memK mg29 x119.2.2.2, rowK 3 1 i64 γ77 x76.2.1, progK Tryz.prog encInt (fu, (D.retire_Scan (fu + 1) x26 (W (x26.threads - 1)))) v123 (rg w121.heap.size w122.heap.size)] w0 w122 := hP.addProg hb hr124
     refine seq_val (.pointer (some ⟨mg29.mb, 0, none⟩)) r (fun R => y_move r rfl) rfl fun fr r => ?_
     refine seq_val (.pointer (some ⟨mg29.mb, 0, none⟩)) r (fun R => y_move r rfl) rfl fun fr r => ?_
     obtain ⟨x126, hx126, hD⟩ := bindD_elim hD
     refine seq_call r (c_mem_Memory_Cap w122 x119.2.2.2 (hP.mem (i := 4) rfl) 0 hx126) (fun R hc => y_call r rfl cl18 hc) rfl ?_
     rintro _ w127 ⟨rfl, hb⟩
     refine ⟨_, rfl, fun fr r => ?_⟩
     have hP : Post No [roK 3 1 i64 a1_v a1, roK 4 1 boolE γ120 x119.1, cellC b1 ((planC x26)).toArray 23, cellC b18 ((stateC (⟨3, 2, 1⟩ : State))).toArray 30, memK mg29 x119.2.2.2, rowK 3 1 i64 γ77 x76.2.1, progK Tryz.prog encInt (fu, (D.retire_Scan (fu + 1) x26 (W (x26.threads - 1)))) v123 (rg w121.heap.size w122.heap.size)] w0 w127 := hP.below hb
     obtain ⟨x128, hx128, hD⟩ := bindD_elim hD
     refine seq_call r (c_prog_Run_int w127 (fu, (D.retire_Scan (fu + 1) x26 (W (x26.threads - 1)))) x119.2.2.2 x126 100000 (hP.sep.pk [6, 4] rfl rfl) hx128) (fun R hc => y_call r rfl cl16 hc) rfl ?_
     rintro _ w129 ⟨rfl, hq⟩
     refine ⟨_, rfl, fun fr r => ?_⟩
     have hP : Post No [roK 3 1 i64 a1_v a1, roK 4 1 boolE γ120 x119.1, cellC b1 ((planC x26)).toArray 23, cellC b18 ((stateC (⟨3, 2, 1⟩ : State))).toArray 30, memK mg29 x128.2.2.2, rowK 3 1 i64 γ77 x76.2.1, progK Tryz.prog encInt (fu, (D.retire_Scan (fu + 1) x26 (W (x26.threads - 1)))) v123 (rg w121.heap.size w122.heap.size)] w0 w129 := hP.setN (i := 4) rfl hq
     refine seq_val (.tuple #[(I x128.1), (I x128.2.1), (.bool x128.2.2.1)]) r (fun R => y_move r rfl) rfl fun fr r => ?_
     refine seq_val (I x128.1) r (fun R => y_extract r (vs := #[(I x128.1), (I x128.2.1), (.bool x128.2.2.1)]) rfl rfl) rfl fun fr r => ?_
     refine seq_val (I x128.2.1) r (fun R => y_extract r (vs := #[(I x128.1), (I x128.2.1), (.bool x128.2.2.1)]) rfl rfl) rfl fun fr r => ?_
     refine seq_val (.bool x128.2.2.1) r (fun R => y_extract r (vs := #[(I x128.1), (I x128.2.1), (.bool x128.2.2.1)]) rfl rfl) rfl fun fr r => ?_
     refine seq_val (I x128.1) r (fun R => y_assign r rfl) rfl fun fr r => ?_
     refine seq_val (I x128.2.1) r (fun R => y_assign r rfl) rfl fun fr r => ?_
     refine seq_val (.bool x128.2.2.1) r (fun R => y_assign r rfl) rfl fun fr r => ?_
     refine wn ?_
     refine wsr ?_
     refine seq_val γ77 r (fun R => y_move r rfl) rfl fun fr r => ?_
     refine seq_val γ120 r (fun R => y_move r rfl) rfl fun fr r => ?_
     obtain ⟨x130, hx130, hD⟩ := bindD_elim hD
     refine seq_call r (c_cubicleref11_Scan w129 x76.2.1 (hP.row (i := 5) rfl).ro x119.1 (hP.ro (i := 1) rfl) hx130) (fun R hc => y_call r rfl cl24 hc) rfl ?_
     rintro _ w131 ⟨v132, v134, rfl, hq⟩
     refine ⟨_, rfl, fun fr r => ?_⟩
     have hP : Post No [roK 3 1 i64 a1_v a1, roK 4 1 boolE γ120 x119.1, cellC b1 ((planC x26)).toArray 23, cellC b18 ((stateC (⟨3, 2, 1⟩ : State))).toArray 30, memK mg29 x128.2.2.2, rowK 3 1 i64 γ77 x76.2.1, progK Tryz.prog encInt (fu, (D.retire_Scan (fu + 1) x26 (W (x26.threads - 1)))) v123 (rg w121.heap.size w122.heap.size), rowK 3 1 i64 v132 x130.1, rowK 3 1 i64 v134 x130.2] w0 w131 := hP.add hq
     refine seq_val (.tuple #[v132, v134]) r (fun R => y_move r rfl) rfl fun fr r => ?_
     refine seq_val v132 r (fun R => y_extract r (vs := #[v132, v134]) rfl rfl) rfl fun fr r => ?_
     refine seq_val v134 r (fun R => y_extract r (vs := #[v132, v134]) rfl rfl) rfl fun fr r => ?_
     refine seq_val v132 r (fun R => y_assign r rfl) rfl fun fr r => ?_
     refine seq_val v134 r (fun R => y_assign r rfl) rfl fun fr r => ?_
     refine wn ?_
     refine wsr ?_
     refine seq_val (Value.slice none 0 0) r (fun R => y_assign r rfl) rfl fun fr r => ?_
     refine wn ?_
     refine wp_seq ?_
     refine wsr ?_
     refine seq_val (I 0) r (fun R => y_assign r rfl) rfl fun fr r => ?_
     refine wn ?_
     have hP : Post No [roK 3 1 i64 a1_v a1, roK 4 1 boolE γ120 x119.1, cellC b1 ((planC x26)).toArray 23, cellC b18 ((stateC (⟨3, 2, 1⟩ : State))).toArray 30, memK mg29 x128.2.2.2, rowK 3 1 i64 γ77 x76.2.1, progK Tryz.prog encInt (fu, (D.retire_Scan (fu + 1) x26 (W (x26.threads - 1)))) v123 (rg w121.heap.size w122.heap.size), rowK 3 1 i64 v132 x130.1, rowK 3 1 i64 v134 x130.2, rowK 3 1 i64 (Value.slice none 0 0) ([])] w0 w131 := hP.nilRow 3 1 i64
     have hP : Post No [roK 3 1 i64 a1_v a1, roK 4 1 boolE γ120 x119.1, cellC b1 ((planC x26)).toArray 23, cellC b18 ((stateC (⟨3, 2, 1⟩ : State))).toArray 30, memK mg29 x128.2.2.2, rowK 3 1 i64 γ77 x76.2.1, rowK 3 1 i64 v132 x130.1, rowK 3 1 i64 v134 x130.2, rowK 3 1 i64 (Value.slice none 0 0) ([])] w0 w131 := hP.pick [0, 1, 2, 3, 4, 5, 7, 8, 9] rfl rfl
     refine wp_loopG (X := List Int × Int) (G := Value) (x0 := ([], 0)) (fun x γ => [(0, (.agg (planC a0).toArray)), (1, a1_v), (3, (.pointer (some ⟨b1, 0, none⟩))), (43, (.bool x12)), (7, (.pointer (some ⟨b18, 0, none⟩))), (8, (.pointer (some ⟨mg29.mb, 0, none⟩))), (51, (.bool false)), (6, (.bool x76.1)), (9, γ77), (10, (I x76.2.2.1)), (2, γ120), (15, (I x119.2.1)), (16, (I x119.2.2.1)), (17, (I x128.1)), (19, (.bool x128.2.2.1)), (20, v132), (21, v134), (22, γ), (23, (I x.2))]) (fun x γ w => Post No [roK 3 1 i64 a1_v a1, roK 4 1 boolE γ120 x119.1, cellC b1 ((planC x26)).toArray 23, cellC b18 ((stateC (⟨3, 2, 1⟩ : State))).toArray 30, memK mg29 x128.2.2.2, rowK 3 1 i64 γ77 x76.2.1, rowK 3 1 i64 v132 x130.1, rowK 3 1 i64 v134 x130.2, rowK 3 1 i64 γ x.1] w0 w) (Value.slice none 0 0) r (hs_cons rfl (hs_cons rfl (hs_cons rfl (hs_cons rfl (hs_cons rfl (hs_cons rfl (hs_cons rfl (hs_cons rfl (hs_cons rfl (hs_cons rfl (hs_cons rfl (hs_cons rfl (hs_cons rfl (hs_cons rfl (hs_cons rfl (hs_cons rfl (hs_cons rfl (hs_cons rfl (hs_cons rfl hs_nil))))))))))))))))))) hP hD ?_ ?_
     ·
      rintro x137 γ138 fr w140 g y139 RPy139 nxy139 bky139 rty139 r hP hD
      have hP : Post No [roK 3 1 i64 a1_v a1, roK 4 1 boolE γ120 x119.1, cellC b1 ((planC x26)).toArray 23, cellC b18 ((stateC (⟨3, 2, 1⟩ : State))).toArray 30, memK mg29 x128.2.2.2, rowK 3 1 i64 γ77 x76.2.1, rowK 3 1 i64 v132 x130.1, rowK 3 1 i64 v134 x130.2, rowK 3 1 i64 γ138 x137.1] w0 w140 := hP
      refine wp_seq ?_
      refine wsr ?_
      refine seq_val (I x137.2) r (fun R => y_move r rfl) rfl fun fr r => ?_
      refine seq_val v134 r (fun R => y_move r rfl) rfl fun fr r => ?_
      refine seq_val (I (x130.2.length : Int)) r (fun R => y_rowLen r (hP.row (i := 7) rfl).ro is24 rfl) rfl fun fr r => ?_
      refine seq_val _ r (fun R => y_bin r rfl rfl rfl rfl) rfl fun fr r => ?_
      refine wn ?_
      refine wp_cond_split (t := (decide (x137.2 < (x130.2.length : Int)))) (r.ev rfl) (fun h141 => ?_) (fun h141 => ?_)
      ·
       have hD := (cond_t h141).symm.trans hD
       refine wp_skip ?_
       refine wp_seq ?_
       refine wp_block ?_
       refine wp_region_lit ?_
       refine seq_val γ138 r (fun R => y_move r rfl) rfl fun fr r => ?_
       refine seq_val v134 r (fun R => y_move r rfl) rfl fun fr r => ?_
       refine seq_val (I x137.2) r (fun R => y_move r rfl) rfl fun fr r => ?_
       obtain ⟨x142, hx142, hD⟩ := bindD_elim hD
       refine seq_val (.pointer (some ⟨rowB v134, rowO v134 + x137.2.toNat * 1, none⟩)) r (fun R => y_rowAddr r (hP.row (i := 7) rfl).ro hx142 sl24 rfl rfl) rfl fun fr r => ?_
       refine seq_val (I x142) r (fun R => y_loadL_one r (u := (I x142)) (RoAt.at_ (f := i64) (x := x142) (hP.row (i := 7) rfl).ro (fun _ => rfl) hx142) rfl to3) rfl fun fr r => ?_
       obtain ⟨x143, hx143, hD⟩ := bindD_elim hD
       refine seq_call r (c_cubicleref09_Push w140 x137.1 (hP.row (i := 8) rfl).ro x142 hx143) (fun R hc => y_call r rfl cl25 hc) rfl ?_
       rintro _ w144 ⟨v145, rfl, hq⟩
       refine ⟨_, rfl, fun fr r => ?_⟩
       have hP : Post No [roK 3 1 i64 a1_v a1, roK 4 1 boolE γ120 x119.1, cellC b1 ((planC x26)).toArray 23, cellC b18 ((stateC (⟨3, 2, 1⟩ : State))).toArray 30, memK mg29 x128.2.2.2, rowK 3 1 i64 γ77 x76.2.1, rowK 3 1 i64 v132 x130.1, rowK 3 1 i64 v134 x130.2, rowK 3 1 i64 γ138 x137.1, rowK 3 1 i64 v145 x143] w0 w144 := hP.add hq
       refine seq_val v145 r (fun R => y_assign r rfl) rfl fun fr r => ?_
       refine wn ?_
       refine wp_region_lit ?_
       refine seq_val (I x137.2) r (fun R => y_move r rfl) rfl fun fr r => ?_
       refine seq_val _ r (fun R => y_bin r rfl rfl rfl rfl) rfl fun fr r => ?_
       refine seq_val (I (W (x137.2 + 1))) r (fun R => y_assign r rfl) rfl fun fr r => ?_
       refine wn ?_
       exact nxy139 (x143, (W (x137.2 + 1))) v145 _ _ _ hD r (hs_cons rfl (hs_cons rfl (hs_cons rfl (hs_cons rfl (hs_cons rfl (hs_cons rfl (hs_cons rfl (hs_cons rfl (hs_cons rfl (hs_cons rfl (hs_cons rfl (hs_cons rfl (hs_cons rfl (hs_cons rfl (hs_cons rfl (hs_cons rfl (hs_cons rfl (hs_cons rfl (hs_cons rfl hs_nil))))))))))))))))))) (hP.pick [0, 1, 2, 3, 4, 5, 6, 7, 9] rfl rfl)
      ·
       have hD := (cond_f h141).symm.trans hD
       refine wp_exit ?_
       exact bky139 (x137.1, x137.2) γ138 _ _ _ hD r (hs_cons rfl (hs_cons rfl (hs_cons rfl (hs_cons rfl (hs_cons rfl (hs_cons rfl (hs_cons rfl (hs_cons rfl (hs_cons rfl (hs_cons rfl (hs_cons rfl (hs_cons rfl (hs_cons rfl (hs_cons rfl (hs_cons rfl (hs_cons rfl (hs_cons rfl (hs_cons rfl (hs_cons rfl hs_nil))))))))))))))))))) (hP.pick [0, 1, 2, 3, 4, 5, 6, 7, 8] rfl rfl)
     ·
      rintro x147 γ148 fr w149 g r hP hD
      have hP : Post No [roK 3 1 i64 a1_v a1, roK 4 1 boolE γ120 x119.1, cellC b1 ((planC x26)).toArray 23, cellC b18 ((stateC (⟨3, 2, 1⟩ : State))).toArray 30, memK mg29 x128.2.2.2, rowK 3 1 i64 γ77 x76.2.1, rowK 3 1 i64 v132 x130.1, rowK 3 1 i64 v134 x130.2, rowK 3 1 i64 γ148 x147.1] w0 w149 := hP
      refine wp_seq ?_
      refine wp_seq ?_
      refine wp_joinG (N := 262) (Y := Bool) (G := Unit) (fun x γ => [(0, (.agg (planC a0).toArray)), (1, a1_v), (3, (.pointer (some ⟨b1, 0, none⟩))), (43, (.bool x12)), (7, (.pointer (some ⟨b18, 0, none⟩))), (8, (.pointer (some ⟨mg29.mb, 0, none⟩))), (51, (.bool false)), (6, (.bool x76.1)), (9, γ77), (10, (I x76.2.2.1)), (2, γ120), (15, (I x119.2.1)), (16, (I x119.2.2.1)), (17, (I x128.1)), (19, (.bool x128.2.2.1)), (20, v132), (21, v134), (22, γ148), (23, (I x147.2)), (211, (.bool x))]) (fun x γ w => Post No [roK 3 1 i64 a1_v a1, roK 4 1 boolE γ120 x119.1, cellC b1 ((planC x26)).toArray 23, cellC b18 ((stateC (⟨3, 2, 1⟩ : State))).toArray 30, memK mg29 x128.2.2.2, rowK 3 1 i64 γ77 x76.2.1, rowK 3 1 i64 v132 x130.1, rowK 3 1 i64 v134 x130.2, rowK 3 1 i64 γ148 x147.1] w0 w) hD ?_ ?_
      ·
       rintro y150 RPy150 nxy150 hD
       refine wp_region_lit ?_
       refine seq_val (I x128.1) r (fun R => y_move r rfl) rfl fun fr r => ?_
       refine seq_val v134 r (fun R => y_move r rfl) rfl fun fr r => ?_
       refine seq_val (I (x130.2.length : Int)) r (fun R => y_rowLen r (hP.row (i := 7) rfl).ro is24 rfl) rfl fun fr r => ?_
       refine seq_val _ r (fun R => y_bin r rfl rfl rfl rfl) rfl fun fr r => ?_
       refine seq_val (.bool (x128.1 != (x130.2.length : Int))) r (fun R => y_move r rfl) rfl fun fr r => ?_
       refine seq_split (x128.1 != (x130.2.length : Int)) (fun h151 => ?_) (fun h151 => ?_)
       ·
        have hD := (cond_t h151).symm.trans hD
        refine s0 r h151 fun fr r => ?_
        refine s0 r h151 fun fr r => ?_
        refine seq_val (.bool true) r (fun R => y_pick r (b := true) (congrArg Value.bool h151) rfl) rfl fun fr r => ?_
        refine seq_val (.bool true) r (fun R => y_move r rfl) rfl fun fr r => ?_
        refine s0 r (rfl : true = _) fun fr r => ?_
        refine s0 r (rfl : true = _) fun fr r => ?_
        refine s0 r (rfl : true = _) fun fr r => ?_
        refine s0 r (rfl : true = _) fun fr r => ?_
        refine s0 r (rfl : true = _) fun fr r => ?_
        refine s0 r (rfl : true = _) fun fr r => ?_
        refine s0 r (rfl : true = _) fun fr r => ?_
        refine s0 r (rfl : true = _) fun fr r => ?_
        refine s0 r (rfl : true = _) fun fr r => ?_
        refine seq_val (.bool true) r (fun R => y_pick r (b := true) (congrArg Value.bool (rfl : true = _)) rfl) rfl fun fr r => ?_
        refine seq_val (.bool true) r (fun R => y_move r rfl) rfl fun fr r => ?_
        refine s0 r (rfl : true = _) fun fr r => ?_
        refine s0 r (rfl : true = _) fun fr r => ?_
        refine s0 r (rfl : true = _) fun fr r => ?_
        refine s0 r (rfl : true = _) fun fr r => ?_
        refine s0 r (rfl : true = _) fun fr r => ?_
        refine s0 r (rfl : true = _) fun fr r => ?_
        refine seq_val (.bool true) r (fun R => y_pick r (b := true) (congrArg Value.bool (rfl : true = _)) rfl) rfl fun fr r => ?_
        refine wn ?_
        exact nxy150 true () _ _ _ hD r (hs_cons rfl (hs_cons rfl (hs_cons rfl (hs_cons rfl (hs_cons rfl (hs_cons rfl (hs_cons rfl (hs_cons rfl (hs_cons rfl (hs_cons rfl (hs_cons rfl (hs_cons rfl (hs_cons rfl (hs_cons rfl (hs_cons rfl (hs_cons rfl (hs_cons rfl (hs_cons rfl (hs_cons rfl (hs_cons rfl hs_nil)))))))))))))))))))) (hP.pick [0, 1, 2, 3, 4, 5, 6, 7, 8] rfl rfl)
       ·
        have hD := (cond_f h151).symm.trans hD
        refine s1 r h151 ?_
        refine seq_val (.bool x128.2.2.1) r (fun R => y_move r rfl) rfl fun fr r => ?_
        refine s1 r h151 ?_
        refine seq_val (.bool (!x128.2.2.1)) r (fun R => y_un r (u := (.bool x128.2.2.1)) rfl rfl) rfl fun fr r => ?_
        refine seq_val (.bool (!x128.2.2.1)) r (fun R => y_pick r (b := false) (congrArg Value.bool h151) rfl) rfl fun fr r => ?_
        refine seq_val (.bool (!x128.2.2.1)) r (fun R => y_move r rfl) rfl fun fr r => ?_
        refine seq_split (!x128.2.2.1) (fun h152 => ?_) (fun h152 => ?_)
        ·
         have hD := (cond_t h152).symm.trans hD
         refine s0 r h152 fun fr r => ?_
         refine s0 r h152 fun fr r => ?_
         refine s0 r h152 fun fr r => ?_
         refine s0 r h152 fun fr r => ?_
         refine s0 r h152 fun fr r => ?_
         refine s0 r h152 fun fr r => ?_
         refine s0 r h152 fun fr r => ?_
         refine s0 r h152 fun fr r => ?_
         refine s0 r h152 fun fr r => ?_
         refine seq_val (.bool true) r (fun R => y_pick r (b := true) (congrArg Value.bool h152) rfl) rfl fun fr r => ?_
         refine seq_val (.bool true) r (fun R => y_move r rfl) rfl fun fr r => ?_
         refine s0 r (rfl : true = _) fun fr r => ?_
         refine s0 r (rfl : true = _) fun fr r => ?_
         refine s0 r (rfl : true = _) fun fr r => ?_
         refine s0 r (rfl : true = _) fun fr r => ?_
         refine s0 r (rfl : true = _) fun fr r => ?_
         refine s0 r (rfl : true = _) fun fr r => ?_
         refine seq_val (.bool true) r (fun R => y_pick r (b := true) (congrArg Value.bool (rfl : true = _)) rfl) rfl fun fr r => ?_
         refine wn ?_
         exact nxy150 true () _ _ _ hD r (hs_cons rfl (hs_cons rfl (hs_cons rfl (hs_cons rfl (hs_cons rfl (hs_cons rfl (hs_cons rfl (hs_cons rfl (hs_cons rfl (hs_cons rfl (hs_cons rfl (hs_cons rfl (hs_cons rfl (hs_cons rfl (hs_cons rfl (hs_cons rfl (hs_cons rfl (hs_cons rfl (hs_cons rfl (hs_cons rfl hs_nil)))))))))))))))))))) (hP.pick [0, 1, 2, 3, 4, 5, 6, 7, 8] rfl rfl)
        ·
         have hD := (cond_f h152).symm.trans hD
         refine s1 r h152 ?_
         refine seq_val (.agg (planC x26).toArray) r (fun R => y_load_agg r (cs := (planC x26)) (n := 6) rfl (hP.cell (i := 2) rfl) ta23 rfl) rfl fun fr r => ?_
         refine s1 r h152 ?_
         refine seq_val (.pointer (some ⟨mg29.mb, 0, none⟩)) r (fun R => y_move r rfl) rfl fun fr r => ?_
         refine s1 r h152 ?_
         refine seq_val _ r (fun R => y_fieldAddr r (o := 0) rfl fo23_1) rfl fun fr r => ?_
         refine s1 r h152 ?_
         refine seq_val (I x26.threads) r (fun R => y_load_one r rfl (hP.cell (i := 2) rfl) to3 rfl) rfl fun fr r => ?_
         refine s1 r h152 ?_
         refine seq_val _ r (fun R => y_bin r rfl rfl rfl rfl) rfl fun fr r => ?_
         refine s1 r h152 ?_
         obtain ⟨x153, hx153, hD⟩ := bindD_elim hD
         refine seq_call r (c_retire_List w149 x26 x128.2.2.2 (hP.mem (i := 4) rfl) 0 (W (x26.threads - 1)) hx153) (fun R hc => y_call r rfl cl20 hc) rfl ?_
         rintro _ w154 ⟨v155, rfl, hq⟩
         refine ⟨_, rfl, fun fr r => ?_⟩
         have hP : Post No [roK 3 1 i64 a1_v a1, roK 4 1 boolE γ120 x119.1, cellC b1 ((planC x26)).toArray 23, cellC b18 ((stateC (⟨3, 2, 1⟩ : State))).toArray 30, memK mg29 x128.2.2.2, rowK 3 1 i64 γ77 x76.2.1, rowK 3 1 i64 v132 x130.1, rowK 3 1 i64 v134 x130.2, rowK 3 1 i64 γ148 x147.1, rowK 3 1 i64 v155 x153] w0 w154 := hP.add hq
         refine s1 r h152 ?_
         refine seq_val v132 r (fun R => y_move r rfl) rfl fun fr r => ?_
         refine s1 r h152 ?_
         obtain ⟨x157, hx157, hD⟩ := bindD_elim hD
         refine seq_call r (c_cubicleref09_Same w154 x153 (hP.row (i := 9) rfl).ro x130.1 (hP.row (i := 6) rfl).ro hx157) (fun R hc => y_call r rfl cl21 hc) rfl ?_
         rintro _ w158 ⟨rfl, hb⟩
         refine ⟨_, rfl, fun fr r => ?_⟩
         have hP : Post No [roK 3 1 i64 a1_v a1, roK 4 1 boolE γ120 x119.1, cellC b1 ((planC x26)).toArray 23, cellC b18 ((stateC (⟨3, 2, 1⟩ : State))).toArray 30, memK mg29 x128.2.2.2, rowK 3 1 i64 γ77 x76.2.1, rowK 3 1 i64 v132 x130.1, rowK 3 1 i64 v134 x130.2, rowK 3 1 i64 γ148 x147.1, rowK 3 1 i64 v155 x153] w0 w158 := hP.below hb
         refine s1 r h152 ?_
         refine seq_val (.bool (!x157)) r (fun R => y_un r (u := (.bool x157)) rfl rfl) rfl fun fr r => ?_
         refine seq_val (.bool (!x157)) r (fun R => y_pick r (b := false) (congrArg Value.bool h152) rfl) rfl fun fr r => ?_
         refine seq_val (.bool (!x157)) r (fun R => y_move r rfl) rfl fun fr r => ?_
         refine seq_split (!x157) (fun h159 => ?_) (fun h159 => ?_)
         ·
          have hD := (cond_t h159).symm.trans hD
          refine s0 r h159 fun fr r => ?_
          refine s0 r h159 fun fr r => ?_
          refine s0 r h159 fun fr r => ?_
          refine s0 r h159 fun fr r => ?_
          refine s0 r h159 fun fr r => ?_
          refine s0 r h159 fun fr r => ?_
          refine seq_val (.bool true) r (fun R => y_pick r (b := true) (congrArg Value.bool h159) rfl) rfl fun fr r => ?_
          refine wn ?_
          exact nxy150 true () _ _ _ hD r (hs_cons rfl (hs_cons rfl (hs_cons rfl (hs_cons rfl (hs_cons rfl (hs_cons rfl (hs_cons rfl (hs_cons rfl (hs_cons rfl (hs_cons rfl (hs_cons rfl (hs_cons rfl (hs_cons rfl (hs_cons rfl (hs_cons rfl (hs_cons rfl (hs_cons rfl (hs_cons rfl (hs_cons rfl (hs_cons rfl hs_nil)))))))))))))))))))) (hP.pick [0, 1, 2, 3, 4, 5, 6, 7, 8] rfl rfl)
         ·
          have hD := (cond_f h159).symm.trans hD
          refine s1 r h159 ?_
          refine seq_val (.agg (planC x26).toArray) r (fun R => y_load_agg r (cs := (planC x26)) (n := 6) rfl (hP.cell (i := 2) rfl) ta23 rfl) rfl fun fr r => ?_
          refine s1 r h159 ?_
          refine seq_val (.pointer (some ⟨mg29.mb, 0, none⟩)) r (fun R => y_move r rfl) rfl fun fr r => ?_
          refine s1 r h159 ?_
          obtain ⟨x160, hx160, hD⟩ := bindD_elim hD
          refine seq_call r (c_free_List w158 x26 x128.2.2.2 (hP.mem (i := 4) rfl) 0 hx160) (fun R hc => y_call r rfl cl26 hc) rfl ?_
          rintro _ w161 ⟨v162, rfl, hq⟩
          refine ⟨_, rfl, fun fr r => ?_⟩
          have hP : Post No [roK 3 1 i64 a1_v a1, roK 4 1 boolE γ120 x119.1, cellC b1 ((planC x26)).toArray 23, cellC b18 ((stateC (⟨3, 2, 1⟩ : State))).toArray 30, memK mg29 x128.2.2.2, rowK 3 1 i64 γ77 x76.2.1, rowK 3 1 i64 v132 x130.1, rowK 3 1 i64 v134 x130.2, rowK 3 1 i64 γ148 x147.1, rowK 3 1 i64 v155 x153, rowK 3 1 i64 v162 x160] w0 w161 := hP.add hq
          refine s1 r h159 ?_
          refine seq_val γ148 r (fun R => y_move r rfl) rfl fun fr r => ?_
          refine s1 r h159 ?_
          obtain ⟨x164, hx164, hD⟩ := bindD_elim hD
          refine seq_call r (c_cubicleref09_Same w161 x160 (hP.row (i := 10) rfl).ro x147.1 (hP.row (i := 8) rfl).ro hx164) (fun R hc => y_call r rfl cl21 hc) rfl ?_
          rintro _ w165 ⟨rfl, hb⟩
          refine ⟨_, rfl, fun fr r => ?_⟩
          have hP : Post No [roK 3 1 i64 a1_v a1, roK 4 1 boolE γ120 x119.1, cellC b1 ((planC x26)).toArray 23, cellC b18 ((stateC (⟨3, 2, 1⟩ : State))).toArray 30, memK mg29 x128.2.2.2, rowK 3 1 i64 γ77 x76.2.1, rowK 3 1 i64 v132 x130.1, rowK 3 1 i64 v134 x130.2, rowK 3 1 i64 γ148 x147.1, rowK 3 1 i64 v155 x153, rowK 3 1 i64 v162 x160] w0 w165 := hP.below hb
          refine s1 r h159 ?_
          refine seq_val (.bool (!x164)) r (fun R => y_un r (u := (.bool x164)) rfl rfl) rfl fun fr r => ?_
          refine seq_val (.bool (!x164)) r (fun R => y_pick r (b := false) (congrArg Value.bool h159) rfl) rfl fun fr r => ?_
          refine wn ?_
          exact nxy150 (!x164) () _ _ _ hD r (hs_cons rfl (hs_cons rfl (hs_cons rfl (hs_cons rfl (hs_cons rfl (hs_cons rfl (hs_cons rfl (hs_cons rfl (hs_cons rfl (hs_cons rfl (hs_cons rfl (hs_cons rfl (hs_cons rfl (hs_cons rfl (hs_cons rfl (hs_cons rfl (hs_cons rfl (hs_cons rfl (hs_cons rfl (hs_cons rfl hs_nil)))))))))))))))))))) (hP.pick [0, 1, 2, 3, 4, 5, 6, 7, 8] rfl rfl)
      ·
       rintro x166 γ167 fr w168 g r hP hD
       have hP : Post No [roK 3 1 i64 a1_v a1, roK 4 1 boolE γ120 x119.1, cellC b1 ((planC x26)).toArray 23, cellC b18 ((stateC (⟨3, 2, 1⟩ : State))).toArray 30, memK mg29 x128.2.2.2, rowK 3 1 i64 γ77 x76.2.1, rowK 3 1 i64 v132 x130.1, rowK 3 1 i64 v134 x130.2, rowK 3 1 i64 γ148 x147.1] w0 w168 := hP
       refine wp_cond_split (t := x166) (r.ev rfl) (fun h169 => ?_) (fun h169 => ?_)
       ·
        have hD := (cond_t h169).symm.trans hD
        refine wsr ?_
        refine seq_val (.bool false) r (fun R => y_assign r rfl) rfl fun fr r => ?_
        refine wn ?_
        refine wp_ret ?_
        have hv : false = res := Option.some.inj hD
        try dsimp only [Exit.then, Exit.inBlock]
        refine ret_tmp (fn := Tryz.f5) r (t := 6) rfl (v := (.bool false)) rfl ?_
        subst hv
        exact ⟨rfl, hP.chg.below⟩
       ·
        have hD := (cond_f h169).symm.trans hD
        refine wp_skip ?_
        refine wp_seq ?_
        refine wsr ?_
        refine seq_val (I 0) r (fun R => y_assign r rfl) rfl fun fr r => ?_
        refine wn ?_
        refine wp_loopG (X := Bool × Int) (G := Unit) (x0 := (x76.1, 0)) (fun x γ => [(0, (.agg (planC a0).toArray)), (1, a1_v), (3, (.pointer (some ⟨b1, 0, none⟩))), (43, (.bool x12)), (7, (.pointer (some ⟨b18, 0, none⟩))), (8, (.pointer (some ⟨mg29.mb, 0, none⟩))), (51, (.bool false)), (9, γ77), (10, (I x76.2.2.1)), (2, γ120), (15, (I x119.2.1)), (16, (I x119.2.2.1)), (17, (I x128.1)), (19, (.bool x128.2.2.1)), (20, v132), (21, v134), (22, γ148), (23, (I x147.2)), (211, (.bool x166)), (6, (.bool x.1)), (24, (I x.2))]) (fun x γ w => Post No [roK 3 1 i64 a1_v a1, roK 4 1 boolE γ120 x119.1, cellC b1 ((planC x26)).toArray 23, cellC b18 ((stateC (⟨3, 2, 1⟩ : State))).toArray 30, memK mg29 x128.2.2.2, rowK 3 1 i64 γ77 x76.2.1, rowK 3 1 i64 v132 x130.1, rowK 3 1 i64 v134 x130.2, rowK 3 1 i64 γ148 x147.1] w0 w) () r (hs_cons rfl (hs_cons rfl (hs_cons rfl (hs_cons rfl (hs_cons rfl (hs_cons rfl (hs_cons rfl (hs_cons rfl (hs_cons rfl (hs_cons rfl (hs_cons rfl (hs_cons rfl (hs_cons rfl (hs_cons rfl (hs_cons rfl (hs_cons rfl (hs_cons rfl (hs_cons rfl (hs_cons rfl (hs_cons rfl (hs_cons rfl hs_nil))))))))))))))))))))) hP hD ?_ ?_
        ·
         rintro x170 γ171 fr w173 g y172 RPy172 nxy172 bky172 rty172 r hP hD
         have hP : Post No [roK 3 1 i64 a1_v a1, roK 4 1 boolE γ120 x119.1, cellC b1 ((planC x26)).toArray 23, cellC b18 ((stateC (⟨3, 2, 1⟩ : State))).toArray 30, memK mg29 x128.2.2.2, rowK 3 1 i64 γ77 x76.2.1, rowK 3 1 i64 v132 x130.1, rowK 3 1 i64 v134 x130.2, rowK 3 1 i64 γ148 x147.1] w0 w173 := hP
         refine wp_seq ?_
         refine wsr ?_
         refine seq_val (I x170.2) r (fun R => y_move r rfl) rfl fun fr r => ?_
         refine seq_val v134 r (fun R => y_move r rfl) rfl fun fr r => ?_
         refine seq_val (I (x130.2.length : Int)) r (fun R => y_rowLen r (hP.row (i := 7) rfl).ro is24 rfl) rfl fun fr r => ?_
         refine seq_val _ r (fun R => y_bin r rfl rfl rfl rfl) rfl fun fr r => ?_
         refine wn ?_
         refine wp_cond_split (t := (decide (x170.2 < (x130.2.length : Int)))) (r.ev rfl) (fun h174 => ?_) (fun h174 => ?_)
         ·
          have hD := (cond_t h174).symm.trans hD
          refine wp_skip ?_
          refine wp_seq ?_
          refine wp_block ?_
          refine wp_seq ?_
          refine wp_joinG (N := 262) (Y := Bool) (G := Unit) (fun x γ => [(0, (.agg (planC a0).toArray)), (1, a1_v), (3, (.pointer (some ⟨b1, 0, none⟩))), (43, (.bool x12)), (7, (.pointer (some ⟨b18, 0, none⟩))), (8, (.pointer (some ⟨mg29.mb, 0, none⟩))), (51, (.bool false)), (9, γ77), (10, (I x76.2.2.1)), (2, γ120), (15, (I x119.2.1)), (16, (I x119.2.2.1)), (17, (I x128.1)), (19, (.bool x128.2.2.1)), (20, v132), (21, v134), (22, γ148), (23, (I x147.2)), (211, (.bool x166)), (6, (.bool x170.1)), (24, (I x170.2)), (215, (.bool (decide (x170.2 < (x130.2.length : Int))))), (261, (.bool x))]) (fun x γ w => Post No [roK 3 1 i64 a1_v a1, roK 4 1 boolE γ120 x119.1, cellC b1 ((planC x26)).toArray 23, cellC b18 ((stateC (⟨3, 2, 1⟩ : State))).toArray 30, memK mg29 x128.2.2.2, rowK 3 1 i64 γ77 x76.2.1, rowK 3 1 i64 v132 x130.1, rowK 3 1 i64 v134 x130.2, rowK 3 1 i64 γ148 x147.1] w0 w) hD ?_ ?_
          ·
           rintro y175 RPy175 nxy175 hD
           obtain ⟨x176, hx176, hD⟩ := bindD_elim hD
           obtain ⟨x177, hx177, hD⟩ := bindD_elim hD
           refine seq_split (x177 != (D.state_State_Word (⟨4, 0, 0⟩ : State))) (fun h178 => ?_) (fun h178 => ?_)
           ·
            have hD := (cond_t h178).symm.trans hD
            refine wp_freeF [.val (.pointer (some ⟨mg29.mb, 0, none⟩)), .val (.agg (planC x26).toArray), .val v134, .val (I x170.2), .val (.pointer (some ⟨rowB v134, rowO v134 + x170.2.toNat * 1, none⟩)), .val (I x176), .val (I (D.plan_Plan_State x26 x176)), .val (U x177), .val (.agg (stateC (⟨4, 0, 0⟩ : State)).toArray), .val (U (D.state_State_Word (⟨4, 0, 0⟩ : State))), .val (.bool (x177 != (D.state_State_Word (⟨4, 0, 0⟩ : State)))), .val (.bool (x177 != (D.state_State_Word (⟨4, 0, 0⟩ : State)))), .val undef, .val undef, .val undef, .val undef, .val undef, .val undef, .val undef, .val undef, .val undef, .val (.bool true), .val (.bool true), .val undef, .val undef, .val undef, .val undef, .val undef, .val undef, .val undef, .val undef, .val undef, .val (.bool true), .val (.bool true), .val undef, .val undef, .val undef, .val undef, .val undef, .val undef, .val undef, .val undef, .val undef, .val (.bool true)] mixed r (by kernel_rfl) ?_ ?_
            ·
             refine fc r (fun fr1 g w' hb' hd r' => y_move r' rfl bz) ?_
             refine fc r (fun fr1 g w' hb' hd r' => y_load_agg r' (cs := (planC x26)) (n := 6) rfl ((hP.below (dr hb')).cell (i := 2) rfl) ta23 rfl bz) ?_
             refine fc r (fun fr1 g w' hb' hd r' => y_move r' rfl bz) ?_
             refine fc r (fun fr1 g w' hb' hd r' => y_move r' rfl bz) ?_
             refine fc r (fun fr1 g w' hb' hd r' => y_rowAddr r' ((hP.below (dr hb')).row (i := 7) rfl).ro hx176 sl24 (hd 2 rfl).1 (hd 3 rfl).1 bz) ?_
             refine fc r (fun fr1 g w' hb' hd r' => y_loadL_one r' (u := (I x176)) (RoAt.at_ (f := i64) (x := x176) ((hP.below (dr hb')).row (i := 7) rfl).ro (fun _ => rfl) hx176) (hd 4 rfl).1 to3 bz) ?_
             refine fc r (fun fr1 g w' hb' hd r' => y_call r' (args := [(.agg (planC x26).toArray), (I x176)]) (lc (hd 1 rfl).1 (lc (hd 5 rfl).1 l0)) cl28 ((c_plan_Plan_State _ x26 x176).mono (by rintro _ w2 ⟨rfl, hb2⟩; exact ⟨_, rfl, hb2, rfl⟩))) ?_
             refine fc r (fun fr1 g w' hb' hd r' => y_call r' (args := [(.pointer (some ⟨mg29.mb, 0, none⟩)), (I 0), (I (D.plan_Plan_State x26 x176))]) (lc (hd 0 rfl).1 (lc rfl (lc (hd 6 rfl).1 l0))) cl27 ((c_mem_Memory_Peek _ x128.2.2.2 ((hP.below (dr hb')).mem (i := 4) rfl) 0 (D.plan_Plan_State x26 x176) hx177).mono (by rintro _ w2 ⟨rfl, hb2⟩; exact ⟨_, rfl, hb2, rfl⟩))) ?_
             refine fc r (fun fr1 g w' hb' hd r' => y_build r' (v := (.agg (stateC (⟨4, 0, 0⟩ : State)).toArray)) (bs1 (rfl) (by kernel_rfl)) bz) ?_
             refine fc r (fun fr1 g w' hb' hd r' => y_call r' (args := [(.agg (stateC (⟨4, 0, 0⟩ : State)).toArray)]) (lc (hd 8 rfl).1 l0) cl29 ((c_state_State_Word _ (⟨4, 0, 0⟩ : State)).mono (by rintro _ w2 ⟨rfl, hb2⟩; exact ⟨_, rfl, hb2, rfl⟩))) ?_
             refine fc r (fun fr1 g w' hb' hd r' => y_bin r' (hd 7 rfl).1 (hd 9 rfl).1 rfl rfl bz) ?_
             refine fc r (fun fr1 g w' hb' hd r' => y_move r' (hd 10 rfl).1 bz) ?_
             refine eachF_skip false (.bool true) r rfl rfl rfl (fun g w' hd => Eq.trans (show (g 11).v = .bool (x177 != (D.state_State_Word (⟨4, 0, 0⟩ : State))) from (hd 11 rfl).1) (congrArg Value.bool h178)) (by simp [boolOf]) (fun _ _ => ⟨Below.refl _ _, rfl⟩) ?_
             refine eachF_skip false (.bool true) r rfl rfl rfl (fun g w' hd => Eq.trans (show (g 11).v = .bool (x177 != (D.state_State_Word (⟨4, 0, 0⟩ : State))) from (hd 11 rfl).1) (congrArg Value.bool h178)) (by simp [boolOf]) (fun _ _ => ⟨Below.refl _ _, rfl⟩) ?_
             refine eachF_skip false (.bool true) r rfl rfl rfl (fun g w' hd => Eq.trans (show (g 11).v = .bool (x177 != (D.state_State_Word (⟨4, 0, 0⟩ : State))) from (hd 11 rfl).1) (congrArg Value.bool h178)) (by simp [boolOf]) (fun _ _ => ⟨Below.refl _ _, rfl⟩) ?_
             refine eachF_skip false (.bool true) r rfl rfl rfl (fun g w' hd => Eq.trans (show (g 11).v = .bool (x177 != (D.state_State_Word (⟨4, 0, 0⟩ : State))) from (hd 11 rfl).1) (congrArg Value.bool h178)) (by simp [boolOf]) (fun _ _ => ⟨Below.refl _ _, rfl⟩) ?_
             refine eachF_skip false (.bool true) r rfl rfl rfl (fun g w' hd => Eq.trans (show (g 11).v = .bool (x177 != (D.state_State_Word (⟨4, 0, 0⟩ : State))) from (hd 11 rfl).1) (congrArg Value.bool h178)) (by simp [boolOf]) (fun _ _ => ⟨Below.refl _ _, rfl⟩) ?_
             refine eachF_skip false (.bool true) r rfl rfl rfl (fun g w' hd => Eq.trans (show (g 11).v = .bool (x177 != (D.state_State_Word (⟨4, 0, 0⟩ : State))) from (hd 11 rfl).1) (congrArg Value.bool h178)) (by simp [boolOf]) (fun _ _ => ⟨Below.refl _ _, rfl⟩) ?_
             refine eachF_skip false (.bool true) r rfl rfl rfl (fun g w' hd => Eq.trans (show (g 11).v = .bool (x177 != (D.state_State_Word (⟨4, 0, 0⟩ : State))) from (hd 11 rfl).1) (congrArg Value.bool h178)) (by simp [boolOf]) (fun _ _ => ⟨Below.refl _ _, rfl⟩) ?_
             refine eachF_skip false (.bool true) r rfl rfl rfl (fun g w' hd => Eq.trans (show (g 11).v = .bool (x177 != (D.state_State_Word (⟨4, 0, 0⟩ : State))) from (hd 11 rfl).1) (congrArg Value.bool h178)) (by simp [boolOf]) (fun _ _ => ⟨Below.refl _ _, rfl⟩) ?_
             refine eachF_skip false (.bool true) r rfl rfl rfl (fun g w' hd => Eq.trans (show (g 11).v = .bool (x177 != (D.state_State_Word (⟨4, 0, 0⟩ : State))) from (hd 11 rfl).1) (congrArg Value.bool h178)) (by simp [boolOf]) (fun _ _ => ⟨Below.refl _ _, rfl⟩) ?_
             refine fc r (fun fr1 g w' hb' hd r' => y_pick r' (b := true) (v := (.bool true)) (Eq.trans (show (g 11).v = .bool (x177 != (D.state_State_Word (⟨4, 0, 0⟩ : State))) from (hd 11 rfl).1) (congrArg Value.bool h178)) rfl bz) ?_
             refine fc r (fun fr1 g w' hb' hd r' => y_move r' (hd 21 rfl).1 bz) ?_
             refine eachF_skip false (.bool true) r rfl rfl rfl (fun g w' hd => Eq.trans (show (g 22).v = .bool true from (hd 22 rfl).1) (congrArg Value.bool (rfl : true = _))) (by simp [boolOf]) (fun _ _ => ⟨Below.refl _ _, rfl⟩) ?_
             refine eachF_skip false (.bool true) r rfl rfl rfl (fun g w' hd => Eq.trans (show (g 22).v = .bool true from (hd 22 rfl).1) (congrArg Value.bool (rfl : true = _))) (by simp [boolOf]) (fun _ _ => ⟨Below.refl _ _, rfl⟩) ?_
             refine eachF_skip false (.bool true) r rfl rfl rfl (fun g w' hd => Eq.trans (show (g 22).v = .bool true from (hd 22 rfl).1) (congrArg Value.bool (rfl : true = _))) (by simp [boolOf]) (fun _ _ => ⟨Below.refl _ _, rfl⟩) ?_
             refine eachF_skip false (.bool true) r rfl rfl rfl (fun g w' hd => Eq.trans (show (g 22).v = .bool true from (hd 22 rfl).1) (congrArg Value.bool (rfl : true = _))) (by simp [boolOf]) (fun _ _ => ⟨Below.refl _ _, rfl⟩) ?_
             refine eachF_skip false (.bool true) r rfl rfl rfl (fun g w' hd => Eq.trans (show (g 22).v = .bool true from (hd 22 rfl).1) (congrArg Value.bool (rfl : true = _))) (by simp [boolOf]) (fun _ _ => ⟨Below.refl _ _, rfl⟩) ?_
             refine eachF_skip false (.bool true) r rfl rfl rfl (fun g w' hd => Eq.trans (show (g 22).v = .bool true from (hd 22 rfl).1) (congrArg Value.bool (rfl : true = _))) (by simp [boolOf]) (fun _ _ => ⟨Below.refl _ _, rfl⟩) ?_
             refine eachF_skip false (.bool true) r rfl rfl rfl (fun g w' hd => Eq.trans (show (g 22).v = .bool true from (hd 22 rfl).1) (congrArg Value.bool (rfl : true = _))) (by simp [boolOf]) (fun _ _ => ⟨Below.refl _ _, rfl⟩) ?_
             refine eachF_skip false (.bool true) r rfl rfl rfl (fun g w' hd => Eq.trans (show (g 22).v = .bool true from (hd 22 rfl).1) (congrArg Value.bool (rfl : true = _))) (by simp [boolOf]) (fun _ _ => ⟨Below.refl _ _, rfl⟩) ?_
             refine eachF_skip false (.bool true) r rfl rfl rfl (fun g w' hd => Eq.trans (show (g 22).v = .bool true from (hd 22 rfl).1) (congrArg Value.bool (rfl : true = _))) (by simp [boolOf]) (fun _ _ => ⟨Below.refl _ _, rfl⟩) ?_
             refine fc r (fun fr1 g w' hb' hd r' => y_pick r' (b := true) (v := (.bool true)) (Eq.trans (show (g 22).v = .bool true from (hd 22 rfl).1) (congrArg Value.bool (rfl : true = _))) rfl bz) ?_
             refine fc r (fun fr1 g w' hb' hd r' => y_move r' (hd 32 rfl).1 bz) ?_
             refine eachF_skip false (.bool true) r rfl rfl rfl (fun g w' hd => Eq.trans (show (g 33).v = .bool true from (hd 33 rfl).1) (congrArg Value.bool (rfl : true = _))) (by simp [boolOf]) (fun _ _ => ⟨Below.refl _ _, rfl⟩) ?_
             refine eachF_skip false (.bool true) r rfl rfl rfl (fun g w' hd => Eq.trans (show (g 33).v = .bool true from (hd 33 rfl).1) (congrArg Value.bool (rfl : true = _))) (by simp [boolOf]) (fun _ _ => ⟨Below.refl _ _, rfl⟩) ?_
             refine eachF_skip false (.bool true) r rfl rfl rfl (fun g w' hd => Eq.trans (show (g 33).v = .bool true from (hd 33 rfl).1) (congrArg Value.bool (rfl : true = _))) (by simp [boolOf]) (fun _ _ => ⟨Below.refl _ _, rfl⟩) ?_
             refine eachF_skip false (.bool true) r rfl rfl rfl (fun g w' hd => Eq.trans (show (g 33).v = .bool true from (hd 33 rfl).1) (congrArg Value.bool (rfl : true = _))) (by simp [boolOf]) (fun _ _ => ⟨Below.refl _ _, rfl⟩) ?_
             refine eachF_skip false (.bool true) r rfl rfl rfl (fun g w' hd => Eq.trans (show (g 33).v = .bool true from (hd 33 rfl).1) (congrArg Value.bool (rfl : true = _))) (by simp [boolOf]) (fun _ _ => ⟨Below.refl _ _, rfl⟩) ?_
             refine eachF_skip false (.bool true) r rfl rfl rfl (fun g w' hd => Eq.trans (show (g 33).v = .bool true from (hd 33 rfl).1) (congrArg Value.bool (rfl : true = _))) (by simp [boolOf]) (fun _ _ => ⟨Below.refl _ _, rfl⟩) ?_
             refine eachF_skip false (.bool true) r rfl rfl rfl (fun g w' hd => Eq.trans (show (g 33).v = .bool true from (hd 33 rfl).1) (congrArg Value.bool (rfl : true = _))) (by simp [boolOf]) (fun _ _ => ⟨Below.refl _ _, rfl⟩) ?_
             refine eachF_skip false (.bool true) r rfl rfl rfl (fun g w' hd => Eq.trans (show (g 33).v = .bool true from (hd 33 rfl).1) (congrArg Value.bool (rfl : true = _))) (by simp [boolOf]) (fun _ _ => ⟨Below.refl _ _, rfl⟩) ?_
             refine eachF_skip false (.bool true) r rfl rfl rfl (fun g w' hd => Eq.trans (show (g 33).v = .bool true from (hd 33 rfl).1) (congrArg Value.bool (rfl : true = _))) (by simp [boolOf]) (fun _ _ => ⟨Below.refl _ _, rfl⟩) ?_
             refine fc r (fun fr1 g w' hb' hd r' => y_pick r' (b := true) (v := (.bool true)) (Eq.trans (show (g 33).v = .bool true from (hd 33 rfl).1) (congrArg Value.bool (rfl : true = _))) rfl bz) ?_
             exact eachF_nil
            ·
             intro fr gg w179 hb hΦ hap r
             have r := r.congr (sc ((hΦ 43 rfl).1) (sc ((hΦ 42 rfl).1) (sc ((hΦ 41 rfl).1) (sc ((hΦ 40 rfl).1) (sc ((hΦ 39 rfl).1) (sc ((hΦ 38 rfl).1) (sc ((hΦ 37 rfl).1) (sc ((hΦ 36 rfl).1) (sc ((hΦ 35 rfl).1) (sc ((hΦ 34 rfl).1) (sc ((hΦ 33 rfl).1) (sc ((hΦ 32 rfl).1) (sc ((hΦ 31 rfl).1) (sc ((hΦ 30 rfl).1) (sc ((hΦ 29 rfl).1) (sc ((hΦ 28 rfl).1) (sc ((hΦ 27 rfl).1) (sc ((hΦ 26 rfl).1) (sc ((hΦ 25 rfl).1) (sc ((hΦ 24 rfl).1) (sc ((hΦ 23 rfl).1) (sc ((hΦ 22 rfl).1) (sc ((hΦ 21 rfl).1) (sc ((hΦ 20 rfl).1) (sc ((hΦ 19 rfl).1) (sc ((hΦ 18 rfl).1) (sc ((hΦ 17 rfl).1) (sc ((hΦ 16 rfl).1) (sc ((hΦ 15 rfl).1) (sc ((hΦ 14 rfl).1) (sc ((hΦ 13 rfl).1) (sc ((hΦ 12 rfl).1) (sc ((hΦ 11 rfl).1) (sc ((hΦ 10 rfl).1) (sc ((hΦ 9 rfl).1) (sc ((hΦ 8 rfl).1) (sc ((hΦ 7 rfl).1) (sc ((hΦ 6 rfl).1) (sc ((hΦ 5 rfl).1) (sc ((hΦ 4 rfl).1) (sc ((hΦ 3 rfl).1) (sc ((hΦ 2 rfl).1) (sc ((hΦ 1 rfl).1) (sc ((hΦ 0 rfl).1) rfl))))))))))))))))))))))))))))))))))))))))))))
             have hP : Post No [roK 3 1 i64 a1_v a1, roK 4 1 boolE γ120 x119.1, cellC b1 ((planC x26)).toArray 23, cellC b18 ((stateC (⟨3, 2, 1⟩ : State))).toArray 30, memK mg29 x128.2.2.2, rowK 3 1 i64 γ77 x76.2.1, rowK 3 1 i64 v132 x130.1, rowK 3 1 i64 v134 x130.2, rowK 3 1 i64 γ148 x147.1] w0 w179 := hP.below hb
             exact nxy175 true () _ _ _ hD r (hs_cons rfl (hs_cons rfl (hs_cons rfl (hs_cons rfl (hs_cons rfl (hs_cons rfl (hs_cons rfl (hs_cons rfl (hs_cons rfl (hs_cons rfl (hs_cons rfl (hs_cons rfl (hs_cons rfl (hs_cons rfl (hs_cons rfl (hs_cons rfl (hs_cons rfl (hs_cons rfl (hs_cons rfl (hs_cons rfl (hs_cons rfl (hs_cons rfl (hs_cons rfl hs_nil))))))))))))))))))))))) (hP.pick [0, 1, 2, 3, 4, 5, 6, 7, 8] rfl rfl)
           ·
            have hD := (cond_f h178).symm.trans hD
            obtain ⟨x180, hx180, hD⟩ := bindD_elim hD
            obtain ⟨x181, hx181, hD⟩ := bindD_elim hD
            refine seq_split (x181 != 0) (fun h182 => ?_) (fun h182 => ?_)
            ·
             have hD := (cond_t h182).symm.trans hD
             refine wp_freeF [.val (.pointer (some ⟨mg29.mb, 0, none⟩)), .val (.agg (planC x26).toArray), .val v134, .val (I x170.2), .val (.pointer (some ⟨rowB v134, rowO v134 + x170.2.toNat * 1, none⟩)), .val (I x176), .val (I (D.plan_Plan_State x26 x176)), .val (U x177), .val (.agg (stateC (⟨4, 0, 0⟩ : State)).toArray), .val (U (D.state_State_Word (⟨4, 0, 0⟩ : State))), .val (.bool (x177 != (D.state_State_Word (⟨4, 0, 0⟩ : State)))), .val (.bool (x177 != (D.state_State_Word (⟨4, 0, 0⟩ : State)))), .val (.pointer (some ⟨mg29.mb, 0, none⟩)), .val (.agg (planC x26).toArray), .val v134, .val (I x170.2), .val (.pointer (some ⟨rowB v134, rowO v134 + x170.2.toNat * 1, none⟩)), .val (I x180), .val (I (D.plan_Plan_Field x26 x180 0)), .val (U x181), .val (.bool (x181 != 0)), .val (.bool (x181 != 0)), .val (.bool (x181 != 0)), .val undef, .val undef, .val undef, .val undef, .val undef, .val undef, .val undef, .val undef, .val undef, .val (.bool true), .val (.bool true), .val undef, .val undef, .val undef, .val undef, .val undef, .val undef, .val undef, .val undef, .val undef, .val (.bool true)] mixed r (by kernel_rfl) ?_ ?_
             ·
              refine fc r (fun fr1 g w' hb' hd r' => y_move r' rfl bz) ?_
              refine fc r (fun fr1 g w' hb' hd r' => y_load_agg r' (cs := (planC x26)) (n := 6) rfl ((hP.below (dr hb')).cell (i := 2) rfl) ta23 rfl bz) ?_
              refine fc r (fun fr1 g w' hb' hd r' => y_move r' rfl bz) ?_
              refine fc r (fun fr1 g w' hb' hd r' => y_move r' rfl bz) ?_
              refine fc r (fun fr1 g w' hb' hd r' => y_rowAddr r' ((hP.below (dr hb')).row (i := 7) rfl).ro hx176 sl24 (hd 2 rfl).1 (hd 3 rfl).1 bz) ?_
              refine fc r (fun fr1 g w' hb' hd r' => y_loadL_one r' (u := (I x176)) (RoAt.at_ (f := i64) (x := x176) ((hP.below (dr hb')).row (i := 7) rfl).ro (fun _ => rfl) hx176) (hd 4 rfl).1 to3 bz) ?_
              refine fc r (fun fr1 g w' hb' hd r' => y_call r' (args := [(.agg (planC x26).toArray), (I x176)]) (lc (hd 1 rfl).1 (lc (hd 5 rfl).1 l0)) cl28 ((c_plan_Plan_State _ x26 x176).mono (by rintro _ w2 ⟨rfl, hb2⟩; exact ⟨_, rfl, hb2, rfl⟩))) ?_
              refine fc r (fun fr1 g w' hb' hd r' => y_call r' (args := [(.pointer (some ⟨mg29.mb, 0, none⟩)), (I 0), (I (D.plan_Plan_State x26 x176))]) (lc (hd 0 rfl).1 (lc rfl (lc (hd 6 rfl).1 l0))) cl27 ((c_mem_Memory_Peek _ x128.2.2.2 ((hP.below (dr hb')).mem (i := 4) rfl) 0 (D.plan_Plan_State x26 x176) hx177).mono (by rintro _ w2 ⟨rfl, hb2⟩; exact ⟨_, rfl, hb2, rfl⟩))) ?_
              refine fc r (fun fr1 g w' hb' hd r' => y_build r' (v := (.agg (stateC (⟨4, 0, 0⟩ : State)).toArray)) (bs1 (rfl) (by kernel_rfl)) bz) ?_
              refine fc r (fun fr1 g w' hb' hd r' => y_call r' (args := [(.agg (stateC (⟨4, 0, 0⟩ : State)).toArray)]) (lc (hd 8 rfl).1 l0) cl29 ((c_state_State_Word _ (⟨4, 0, 0⟩ : State)).mono (by rintro _ w2 ⟨rfl, hb2⟩; exact ⟨_, rfl, hb2, rfl⟩))) ?_
              refine fc r (fun fr1 g w' hb' hd r' => y_bin r' (hd 7 rfl).1 (hd 9 rfl).1 rfl rfl bz) ?_
              refine fc r (fun fr1 g w' hb' hd r' => y_move r' (hd 10 rfl).1 bz) ?_
              refine eachF_want false r rfl rfl rfl (fun g w' hd => Eq.trans (show (g 11).v = .bool (x177 != (D.state_State_Word (⟨4, 0, 0⟩ : State))) from (hd 11 rfl).1) (congrArg Value.bool h178)) (fun fr1 g w' hb' hd r' => ?_) ?_
              · exact y_move r' (v := (.pointer (some ⟨mg29.mb, 0, none⟩))) rfl ⟨Below.refl _ _, rfl⟩
              refine eachF_want false r rfl rfl rfl (fun g w' hd => Eq.trans (show (g 11).v = .bool (x177 != (D.state_State_Word (⟨4, 0, 0⟩ : State))) from (hd 11 rfl).1) (congrArg Value.bool h178)) (fun fr1 g w' hb' hd r' => ?_) ?_
              · exact y_load_agg r' (cs := (planC x26)) (n := 6) rfl ((hP.below (dr hb')).cell (i := 2) rfl) ta23 rfl ⟨Below.refl _ _, rfl⟩
              refine eachF_want false r rfl rfl rfl (fun g w' hd => Eq.trans (show (g 11).v = .bool (x177 != (D.state_State_Word (⟨4, 0, 0⟩ : State))) from (hd 11 rfl).1) (congrArg Value.bool h178)) (fun fr1 g w' hb' hd r' => ?_) ?_
              · exact y_move r' (v := v134) rfl ⟨Below.refl _ _, rfl⟩
              refine eachF_want false r rfl rfl rfl (fun g w' hd => Eq.trans (show (g 11).v = .bool (x177 != (D.state_State_Word (⟨4, 0, 0⟩ : State))) from (hd 11 rfl).1) (congrArg Value.bool h178)) (fun fr1 g w' hb' hd r' => ?_) ?_
              · exact y_move r' (v := (I x170.2)) rfl ⟨Below.refl _ _, rfl⟩
              refine eachF_want false r rfl rfl rfl (fun g w' hd => Eq.trans (show (g 11).v = .bool (x177 != (D.state_State_Word (⟨4, 0, 0⟩ : State))) from (hd 11 rfl).1) (congrArg Value.bool h178)) (fun fr1 g w' hb' hd r' => ?_) ?_
              · exact y_rowAddr r' ((hP.below (dr hb')).row (i := 7) rfl).ro hx180 sl24 (hd 14 rfl).1 (hd 15 rfl).1 ⟨Below.refl _ _, rfl⟩
              refine eachF_want false r rfl rfl rfl (fun g w' hd => Eq.trans (show (g 11).v = .bool (x177 != (D.state_State_Word (⟨4, 0, 0⟩ : State))) from (hd 11 rfl).1) (congrArg Value.bool h178)) (fun fr1 g w' hb' hd r' => ?_) ?_
              · exact y_loadL_one r' (u := (I x180)) (RoAt.at_ (f := i64) (x := x180) ((hP.below (dr hb')).row (i := 7) rfl).ro (fun _ => rfl) hx180) (hd 16 rfl).1 to3 ⟨Below.refl _ _, rfl⟩
              refine eachF_want false r rfl rfl rfl (fun g w' hd => Eq.trans (show (g 11).v = .bool (x177 != (D.state_State_Word (⟨4, 0, 0⟩ : State))) from (hd 11 rfl).1) (congrArg Value.bool h178)) (fun fr1 g w' hb' hd r' => ?_) ?_
              · exact y_call r' (args := [(.agg (planC x26).toArray), (I x180), (I 0)]) (lc (hd 13 rfl).1 (lc (hd 17 rfl).1 (lc rfl l0))) cl30 ((c_plan_Plan_Field _ x26 x180 0).mono (by rintro _ w2 ⟨rfl, hb2⟩; exact ⟨_, rfl, hb2, rfl⟩))
              refine eachF_want false r rfl rfl rfl (fun g w' hd => Eq.trans (show (g 11).v = .bool (x177 != (D.state_State_Word (⟨4, 0, 0⟩ : State))) from (hd 11 rfl).1) (congrArg Value.bool h178)) (fun fr1 g w' hb' hd r' => ?_) ?_
              · exact y_call r' (args := [(.pointer (some ⟨mg29.mb, 0, none⟩)), (I 0), (I (D.plan_Plan_Field x26 x180 0))]) (lc (hd 12 rfl).1 (lc rfl (lc (hd 18 rfl).1 l0))) cl27 ((c_mem_Memory_Peek _ x128.2.2.2 ((hP.below (dr hb')).mem (i := 4) rfl) 0 (D.plan_Plan_Field x26 x180 0) hx181).mono (by rintro _ w2 ⟨rfl, hb2⟩; exact ⟨_, rfl, hb2, rfl⟩))
              refine eachF_want false r rfl rfl rfl (fun g w' hd => Eq.trans (show (g 11).v = .bool (x177 != (D.state_State_Word (⟨4, 0, 0⟩ : State))) from (hd 11 rfl).1) (congrArg Value.bool h178)) (fun fr1 g w' hb' hd r' => ?_) ?_
              · exact y_bin r' (u := (U x181)) (u' := (U 0)) (v := (.bool (x181 != 0))) (hd 19 rfl).1 rfl rfl rfl ⟨Below.refl _ _, rfl⟩
              refine fc r (fun fr1 g w' hb' hd r' => y_pick r' (b := false) (v := (.bool (x181 != 0))) (Eq.trans (show (g 11).v = .bool (x177 != (D.state_State_Word (⟨4, 0, 0⟩ : State))) from (hd 11 rfl).1) (congrArg Value.bool h178)) (hd 20 rfl).1 bz) ?_
              refine fc r (fun fr1 g w' hb' hd r' => y_move r' (hd 21 rfl).1 bz) ?_
              refine eachF_skip false (.bool true) r rfl rfl rfl (fun g w' hd => Eq.trans (show (g 22).v = .bool (x181 != 0) from (hd 22 rfl).1) (congrArg Value.bool h182)) (by simp [boolOf]) (fun _ _ => ⟨Below.refl _ _, rfl⟩) ?_
              refine eachF_skip false (.bool true) r rfl rfl rfl (fun g w' hd => Eq.trans (show (g 22).v = .bool (x181 != 0) from (hd 22 rfl).1) (congrArg Value.bool h182)) (by simp [boolOf]) (fun _ _ => ⟨Below.refl _ _, rfl⟩) ?_
              refine eachF_skip false (.bool true) r rfl rfl rfl (fun g w' hd => Eq.trans (show (g 22).v = .bool (x181 != 0) from (hd 22 rfl).1) (congrArg Value.bool h182)) (by simp [boolOf]) (fun _ _ => ⟨Below.refl _ _, rfl⟩) ?_
              refine eachF_skip false (.bool true) r rfl rfl rfl (fun g w' hd => Eq.trans (show (g 22).v = .bool (x181 != 0) from (hd 22 rfl).1) (congrArg Value.bool h182)) (by simp [boolOf]) (fun _ _ => ⟨Below.refl _ _, rfl⟩) ?_
              refine eachF_skip false (.bool true) r rfl rfl rfl (fun g w' hd => Eq.trans (show (g 22).v = .bool (x181 != 0) from (hd 22 rfl).1) (congrArg Value.bool h182)) (by simp [boolOf]) (fun _ _ => ⟨Below.refl _ _, rfl⟩) ?_
              refine eachF_skip false (.bool true) r rfl rfl rfl (fun g w' hd => Eq.trans (show (g 22).v = .bool (x181 != 0) from (hd 22 rfl).1) (congrArg Value.bool h182)) (by simp [boolOf]) (fun _ _ => ⟨Below.refl _ _, rfl⟩) ?_
              refine eachF_skip false (.bool true) r rfl rfl rfl (fun g w' hd => Eq.trans (show (g 22).v = .bool (x181 != 0) from (hd 22 rfl).1) (congrArg Value.bool h182)) (by simp [boolOf]) (fun _ _ => ⟨Below.refl _ _, rfl⟩) ?_
              refine eachF_skip false (.bool true) r rfl rfl rfl (fun g w' hd => Eq.trans (show (g 22).v = .bool (x181 != 0) from (hd 22 rfl).1) (congrArg Value.bool h182)) (by simp [boolOf]) (fun _ _ => ⟨Below.refl _ _, rfl⟩) ?_
              refine eachF_skip false (.bool true) r rfl rfl rfl (fun g w' hd => Eq.trans (show (g 22).v = .bool (x181 != 0) from (hd 22 rfl).1) (congrArg Value.bool h182)) (by simp [boolOf]) (fun _ _ => ⟨Below.refl _ _, rfl⟩) ?_
              refine fc r (fun fr1 g w' hb' hd r' => y_pick r' (b := true) (v := (.bool true)) (Eq.trans (show (g 22).v = .bool (x181 != 0) from (hd 22 rfl).1) (congrArg Value.bool h182)) rfl bz) ?_
              refine fc r (fun fr1 g w' hb' hd r' => y_move r' (hd 32 rfl).1 bz) ?_
              refine eachF_skip false (.bool true) r rfl rfl rfl (fun g w' hd => Eq.trans (show (g 33).v = .bool true from (hd 33 rfl).1) (congrArg Value.bool (rfl : true = _))) (by simp [boolOf]) (fun _ _ => ⟨Below.refl _ _, rfl⟩) ?_
              refine eachF_skip false (.bool true) r rfl rfl rfl (fun g w' hd => Eq.trans (show (g 33).v = .bool true from (hd 33 rfl).1) (congrArg Value.bool (rfl : true = _))) (by simp [boolOf]) (fun _ _ => ⟨Below.refl _ _, rfl⟩) ?_
              refine eachF_skip false (.bool true) r rfl rfl rfl (fun g w' hd => Eq.trans (show (g 33).v = .bool true from (hd 33 rfl).1) (congrArg Value.bool (rfl : true = _))) (by simp [boolOf]) (fun _ _ => ⟨Below.refl _ _, rfl⟩) ?_
              refine eachF_skip false (.bool true) r rfl rfl rfl (fun g w' hd => Eq.trans (show (g 33).v = .bool true from (hd 33 rfl).1) (congrArg Value.bool (rfl : true = _))) (by simp [boolOf]) (fun _ _ => ⟨Below.refl _ _, rfl⟩) ?_
              refine eachF_skip false (.bool true) r rfl rfl rfl (fun g w' hd => Eq.trans (show (g 33).v = .bool true from (hd 33 rfl).1) (congrArg Value.bool (rfl : true = _))) (by simp [boolOf]) (fun _ _ => ⟨Below.refl _ _, rfl⟩) ?_
              refine eachF_skip false (.bool true) r rfl rfl rfl (fun g w' hd => Eq.trans (show (g 33).v = .bool true from (hd 33 rfl).1) (congrArg Value.bool (rfl : true = _))) (by simp [boolOf]) (fun _ _ => ⟨Below.refl _ _, rfl⟩) ?_
              refine eachF_skip false (.bool true) r rfl rfl rfl (fun g w' hd => Eq.trans (show (g 33).v = .bool true from (hd 33 rfl).1) (congrArg Value.bool (rfl : true = _))) (by simp [boolOf]) (fun _ _ => ⟨Below.refl _ _, rfl⟩) ?_
              refine eachF_skip false (.bool true) r rfl rfl rfl (fun g w' hd => Eq.trans (show (g 33).v = .bool true from (hd 33 rfl).1) (congrArg Value.bool (rfl : true = _))) (by simp [boolOf]) (fun _ _ => ⟨Below.refl _ _, rfl⟩) ?_
              refine eachF_skip false (.bool true) r rfl rfl rfl (fun g w' hd => Eq.trans (show (g 33).v = .bool true from (hd 33 rfl).1) (congrArg Value.bool (rfl : true = _))) (by simp [boolOf]) (fun _ _ => ⟨Below.refl _ _, rfl⟩) ?_
              refine fc r (fun fr1 g w' hb' hd r' => y_pick r' (b := true) (v := (.bool true)) (Eq.trans (show (g 33).v = .bool true from (hd 33 rfl).1) (congrArg Value.bool (rfl : true = _))) rfl bz) ?_
              exact eachF_nil
             ·
              intro fr gg w183 hb hΦ hap r
              have r := r.congr (sc ((hΦ 43 rfl).1) (sc ((hΦ 42 rfl).1) (sc ((hΦ 41 rfl).1) (sc ((hΦ 40 rfl).1) (sc ((hΦ 39 rfl).1) (sc ((hΦ 38 rfl).1) (sc ((hΦ 37 rfl).1) (sc ((hΦ 36 rfl).1) (sc ((hΦ 35 rfl).1) (sc ((hΦ 34 rfl).1) (sc ((hΦ 33 rfl).1) (sc ((hΦ 32 rfl).1) (sc ((hΦ 31 rfl).1) (sc ((hΦ 30 rfl).1) (sc ((hΦ 29 rfl).1) (sc ((hΦ 28 rfl).1) (sc ((hΦ 27 rfl).1) (sc ((hΦ 26 rfl).1) (sc ((hΦ 25 rfl).1) (sc ((hΦ 24 rfl).1) (sc ((hΦ 23 rfl).1) (sc ((hΦ 22 rfl).1) (sc ((hΦ 21 rfl).1) (sc ((hΦ 20 rfl).1) (sc ((hΦ 19 rfl).1) (sc ((hΦ 18 rfl).1) (sc ((hΦ 17 rfl).1) (sc ((hΦ 16 rfl).1) (sc ((hΦ 15 rfl).1) (sc ((hΦ 14 rfl).1) (sc ((hΦ 13 rfl).1) (sc ((hΦ 12 rfl).1) (sc ((hΦ 11 rfl).1) (sc ((hΦ 10 rfl).1) (sc ((hΦ 9 rfl).1) (sc ((hΦ 8 rfl).1) (sc ((hΦ 7 rfl).1) (sc ((hΦ 6 rfl).1) (sc ((hΦ 5 rfl).1) (sc ((hΦ 4 rfl).1) (sc ((hΦ 3 rfl).1) (sc ((hΦ 2 rfl).1) (sc ((hΦ 1 rfl).1) (sc ((hΦ 0 rfl).1) rfl))))))))))))))))))))))))))))))))))))))))))))
              have hP : Post No [roK 3 1 i64 a1_v a1, roK 4 1 boolE γ120 x119.1, cellC b1 ((planC x26)).toArray 23, cellC b18 ((stateC (⟨3, 2, 1⟩ : State))).toArray 30, memK mg29 x128.2.2.2, rowK 3 1 i64 γ77 x76.2.1, rowK 3 1 i64 v132 x130.1, rowK 3 1 i64 v134 x130.2, rowK 3 1 i64 γ148 x147.1] w0 w183 := hP.below hb
              exact nxy175 true () _ _ _ hD r (hs_cons rfl (hs_cons rfl (hs_cons rfl (hs_cons rfl (hs_cons rfl (hs_cons rfl (hs_cons rfl (hs_cons rfl (hs_cons rfl (hs_cons rfl (hs_cons rfl (hs_cons rfl (hs_cons rfl (hs_cons rfl (hs_cons rfl (hs_cons rfl (hs_cons rfl (hs_cons rfl (hs_cons rfl (hs_cons rfl (hs_cons rfl (hs_cons rfl (hs_cons rfl hs_nil))))))))))))))))))))))) (hP.pick [0, 1, 2, 3, 4, 5, 6, 7, 8] rfl rfl)
            ·
             have hD := (cond_f h182).symm.trans hD
             obtain ⟨x184, hx184, hD⟩ := bindD_elim hD
             obtain ⟨x185, hx185, hD⟩ := bindD_elim hD
             refine seq_split (x185 != 0) (fun h186 => ?_) (fun h186 => ?_)
             ·
              have hD := (cond_t h186).symm.trans hD
              refine wp_freeF [.val (.pointer (some ⟨mg29.mb, 0, none⟩)), .val (.agg (planC x26).toArray), .val v134, .val (I x170.2), .val (.pointer (some ⟨rowB v134, rowO v134 + x170.2.toNat * 1, none⟩)), .val (I x176), .val (I (D.plan_Plan_State x26 x176)), .val (U x177), .val (.agg (stateC (⟨4, 0, 0⟩ : State)).toArray), .val (U (D.state_State_Word (⟨4, 0, 0⟩ : State))), .val (.bool (x177 != (D.state_State_Word (⟨4, 0, 0⟩ : State)))), .val (.bool (x177 != (D.state_State_Word (⟨4, 0, 0⟩ : State)))), .val (.pointer (some ⟨mg29.mb, 0, none⟩)), .val (.agg (planC x26).toArray), .val v134, .val (I x170.2), .val (.pointer (some ⟨rowB v134, rowO v134 + x170.2.toNat * 1, none⟩)), .val (I x180), .val (I (D.plan_Plan_Field x26 x180 0)), .val (U x181), .val (.bool (x181 != 0)), .val (.bool (x181 != 0)), .val (.bool (x181 != 0)), .val (.pointer (some ⟨mg29.mb, 0, none⟩)), .val (.agg (planC x26).toArray), .val v134, .val (I x170.2), .val (.pointer (some ⟨rowB v134, rowO v134 + x170.2.toNat * 1, none⟩)), .val (I x184), .val (I (D.plan_Plan_Field x26 x184 1)), .val (U x185), .val (.bool (x185 != 0)), .val (.bool (x185 != 0)), .val (.bool (x185 != 0)), .val undef, .val undef, .val undef, .val undef, .val undef, .val undef, .val undef, .val undef, .val undef, .val (.bool true)] mixed r (by kernel_rfl) ?_ ?_
              ·
               refine fc r (fun fr1 g w' hb' hd r' => y_move r' rfl bz) ?_
               refine fc r (fun fr1 g w' hb' hd r' => y_load_agg r' (cs := (planC x26)) (n := 6) rfl ((hP.below (dr hb')).cell (i := 2) rfl) ta23 rfl bz) ?_
               refine fc r (fun fr1 g w' hb' hd r' => y_move r' rfl bz) ?_
               refine fc r (fun fr1 g w' hb' hd r' => y_move r' rfl bz) ?_
               refine fc r (fun fr1 g w' hb' hd r' => y_rowAddr r' ((hP.below (dr hb')).row (i := 7) rfl).ro hx176 sl24 (hd 2 rfl).1 (hd 3 rfl).1 bz) ?_
               refine fc r (fun fr1 g w' hb' hd r' => y_loadL_one r' (u := (I x176)) (RoAt.at_ (f := i64) (x := x176) ((hP.below (dr hb')).row (i := 7) rfl).ro (fun _ => rfl) hx176) (hd 4 rfl).1 to3 bz) ?_
               refine fc r (fun fr1 g w' hb' hd r' => y_call r' (args := [(.agg (planC x26).toArray), (I x176)]) (lc (hd 1 rfl).1 (lc (hd 5 rfl).1 l0)) cl28 ((c_plan_Plan_State _ x26 x176).mono (by rintro _ w2 ⟨rfl, hb2⟩; exact ⟨_, rfl, hb2, rfl⟩))) ?_
               refine fc r (fun fr1 g w' hb' hd r' => y_call r' (args := [(.pointer (some ⟨mg29.mb, 0, none⟩)), (I 0), (I (D.plan_Plan_State x26 x176))]) (lc (hd 0 rfl).1 (lc rfl (lc (hd 6 rfl).1 l0))) cl27 ((c_mem_Memory_Peek _ x128.2.2.2 ((hP.below (dr hb')).mem (i := 4) rfl) 0 (D.plan_Plan_State x26 x176) hx177).mono (by rintro _ w2 ⟨rfl, hb2⟩; exact ⟨_, rfl, hb2, rfl⟩))) ?_
               refine fc r (fun fr1 g w' hb' hd r' => y_build r' (v := (.agg (stateC (⟨4, 0, 0⟩ : State)).toArray)) (bs1 (rfl) (by kernel_rfl)) bz) ?_
               refine fc r (fun fr1 g w' hb' hd r' => y_call r' (args := [(.agg (stateC (⟨4, 0, 0⟩ : State)).toArray)]) (lc (hd 8 rfl).1 l0) cl29 ((c_state_State_Word _ (⟨4, 0, 0⟩ : State)).mono (by rintro _ w2 ⟨rfl, hb2⟩; exact ⟨_, rfl, hb2, rfl⟩))) ?_
               refine fc r (fun fr1 g w' hb' hd r' => y_bin r' (hd 7 rfl).1 (hd 9 rfl).1 rfl rfl bz) ?_
               refine fc r (fun fr1 g w' hb' hd r' => y_move r' (hd 10 rfl).1 bz) ?_
               refine eachF_want false r rfl rfl rfl (fun g w' hd => Eq.trans (show (g 11).v = .bool (x177 != (D.state_State_Word (⟨4, 0, 0⟩ : State))) from (hd 11 rfl).1) (congrArg Value.bool h178)) (fun fr1 g w' hb' hd r' => ?_) ?_
               · exact y_move r' (v := (.pointer (some ⟨mg29.mb, 0, none⟩))) rfl ⟨Below.refl _ _, rfl⟩
               refine eachF_want false r rfl rfl rfl (fun g w' hd => Eq.trans (show (g 11).v = .bool (x177 != (D.state_State_Word (⟨4, 0, 0⟩ : State))) from (hd 11 rfl).1) (congrArg Value.bool h178)) (fun fr1 g w' hb' hd r' => ?_) ?_
               · exact y_load_agg r' (cs := (planC x26)) (n := 6) rfl ((hP.below (dr hb')).cell (i := 2) rfl) ta23 rfl ⟨Below.refl _ _, rfl⟩
               refine eachF_want false r rfl rfl rfl (fun g w' hd => Eq.trans (show (g 11).v = .bool (x177 != (D.state_State_Word (⟨4, 0, 0⟩ : State))) from (hd 11 rfl).1) (congrArg Value.bool h178)) (fun fr1 g w' hb' hd r' => ?_) ?_
               · exact y_move r' (v := v134) rfl ⟨Below.refl _ _, rfl⟩
               refine eachF_want false r rfl rfl rfl (fun g w' hd => Eq.trans (show (g 11).v = .bool (x177 != (D.state_State_Word (⟨4, 0, 0⟩ : State))) from (hd 11 rfl).1) (congrArg Value.bool h178)) (fun fr1 g w' hb' hd r' => ?_) ?_
               · exact y_move r' (v := (I x170.2)) rfl ⟨Below.refl _ _, rfl⟩
               refine eachF_want false r rfl rfl rfl (fun g w' hd => Eq.trans (show (g 11).v = .bool (x177 != (D.state_State_Word (⟨4, 0, 0⟩ : State))) from (hd 11 rfl).1) (congrArg Value.bool h178)) (fun fr1 g w' hb' hd r' => ?_) ?_
               · exact y_rowAddr r' ((hP.below (dr hb')).row (i := 7) rfl).ro hx180 sl24 (hd 14 rfl).1 (hd 15 rfl).1 ⟨Below.refl _ _, rfl⟩
               refine eachF_want false r rfl rfl rfl (fun g w' hd => Eq.trans (show (g 11).v = .bool (x177 != (D.state_State_Word (⟨4, 0, 0⟩ : State))) from (hd 11 rfl).1) (congrArg Value.bool h178)) (fun fr1 g w' hb' hd r' => ?_) ?_
               · exact y_loadL_one r' (u := (I x180)) (RoAt.at_ (f := i64) (x := x180) ((hP.below (dr hb')).row (i := 7) rfl).ro (fun _ => rfl) hx180) (hd 16 rfl).1 to3 ⟨Below.refl _ _, rfl⟩
               refine eachF_want false r rfl rfl rfl (fun g w' hd => Eq.trans (show (g 11).v = .bool (x177 != (D.state_State_Word (⟨4, 0, 0⟩ : State))) from (hd 11 rfl).1) (congrArg Value.bool h178)) (fun fr1 g w' hb' hd r' => ?_) ?_
               · exact y_call r' (args := [(.agg (planC x26).toArray), (I x180), (I 0)]) (lc (hd 13 rfl).1 (lc (hd 17 rfl).1 (lc rfl l0))) cl30 ((c_plan_Plan_Field _ x26 x180 0).mono (by rintro _ w2 ⟨rfl, hb2⟩; exact ⟨_, rfl, hb2, rfl⟩))
               refine eachF_want false r rfl rfl rfl (fun g w' hd => Eq.trans (show (g 11).v = .bool (x177 != (D.state_State_Word (⟨4, 0, 0⟩ : State))) from (hd 11 rfl).1) (congrArg Value.bool h178)) (fun fr1 g w' hb' hd r' => ?_) ?_
               · exact y_call r' (args := [(.pointer (some ⟨mg29.mb, 0, none⟩)), (I 0), (I (D.plan_Plan_Field x26 x180 0))]) (lc (hd 12 rfl).1 (lc rfl (lc (hd 18 rfl).1 l0))) cl27 ((c_mem_Memory_Peek _ x128.2.2.2 ((hP.below (dr hb')).mem (i := 4) rfl) 0 (D.plan_Plan_Field x26 x180 0) hx181).mono (by rintro _ w2 ⟨rfl, hb2⟩; exact ⟨_, rfl, hb2, rfl⟩))
               refine eachF_want false r rfl rfl rfl (fun g w' hd => Eq.trans (show (g 11).v = .bool (x177 != (D.state_State_Word (⟨4, 0, 0⟩ : State))) from (hd 11 rfl).1) (congrArg Value.bool h178)) (fun fr1 g w' hb' hd r' => ?_) ?_
               · exact y_bin r' (u := (U x181)) (u' := (U 0)) (v := (.bool (x181 != 0))) (hd 19 rfl).1 rfl rfl rfl ⟨Below.refl _ _, rfl⟩
               refine fc r (fun fr1 g w' hb' hd r' => y_pick r' (b := false) (v := (.bool (x181 != 0))) (Eq.trans (show (g 11).v = .bool (x177 != (D.state_State_Word (⟨4, 0, 0⟩ : State))) from (hd 11 rfl).1) (congrArg Value.bool h178)) (hd 20 rfl).1 bz) ?_
               refine fc r (fun fr1 g w' hb' hd r' => y_move r' (hd 21 rfl).1 bz) ?_
               refine eachF_want false r rfl rfl rfl (fun g w' hd => Eq.trans (show (g 22).v = .bool (x181 != 0) from (hd 22 rfl).1) (congrArg Value.bool h182)) (fun fr1 g w' hb' hd r' => ?_) ?_
               · exact y_move r' (v := (.pointer (some ⟨mg29.mb, 0, none⟩))) rfl ⟨Below.refl _ _, rfl⟩
               refine eachF_want false r rfl rfl rfl (fun g w' hd => Eq.trans (show (g 22).v = .bool (x181 != 0) from (hd 22 rfl).1) (congrArg Value.bool h182)) (fun fr1 g w' hb' hd r' => ?_) ?_
               · exact y_load_agg r' (cs := (planC x26)) (n := 6) rfl ((hP.below (dr hb')).cell (i := 2) rfl) ta23 rfl ⟨Below.refl _ _, rfl⟩
               refine eachF_want false r rfl rfl rfl (fun g w' hd => Eq.trans (show (g 22).v = .bool (x181 != 0) from (hd 22 rfl).1) (congrArg Value.bool h182)) (fun fr1 g w' hb' hd r' => ?_) ?_
               · exact y_move r' (v := v134) rfl ⟨Below.refl _ _, rfl⟩
               refine eachF_want false r rfl rfl rfl (fun g w' hd => Eq.trans (show (g 22).v = .bool (x181 != 0) from (hd 22 rfl).1) (congrArg Value.bool h182)) (fun fr1 g w' hb' hd r' => ?_) ?_
               · exact y_move r' (v := (I x170.2)) rfl ⟨Below.refl _ _, rfl⟩
               refine eachF_want false r rfl rfl rfl (fun g w' hd => Eq.trans (show (g 22).v = .bool (x181 != 0) from (hd 22 rfl).1) (congrArg Value.bool h182)) (fun fr1 g w' hb' hd r' => ?_) ?_
               · exact y_rowAddr r' ((hP.below (dr hb')).row (i := 7) rfl).ro hx184 sl24 (hd 25 rfl).1 (hd 26 rfl).1 ⟨Below.refl _ _, rfl⟩
               refine eachF_want false r rfl rfl rfl (fun g w' hd => Eq.trans (show (g 22).v = .bool (x181 != 0) from (hd 22 rfl).1) (congrArg Value.bool h182)) (fun fr1 g w' hb' hd r' => ?_) ?_
               · exact y_loadL_one r' (u := (I x184)) (RoAt.at_ (f := i64) (x := x184) ((hP.below (dr hb')).row (i := 7) rfl).ro (fun _ => rfl) hx184) (hd 27 rfl).1 to3 ⟨Below.refl _ _, rfl⟩
               refine eachF_want false r rfl rfl rfl (fun g w' hd => Eq.trans (show (g 22).v = .bool (x181 != 0) from (hd 22 rfl).1) (congrArg Value.bool h182)) (fun fr1 g w' hb' hd r' => ?_) ?_
               · exact y_call r' (args := [(.agg (planC x26).toArray), (I x184), (I 1)]) (lc (hd 24 rfl).1 (lc (hd 28 rfl).1 (lc rfl l0))) cl30 ((c_plan_Plan_Field _ x26 x184 1).mono (by rintro _ w2 ⟨rfl, hb2⟩; exact ⟨_, rfl, hb2, rfl⟩))
               refine eachF_want false r rfl rfl rfl (fun g w' hd => Eq.trans (show (g 22).v = .bool (x181 != 0) from (hd 22 rfl).1) (congrArg Value.bool h182)) (fun fr1 g w' hb' hd r' => ?_) ?_
               · exact y_call r' (args := [(.pointer (some ⟨mg29.mb, 0, none⟩)), (I 0), (I (D.plan_Plan_Field x26 x184 1))]) (lc (hd 23 rfl).1 (lc rfl (lc (hd 29 rfl).1 l0))) cl27 ((c_mem_Memory_Peek _ x128.2.2.2 ((hP.below (dr hb')).mem (i := 4) rfl) 0 (D.plan_Plan_Field x26 x184 1) hx185).mono (by rintro _ w2 ⟨rfl, hb2⟩; exact ⟨_, rfl, hb2, rfl⟩))
               refine eachF_want false r rfl rfl rfl (fun g w' hd => Eq.trans (show (g 22).v = .bool (x181 != 0) from (hd 22 rfl).1) (congrArg Value.bool h182)) (fun fr1 g w' hb' hd r' => ?_) ?_
               · exact y_bin r' (u := (U x185)) (u' := (U 0)) (v := (.bool (x185 != 0))) (hd 30 rfl).1 rfl rfl rfl ⟨Below.refl _ _, rfl⟩
               refine fc r (fun fr1 g w' hb' hd r' => y_pick r' (b := false) (v := (.bool (x185 != 0))) (Eq.trans (show (g 22).v = .bool (x181 != 0) from (hd 22 rfl).1) (congrArg Value.bool h182)) (hd 31 rfl).1 bz) ?_
               refine fc r (fun fr1 g w' hb' hd r' => y_move r' (hd 32 rfl).1 bz) ?_
               refine eachF_skip false (.bool true) r rfl rfl rfl (fun g w' hd => Eq.trans (show (g 33).v = .bool (x185 != 0) from (hd 33 rfl).1) (congrArg Value.bool h186)) (by simp [boolOf]) (fun _ _ => ⟨Below.refl _ _, rfl⟩) ?_
               refine eachF_skip false (.bool true) r rfl rfl rfl (fun g w' hd => Eq.trans (show (g 33).v = .bool (x185 != 0) from (hd 33 rfl).1) (congrArg Value.bool h186)) (by simp [boolOf]) (fun _ _ => ⟨Below.refl _ _, rfl⟩) ?_
               refine eachF_skip false (.bool true) r rfl rfl rfl (fun g w' hd => Eq.trans (show (g 33).v = .bool (x185 != 0) from (hd 33 rfl).1) (congrArg Value.bool h186)) (by simp [boolOf]) (fun _ _ => ⟨Below.refl _ _, rfl⟩) ?_
               refine eachF_skip false (.bool true) r rfl rfl rfl (fun g w' hd => Eq.trans (show (g 33).v = .bool (x185 != 0) from (hd 33 rfl).1) (congrArg Value.bool h186)) (by simp [boolOf]) (fun _ _ => ⟨Below.refl _ _, rfl⟩) ?_
               refine eachF_skip false (.bool true) r rfl rfl rfl (fun g w' hd => Eq.trans (show (g 33).v = .bool (x185 != 0) from (hd 33 rfl).1) (congrArg Value.bool h186)) (by simp [boolOf]) (fun _ _ => ⟨Below.refl _ _, rfl⟩) ?_
               refine eachF_skip false (.bool true) r rfl rfl rfl (fun g w' hd => Eq.trans (show (g 33).v = .bool (x185 != 0) from (hd 33 rfl).1) (congrArg Value.bool h186)) (by simp [boolOf]) (fun _ _ => ⟨Below.refl _ _, rfl⟩) ?_
               refine eachF_skip false (.bool true) r rfl rfl rfl (fun g w' hd => Eq.trans (show (g 33).v = .bool (x185 != 0) from (hd 33 rfl).1) (congrArg Value.bool h186)) (by simp [boolOf]) (fun _ _ => ⟨Below.refl _ _, rfl⟩) ?_
               refine eachF_skip false (.bool true) r rfl rfl rfl (fun g w' hd => Eq.trans (show (g 33).v = .bool (x185 != 0) from (hd 33 rfl).1) (congrArg Value.bool h186)) (by simp [boolOf]) (fun _ _ => ⟨Below.refl _ _, rfl⟩) ?_
               refine eachF_skip false (.bool true) r rfl rfl rfl (fun g w' hd => Eq.trans (show (g 33).v = .bool (x185 != 0) from (hd 33 rfl).1) (congrArg Value.bool h186)) (by simp [boolOf]) (fun _ _ => ⟨Below.refl _ _, rfl⟩) ?_
               refine fc r (fun fr1 g w' hb' hd r' => y_pick r' (b := true) (v := (.bool true)) (Eq.trans (show (g 33).v = .bool (x185 != 0) from (hd 33 rfl).1) (congrArg Value.bool h186)) rfl bz) ?_
               exact eachF_nil
              ·
               intro fr gg w187 hb hΦ hap r
               have r := r.congr (sc ((hΦ 43 rfl).1) (sc ((hΦ 42 rfl).1) (sc ((hΦ 41 rfl).1) (sc ((hΦ 40 rfl).1) (sc ((hΦ 39 rfl).1) (sc ((hΦ 38 rfl).1) (sc ((hΦ 37 rfl).1) (sc ((hΦ 36 rfl).1) (sc ((hΦ 35 rfl).1) (sc ((hΦ 34 rfl).1) (sc ((hΦ 33 rfl).1) (sc ((hΦ 32 rfl).1) (sc ((hΦ 31 rfl).1) (sc ((hΦ 30 rfl).1) (sc ((hΦ 29 rfl).1) (sc ((hΦ 28 rfl).1) (sc ((hΦ 27 rfl).1) (sc ((hΦ 26 rfl).1) (sc ((hΦ 25 rfl).1) (sc ((hΦ 24 rfl).1) (sc ((hΦ 23 rfl).1) (sc ((hΦ 22 rfl).1) (sc ((hΦ 21 rfl).1) (sc ((hΦ 20 rfl).1) (sc ((hΦ 19 rfl).1) (sc ((hΦ 18 rfl).1) (sc ((hΦ 17 rfl).1) (sc ((hΦ 16 rfl).1) (sc ((hΦ 15 rfl).1) (sc ((hΦ 14 rfl).1) (sc ((hΦ 13 rfl).1) (sc ((hΦ 12 rfl).1) (sc ((hΦ 11 rfl).1) (sc ((hΦ 10 rfl).1) (sc ((hΦ 9 rfl).1) (sc ((hΦ 8 rfl).1) (sc ((hΦ 7 rfl).1) (sc ((hΦ 6 rfl).1) (sc ((hΦ 5 rfl).1) (sc ((hΦ 4 rfl).1) (sc ((hΦ 3 rfl).1) (sc ((hΦ 2 rfl).1) (sc ((hΦ 1 rfl).1) (sc ((hΦ 0 rfl).1) rfl))))))))))))))))))))))))))))))))))))))))))))
               have hP : Post No [roK 3 1 i64 a1_v a1, roK 4 1 boolE γ120 x119.1, cellC b1 ((planC x26)).toArray 23, cellC b18 ((stateC (⟨3, 2, 1⟩ : State))).toArray 30, memK mg29 x128.2.2.2, rowK 3 1 i64 γ77 x76.2.1, rowK 3 1 i64 v132 x130.1, rowK 3 1 i64 v134 x130.2, rowK 3 1 i64 γ148 x147.1] w0 w187 := hP.below hb
               exact nxy175 true () _ _ _ hD r (hs_cons rfl (hs_cons rfl (hs_cons rfl (hs_cons rfl (hs_cons rfl (hs_cons rfl (hs_cons rfl (hs_cons rfl (hs_cons rfl (hs_cons rfl (hs_cons rfl (hs_cons rfl (hs_cons rfl (hs_cons rfl (hs_cons rfl (hs_cons rfl (hs_cons rfl (hs_cons rfl (hs_cons rfl (hs_cons rfl (hs_cons rfl (hs_cons rfl (hs_cons rfl hs_nil))))))))))))))))))))))) (hP.pick [0, 1, 2, 3, 4, 5, 6, 7, 8] rfl rfl)
             ·
              have hD := (cond_f h186).symm.trans hD
              obtain ⟨x188, hx188, hD⟩ := bindD_elim hD
              obtain ⟨x189, hx189, hD⟩ := bindD_elim hD
              refine wp_freeF [.val (.pointer (some ⟨mg29.mb, 0, none⟩)), .val (.agg (planC x26).toArray), .val v134, .val (I x170.2), .val (.pointer (some ⟨rowB v134, rowO v134 + x170.2.toNat * 1, none⟩)), .val (I x176), .val (I (D.plan_Plan_State x26 x176)), .val (U x177), .val (.agg (stateC (⟨4, 0, 0⟩ : State)).toArray), .val (U (D.state_State_Word (⟨4, 0, 0⟩ : State))), .val (.bool (x177 != (D.state_State_Word (⟨4, 0, 0⟩ : State)))), .val (.bool (x177 != (D.state_State_Word (⟨4, 0, 0⟩ : State)))), .val (.pointer (some ⟨mg29.mb, 0, none⟩)), .val (.agg (planC x26).toArray), .val v134, .val (I x170.2), .val (.pointer (some ⟨rowB v134, rowO v134 + x170.2.toNat * 1, none⟩)), .val (I x180), .val (I (D.plan_Plan_Field x26 x180 0)), .val (U x181), .val (.bool (x181 != 0)), .val (.bool (x181 != 0)), .val (.bool (x181 != 0)), .val (.pointer (some ⟨mg29.mb, 0, none⟩)), .val (.agg (planC x26).toArray), .val v134, .val (I x170.2), .val (.pointer (some ⟨rowB v134, rowO v134 + x170.2.toNat * 1, none⟩)), .val (I x184), .val (I (D.plan_Plan_Field x26 x184 1)), .val (U x185), .val (.bool (x185 != 0)), .val (.bool (x185 != 0)), .val (.bool (x185 != 0)), .val (.pointer (some ⟨mg29.mb, 0, none⟩)), .val (.agg (planC x26).toArray), .val v134, .val (I x170.2), .val (.pointer (some ⟨rowB v134, rowO v134 + x170.2.toNat * 1, none⟩)), .val (I x188), .val (I (D.plan_Plan_Field x26 x188 2)), .val (U x189), .val (.bool (x189 != 0)), .val (.bool (x189 != 0))] mixed r (by kernel_rfl) ?_ ?_
              ·
               refine fc r (fun fr1 g w' hb' hd r' => y_move r' rfl bz) ?_
               refine fc r (fun fr1 g w' hb' hd r' => y_load_agg r' (cs := (planC x26)) (n := 6) rfl ((hP.below (dr hb')).cell (i := 2) rfl) ta23 rfl bz) ?_
               refine fc r (fun fr1 g w' hb' hd r' => y_move r' rfl bz) ?_
               refine fc r (fun fr1 g w' hb' hd r' => y_move r' rfl bz) ?_
               refine fc r (fun fr1 g w' hb' hd r' => y_rowAddr r' ((hP.below (dr hb')).row (i := 7) rfl).ro hx176 sl24 (hd 2 rfl).1 (hd 3 rfl).1 bz) ?_
               refine fc r (fun fr1 g w' hb' hd r' => y_loadL_one r' (u := (I x176)) (RoAt.at_ (f := i64) (x := x176) ((hP.below (dr hb')).row (i := 7) rfl).ro (fun _ => rfl) hx176) (hd 4 rfl).1 to3 bz) ?_
               refine fc r (fun fr1 g w' hb' hd r' => y_call r' (args := [(.agg (planC x26).toArray), (I x176)]) (lc (hd 1 rfl).1 (lc (hd 5 rfl).1 l0)) cl28 ((c_plan_Plan_State _ x26 x176).mono (by rintro _ w2 ⟨rfl, hb2⟩; exact ⟨_, rfl, hb2, rfl⟩))) ?_
               refine fc r (fun fr1 g w' hb' hd r' => y_call r' (args := [(.pointer (some ⟨mg29.mb, 0, none⟩)), (I 0), (I (D.plan_Plan_State x26 x176))]) (lc (hd 0 rfl).1 (lc rfl (lc (hd 6 rfl).1 l0))) cl27 ((c_mem_Memory_Peek _ x128.2.2.2 ((hP.below (dr hb')).mem (i := 4) rfl) 0 (D.plan_Plan_State x26 x176) hx177).mono (by rintro _ w2 ⟨rfl, hb2⟩; exact ⟨_, rfl, hb2, rfl⟩))) ?_
               refine fc r (fun fr1 g w' hb' hd r' => y_build r' (v := (.agg (stateC (⟨4, 0, 0⟩ : State)).toArray)) (bs1 (rfl) (by kernel_rfl)) bz) ?_
               refine fc r (fun fr1 g w' hb' hd r' => y_call r' (args := [(.agg (stateC (⟨4, 0, 0⟩ : State)).toArray)]) (lc (hd 8 rfl).1 l0) cl29 ((c_state_State_Word _ (⟨4, 0, 0⟩ : State)).mono (by rintro _ w2 ⟨rfl, hb2⟩; exact ⟨_, rfl, hb2, rfl⟩))) ?_
               refine fc r (fun fr1 g w' hb' hd r' => y_bin r' (hd 7 rfl).1 (hd 9 rfl).1 rfl rfl bz) ?_
               refine fc r (fun fr1 g w' hb' hd r' => y_move r' (hd 10 rfl).1 bz) ?_
               refine eachF_want false r rfl rfl rfl (fun g w' hd => Eq.trans (show (g 11).v = .bool (x177 != (D.state_State_Word (⟨4, 0, 0⟩ : State))) from (hd 11 rfl).1) (congrArg Value.bool h178)) (fun fr1 g w' hb' hd r' => ?_) ?_
               · exact y_move r' (v := (.pointer (some ⟨mg29.mb, 0, none⟩))) rfl ⟨Below.refl _ _, rfl⟩
               refine eachF_want false r rfl rfl rfl (fun g w' hd => Eq.trans (show (g 11).v = .bool (x177 != (D.state_State_Word (⟨4, 0, 0⟩ : State))) from (hd 11 rfl).1) (congrArg Value.bool h178)) (fun fr1 g w' hb' hd r' => ?_) ?_
               · exact y_load_agg r' (cs := (planC x26)) (n := 6) rfl ((hP.below (dr hb')).cell (i := 2) rfl) ta23 rfl ⟨Below.refl _ _, rfl⟩
               refine eachF_want false r rfl rfl rfl (fun g w' hd => Eq.trans (show (g 11).v = .bool (x177 != (D.state_State_Word (⟨4, 0, 0⟩ : State))) from (hd 11 rfl).1) (congrArg Value.bool h178)) (fun fr1 g w' hb' hd r' => ?_) ?_
               · exact y_move r' (v := v134) rfl ⟨Below.refl _ _, rfl⟩
               refine eachF_want false r rfl rfl rfl (fun g w' hd => Eq.trans (show (g 11).v = .bool (x177 != (D.state_State_Word (⟨4, 0, 0⟩ : State))) from (hd 11 rfl).1) (congrArg Value.bool h178)) (fun fr1 g w' hb' hd r' => ?_) ?_
               · exact y_move r' (v := (I x170.2)) rfl ⟨Below.refl _ _, rfl⟩
               refine eachF_want false r rfl rfl rfl (fun g w' hd => Eq.trans (show (g 11).v = .bool (x177 != (D.state_State_Word (⟨4, 0, 0⟩ : State))) from (hd 11 rfl).1) (congrArg Value.bool h178)) (fun fr1 g w' hb' hd r' => ?_) ?_
               · exact y_rowAddr r' ((hP.below (dr hb')).row (i := 7) rfl).ro hx180 sl24 (hd 14 rfl).1 (hd 15 rfl).1 ⟨Below.refl _ _, rfl⟩
               refine eachF_want false r rfl rfl rfl (fun g w' hd => Eq.trans (show (g 11).v = .bool (x177 != (D.state_State_Word (⟨4, 0, 0⟩ : State))) from (hd 11 rfl).1) (congrArg Value.bool h178)) (fun fr1 g w' hb' hd r' => ?_) ?_
               · exact y_loadL_one r' (u := (I x180)) (RoAt.at_ (f := i64) (x := x180) ((hP.below (dr hb')).row (i := 7) rfl).ro (fun _ => rfl) hx180) (hd 16 rfl).1 to3 ⟨Below.refl _ _, rfl⟩
               refine eachF_want false r rfl rfl rfl (fun g w' hd => Eq.trans (show (g 11).v = .bool (x177 != (D.state_State_Word (⟨4, 0, 0⟩ : State))) from (hd 11 rfl).1) (congrArg Value.bool h178)) (fun fr1 g w' hb' hd r' => ?_) ?_
               · exact y_call r' (args := [(.agg (planC x26).toArray), (I x180), (I 0)]) (lc (hd 13 rfl).1 (lc (hd 17 rfl).1 (lc rfl l0))) cl30 ((c_plan_Plan_Field _ x26 x180 0).mono (by rintro _ w2 ⟨rfl, hb2⟩; exact ⟨_, rfl, hb2, rfl⟩))
               refine eachF_want false r rfl rfl rfl (fun g w' hd => Eq.trans (show (g 11).v = .bool (x177 != (D.state_State_Word (⟨4, 0, 0⟩ : State))) from (hd 11 rfl).1) (congrArg Value.bool h178)) (fun fr1 g w' hb' hd r' => ?_) ?_
               · exact y_call r' (args := [(.pointer (some ⟨mg29.mb, 0, none⟩)), (I 0), (I (D.plan_Plan_Field x26 x180 0))]) (lc (hd 12 rfl).1 (lc rfl (lc (hd 18 rfl).1 l0))) cl27 ((c_mem_Memory_Peek _ x128.2.2.2 ((hP.below (dr hb')).mem (i := 4) rfl) 0 (D.plan_Plan_Field x26 x180 0) hx181).mono (by rintro _ w2 ⟨rfl, hb2⟩; exact ⟨_, rfl, hb2, rfl⟩))
               refine eachF_want false r rfl rfl rfl (fun g w' hd => Eq.trans (show (g 11).v = .bool (x177 != (D.state_State_Word (⟨4, 0, 0⟩ : State))) from (hd 11 rfl).1) (congrArg Value.bool h178)) (fun fr1 g w' hb' hd r' => ?_) ?_
               · exact y_bin r' (u := (U x181)) (u' := (U 0)) (v := (.bool (x181 != 0))) (hd 19 rfl).1 rfl rfl rfl ⟨Below.refl _ _, rfl⟩
               refine fc r (fun fr1 g w' hb' hd r' => y_pick r' (b := false) (v := (.bool (x181 != 0))) (Eq.trans (show (g 11).v = .bool (x177 != (D.state_State_Word (⟨4, 0, 0⟩ : State))) from (hd 11 rfl).1) (congrArg Value.bool h178)) (hd 20 rfl).1 bz) ?_
               refine fc r (fun fr1 g w' hb' hd r' => y_move r' (hd 21 rfl).1 bz) ?_
               refine eachF_want false r rfl rfl rfl (fun g w' hd => Eq.trans (show (g 22).v = .bool (x181 != 0) from (hd 22 rfl).1) (congrArg Value.bool h182)) (fun fr1 g w' hb' hd r' => ?_) ?_
               · exact y_move r' (v := (.pointer (some ⟨mg29.mb, 0, none⟩))) rfl ⟨Below.refl _ _, rfl⟩
               refine eachF_want false r rfl rfl rfl (fun g w' hd => Eq.trans (show (g 22).v = .bool (x181 != 0) from (hd 22 rfl).1) (congrArg Value.bool h182)) (fun fr1 g w' hb' hd r' => ?_) ?_
               · exact y_load_agg r' (cs := (planC x26)) (n := 6) rfl ((hP.below (dr hb')).cell (i := 2) rfl) ta23 rfl ⟨Below.refl _ _, rfl⟩
               refine eachF_want false r rfl rfl rfl (fun g w' hd => Eq.trans (show (g 22).v = .bool (x181 != 0) from (hd 22 rfl).1) (congrArg Value.bool h182)) (fun fr1 g w' hb' hd r' => ?_) ?_
               · exact y_move r' (v := v134) rfl ⟨Below.refl _ _, rfl⟩
               refine eachF_want false r rfl rfl rfl (fun g w' hd => Eq.trans (show (g 22).v = .bool (x181 != 0) from (hd 22 rfl).1) (congrArg Value.bool h182)) (fun fr1 g w' hb' hd r' => ?_) ?_
               · exact y_move r' (v := (I x170.2)) rfl ⟨Below.refl _ _, rfl⟩
               refine eachF_want false r rfl rfl rfl (fun g w' hd => Eq.trans (show (g 22).v = .bool (x181 != 0) from (hd 22 rfl).1) (congrArg Value.bool h182)) (fun fr1 g w' hb' hd r' => ?_) ?_
               · exact y_rowAddr r' ((hP.below (dr hb')).row (i := 7) rfl).ro hx184 sl24 (hd 25 rfl).1 (hd 26 rfl).1 ⟨Below.refl _ _, rfl⟩
               refine eachF_want false r rfl rfl rfl (fun g w' hd => Eq.trans (show (g 22).v = .bool (x181 != 0) from (hd 22 rfl).1) (congrArg Value.bool h182)) (fun fr1 g w' hb' hd r' => ?_) ?_
               · exact y_loadL_one r' (u := (I x184)) (RoAt.at_ (f := i64) (x := x184) ((hP.below (dr hb')).row (i := 7) rfl).ro (fun _ => rfl) hx184) (hd 27 rfl).1 to3 ⟨Below.refl _ _, rfl⟩
               refine eachF_want false r rfl rfl rfl (fun g w' hd => Eq.trans (show (g 22).v = .bool (x181 != 0) from (hd 22 rfl).1) (congrArg Value.bool h182)) (fun fr1 g w' hb' hd r' => ?_) ?_
               · exact y_call r' (args := [(.agg (planC x26).toArray), (I x184), (I 1)]) (lc (hd 24 rfl).1 (lc (hd 28 rfl).1 (lc rfl l0))) cl30 ((c_plan_Plan_Field _ x26 x184 1).mono (by rintro _ w2 ⟨rfl, hb2⟩; exact ⟨_, rfl, hb2, rfl⟩))
               refine eachF_want false r rfl rfl rfl (fun g w' hd => Eq.trans (show (g 22).v = .bool (x181 != 0) from (hd 22 rfl).1) (congrArg Value.bool h182)) (fun fr1 g w' hb' hd r' => ?_) ?_
               · exact y_call r' (args := [(.pointer (some ⟨mg29.mb, 0, none⟩)), (I 0), (I (D.plan_Plan_Field x26 x184 1))]) (lc (hd 23 rfl).1 (lc rfl (lc (hd 29 rfl).1 l0))) cl27 ((c_mem_Memory_Peek _ x128.2.2.2 ((hP.below (dr hb')).mem (i := 4) rfl) 0 (D.plan_Plan_Field x26 x184 1) hx185).mono (by rintro _ w2 ⟨rfl, hb2⟩; exact ⟨_, rfl, hb2, rfl⟩))
               refine eachF_want false r rfl rfl rfl (fun g w' hd => Eq.trans (show (g 22).v = .bool (x181 != 0) from (hd 22 rfl).1) (congrArg Value.bool h182)) (fun fr1 g w' hb' hd r' => ?_) ?_
               · exact y_bin r' (u := (U x185)) (u' := (U 0)) (v := (.bool (x185 != 0))) (hd 30 rfl).1 rfl rfl rfl ⟨Below.refl _ _, rfl⟩
               refine fc r (fun fr1 g w' hb' hd r' => y_pick r' (b := false) (v := (.bool (x185 != 0))) (Eq.trans (show (g 22).v = .bool (x181 != 0) from (hd 22 rfl).1) (congrArg Value.bool h182)) (hd 31 rfl).1 bz) ?_
               refine fc r (fun fr1 g w' hb' hd r' => y_move r' (hd 32 rfl).1 bz) ?_
               refine eachF_want false r rfl rfl rfl (fun g w' hd => Eq.trans (show (g 33).v = .bool (x185 != 0) from (hd 33 rfl).1) (congrArg Value.bool h186)) (fun fr1 g w' hb' hd r' => ?_) ?_
               · exact y_move r' (v := (.pointer (some ⟨mg29.mb, 0, none⟩))) rfl ⟨Below.refl _ _, rfl⟩
               refine eachF_want false r rfl rfl rfl (fun g w' hd => Eq.trans (show (g 33).v = .bool (x185 != 0) from (hd 33 rfl).1) (congrArg Value.bool h186)) (fun fr1 g w' hb' hd r' => ?_) ?_
               · exact y_load_agg r' (cs := (planC x26)) (n := 6) rfl ((hP.below (dr hb')).cell (i := 2) rfl) ta23 rfl ⟨Below.refl _ _, rfl⟩
               refine eachF_want false r rfl rfl rfl (fun g w' hd => Eq.trans (show (g 33).v = .bool (x185 != 0) from (hd 33 rfl).1) (congrArg Value.bool h186)) (fun fr1 g w' hb' hd r' => ?_) ?_
               · exact y_move r' (v := v134) rfl ⟨Below.refl _ _, rfl⟩
               refine eachF_want false r rfl rfl rfl (fun g w' hd => Eq.trans (show (g 33).v = .bool (x185 != 0) from (hd 33 rfl).1) (congrArg Value.bool h186)) (fun fr1 g w' hb' hd r' => ?_) ?_
               · exact y_move r' (v := (I x170.2)) rfl ⟨Below.refl _ _, rfl⟩
               refine eachF_want false r rfl rfl rfl (fun g w' hd => Eq.trans (show (g 33).v = .bool (x185 != 0) from (hd 33 rfl).1) (congrArg Value.bool h186)) (fun fr1 g w' hb' hd r' => ?_) ?_
               · exact y_rowAddr r' ((hP.below (dr hb')).row (i := 7) rfl).ro hx188 sl24 (hd 36 rfl).1 (hd 37 rfl).1 ⟨Below.refl _ _, rfl⟩
               refine eachF_want false r rfl rfl rfl (fun g w' hd => Eq.trans (show (g 33).v = .bool (x185 != 0) from (hd 33 rfl).1) (congrArg Value.bool h186)) (fun fr1 g w' hb' hd r' => ?_) ?_
               · exact y_loadL_one r' (u := (I x188)) (RoAt.at_ (f := i64) (x := x188) ((hP.below (dr hb')).row (i := 7) rfl).ro (fun _ => rfl) hx188) (hd 38 rfl).1 to3 ⟨Below.refl _ _, rfl⟩
               refine eachF_want false r rfl rfl rfl (fun g w' hd => Eq.trans (show (g 33).v = .bool (x185 != 0) from (hd 33 rfl).1) (congrArg Value.bool h186)) (fun fr1 g w' hb' hd r' => ?_) ?_
               · exact y_call r' (args := [(.agg (planC x26).toArray), (I x188), (I 2)]) (lc (hd 35 rfl).1 (lc (hd 39 rfl).1 (lc rfl l0))) cl30 ((c_plan_Plan_Field _ x26 x188 2).mono (by rintro _ w2 ⟨rfl, hb2⟩; exact ⟨_, rfl, hb2, rfl⟩))
               refine eachF_want false r rfl rfl rfl (fun g w' hd => Eq.trans (show (g 33).v = .bool (x185 != 0) from (hd 33 rfl).1) (congrArg Value.bool h186)) (fun fr1 g w' hb' hd r' => ?_) ?_
               · exact y_call r' (args := [(.pointer (some ⟨mg29.mb, 0, none⟩)), (I 0), (I (D.plan_Plan_Field x26 x188 2))]) (lc (hd 34 rfl).1 (lc rfl (lc (hd 40 rfl).1 l0))) cl27 ((c_mem_Memory_Peek _ x128.2.2.2 ((hP.below (dr hb')).mem (i := 4) rfl) 0 (D.plan_Plan_Field x26 x188 2) hx189).mono (by rintro _ w2 ⟨rfl, hb2⟩; exact ⟨_, rfl, hb2, rfl⟩))
               refine eachF_want false r rfl rfl rfl (fun g w' hd => Eq.trans (show (g 33).v = .bool (x185 != 0) from (hd 33 rfl).1) (congrArg Value.bool h186)) (fun fr1 g w' hb' hd r' => ?_) ?_
               · exact y_bin r' (u := (U x189)) (u' := (U 0)) (v := (.bool (x189 != 0))) (hd 41 rfl).1 rfl rfl rfl ⟨Below.refl _ _, rfl⟩
               refine fc r (fun fr1 g w' hb' hd r' => y_pick r' (b := false) (v := (.bool (x189 != 0))) (Eq.trans (show (g 33).v = .bool (x185 != 0) from (hd 33 rfl).1) (congrArg Value.bool h186)) (hd 42 rfl).1 bz) ?_
               exact eachF_nil
              ·
               intro fr gg w190 hb hΦ hap r
               have r := r.congr (sc ((hΦ 43 rfl).1) (sc ((hΦ 42 rfl).1) (sc ((hΦ 41 rfl).1) (sc ((hΦ 40 rfl).1) (sc ((hΦ 39 rfl).1) (sc ((hΦ 38 rfl).1) (sc ((hΦ 37 rfl).1) (sc ((hΦ 36 rfl).1) (sc ((hΦ 35 rfl).1) (sc ((hΦ 34 rfl).1) (sc ((hΦ 33 rfl).1) (sc ((hΦ 32 rfl).1) (sc ((hΦ 31 rfl).1) (sc ((hΦ 30 rfl).1) (sc ((hΦ 29 rfl).1) (sc ((hΦ 28 rfl).1) (sc ((hΦ 27 rfl).1) (sc ((hΦ 26 rfl).1) (sc ((hΦ 25 rfl).1) (sc ((hΦ 24 rfl).1) (sc ((hΦ 23 rfl).1) (sc ((hΦ 22 rfl).1) (sc ((hΦ 21 rfl).1) (sc ((hΦ 20 rfl).1) (sc ((hΦ 19 rfl).1) (sc ((hΦ 18 rfl).1) (sc ((hΦ 17 rfl).1) (sc ((hΦ 16 rfl).1) (sc ((hΦ 15 rfl).1) (sc ((hΦ 14 rfl).1) (sc ((hΦ 13 rfl).1) (sc ((hΦ 12 rfl).1) (sc ((hΦ 11 rfl).1) (sc ((hΦ 10 rfl).1) (sc ((hΦ 9 rfl).1) (sc ((hΦ 8 rfl).1) (sc ((hΦ 7 rfl).1) (sc ((hΦ 6 rfl).1) (sc ((hΦ 5 rfl).1) (sc ((hΦ 4 rfl).1) (sc ((hΦ 3 rfl).1) (sc ((hΦ 2 rfl).1) (sc ((hΦ 1 rfl).1) (sc ((hΦ 0 rfl).1) rfl))))))))))))))))))))))))))))))))))))))))))))
               have hP : Post No [roK 3 1 i64 a1_v a1, roK 4 1 boolE γ120 x119.1, cellC b1 ((planC x26)).toArray 23, cellC b18 ((stateC (⟨3, 2, 1⟩ : State))).toArray 30, memK mg29 x128.2.2.2, rowK 3 1 i64 γ77 x76.2.1, rowK 3 1 i64 v132 x130.1, rowK 3 1 i64 v134 x130.2, rowK 3 1 i64 γ148 x147.1] w0 w190 := hP.below hb
               exact nxy175 (x189 != 0) () _ _ _ hD r (hs_cons rfl (hs_cons rfl (hs_cons rfl (hs_cons rfl (hs_cons rfl (hs_cons rfl (hs_cons rfl (hs_cons rfl (hs_cons rfl (hs_cons rfl (hs_cons rfl (hs_cons rfl (hs_cons rfl (hs_cons rfl (hs_cons rfl (hs_cons rfl (hs_cons rfl (hs_cons rfl (hs_cons rfl (hs_cons rfl (hs_cons rfl (hs_cons rfl (hs_cons rfl hs_nil))))))))))))))))))))))) (hP.pick [0, 1, 2, 3, 4, 5, 6, 7, 8] rfl rfl)
          ·
           rintro x191 γ192 fr w193 g r hP hD
           have hP : Post No [roK 3 1 i64 a1_v a1, roK 4 1 boolE γ120 x119.1, cellC b1 ((planC x26)).toArray 23, cellC b18 ((stateC (⟨3, 2, 1⟩ : State))).toArray 30, memK mg29 x128.2.2.2, rowK 3 1 i64 γ77 x76.2.1, rowK 3 1 i64 v132 x130.1, rowK 3 1 i64 v134 x130.2, rowK 3 1 i64 γ148 x147.1] w0 w193 := hP
           refine wp_cond_split (t := x191) (r.ev rfl) (fun h194 => ?_) (fun h194 => ?_)
           ·
            have hD := (cond_t h194).symm.trans hD
            refine wsr ?_
            refine seq_val (.bool false) r (fun R => y_assign r rfl) rfl fun fr r => ?_
            refine wn ?_
            refine wp_ret ?_
            refine rty172 false _ _ hD fun hD => ?_
            have hv : false = res := Option.some.inj hD
            try dsimp only [Exit.then, Exit.inBlock]
            refine ret_tmp (fn := Tryz.f5) r (t := 6) rfl (v := (.bool false)) rfl ?_
            subst hv
            exact ⟨rfl, hP.chg.below⟩
           ·
            have hD := (cond_f h194).symm.trans hD
            refine wp_skip ?_
            refine wp_region_lit ?_
            refine seq_val (I x170.2) r (fun R => y_move r rfl) rfl fun fr r => ?_
            refine seq_val _ r (fun R => y_bin r rfl rfl rfl rfl) rfl fun fr r => ?_
            refine seq_val (I (W (x170.2 + 1))) r (fun R => y_assign r rfl) rfl fun fr r => ?_
            refine wn ?_
            exact nxy172 (x170.1, (W (x170.2 + 1))) () _ _ _ hD r (hs_cons rfl (hs_cons rfl (hs_cons rfl (hs_cons rfl (hs_cons rfl (hs_cons rfl (hs_cons rfl (hs_cons rfl (hs_cons rfl (hs_cons rfl (hs_cons rfl (hs_cons rfl (hs_cons rfl (hs_cons rfl (hs_cons rfl (hs_cons rfl (hs_cons rfl (hs_cons rfl (hs_cons rfl (hs_cons rfl (hs_cons rfl hs_nil))))))))))))))))))))) (hP.pick [0, 1, 2, 3, 4, 5, 6, 7, 8] rfl rfl)
         ·
          have hD := (cond_f h174).symm.trans hD
          refine wp_exit ?_
          exact bky172 (x170.1, x170.2) () _ _ _ hD r (hs_cons rfl (hs_cons rfl (hs_cons rfl (hs_cons rfl (hs_cons rfl (hs_cons rfl (hs_cons rfl (hs_cons rfl (hs_cons rfl (hs_cons rfl (hs_cons rfl (hs_cons rfl (hs_cons rfl (hs_cons rfl (hs_cons rfl (hs_cons rfl (hs_cons rfl (hs_cons rfl (hs_cons rfl (hs_cons rfl (hs_cons rfl hs_nil))))))))))))))))))))) (hP.pick [0, 1, 2, 3, 4, 5, 6, 7, 8] rfl rfl)
        ·
         rintro x195 γ196 fr w197 g r hP hD
         have hP : Post No [roK 3 1 i64 a1_v a1, roK 4 1 boolE γ120 x119.1, cellC b1 ((planC x26)).toArray 23, cellC b18 ((stateC (⟨3, 2, 1⟩ : State))).toArray 30, memK mg29 x128.2.2.2, rowK 3 1 i64 γ77 x76.2.1, rowK 3 1 i64 v132 x130.1, rowK 3 1 i64 v134 x130.2, rowK 3 1 i64 γ148 x147.1] w0 w197 := hP
         refine wsr ?_
         refine seq_val (.bool true) r (fun R => y_assign r rfl) rfl fun fr r => ?_
         refine wn ?_
         refine wp_ret ?_
         have hv : true = res := Option.some.inj hD
         try dsimp only [Exit.then, Exit.inBlock]
         refine ret_tmp (fn := Tryz.f5) r (t := 6) rfl (v := (.bool true)) rfl ?_
         subst hv
         exact ⟨rfl, hP.chg.below⟩

end Go.Proofs.YtphnnjiaiemkcaaGreat.Wk
