/- Written by a program of ours (wip/gen.py): a law -/
import Derived.Test.YtphnnjiaiemkcaaGreatQakL12
set_option linter.unusedVariables false
set_option maxRecDepth 20000
set_option maxHeartbeats 2000000
namespace Go.Proofs.YtphnnjiaiemkcaaGreat.Wk
open Go.RowKit
theorem cl16 : callable Tryz.prog 16 = true := by kernel_rfl

theorem cl20 : callable Tryz.prog 20 = true := by kernel_rfl

theorem cl31 : callable Tryz.prog 31 = true := by kernel_rfl

theorem cl32 : callable Tryz.prog 32 = true := by kernel_rfl

theorem cl36 : callable Tryz.prog 36 = true := by kernel_rfl

theorem eg70 : Tryz.prog.eqGuardType Tryz.prog.depth 70 = false := by kernel_rfl

theorem eqs70 (x y : Grant) (w : World) : (binOp .eql 70 (.agg (grantC x).toArray) (.agg (grantC y).toArray)).run Tryz.prog w = .ok (.bool (x == y)) w ∧ (binOp .neq 70 (.agg (grantC x).toArray) (.agg (grantC y).toArray)).run Tryz.prog w = .ok (.bool (!(x == y))) w :=
  eq_ints [(.i64, x.node, y.node), (.i64, x.gen, y.gen), (.i64, x.e, y.e)] (by kernel_rfl) (by kernel_rfl) (by kernel_rfl) (by kernel_rfl) (by cases x; cases y; rw [Bool.eq_iff_iff]; simp)

theorem ti5 : intTy Tryz.prog 5 .u8 = true := by kernel_rfl

def D.cubiclelaw12_AllocKinds (fu : Nat) (a0 : Plan) (a1 : Int) (a2 : Int) : Option (Bool) := (Option.bind ((D.cubiclelaw12_awake fu ).bind (fun (x6 : Bool) => (bif (!x6) then (some true) else (some (!(D.cubiclelaw12_few a0)))))) (fun (x10 : Bool) => (bif x10 then ((D.cubiclelaw12_awake fu ).bind (fun (x14 : Bool) => (some x14))) else ((D.cubiclelaw09_Laid fu a0).bind (fun (x16 : Mem) => (loopThen (fun (x24 : Bool × Int × Mem × Grant) => ((guardI (decide (a0.nodes ≠ 0))).bind (fun (x28 : Unit) => (bif (decide (x24.2.1 ≤ ((IntKind.i64.wrap a2).tmod a0.nodes))) then ((D.mem_Memory_Cap fu x24.2.2.1 0).bind (fun (x34 : Cap) => ((D.prog_Run_Grant fu (fu, (D.alloc_New (fu + 1) a0 0 (IntKind.i64.wrap (a1.tmod 3)))) x24.2.2.1 x34 99).bind (fun (x36 : Grant × Int × Bool × Mem) => (Option.bind (bif (!(x36.1 == (⟨x24.2.1, 0, 0⟩ : Grant))) then (some true) else ((D.mem_Memory_Peek fu x36.2.2.2 0 (D.plan_Plan_State a0 x24.2.1)).bind (fun (x49 : Int) => (some (x49 != (D.state_State_Word (⟨0, 1, (IntKind.i64.wrap (a1.tmod 3))⟩ : State))))))) (fun (x52 : Bool) => (bif x52 then (some (Lp.ret false)) else (some (Lp.next (x24.1, (IntKind.i64.wrap (x24.2.1 + 1)), x36.2.2.2, x36.1)))))))))) else (some (Lp.brk (x24.1, x24.2.1, x24.2.2.1, x24.2.2.2))))))) fu (false, 0, x16, (⟨0, 0, 0⟩ : Grant)) (fun (x56 : Bool × Int × Mem × Grant) => (bif ((a2.tmod 2) == 0) then ((D.mem_Memory_Cap fu x56.2.2.1 0).bind (fun (x64 : Cap) => ((D.prog_Run_int fu (fu, (D.alloc_Retire (fu + 1) a0 0 x56.2.2.2.node)) x56.2.2.1 x64 99).bind (fun (x66 : Int × Int × Bool × Mem) => ((D.retire_List fu a0 x66.2.2.2 0 0).bind (fun (x68 : List Int) => (Option.bind ((D.mem_Memory_Peek fu x66.2.2.2 0 (D.plan_Plan_State a0 x56.2.2.2.node)).bind (fun (x73 : Int) => (bif (x73 == (D.state_State_Word (⟨0, 2, (IntKind.i64.wrap (a1.tmod 3))⟩ : State))) then (bif ((x68.length : Int) == 1) then ((getI x68 0).bind (fun (x76 : Int) => (some (x76 == x56.2.2.2.node)))) else (some false)) else (some false)))) (fun (x80 : Bool) => (some x80))))))))) else ((D.mem_Memory_Cap fu x56.2.2.1 0).bind (fun (x87 : Cap) => ((D.prog_Run_int fu (fu, (D.alloc_Stash (fu + 1) a0 0 x56.2.2.2.node)) x56.2.2.1 x87 99).bind (fun (x89 : Int × Int × Bool × Mem) => ((D.retire_List fu a0 x89.2.2.2 0 0).bind (fun (x91 : List Int) => (Option.bind (bif x89.2.2.1 then (bif (x89.1 == x56.2.2.2.node) then (bif (x89.2.1 == 3) then ((D.mem_Memory_Peek fu x89.2.2.2 0 (D.plan_Plan_State a0 x56.2.2.2.node)).bind (fun (x99 : Int) => (bif (x99 == (D.state_State_Word (⟨0, 1, (IntKind.i64.wrap (a1.tmod 3))⟩ : State))) then (bif ((x91.length : Int) == 1) then ((getI x91 0).bind (fun (x102 : Int) => (some (x102 == x56.2.2.2.node)))) else (some false)) else (some false)))) else (some false)) else (some false)) else (some false)) (fun (x109 : Bool) => (some x109)))))))))))))))))

theorem c_cubiclelaw12_AllocKinds {fu : Nat} (w0 : World) (a0 : Plan) (a1 : Int) (a2 : Int) {res : Bool} (hD : D.cubiclelaw12_AllocKinds fu a0 a1 a2 = some res) :
    Calls Tryz.prog 9 #[.agg (planC a0).toArray, .int .u8 a1, .int .u8 a2] w0 (PureRes (.bool res) w0) := by
 refine enter Tryz.func9 rfl 158 rfl rfl fun fr r => ?_
 have hP : Post No [] w0 w0 := Post.nil w0
 unfold D.cubiclelaw12_AllocKinds at hD
 refine wsr ?_
 refine seq_new (.cells ((planC a0)).toArray 23 (0, 0)) r (fun R => y_box r (v := (.agg (planC a0).toArray)) rfl) rfl fun fr b1 w2 n3 r => ?_
 have hP : Post No [cellC b1 ((planC a0)).toArray 23] w0 w2 := hP.new n3
 refine seq_val (.bool false) r (fun R => y_assign r rfl) rfl fun fr r => ?_
 refine wn ?_
 refine wp_seq ?_
 refine wp_seq ?_
 refine wp_joinG (N := 158) (Y := Bool) (G := Unit) (fun x γ => [(0, (.agg (planC a0).toArray)), (1, (.int .u8 a1)), (2, (.int .u8 a2)), (3, (.pointer (some ⟨b1, 0, none⟩))), (6, (.bool false)), (25, (.bool x))]) (fun x γ w => Post No [cellC b1 ((planC a0)).toArray 23] w0 w) hD ?_ ?_
 ·
  rintro y5 RPy5 nxy5 hD
  refine wp_region_lit ?_
  obtain ⟨x6, hx6, hD⟩ := bindD_elim hD
  refine seq_call r (c_cubiclelaw12_awake w2  hx6) (fun R hc => y_call r rfl cl31 hc) rfl ?_
  rintro _ w7 ⟨rfl, hb⟩
  refine ⟨_, rfl, fun fr r => ?_⟩
  have hP : Post No [cellC b1 ((planC a0)).toArray 23] w0 w7 := hP.below hb
  refine seq_val (.bool (!x6)) r (fun R => y_un r (u := (.bool x6)) rfl rfl) rfl fun fr r => ?_
  refine seq_val (.bool (!x6)) r (fun R => y_move r rfl) rfl fun fr r => ?_
  refine seq_split (!x6) (fun h8 => ?_) (fun h8 => ?_)
  ·
   have hD := (cond_t h8).symm.trans hD
   refine s0 r h8 fun fr r => ?_
   refine s0 r h8 fun fr r => ?_
   refine s0 r h8 fun fr r => ?_
   refine seq_val (.bool true) r (fun R => y_pick r (b := true) (congrArg Value.bool h8) rfl) rfl fun fr r => ?_
   refine wn ?_
   exact nxy5 true () _ _ _ hD r (hs_cons rfl (hs_cons rfl (hs_cons rfl (hs_cons rfl (hs_cons rfl (hs_cons rfl hs_nil)))))) (hP.pick [0] rfl rfl)
  ·
   have hD := (cond_f h8).symm.trans hD
   refine s1 r h8 ?_
   refine seq_val (.agg (planC a0).toArray) r (fun R => y_load_agg r (cs := (planC a0)) (n := 6) rfl (hP.cell (i := 0) rfl) ta23 rfl) rfl fun fr r => ?_
   refine s1 r h8 ?_
   refine seq_call r (c_cubiclelaw12_few w7 a0) (fun R hc => y_call r rfl cl32 hc) rfl ?_
   rintro _ w9 ⟨rfl, hb⟩
   refine ⟨_, rfl, fun fr r => ?_⟩
   have hP : Post No [cellC b1 ((planC a0)).toArray 23] w0 w9 := hP.below hb
   refine s1 r h8 ?_
   refine seq_val (.bool (!(D.cubiclelaw12_few a0))) r (fun R => y_un r (u := (.bool (D.cubiclelaw12_few a0))) rfl rfl) rfl fun fr r => ?_
   refine seq_val (.bool (!(D.cubiclelaw12_few a0))) r (fun R => y_pick r (b := false) (congrArg Value.bool h8) rfl) rfl fun fr r => ?_
   refine wn ?_
   exact nxy5 (!(D.cubiclelaw12_few a0)) () _ _ _ hD r (hs_cons rfl (hs_cons rfl (hs_cons rfl (hs_cons rfl (hs_cons rfl (hs_cons rfl hs_nil)))))) (hP.pick [0] rfl rfl)
 ·
  rintro x10 γ11 fr w12 g r hP hD
  have hP : Post No [cellC b1 ((planC a0)).toArray 23] w0 w12 := hP
  refine wp_cond_split (t := x10) (r.ev rfl) (fun h13 => ?_) (fun h13 => ?_)
  ·
   have hD := (cond_t h13).symm.trans hD
   refine wsr ?_
   obtain ⟨x14, hx14, hD⟩ := bindD_elim hD
   refine seq_call r (c_cubiclelaw12_awake w12  hx14) (fun R hc => y_call r rfl cl31 hc) rfl ?_
   rintro _ w15 ⟨rfl, hb⟩
   refine ⟨_, rfl, fun fr r => ?_⟩
   have hP : Post No [cellC b1 ((planC a0)).toArray 23] w0 w15 := hP.below hb
   refine seq_val (.bool x14) r (fun R => y_assign r rfl) rfl fun fr r => ?_
   refine wn ?_
   refine wp_ret ?_
   have hv : x14 = res := Option.some.inj hD
   try dsimp only [Exit.then, Exit.inBlock]
   refine ret_tmp (fn := Tryz.f9) r (t := 6) rfl (v := (.bool x14)) rfl ?_
   subst hv
   exact ⟨rfl, hP.chg.below⟩
  ·
   have hD := (cond_f h13).symm.trans hD
   refine wp_skip ?_
   refine wsr ?_
   refine seq_val (.agg (planC a0).toArray) r (fun R => y_load_agg r (cs := (planC a0)) (n := 6) rfl (hP.cell (i := 0) rfl) ta23 rfl) rfl fun fr r => ?_
   obtain ⟨x16, hx16, hD⟩ := bindD_elim hD
   refine seq_call r (c_cubiclelaw09_Laid w12 a0 hx16) (fun R hc => y_call r rfl cl33 hc) rfl ?_
   rintro _ w17 ⟨mg18, rfl, hq⟩
   refine ⟨_, rfl, fun fr r => ?_⟩
   have hP : Post No [cellC b1 ((planC a0)).toArray 23, memK mg18 x16] w0 w17 := hP.add hq
   refine seq_val (.pointer (some ⟨mg18.mb, 0, none⟩)) r (fun R => y_assign r rfl) rfl fun fr r => ?_
   refine wn ?_
   refine wp_seq ?_
   refine wsr ?_
   refine seq_val (.pointer (some ⟨mg18.mb, 0, none⟩)) r (fun R => y_move r rfl) rfl fun fr r => ?_
   refine seq_val _ r (fun R => y_bin r rfl rfl rfl rfl) rfl fun fr r => ?_
   refine wn ?_
   refine wp_cond_split (t := false) (r.ev rfl) (fun h => absurd ((rfl : false = _).symm.trans h) (by decide)) (fun _ => ?_)
   refine wp_skip ?_
   refine wsr ?_
   refine seq_val (.int .u8 a1) r (fun R => y_move r rfl) rfl fun fr r => ?_
   refine seq_val _ r (fun R => y_bin r rfl rfl rfl rfl) rfl fun fr r => ?_
   refine seq_val (I (W (a1.tmod 3))) r (fun R => y_convert r rfl ti5 ti3) rfl fun fr r => ?_
   refine seq_val (I (W (a1.tmod 3))) r (fun R => y_assign r rfl) rfl fun fr r => ?_
   refine wn ?_
   refine wsr ?_
   refine seq_new (.cells ((grantC (⟨0, 0, 0⟩ : Grant))).toArray 70 (0, 0)) r (fun R => y_alloc tz70) rfl fun fr b20 w21 n22 r => ?_
   have hP : Post No [cellC b1 ((planC a0)).toArray 23, memK mg18 x16, cellC b20 ((grantC (⟨0, 0, 0⟩ : Grant))).toArray 70] w0 w21 := hP.new n22
   refine wn ?_
   refine wp_seq ?_
   refine wsr ?_
   refine seq_val (I 0) r (fun R => y_assign r rfl) rfl fun fr r => ?_
   refine wn ?_
   refine wp_loopG (X := Bool × Int × Mem × Grant) (G := Unit) (x0 := (false, 0, x16, (⟨0, 0, 0⟩ : Grant))) (fun x γ => [(0, (.agg (planC a0).toArray)), (1, (.int .u8 a1)), (2, (.int .u8 a2)), (3, (.pointer (some ⟨b1, 0, none⟩))), (25, (.bool x10)), (7, (.pointer (some ⟨mg18.mb, 0, none⟩))), (30, (.bool false)), (8, (I (W (a1.tmod 3)))), (9, (.pointer (some ⟨b20, 0, none⟩))), (6, (.bool x.1)), (10, (I x.2.1))]) (fun x γ w => Post No [cellC b1 ((planC a0)).toArray 23, memK mg18 x.2.2.1, cellC b20 ((grantC x.2.2.2)).toArray 70] w0 w) () r (hs_cons rfl (hs_cons rfl (hs_cons rfl (hs_cons rfl (hs_cons rfl (hs_cons rfl (hs_cons rfl (hs_cons rfl (hs_cons rfl (hs_cons rfl (hs_cons rfl hs_nil))))))))))) hP hD ?_ ?_
   ·
    rintro x24 γ25 fr w27 g y26 RPy26 nxy26 bky26 rty26 r hP hD
    have hP : Post No [cellC b1 ((planC a0)).toArray 23, memK mg18 x24.2.2.1, cellC b20 ((grantC x24.2.2.2)).toArray 70] w0 w27 := hP
    refine wp_seq ?_
    refine wsr ?_
    refine seq_val (I x24.2.1) r (fun R => y_move r rfl) rfl fun fr r => ?_
    refine seq_val (.int .u8 a2) r (fun R => y_move r rfl) rfl fun fr r => ?_
    refine seq_val (I (W a2)) r (fun R => y_convert r rfl ti5 ti3) rfl fun fr r => ?_
    refine seq_val _ r (fun R => y_fieldAddr r (o := 0) rfl fo23_0) rfl fun fr r => ?_
    refine seq_val _ r (fun R => y_load_one r rfl (hP.cell (i := 0) rfl) to3 rfl) rfl fun fr r => ?_
    obtain ⟨x28, hx28, hD⟩ := bindD_elim hD
    refine seq_val _ r (fun R => y_bin r rfl rfl rfl (bin_rem (guardI_eq hx28))) rfl fun fr r => ?_
    refine seq_val _ r (fun R => y_bin r rfl rfl rfl rfl) rfl fun fr r => ?_
    refine wn ?_
    refine wp_cond_split (t := (decide (x24.2.1 ≤ ((W a2).tmod a0.nodes)))) (r.ev rfl) (fun h29 => ?_) (fun h29 => ?_)
    ·
     have hD := (cond_t h29).symm.trans hD
     refine wp_skip ?_
     refine wp_seq ?_
     refine wp_block ?_
     refine wsr ?_
     refine seq_val (.agg (planC a0).toArray) r (fun R => y_load_agg r (cs := (planC a0)) (n := 6) rfl (hP.cell (i := 0) rfl) ta23 rfl) rfl fun fr r => ?_
     refine seq_val (I (W (a1.tmod 3))) r (fun R => y_move r rfl) rfl fun fr r => ?_
     refine seq_call r (c_alloc_New (F := No) (n := fu) (j := fu + 1) (fun _ h => h.elim) (by omega) a0 0 (W (a1.tmod 3))) (fun R hc => y_call r rfl cl35 hc) rfl ?_
     rintro _ w30 ⟨v31, rfl, hb, hr32⟩
     refine ⟨_, rfl, fun fr r => ?_⟩
     have hP : Post No [cellC b1 ((planC a0)).toArray 23, memK mg18 x24.2.2.1, cellC b20 ((grantC x24.2.2.2)).toArray 70, progK Tryz.prog encGrant (fu, (D.alloc_New (fu + 1) a0 0 (W (a1.tmod 3)))) v31 (rg w27.heap.size w30.heap.size)] w0 w30 := hP.addProg hb hr32
     refine seq_val (.pointer (some ⟨mg18.mb, 0, none⟩)) r (fun R => y_move r rfl) rfl fun fr r => ?_
     refine seq_val (.pointer (some ⟨mg18.mb, 0, none⟩)) r (fun R => y_move r rfl) rfl fun fr r => ?_
     obtain ⟨x34, hx34, hD⟩ := bindD_elim hD
     refine seq_call r (c_mem_Memory_Cap w30 x24.2.2.1 (hP.mem (i := 1) rfl) 0 hx34) (fun R hc => y_call r rfl cl18 hc) rfl ?_
     rintro _ w35 ⟨rfl, hb⟩
     refine ⟨_, rfl, fun fr r => ?_⟩
     have hP : Post No [cellC b1 ((planC a0)).toArray 23, memK mg18 x24.2.2.1, cellC b20 ((grantC x24.2.2.2)).toArray 70, progK Tryz.prog encGrant (fu, (D.alloc_New (fu + 1) a0 0 (W (a1.tmod 3)))) v31 (rg w27.heap.size w30.heap.size)] w0 w35 := hP.below hb
     obtain ⟨x36, hx36, hD⟩ := bindD_elim hD
     refine seq_call r (c_prog_Run_Grant w35 (fu, (D.alloc_New (fu + 1) a0 0 (W (a1.tmod 3)))) x24.2.2.1 x34 99 (hP.sep.pk [3, 1] rfl rfl) hx36) (fun R hc => y_call r rfl cl34 hc) rfl ?_
     rintro _ w37 ⟨rfl, hq⟩
     refine ⟨_, rfl, fun fr r => ?_⟩
     have hP : Post No [cellC b1 ((planC a0)).toArray 23, memK mg18 x36.2.2.2, cellC b20 ((grantC x24.2.2.2)).toArray 70, progK Tryz.prog encGrant (fu, (D.alloc_New (fu + 1) a0 0 (W (a1.tmod 3)))) v31 (rg w27.heap.size w30.heap.size)] w0 w37 := hP.setN (i := 1) rfl hq
     refine seq_val (.tuple #[(.agg (grantC x36.1).toArray), (I x36.2.1), (.bool x36.2.2.1)]) r (fun R => y_move r rfl) rfl fun fr r => ?_
     refine seq_val (.agg (grantC x36.1).toArray) r (fun R => y_extract r (vs := #[(.agg (grantC x36.1).toArray), (I x36.2.1), (.bool x36.2.2.1)]) rfl rfl) rfl fun fr r => ?_
     refine seq_val (I x36.2.1) r (fun R => y_extract r (vs := #[(.agg (grantC x36.1).toArray), (I x36.2.1), (.bool x36.2.2.1)]) rfl rfl) rfl fun fr r => ?_
     refine seq_val (.bool x36.2.2.1) r (fun R => y_extract r (vs := #[(.agg (grantC x36.1).toArray), (I x36.2.1), (.bool x36.2.2.1)]) rfl rfl) rfl fun fr r => ?_
     refine seq_new (.cells ((grantC (⟨0, 0, 0⟩ : Grant))).toArray 70 (0, 0)) r (fun R => y_alloc tz70) rfl fun fr b38 w39 n40 r => ?_
     have hP : Post No [cellC b1 ((planC a0)).toArray 23, memK mg18 x36.2.2.2, cellC b20 ((grantC x24.2.2.2)).toArray 70, progK Tryz.prog encGrant (fu, (D.alloc_New (fu + 1) a0 0 (W (a1.tmod 3)))) v31 (rg w27.heap.size w30.heap.size), cellC b38 ((grantC (⟨0, 0, 0⟩ : Grant))).toArray 70] w0 w39 := hP.new n40
     refine seq_upd (.cells ((grantC x36.1)).toArray 70 (0, 0)) r (fun R => y_store r (o := 0) (v := (.agg (grantC x36.1).toArray)) rfl rfl (hP.cell (i := 4) rfl) ts70 (Nat.le_of_ble_eq_true rfl) rfl rfl) rfl fun fr w42 u43 r => ?_
     have hP : Post No [cellC b1 ((planC a0)).toArray 23, memK mg18 x36.2.2.2, cellC b20 ((grantC x24.2.2.2)).toArray 70, progK Tryz.prog encGrant (fu, (D.alloc_New (fu + 1) a0 0 (W (a1.tmod 3)))) v31 (rg w27.heap.size w30.heap.size), cellC b38 ((grantC x36.1)).toArray 70] w0 w42 := hP.upd (i := 4) rfl u43
     refine seq_val (I x36.2.1) r (fun R => y_assign r rfl) rfl fun fr r => ?_
     refine seq_val (.bool x36.2.2.1) r (fun R => y_assign r rfl) rfl fun fr r => ?_
     refine wn ?_
     refine wsr ?_
     refine seq_val (.agg (grantC x36.1).toArray) r (fun R => y_load_agg r (cs := (grantC x36.1)) (n := 3) rfl (hP.cell (i := 4) rfl) ta70 rfl) rfl fun fr r => ?_
     refine seq_upd (.cells ((grantC x36.1)).toArray 70 (0, 0)) r (fun R => y_store r (o := 0) (v := (.agg (grantC x36.1).toArray)) rfl rfl (hP.cell (i := 2) rfl) ts70 (Nat.le_of_ble_eq_true rfl) rfl rfl) rfl fun fr w44 u45 r => ?_
     have hP : Post No [cellC b1 ((planC a0)).toArray 23, memK mg18 x36.2.2.2, cellC b20 ((grantC x36.1)).toArray 70, progK Tryz.prog encGrant (fu, (D.alloc_New (fu + 1) a0 0 (W (a1.tmod 3)))) v31 (rg w27.heap.size w30.heap.size), cellC b38 ((grantC x36.1)).toArray 70] w0 w44 := hP.upd (i := 2) rfl u45
     refine wn ?_
     refine wp_seq ?_
     have hP : Post No [cellC b1 ((planC a0)).toArray 23, memK mg18 x36.2.2.2, cellC b20 ((grantC x36.1)).toArray 70, cellC b38 ((grantC x36.1)).toArray 70] w0 w44 := hP.pick [0, 1, 2, 4] rfl rfl
     refine wp_joinG (N := 158) (Y := Bool) (G := Unit) (fun x γ => [(0, (.agg (planC a0).toArray)), (1, (.int .u8 a1)), (2, (.int .u8 a2)), (3, (.pointer (some ⟨b1, 0, none⟩))), (25, (.bool x10)), (7, (.pointer (some ⟨mg18.mb, 0, none⟩))), (30, (.bool false)), (8, (I (W (a1.tmod 3)))), (9, (.pointer (some ⟨b20, 0, none⟩))), (6, (.bool x24.1)), (10, (I x24.2.1)), (40, (.bool (decide (x24.2.1 ≤ ((W a2).tmod a0.nodes))))), (11, (.pointer (some ⟨b38, 0, none⟩))), (69, (.bool x))]) (fun x γ w => Post No [cellC b1 ((planC a0)).toArray 23, memK mg18 x36.2.2.2, cellC b20 ((grantC x36.1)).toArray 70, cellC b38 ((grantC x36.1)).toArray 70] w0 w) hD ?_ ?_
     ·
      rintro y46 RPy46 nxy46 hD
      refine wp_region_lit ?_
      refine seq_val (.agg (grantC x36.1).toArray) r (fun R => y_load_agg r (cs := (grantC x36.1)) (n := 3) rfl (hP.cell (i := 2) rfl) ta70 rfl) rfl fun fr r => ?_
      refine seq_val (I x24.2.1) r (fun R => y_move r rfl) rfl fun fr r => ?_
      refine seq_val (.agg (grantC (⟨x24.2.1, 0, 0⟩ : Grant)).toArray) r (fun R => y_build r (by kernel_rfl)) rfl fun fr r => ?_
      refine seq_val _ r (fun R => y_bin r rfl rfl (run_eqGuard_agg _ _ _ _ _ _ _ eg70) (eqs70 _ _ _).2) rfl fun fr r => ?_
      refine seq_val (.bool (!(x36.1 == (⟨x24.2.1, 0, 0⟩ : Grant)))) r (fun R => y_move r rfl) rfl fun fr r => ?_
      refine seq_split (!(x36.1 == (⟨x24.2.1, 0, 0⟩ : Grant))) (fun h47 => ?_) (fun h47 => ?_)
      ·
       have hD := (cond_t h47).symm.trans hD
       refine s0 r h47 fun fr r => ?_
       refine s0 r h47 fun fr r => ?_
       refine s0 r h47 fun fr r => ?_
       refine s0 r h47 fun fr r => ?_
       refine s0 r h47 fun fr r => ?_
       refine s0 r h47 fun fr r => ?_
       refine s0 r h47 fun fr r => ?_
       refine s0 r h47 fun fr r => ?_
       refine s0 r h47 fun fr r => ?_
       refine seq_val (.bool true) r (fun R => y_pick r (b := true) (congrArg Value.bool h47) rfl) rfl fun fr r => ?_
       refine wn ?_
       exact nxy46 true () _ _ _ hD r (hs_cons rfl (hs_cons rfl (hs_cons rfl (hs_cons rfl (hs_cons rfl (hs_cons rfl (hs_cons rfl (hs_cons rfl (hs_cons rfl (hs_cons rfl (hs_cons rfl (hs_cons rfl (hs_cons rfl (hs_cons rfl hs_nil)))))))))))))) (hP.pick [0, 1, 2, 3] rfl rfl)
      ·
       have hD := (cond_f h47).symm.trans hD
       refine s1 r h47 ?_
       refine seq_val (.pointer (some ⟨mg18.mb, 0, none⟩)) r (fun R => y_move r rfl) rfl fun fr r => ?_
       refine s1 r h47 ?_
       refine seq_val (.agg (planC a0).toArray) r (fun R => y_load_agg r (cs := (planC a0)) (n := 6) rfl (hP.cell (i := 0) rfl) ta23 rfl) rfl fun fr r => ?_
       refine s1 r h47 ?_
       refine seq_val (I x24.2.1) r (fun R => y_move r rfl) rfl fun fr r => ?_
       refine s1 r h47 ?_
       refine seq_call r (c_plan_Plan_State w44 a0 x24.2.1) (fun R hc => y_call r rfl cl28 hc) rfl ?_
       rintro _ w48 ⟨rfl, hb⟩
       refine ⟨_, rfl, fun fr r => ?_⟩
       have hP : Post No [cellC b1 ((planC a0)).toArray 23, memK mg18 x36.2.2.2, cellC b20 ((grantC x36.1)).toArray 70, cellC b38 ((grantC x36.1)).toArray 70] w0 w48 := hP.below hb
       refine s1 r h47 ?_
       obtain ⟨x49, hx49, hD⟩ := bindD_elim hD
       refine seq_call r (c_mem_Memory_Peek w48 x36.2.2.2 (hP.mem (i := 1) rfl) 0 (D.plan_Plan_State a0 x24.2.1) hx49) (fun R hc => y_call r rfl cl27 hc) rfl ?_
       rintro _ w50 ⟨rfl, hb⟩
       refine ⟨_, rfl, fun fr r => ?_⟩
       have hP : Post No [cellC b1 ((planC a0)).toArray 23, memK mg18 x36.2.2.2, cellC b20 ((grantC x36.1)).toArray 70, cellC b38 ((grantC x36.1)).toArray 70] w0 w50 := hP.below hb
       refine s1 r h47 ?_
       refine seq_val (I (W (a1.tmod 3))) r (fun R => y_move r rfl) rfl fun fr r => ?_
       refine s1 r h47 ?_
       refine seq_val (.agg (stateC (⟨0, 1, (W (a1.tmod 3))⟩ : State)).toArray) r (fun R => y_build r (by kernel_rfl)) rfl fun fr r => ?_
       refine s1 r h47 ?_
       refine seq_call r (c_state_State_Word w50 (⟨0, 1, (W (a1.tmod 3))⟩ : State)) (fun R hc => y_call r rfl cl29 hc) rfl ?_
       rintro _ w51 ⟨rfl, hb⟩
       refine ⟨_, rfl, fun fr r => ?_⟩
       have hP : Post No [cellC b1 ((planC a0)).toArray 23, memK mg18 x36.2.2.2, cellC b20 ((grantC x36.1)).toArray 70, cellC b38 ((grantC x36.1)).toArray 70] w0 w51 := hP.below hb
       refine s1 r h47 ?_
       refine seq_val _ r (fun R => y_bin r rfl rfl rfl rfl) rfl fun fr r => ?_
       refine seq_val (.bool (x49 != (D.state_State_Word (⟨0, 1, (W (a1.tmod 3))⟩ : State)))) r (fun R => y_pick r (b := false) (congrArg Value.bool h47) rfl) rfl fun fr r => ?_
       refine wn ?_
       exact nxy46 (x49 != (D.state_State_Word (⟨0, 1, (W (a1.tmod 3))⟩ : State))) () _ _ _ hD r (hs_cons rfl (hs_cons rfl (hs_cons rfl (hs_cons rfl (hs_cons rfl (hs_cons rfl (hs_cons rfl (hs_cons rfl (hs_cons rfl (hs_cons rfl (hs_cons rfl (hs_cons rfl (hs_cons rfl (hs_cons rfl hs_nil)))))))))))))) (hP.pick [0, 1, 2, 3] rfl rfl)
     ·
      rintro x52 γ53 fr w54 g r hP hD
      have hP : Post No [cellC b1 ((planC a0)).toArray 23, memK mg18 x36.2.2.2, cellC b20 ((grantC x36.1)).toArray 70, cellC b38 ((grantC x36.1)).toArray 70] w0 w54 := hP
      refine wp_cond_split (t := x52) (r.ev rfl) (fun h55 => ?_) (fun h55 => ?_)
      ·
       have hD := (cond_t h55).symm.trans hD
       refine wsr ?_
       refine seq_val (.bool false) r (fun R => y_assign r rfl) rfl fun fr r => ?_
       refine wn ?_
       refine wp_ret ?_
       refine rty26 false _ _ hD fun hD => ?_
       have hv : false = res := Option.some.inj hD
       try dsimp only [Exit.then, Exit.inBlock]
       refine ret_tmp (fn := Tryz.f9) r (t := 6) rfl (v := (.bool false)) rfl ?_
       subst hv
       exact ⟨rfl, hP.chg.below⟩
      ·
       have hD := (cond_f h55).symm.trans hD
       refine wp_skip ?_
       refine wp_region_lit ?_
       refine seq_val (I x24.2.1) r (fun R => y_move r rfl) rfl fun fr r => ?_
       refine seq_val _ r (fun R => y_bin r rfl rfl rfl rfl) rfl fun fr r => ?_
       refine seq_val (I (W (x24.2.1 + 1))) r (fun R => y_assign r rfl) rfl fun fr r => ?_
       refine wn ?_
       exact nxy26 (x24.1, (W (x24.2.1 + 1)), x36.2.2.2, x36.1) () _ _ _ hD r (hs_cons rfl (hs_cons rfl (hs_cons rfl (hs_cons rfl (hs_cons rfl (hs_cons rfl (hs_cons rfl (hs_cons rfl (hs_cons rfl (hs_cons rfl (hs_cons rfl hs_nil))))))))))) (hP.pick [0, 1, 2] rfl rfl)
    ·
     have hD := (cond_f h29).symm.trans hD
     refine wp_exit ?_
     exact bky26 (x24.1, x24.2.1, x24.2.2.1, x24.2.2.2) () _ _ _ hD r (hs_cons rfl (hs_cons rfl (hs_cons rfl (hs_cons rfl (hs_cons rfl (hs_cons rfl (hs_cons rfl (hs_cons rfl (hs_cons rfl (hs_cons rfl (hs_cons rfl hs_nil))))))))))) (hP.pick [0, 1, 2] rfl rfl)
   ·
    rintro x56 γ57 fr w58 g r hP hD
    have hP : Post No [cellC b1 ((planC a0)).toArray 23, memK mg18 x56.2.2.1, cellC b20 ((grantC x56.2.2.2)).toArray 70] w0 w58 := hP
    refine wp_seq ?_
    refine wsr ?_
    refine seq_val (.int .u8 a2) r (fun R => y_move r rfl) rfl fun fr r => ?_
    refine seq_val _ r (fun R => y_bin r rfl rfl rfl rfl) rfl fun fr r => ?_
    refine seq_val _ r (fun R => y_bin r rfl rfl rfl rfl) rfl fun fr r => ?_
    refine wn ?_
    refine wp_cond_split (t := ((a2.tmod 2) == 0)) (r.ev rfl) (fun h59 => ?_) (fun h59 => ?_)
    ·
     have hD := (cond_t h59).symm.trans hD
     refine wsr ?_
     refine seq_val (.agg (planC a0).toArray) r (fun R => y_load_agg r (cs := (planC a0)) (n := 6) rfl (hP.cell (i := 0) rfl) ta23 rfl) rfl fun fr r => ?_
     refine seq_val _ r (fun R => y_fieldAddr r (o := 0) rfl fo70_0) rfl fun fr r => ?_
     refine seq_val _ r (fun R => y_load_one r rfl (hP.cell (i := 2) rfl) to3 rfl) rfl fun fr r => ?_
     refine seq_call r (c_alloc_Retire (F := No) (n := fu) (j := fu + 1) (fun _ h => h.elim) (by omega) a0 0 x56.2.2.2.node) (fun R hc => y_call r rfl cl36 hc) rfl ?_
     rintro _ w60 ⟨v61, rfl, hb, hr62⟩
     refine ⟨_, rfl, fun fr r => ?_⟩
     have hP : Post No [cellC b1 ((planC a0)).toArray 23, memK mg18 x56.2.2.1, cellC b20 ((grantC x56.2.2.2)).toArray 70, progK Tryz.prog encInt (fu, (D.alloc_Retire (fu + 1) a0 0 x56.2.2.2.node)) v61 (rg w58.heap.size w60.heap.size)] w0 w60 := hP.addProg hb hr62
     refine seq_val (.pointer (some ⟨mg18.mb, 0, none⟩)) r (fun R => y_move r rfl) rfl fun fr r => ?_
     refine seq_val (.pointer (some ⟨mg18.mb, 0, none⟩)) r (fun R => y_move r rfl) rfl fun fr r => ?_
     obtain ⟨x64, hx64, hD⟩ := bindD_elim hD
     refine seq_call r (c_mem_Memory_Cap w60 x56.2.2.1 (hP.mem (i := 1) rfl) 0 hx64) (fun R hc => y_call r rfl cl18 hc) rfl ?_
     rintro _ w65 ⟨rfl, hb⟩
     refine ⟨_, rfl, fun fr r => ?_⟩
     have hP : Post No [cellC b1 ((planC a0)).toArray 23, memK mg18 x56.2.2.1, cellC b20 ((grantC x56.2.2.2)).toArray 70, progK Tryz.prog encInt (fu, (D.alloc_Retire (fu + 1) a0 0 x56.2.2.2.node)) v61 (rg w58.heap.size w60.heap.size)] w0 w65 := hP.below hb
     obtain ⟨x66, hx66, hD⟩ := bindD_elim hD
     refine seq_call r (c_prog_Run_int w65 (fu, (D.alloc_Retire (fu + 1) a0 0 x56.2.2.2.node)) x56.2.2.1 x64 99 (hP.sep.pk [3, 1] rfl rfl) hx66) (fun R hc => y_call r rfl cl16 hc) rfl ?_
     rintro _ w67 ⟨rfl, hq⟩
     refine ⟨_, rfl, fun fr r => ?_⟩
     have hP : Post No [cellC b1 ((planC a0)).toArray 23, memK mg18 x66.2.2.2, cellC b20 ((grantC x56.2.2.2)).toArray 70, progK Tryz.prog encInt (fu, (D.alloc_Retire (fu + 1) a0 0 x56.2.2.2.node)) v61 (rg w58.heap.size w60.heap.size)] w0 w67 := hP.setN (i := 1) rfl hq
     refine wn ?_
     refine wsr ?_
     refine seq_val (.agg (planC a0).toArray) r (fun R => y_load_agg r (cs := (planC a0)) (n := 6) rfl (hP.cell (i := 0) rfl) ta23 rfl) rfl fun fr r => ?_
     refine seq_val (.pointer (some ⟨mg18.mb, 0, none⟩)) r (fun R => y_move r rfl) rfl fun fr r => ?_
     obtain ⟨x68, hx68, hD⟩ := bindD_elim hD
     refine seq_call r (c_retire_List w67 a0 x66.2.2.2 (hP.mem (i := 1) rfl) 0 0 hx68) (fun R hc => y_call r rfl cl20 hc) rfl ?_
     rintro _ w69 ⟨v70, rfl, hq⟩
     refine ⟨_, rfl, fun fr r => ?_⟩
     have hP : Post No [cellC b1 ((planC a0)).toArray 23, memK mg18 x66.2.2.2, cellC b20 ((grantC x56.2.2.2)).toArray 70, progK Tryz.prog encInt (fu, (D.alloc_Retire (fu + 1) a0 0 x56.2.2.2.node)) v61 (rg w58.heap.size w60.heap.size), rowK 3 1 i64 v70 x68] w0 w69 := hP.add hq
     refine seq_val v70 r (fun R => y_assign r rfl) rfl fun fr r => ?_
     refine wn ?_
     refine wp_seq ?_
     have hP : Post No [cellC b1 ((planC a0)).toArray 23, memK mg18 x66.2.2.2, cellC b20 ((grantC x56.2.2.2)).toArray 70, rowK 3 1 i64 v70 x68] w0 w69 := hP.pick [0, 1, 2, 4] rfl rfl
     refine wp_joinG (N := 158) (Y := Bool) (G := Unit) (fun x γ => [(0, (.agg (planC a0).toArray)), (1, (.int .u8 a1)), (2, (.int .u8 a2)), (3, (.pointer (some ⟨b1, 0, none⟩))), (25, (.bool x10)), (7, (.pointer (some ⟨mg18.mb, 0, none⟩))), (30, (.bool false)), (8, (I (W (a1.tmod 3)))), (9, (.pointer (some ⟨b20, 0, none⟩))), (10, (I x56.2.1)), (72, (.bool ((a2.tmod 2) == 0))), (14, v70), (6, (.bool x))]) (fun x γ w => Post No [cellC b1 ((planC a0)).toArray 23, memK mg18 x66.2.2.2, cellC b20 ((grantC x56.2.2.2)).toArray 70, rowK 3 1 i64 v70 x68] w0 w) hD ?_ ?_
     ·
      rintro y72 RPy72 nxy72 hD
      obtain ⟨x73, hx73, hD⟩ := bindD_elim hD
      refine seq_split (x73 == (D.state_State_Word (⟨0, 2, (W (a1.tmod 3))⟩ : State))) (fun h74 => ?_) (fun h74 => ?_)
      ·
       have hD := (cond_t h74).symm.trans hD
       refine seq_split ((x68.length : Int) == 1) (fun h75 => ?_) (fun h75 => ?_)
       ·
        have hD := (cond_t h75).symm.trans hD
        obtain ⟨x76, hx76, hD⟩ := bindD_elim hD
        refine wp_freeF [.val (.pointer (some ⟨mg18.mb, 0, none⟩)), .val (.agg (planC a0).toArray), .val (.pointer (some ⟨b20, 0, none⟩)), .val (I x56.2.2.2.node), .val (I (D.plan_Plan_State a0 x56.2.2.2.node)), .val (U x73), .val (I (W (a1.tmod 3))), .val (.agg (stateC (⟨0, 2, (W (a1.tmod 3))⟩ : State)).toArray), .val (U (D.state_State_Word (⟨0, 2, (W (a1.tmod 3))⟩ : State))), .val (.bool (x73 == (D.state_State_Word (⟨0, 2, (W (a1.tmod 3))⟩ : State)))), .val (.bool (x73 == (D.state_State_Word (⟨0, 2, (W (a1.tmod 3))⟩ : State)))), .val v70, .val (I (x68.length : Int)), .val (.bool ((x68.length : Int) == 1)), .val (.bool ((x68.length : Int) == 1)), .val (.bool ((x68.length : Int) == 1)), .val v70, .val (.pointer (some ⟨rowB v70, rowO v70 + (0 : Int).toNat * 1, none⟩)), .val (I x76), .val (.pointer (some ⟨b20, 0, none⟩)), .val (I x56.2.2.2.node), .val (.bool (x76 == x56.2.2.2.node)), .val (.bool (x76 == x56.2.2.2.node)), .val (.bool (x76 == x56.2.2.2.node))] mixed r (by kernel_rfl) ?_ ?_
        ·
         refine fc r (fun fr1 g w' hb' hd r' => y_move r' rfl bz) ?_
         refine fc r (fun fr1 g w' hb' hd r' => y_load_agg r' (cs := (planC a0)) (n := 6) rfl ((hP.below (dr hb')).cell (i := 0) rfl) ta23 rfl bz) ?_
         refine fc r (fun fr1 g w' hb' hd r' => y_fieldAddr r' (b := b20) (o := 0) rfl fo70_0 bz) ?_
         refine fc r (fun fr1 g w' hb' hd r' => y_load_one r' (hd 2 rfl).1 ((hP.below (dr hb')).cell (i := 2) rfl) to3 rfl bz) ?_
         refine fc r (fun fr1 g w' hb' hd r' => y_call r' (args := [(.agg (planC a0).toArray), (I x56.2.2.2.node)]) (lc (hd 1 rfl).1 (lc (hd 3 rfl).1 l0)) cl28 ((c_plan_Plan_State _ a0 x56.2.2.2.node).mono (by rintro _ w2 ⟨rfl, hb2⟩; exact ⟨_, rfl, hb2, rfl⟩))) ?_
         refine fc r (fun fr1 g w' hb' hd r' => y_call r' (args := [(.pointer (some ⟨mg18.mb, 0, none⟩)), (I 0), (I (D.plan_Plan_State a0 x56.2.2.2.node))]) (lc (hd 0 rfl).1 (lc rfl (lc (hd 4 rfl).1 l0))) cl27 ((c_mem_Memory_Peek _ x66.2.2.2 ((hP.below (dr hb')).mem (i := 1) rfl) 0 (D.plan_Plan_State a0 x56.2.2.2.node) hx73).mono (by rintro _ w2 ⟨rfl, hb2⟩; exact ⟨_, rfl, hb2, rfl⟩))) ?_
         refine fc r (fun fr1 g w' hb' hd r' => y_move r' rfl bz) ?_
         refine fc r (fun fr1 g w' hb' hd r' => y_build r' (v := (.agg (stateC (⟨0, 2, (W (a1.tmod 3))⟩ : State)).toArray)) (bs2 (rfl) (congrArg (fun z => (2, z)) (hd 6 rfl).1) (by kernel_rfl)) bz) ?_
         refine fc r (fun fr1 g w' hb' hd r' => y_call r' (args := [(.agg (stateC (⟨0, 2, (W (a1.tmod 3))⟩ : State)).toArray)]) (lc (hd 7 rfl).1 l0) cl29 ((c_state_State_Word _ (⟨0, 2, (W (a1.tmod 3))⟩ : State)).mono (by rintro _ w2 ⟨rfl, hb2⟩; exact ⟨_, rfl, hb2, rfl⟩))) ?_
         refine fc r (fun fr1 g w' hb' hd r' => y_bin r' (hd 5 rfl).1 (hd 8 rfl).1 rfl rfl bz) ?_
         refine fc r (fun fr1 g w' hb' hd r' => y_move r' (hd 9 rfl).1 bz) ?_
         refine eachF_want true r rfl rfl rfl (fun g w' hd => Eq.trans (show (g 10).v = .bool (x73 == (D.state_State_Word (⟨0, 2, (W (a1.tmod 3))⟩ : State))) from (hd 10 rfl).1) (congrArg Value.bool h74)) (fun fr1 g w' hb' hd r' => ?_) ?_
         · exact y_move r' (v := v70) rfl ⟨Below.refl _ _, rfl⟩
         refine eachF_want true r rfl rfl rfl (fun g w' hd => Eq.trans (show (g 10).v = .bool (x73 == (D.state_State_Word (⟨0, 2, (W (a1.tmod 3))⟩ : State))) from (hd 10 rfl).1) (congrArg Value.bool h74)) (fun fr1 g w' hb' hd r' => ?_) ?_
         · exact y_rowLen r' ((hP.below (dr hb')).row (i := 3) rfl).ro is24 (hd 11 rfl).1 ⟨Below.refl _ _, rfl⟩
         refine eachF_want true r rfl rfl rfl (fun g w' hd => Eq.trans (show (g 10).v = .bool (x73 == (D.state_State_Word (⟨0, 2, (W (a1.tmod 3))⟩ : State))) from (hd 10 rfl).1) (congrArg Value.bool h74)) (fun fr1 g w' hb' hd r' => ?_) ?_
         · exact y_bin r' (u := (I (x68.length : Int))) (u' := (I 1)) (v := (.bool ((x68.length : Int) == 1))) (hd 12 rfl).1 rfl rfl rfl ⟨Below.refl _ _, rfl⟩
         refine fc r (fun fr1 g w' hb' hd r' => y_pick r' (b := true) (v := (.bool ((x68.length : Int) == 1))) (Eq.trans (show (g 10).v = .bool (x73 == (D.state_State_Word (⟨0, 2, (W (a1.tmod 3))⟩ : State))) from (hd 10 rfl).1) (congrArg Value.bool h74)) (hd 13 rfl).1 bz) ?_
         refine fc r (fun fr1 g w' hb' hd r' => y_move r' (hd 14 rfl).1 bz) ?_
         refine eachF_want true r rfl rfl rfl (fun g w' hd => Eq.trans (show (g 15).v = .bool ((x68.length : Int) == 1) from (hd 15 rfl).1) (congrArg Value.bool h75)) (fun fr1 g w' hb' hd r' => ?_) ?_
         · exact y_move r' (v := v70) rfl ⟨Below.refl _ _, rfl⟩
         refine eachF_want true r rfl rfl rfl (fun g w' hd => Eq.trans (show (g 15).v = .bool ((x68.length : Int) == 1) from (hd 15 rfl).1) (congrArg Value.bool h75)) (fun fr1 g w' hb' hd r' => ?_) ?_
         · exact y_rowAddr r' ((hP.below (dr hb')).row (i := 3) rfl).ro hx76 sl24 (hd 16 rfl).1 rfl ⟨Below.refl _ _, rfl⟩
         refine eachF_want true r rfl rfl rfl (fun g w' hd => Eq.trans (show (g 15).v = .bool ((x68.length : Int) == 1) from (hd 15 rfl).1) (congrArg Value.bool h75)) (fun fr1 g w' hb' hd r' => ?_) ?_
         · exact y_loadL_one r' (u := (I x76)) (RoAt.at_ (f := i64) (x := x76) ((hP.below (dr hb')).row (i := 3) rfl).ro (fun _ => rfl) hx76) (hd 17 rfl).1 to3 ⟨Below.refl _ _, rfl⟩
         refine eachF_want true r rfl rfl rfl (fun g w' hd => Eq.trans (show (g 15).v = .bool ((x68.length : Int) == 1) from (hd 15 rfl).1) (congrArg Value.bool h75)) (fun fr1 g w' hb' hd r' => ?_) ?_
         · exact y_fieldAddr r' (b := b20) (o := 0) (k := 0) rfl fo70_0 ⟨Below.refl _ _, rfl⟩
         refine eachF_want true r rfl rfl rfl (fun g w' hd => Eq.trans (show (g 15).v = .bool ((x68.length : Int) == 1) from (hd 15 rfl).1) (congrArg Value.bool h75)) (fun fr1 g w' hb' hd r' => ?_) ?_
         · exact y_load_one r' (v := (I x56.2.2.2.node)) (hd 19 rfl).1 ((hP.below (dr hb')).cell (i := 2) rfl) to3 rfl ⟨Below.refl _ _, rfl⟩
         refine eachF_want true r rfl rfl rfl (fun g w' hd => Eq.trans (show (g 15).v = .bool ((x68.length : Int) == 1) from (hd 15 rfl).1) (congrArg Value.bool h75)) (fun fr1 g w' hb' hd r' => ?_) ?_
         · exact y_bin r' (u := (I x76)) (u' := (I x56.2.2.2.node)) (v := (.bool (x76 == x56.2.2.2.node))) (hd 18 rfl).1 (hd 20 rfl).1 rfl rfl ⟨Below.refl _ _, rfl⟩
         refine fc r (fun fr1 g w' hb' hd r' => y_pick r' (b := true) (v := (.bool (x76 == x56.2.2.2.node))) (Eq.trans (show (g 15).v = .bool ((x68.length : Int) == 1) from (hd 15 rfl).1) (congrArg Value.bool h75)) (hd 21 rfl).1 bz) ?_
         refine fc r (fun fr1 g w' hb' hd r' => y_assign r' (hd 22 rfl).1 bz) ?_
         exact eachF_nil
        ·
         intro fr gg w77 hb hΦ hap r
         have r := r.congr (sc ((hΦ 23 rfl).1) (sc ((hΦ 22 rfl).1) (sc ((hΦ 21 rfl).1) (sc ((hΦ 20 rfl).1) (sc ((hΦ 19 rfl).1) (sc ((hΦ 18 rfl).1) (sc ((hΦ 17 rfl).1) (sc ((hΦ 16 rfl).1) (sc ((hΦ 15 rfl).1) (sc ((hΦ 14 rfl).1) (sc ((hΦ 13 rfl).1) (sc ((hΦ 12 rfl).1) (sc ((hΦ 11 rfl).1) (sc ((hΦ 10 rfl).1) (sc ((hΦ 9 rfl).1) (sc ((hΦ 8 rfl).1) (sc ((hΦ 7 rfl).1) (sc ((hΦ 6 rfl).1) (sc ((hΦ 5 rfl).1) (sc ((hΦ 4 rfl).1) (sc ((hΦ 3 rfl).1) (sc ((hΦ 2 rfl).1) (sc ((hΦ 1 rfl).1) (sc ((hΦ 0 rfl).1) rfl))))))))))))))))))))))))
         have hP : Post No [cellC b1 ((planC a0)).toArray 23, memK mg18 x66.2.2.2, cellC b20 ((grantC x56.2.2.2)).toArray 70, rowK 3 1 i64 v70 x68] w0 w77 := hP.below hb
         exact nxy72 (x76 == x56.2.2.2.node) () _ _ _ hD r (hs_cons rfl (hs_cons rfl (hs_cons rfl (hs_cons rfl (hs_cons rfl (hs_cons rfl (hs_cons rfl (hs_cons rfl (hs_cons rfl (hs_cons rfl (hs_cons rfl (hs_cons rfl (hs_cons rfl hs_nil))))))))))))) (hP.pick [0, 1, 2, 3] rfl rfl)
       ·
        have hD := (cond_f h75).symm.trans hD
        refine wp_freeF [.val (.pointer (some ⟨mg18.mb, 0, none⟩)), .val (.agg (planC a0).toArray), .val (.pointer (some ⟨b20, 0, none⟩)), .val (I x56.2.2.2.node), .val (I (D.plan_Plan_State a0 x56.2.2.2.node)), .val (U x73), .val (I (W (a1.tmod 3))), .val (.agg (stateC (⟨0, 2, (W (a1.tmod 3))⟩ : State)).toArray), .val (U (D.state_State_Word (⟨0, 2, (W (a1.tmod 3))⟩ : State))), .val (.bool (x73 == (D.state_State_Word (⟨0, 2, (W (a1.tmod 3))⟩ : State)))), .val (.bool (x73 == (D.state_State_Word (⟨0, 2, (W (a1.tmod 3))⟩ : State)))), .val v70, .val (I (x68.length : Int)), .val (.bool ((x68.length : Int) == 1)), .val (.bool ((x68.length : Int) == 1)), .val (.bool ((x68.length : Int) == 1)), .val undef, .val undef, .val undef, .val undef, .val undef, .val undef, .val (.bool false), .val (.bool false)] mixed r (by kernel_rfl) ?_ ?_
        ·
         refine fc r (fun fr1 g w' hb' hd r' => y_move r' rfl bz) ?_
         refine fc r (fun fr1 g w' hb' hd r' => y_load_agg r' (cs := (planC a0)) (n := 6) rfl ((hP.below (dr hb')).cell (i := 0) rfl) ta23 rfl bz) ?_
         refine fc r (fun fr1 g w' hb' hd r' => y_fieldAddr r' (b := b20) (o := 0) rfl fo70_0 bz) ?_
         refine fc r (fun fr1 g w' hb' hd r' => y_load_one r' (hd 2 rfl).1 ((hP.below (dr hb')).cell (i := 2) rfl) to3 rfl bz) ?_
         refine fc r (fun fr1 g w' hb' hd r' => y_call r' (args := [(.agg (planC a0).toArray), (I x56.2.2.2.node)]) (lc (hd 1 rfl).1 (lc (hd 3 rfl).1 l0)) cl28 ((c_plan_Plan_State _ a0 x56.2.2.2.node).mono (by rintro _ w2 ⟨rfl, hb2⟩; exact ⟨_, rfl, hb2, rfl⟩))) ?_
         refine fc r (fun fr1 g w' hb' hd r' => y_call r' (args := [(.pointer (some ⟨mg18.mb, 0, none⟩)), (I 0), (I (D.plan_Plan_State a0 x56.2.2.2.node))]) (lc (hd 0 rfl).1 (lc rfl (lc (hd 4 rfl).1 l0))) cl27 ((c_mem_Memory_Peek _ x66.2.2.2 ((hP.below (dr hb')).mem (i := 1) rfl) 0 (D.plan_Plan_State a0 x56.2.2.2.node) hx73).mono (by rintro _ w2 ⟨rfl, hb2⟩; exact ⟨_, rfl, hb2, rfl⟩))) ?_
         refine fc r (fun fr1 g w' hb' hd r' => y_move r' rfl bz) ?_
         refine fc r (fun fr1 g w' hb' hd r' => y_build r' (v := (.agg (stateC (⟨0, 2, (W (a1.tmod 3))⟩ : State)).toArray)) (bs2 (rfl) (congrArg (fun z => (2, z)) (hd 6 rfl).1) (by kernel_rfl)) bz) ?_
         refine fc r (fun fr1 g w' hb' hd r' => y_call r' (args := [(.agg (stateC (⟨0, 2, (W (a1.tmod 3))⟩ : State)).toArray)]) (lc (hd 7 rfl).1 l0) cl29 ((c_state_State_Word _ (⟨0, 2, (W (a1.tmod 3))⟩ : State)).mono (by rintro _ w2 ⟨rfl, hb2⟩; exact ⟨_, rfl, hb2, rfl⟩))) ?_
         refine fc r (fun fr1 g w' hb' hd r' => y_bin r' (hd 5 rfl).1 (hd 8 rfl).1 rfl rfl bz) ?_
         refine fc r (fun fr1 g w' hb' hd r' => y_move r' (hd 9 rfl).1 bz) ?_
         refine eachF_want true r rfl rfl rfl (fun g w' hd => Eq.trans (show (g 10).v = .bool (x73 == (D.state_State_Word (⟨0, 2, (W (a1.tmod 3))⟩ : State))) from (hd 10 rfl).1) (congrArg Value.bool h74)) (fun fr1 g w' hb' hd r' => ?_) ?_
         · exact y_move r' (v := v70) rfl ⟨Below.refl _ _, rfl⟩
         refine eachF_want true r rfl rfl rfl (fun g w' hd => Eq.trans (show (g 10).v = .bool (x73 == (D.state_State_Word (⟨0, 2, (W (a1.tmod 3))⟩ : State))) from (hd 10 rfl).1) (congrArg Value.bool h74)) (fun fr1 g w' hb' hd r' => ?_) ?_
         · exact y_rowLen r' ((hP.below (dr hb')).row (i := 3) rfl).ro is24 (hd 11 rfl).1 ⟨Below.refl _ _, rfl⟩
         refine eachF_want true r rfl rfl rfl (fun g w' hd => Eq.trans (show (g 10).v = .bool (x73 == (D.state_State_Word (⟨0, 2, (W (a1.tmod 3))⟩ : State))) from (hd 10 rfl).1) (congrArg Value.bool h74)) (fun fr1 g w' hb' hd r' => ?_) ?_
         · exact y_bin r' (u := (I (x68.length : Int))) (u' := (I 1)) (v := (.bool ((x68.length : Int) == 1))) (hd 12 rfl).1 rfl rfl rfl ⟨Below.refl _ _, rfl⟩
         refine fc r (fun fr1 g w' hb' hd r' => y_pick r' (b := true) (v := (.bool ((x68.length : Int) == 1))) (Eq.trans (show (g 10).v = .bool (x73 == (D.state_State_Word (⟨0, 2, (W (a1.tmod 3))⟩ : State))) from (hd 10 rfl).1) (congrArg Value.bool h74)) (hd 13 rfl).1 bz) ?_
         refine fc r (fun fr1 g w' hb' hd r' => y_move r' (hd 14 rfl).1 bz) ?_
         refine eachF_skip true (.bool false) r rfl rfl rfl (fun g w' hd => Eq.trans (show (g 15).v = .bool ((x68.length : Int) == 1) from (hd 15 rfl).1) (congrArg Value.bool h75)) (by simp [boolOf]) (fun _ _ => ⟨Below.refl _ _, rfl⟩) ?_
         refine eachF_skip true (.bool false) r rfl rfl rfl (fun g w' hd => Eq.trans (show (g 15).v = .bool ((x68.length : Int) == 1) from (hd 15 rfl).1) (congrArg Value.bool h75)) (by simp [boolOf]) (fun _ _ => ⟨Below.refl _ _, rfl⟩) ?_
         refine eachF_skip true (.bool false) r rfl rfl rfl (fun g w' hd => Eq.trans (show (g 15).v = .bool ((x68.length : Int) == 1) from (hd 15 rfl).1) (congrArg Value.bool h75)) (by simp [boolOf]) (fun _ _ => ⟨Below.refl _ _, rfl⟩) ?_
         refine eachF_skip true (.bool false) r rfl rfl rfl (fun g w' hd => Eq.trans (show (g 15).v = .bool ((x68.length : Int) == 1) from (hd 15 rfl).1) (congrArg Value.bool h75)) (by simp [boolOf]) (fun _ _ => ⟨Below.refl _ _, rfl⟩) ?_
         refine eachF_skip true (.bool false) r rfl rfl rfl (fun g w' hd => Eq.trans (show (g 15).v = .bool ((x68.length : Int) == 1) from (hd 15 rfl).1) (congrArg Value.bool h75)) (by simp [boolOf]) (fun _ _ => ⟨Below.refl _ _, rfl⟩) ?_
         refine eachF_skip true (.bool false) r rfl rfl rfl (fun g w' hd => Eq.trans (show (g 15).v = .bool ((x68.length : Int) == 1) from (hd 15 rfl).1) (congrArg Value.bool h75)) (by simp [boolOf]) (fun _ _ => ⟨Below.refl _ _, rfl⟩) ?_
         refine fc r (fun fr1 g w' hb' hd r' => y_pick r' (b := false) (v := (.bool false)) (Eq.trans (show (g 15).v = .bool ((x68.length : Int) == 1) from (hd 15 rfl).1) (congrArg Value.bool h75)) rfl bz) ?_
         refine fc r (fun fr1 g w' hb' hd r' => y_assign r' (hd 22 rfl).1 bz) ?_
         exact eachF_nil
        ·
         intro fr gg w78 hb hΦ hap r
         have r := r.congr (sc ((hΦ 23 rfl).1) (sc ((hΦ 22 rfl).1) (sc ((hΦ 21 rfl).1) (sc ((hΦ 20 rfl).1) (sc ((hΦ 19 rfl).1) (sc ((hΦ 18 rfl).1) (sc ((hΦ 17 rfl).1) (sc ((hΦ 16 rfl).1) (sc ((hΦ 15 rfl).1) (sc ((hΦ 14 rfl).1) (sc ((hΦ 13 rfl).1) (sc ((hΦ 12 rfl).1) (sc ((hΦ 11 rfl).1) (sc ((hΦ 10 rfl).1) (sc ((hΦ 9 rfl).1) (sc ((hΦ 8 rfl).1) (sc ((hΦ 7 rfl).1) (sc ((hΦ 6 rfl).1) (sc ((hΦ 5 rfl).1) (sc ((hΦ 4 rfl).1) (sc ((hΦ 3 rfl).1) (sc ((hΦ 2 rfl).1) (sc ((hΦ 1 rfl).1) (sc ((hΦ 0 rfl).1) rfl))))))))))))))))))))))))
         have hP : Post No [cellC b1 ((planC a0)).toArray 23, memK mg18 x66.2.2.2, cellC b20 ((grantC x56.2.2.2)).toArray 70, rowK 3 1 i64 v70 x68] w0 w78 := hP.below hb
         exact nxy72 false () _ _ _ hD r (hs_cons rfl (hs_cons rfl (hs_cons rfl (hs_cons rfl (hs_cons rfl (hs_cons rfl (hs_cons rfl (hs_cons rfl (hs_cons rfl (hs_cons rfl (hs_cons rfl (hs_cons rfl (hs_cons rfl hs_nil))))))))))))) (hP.pick [0, 1, 2, 3] rfl rfl)
      ·
       have hD := (cond_f h74).symm.trans hD
       refine wp_freeF [.val (.pointer (some ⟨mg18.mb, 0, none⟩)), .val (.agg (planC a0).toArray), .val (.pointer (some ⟨b20, 0, none⟩)), .val (I x56.2.2.2.node), .val (I (D.plan_Plan_State a0 x56.2.2.2.node)), .val (U x73), .val (I (W (a1.tmod 3))), .val (.agg (stateC (⟨0, 2, (W (a1.tmod 3))⟩ : State)).toArray), .val (U (D.state_State_Word (⟨0, 2, (W (a1.tmod 3))⟩ : State))), .val (.bool (x73 == (D.state_State_Word (⟨0, 2, (W (a1.tmod 3))⟩ : State)))), .val (.bool (x73 == (D.state_State_Word (⟨0, 2, (W (a1.tmod 3))⟩ : State)))), .val undef, .val undef, .val undef, .val (.bool false), .val (.bool false), .val undef, .val undef, .val undef, .val undef, .val undef, .val undef, .val (.bool false), .val (.bool false)] mixed r (by kernel_rfl) ?_ ?_
       ·
        refine fc r (fun fr1 g w' hb' hd r' => y_move r' rfl bz) ?_
        refine fc r (fun fr1 g w' hb' hd r' => y_load_agg r' (cs := (planC a0)) (n := 6) rfl ((hP.below (dr hb')).cell (i := 0) rfl) ta23 rfl bz) ?_
        refine fc r (fun fr1 g w' hb' hd r' => y_fieldAddr r' (b := b20) (o := 0) rfl fo70_0 bz) ?_
        refine fc r (fun fr1 g w' hb' hd r' => y_load_one r' (hd 2 rfl).1 ((hP.below (dr hb')).cell (i := 2) rfl) to3 rfl bz) ?_
        refine fc r (fun fr1 g w' hb' hd r' => y_call r' (args := [(.agg (planC a0).toArray), (I x56.2.2.2.node)]) (lc (hd 1 rfl).1 (lc (hd 3 rfl).1 l0)) cl28 ((c_plan_Plan_State _ a0 x56.2.2.2.node).mono (by rintro _ w2 ⟨rfl, hb2⟩; exact ⟨_, rfl, hb2, rfl⟩))) ?_
        refine fc r (fun fr1 g w' hb' hd r' => y_call r' (args := [(.pointer (some ⟨mg18.mb, 0, none⟩)), (I 0), (I (D.plan_Plan_State a0 x56.2.2.2.node))]) (lc (hd 0 rfl).1 (lc rfl (lc (hd 4 rfl).1 l0))) cl27 ((c_mem_Memory_Peek _ x66.2.2.2 ((hP.below (dr hb')).mem (i := 1) rfl) 0 (D.plan_Plan_State a0 x56.2.2.2.node) hx73).mono (by rintro _ w2 ⟨rfl, hb2⟩; exact ⟨_, rfl, hb2, rfl⟩))) ?_
        refine fc r (fun fr1 g w' hb' hd r' => y_move r' rfl bz) ?_
        refine fc r (fun fr1 g w' hb' hd r' => y_build r' (v := (.agg (stateC (⟨0, 2, (W (a1.tmod 3))⟩ : State)).toArray)) (bs2 (rfl) (congrArg (fun z => (2, z)) (hd 6 rfl).1) (by kernel_rfl)) bz) ?_
        refine fc r (fun fr1 g w' hb' hd r' => y_call r' (args := [(.agg (stateC (⟨0, 2, (W (a1.tmod 3))⟩ : State)).toArray)]) (lc (hd 7 rfl).1 l0) cl29 ((c_state_State_Word _ (⟨0, 2, (W (a1.tmod 3))⟩ : State)).mono (by rintro _ w2 ⟨rfl, hb2⟩; exact ⟨_, rfl, hb2, rfl⟩))) ?_
        refine fc r (fun fr1 g w' hb' hd r' => y_bin r' (hd 5 rfl).1 (hd 8 rfl).1 rfl rfl bz) ?_
        refine fc r (fun fr1 g w' hb' hd r' => y_move r' (hd 9 rfl).1 bz) ?_
        refine eachF_skip true (.bool false) r rfl rfl rfl (fun g w' hd => Eq.trans (show (g 10).v = .bool (x73 == (D.state_State_Word (⟨0, 2, (W (a1.tmod 3))⟩ : State))) from (hd 10 rfl).1) (congrArg Value.bool h74)) (by simp [boolOf]) (fun _ _ => ⟨Below.refl _ _, rfl⟩) ?_
        refine eachF_skip true (.bool false) r rfl rfl rfl (fun g w' hd => Eq.trans (show (g 10).v = .bool (x73 == (D.state_State_Word (⟨0, 2, (W (a1.tmod 3))⟩ : State))) from (hd 10 rfl).1) (congrArg Value.bool h74)) (by simp [boolOf]) (fun _ _ => ⟨Below.refl _ _, rfl⟩) ?_
        refine eachF_skip true (.bool false) r rfl rfl rfl (fun g w' hd => Eq.trans (show (g 10).v = .bool (x73 == (D.state_State_Word (⟨0, 2, (W (a1.tmod 3))⟩ : State))) from (hd 10 rfl).1) (congrArg Value.bool h74)) (by simp [boolOf]) (fun _ _ => ⟨Below.refl _ _, rfl⟩) ?_
        refine fc r (fun fr1 g w' hb' hd r' => y_pick r' (b := false) (v := (.bool false)) (Eq.trans (show (g 10).v = .bool (x73 == (D.state_State_Word (⟨0, 2, (W (a1.tmod 3))⟩ : State))) from (hd 10 rfl).1) (congrArg Value.bool h74)) rfl bz) ?_
        refine fc r (fun fr1 g w' hb' hd r' => y_move r' (hd 14 rfl).1 bz) ?_
        refine eachF_skip true (.bool false) r rfl rfl rfl (fun g w' hd => Eq.trans (show (g 15).v = .bool false from (hd 15 rfl).1) (congrArg Value.bool (rfl : false = _))) (by simp [boolOf]) (fun _ _ => ⟨Below.refl _ _, rfl⟩) ?_
        refine eachF_skip true (.bool false) r rfl rfl rfl (fun g w' hd => Eq.trans (show (g 15).v = .bool false from (hd 15 rfl).1) (congrArg Value.bool (rfl : false = _))) (by simp [boolOf]) (fun _ _ => ⟨Below.refl _ _, rfl⟩) ?_
        refine eachF_skip true (.bool false) r rfl rfl rfl (fun g w' hd => Eq.trans (show (g 15).v = .bool false from (hd 15 rfl).1) (congrArg Value.bool (rfl : false = _))) (by simp [boolOf]) (fun _ _ => ⟨Below.refl _ _, rfl⟩) ?_
        refine eachF_skip true (.bool false) r rfl rfl rfl (fun g w' hd => Eq.trans (show (g 15).v = .bool false from (hd 15 rfl).1) (congrArg Value.bool (rfl : false = _))) (by simp [boolOf]) (fun _ _ => ⟨Below.refl _ _, rfl⟩) ?_
        refine eachF_skip true (.bool false) r rfl rfl rfl (fun g w' hd => Eq.trans (show (g 15).v = .bool false from (hd 15 rfl).1) (congrArg Value.bool (rfl : false = _))) (by simp [boolOf]) (fun _ _ => ⟨Below.refl _ _, rfl⟩) ?_
        refine eachF_skip true (.bool false) r rfl rfl rfl (fun g w' hd => Eq.trans (show (g 15).v = .bool false from (hd 15 rfl).1) (congrArg Value.bool (rfl : false = _))) (by simp [boolOf]) (fun _ _ => ⟨Below.refl _ _, rfl⟩) ?_
        refine fc r (fun fr1 g w' hb' hd r' => y_pick r' (b := false) (v := (.bool false)) (Eq.trans (show (g 15).v = .bool false from (hd 15 rfl).1) (congrArg Value.bool (rfl : false = _))) rfl bz) ?_
        refine fc r (fun fr1 g w' hb' hd r' => y_assign r' (hd 22 rfl).1 bz) ?_
        exact eachF_nil
       ·
        intro fr gg w79 hb hΦ hap r
        have r := r.congr (sc ((hΦ 23 rfl).1) (sc ((hΦ 22 rfl).1) (sc ((hΦ 21 rfl).1) (sc ((hΦ 20 rfl).1) (sc ((hΦ 19 rfl).1) (sc ((hΦ 18 rfl).1) (sc ((hΦ 17 rfl).1) (sc ((hΦ 16 rfl).1) (sc ((hΦ 15 rfl).1) (sc ((hΦ 14 rfl).1) (sc ((hΦ 13 rfl).1) (sc ((hΦ 12 rfl).1) (sc ((hΦ 11 rfl).1) (sc ((hΦ 10 rfl).1) (sc ((hΦ 9 rfl).1) (sc ((hΦ 8 rfl).1) (sc ((hΦ 7 rfl).1) (sc ((hΦ 6 rfl).1) (sc ((hΦ 5 rfl).1) (sc ((hΦ 4 rfl).1) (sc ((hΦ 3 rfl).1) (sc ((hΦ 2 rfl).1) (sc ((hΦ 1 rfl).1) (sc ((hΦ 0 rfl).1) rfl))))))))))))))))))))))))
        have hP : Post No [cellC b1 ((planC a0)).toArray 23, memK mg18 x66.2.2.2, cellC b20 ((grantC x56.2.2.2)).toArray 70, rowK 3 1 i64 v70 x68] w0 w79 := hP.below hb
        exact nxy72 false () _ _ _ hD r (hs_cons rfl (hs_cons rfl (hs_cons rfl (hs_cons rfl (hs_cons rfl (hs_cons rfl (hs_cons rfl (hs_cons rfl (hs_cons rfl (hs_cons rfl (hs_cons rfl (hs_cons rfl (hs_cons rfl hs_nil))))))))))))) (hP.pick [0, 1, 2, 3] rfl rfl)
     ·
      rintro x80 γ81 fr w82 g r hP hD
      have hP : Post No [cellC b1 ((planC a0)).toArray 23, memK mg18 x66.2.2.2, cellC b20 ((grantC x56.2.2.2)).toArray 70, rowK 3 1 i64 v70 x68] w0 w82 := hP
      refine wp_ret ?_
      have hv : x80 = res := Option.some.inj hD
      try dsimp only [Exit.then, Exit.inBlock]
      refine ret_tmp (fn := Tryz.f9) r (t := 6) rfl (v := (.bool x80)) rfl ?_
      subst hv
      exact ⟨rfl, hP.chg.below⟩
    ·
     have hD := (cond_f h59).symm.trans hD
     refine wp_skip ?_
     refine wsr ?_
     refine seq_val (.agg (planC a0).toArray) r (fun R => y_load_agg r (cs := (planC a0)) (n := 6) rfl (hP.cell (i := 0) rfl) ta23 rfl) rfl fun fr r => ?_
     refine seq_val _ r (fun R => y_fieldAddr r (o := 0) rfl fo70_0) rfl fun fr r => ?_
     refine seq_val _ r (fun R => y_load_one r rfl (hP.cell (i := 2) rfl) to3 rfl) rfl fun fr r => ?_
     refine seq_call r (c_alloc_Stash (F := No) (n := fu) (j := fu + 1) (fun _ h => h.elim) (by omega) a0 0 x56.2.2.2.node) (fun R hc => y_call r rfl cl41 hc) rfl ?_
     rintro _ w83 ⟨v84, rfl, hb, hr85⟩
     refine ⟨_, rfl, fun fr r => ?_⟩
     have hP : Post No [cellC b1 ((planC a0)).toArray 23, memK mg18 x56.2.2.1, cellC b20 ((grantC x56.2.2.2)).toArray 70, progK Tryz.prog encInt (fu, (D.alloc_Stash (fu + 1) a0 0 x56.2.2.2.node)) v84 (rg w58.heap.size w83.heap.size)] w0 w83 := hP.addProg hb hr85
     refine seq_val (.pointer (some ⟨mg18.mb, 0, none⟩)) r (fun R => y_move r rfl) rfl fun fr r => ?_
     refine seq_val (.pointer (some ⟨mg18.mb, 0, none⟩)) r (fun R => y_move r rfl) rfl fun fr r => ?_
     obtain ⟨x87, hx87, hD⟩ := bindD_elim hD
     refine seq_call r (c_mem_Memory_Cap w83 x56.2.2.1 (hP.mem (i := 1) rfl) 0 hx87) (fun R hc => y_call r rfl cl18 hc) rfl ?_
     rintro _ w88 ⟨rfl, hb⟩
     refine ⟨_, rfl, fun fr r => ?_⟩
     have hP : Post No [cellC b1 ((planC a0)).toArray 23, memK mg18 x56.2.2.1, cellC b20 ((grantC x56.2.2.2)).toArray 70, progK Tryz.prog encInt (fu, (D.alloc_Stash (fu + 1) a0 0 x56.2.2.2.node)) v84 (rg w58.heap.size w83.heap.size)] w0 w88 := hP.below hb
     obtain ⟨x89, hx89, hD⟩ := bindD_elim hD
     refine seq_call r (c_prog_Run_int w88 (fu, (D.alloc_Stash (fu + 1) a0 0 x56.2.2.2.node)) x56.2.2.1 x87 99 (hP.sep.pk [3, 1] rfl rfl) hx89) (fun R hc => y_call r rfl cl16 hc) rfl ?_
     rintro _ w90 ⟨rfl, hq⟩
     refine ⟨_, rfl, fun fr r => ?_⟩
     have hP : Post No [cellC b1 ((planC a0)).toArray 23, memK mg18 x89.2.2.2, cellC b20 ((grantC x56.2.2.2)).toArray 70, progK Tryz.prog encInt (fu, (D.alloc_Stash (fu + 1) a0 0 x56.2.2.2.node)) v84 (rg w58.heap.size w83.heap.size)] w0 w90 := hP.setN (i := 1) rfl hq
     refine seq_val (.tuple #[(I x89.1), (I x89.2.1), (.bool x89.2.2.1)]) r (fun R => y_move r rfl) rfl fun fr r => ?_
     refine seq_val (I x89.1) r (fun R => y_extract r (vs := #[(I x89.1), (I x89.2.1), (.bool x89.2.2.1)]) rfl rfl) rfl fun fr r => ?_
     refine seq_val (I x89.2.1) r (fun R => y_extract r (vs := #[(I x89.1), (I x89.2.1), (.bool x89.2.2.1)]) rfl rfl) rfl fun fr r => ?_
     refine seq_val (.bool x89.2.2.1) r (fun R => y_extract r (vs := #[(I x89.1), (I x89.2.1), (.bool x89.2.2.1)]) rfl rfl) rfl fun fr r => ?_
     refine seq_val (I x89.1) r (fun R => y_assign r rfl) rfl fun fr r => ?_
     refine seq_val (I x89.2.1) r (fun R => y_assign r rfl) rfl fun fr r => ?_
     refine seq_val (.bool x89.2.2.1) r (fun R => y_assign r rfl) rfl fun fr r => ?_
     refine wn ?_
     refine wsr ?_
     refine seq_val (.agg (planC a0).toArray) r (fun R => y_load_agg r (cs := (planC a0)) (n := 6) rfl (hP.cell (i := 0) rfl) ta23 rfl) rfl fun fr r => ?_
     refine seq_val (.pointer (some ⟨mg18.mb, 0, none⟩)) r (fun R => y_move r rfl) rfl fun fr r => ?_
     obtain ⟨x91, hx91, hD⟩ := bindD_elim hD
     refine seq_call r (c_retire_List w90 a0 x89.2.2.2 (hP.mem (i := 1) rfl) 0 0 hx91) (fun R hc => y_call r rfl cl20 hc) rfl ?_
     rintro _ w92 ⟨v93, rfl, hq⟩
     refine ⟨_, rfl, fun fr r => ?_⟩
     have hP : Post No [cellC b1 ((planC a0)).toArray 23, memK mg18 x89.2.2.2, cellC b20 ((grantC x56.2.2.2)).toArray 70, progK Tryz.prog encInt (fu, (D.alloc_Stash (fu + 1) a0 0 x56.2.2.2.node)) v84 (rg w58.heap.size w83.heap.size), rowK 3 1 i64 v93 x91] w0 w92 := hP.add hq
     refine seq_val v93 r (fun R => y_assign r rfl) rfl fun fr r => ?_
     refine wn ?_
     refine wp_seq ?_
     have hP : Post No [cellC b1 ((planC a0)).toArray 23, memK mg18 x89.2.2.2, cellC b20 ((grantC x56.2.2.2)).toArray 70, rowK 3 1 i64 v93 x91] w0 w92 := hP.pick [0, 1, 2, 4] rfl rfl
     refine wp_joinG (N := 158) (Y := Bool) (G := Unit) (fun x γ => [(0, (.agg (planC a0).toArray)), (1, (.int .u8 a1)), (2, (.int .u8 a2)), (3, (.pointer (some ⟨b1, 0, none⟩))), (25, (.bool x10)), (7, (.pointer (some ⟨mg18.mb, 0, none⟩))), (30, (.bool false)), (8, (I (W (a1.tmod 3)))), (9, (.pointer (some ⟨b20, 0, none⟩))), (10, (I x56.2.1)), (72, (.bool ((a2.tmod 2) == 0))), (15, (I x89.1)), (16, (I x89.2.1)), (17, (.bool x89.2.2.1)), (18, v93), (6, (.bool x))]) (fun x γ w => Post No [cellC b1 ((planC a0)).toArray 23, memK mg18 x89.2.2.2, cellC b20 ((grantC x56.2.2.2)).toArray 70, rowK 3 1 i64 v93 x91] w0 w) hD ?_ ?_
     ·
      rintro y95 RPy95 nxy95 hD
      refine seq_split x89.2.2.1 (fun h96 => ?_) (fun h96 => ?_)
      ·
       have hD := (cond_t h96).symm.trans hD
       refine seq_split (x89.1 == x56.2.2.2.node) (fun h97 => ?_) (fun h97 => ?_)
       ·
        have hD := (cond_t h97).symm.trans hD
        refine seq_split (x89.2.1 == 3) (fun h98 => ?_) (fun h98 => ?_)
        ·
         have hD := (cond_t h98).symm.trans hD
         obtain ⟨x99, hx99, hD⟩ := bindD_elim hD
         refine seq_split (x99 == (D.state_State_Word (⟨0, 1, (W (a1.tmod 3))⟩ : State))) (fun h100 => ?_) (fun h100 => ?_)
         ·
          have hD := (cond_t h100).symm.trans hD
          refine seq_split ((x91.length : Int) == 1) (fun h101 => ?_) (fun h101 => ?_)
          ·
           have hD := (cond_t h101).symm.trans hD
           obtain ⟨x102, hx102, hD⟩ := bindD_elim hD
           refine wp_freeF [.val (.bool x89.2.2.1), .val (.bool x89.2.2.1), .val (I x89.1), .val (.pointer (some ⟨b20, 0, none⟩)), .val (I x56.2.2.2.node), .val (.bool (x89.1 == x56.2.2.2.node)), .val (.bool (x89.1 == x56.2.2.2.node)), .val (.bool (x89.1 == x56.2.2.2.node)), .val (I x89.2.1), .val (.bool (x89.2.1 == 3)), .val (.bool (x89.2.1 == 3)), .val (.bool (x89.2.1 == 3)), .val (.pointer (some ⟨mg18.mb, 0, none⟩)), .val (.agg (planC a0).toArray), .val (.pointer (some ⟨b20, 0, none⟩)), .val (I x56.2.2.2.node), .val (I (D.plan_Plan_State a0 x56.2.2.2.node)), .val (U x99), .val (I (W (a1.tmod 3))), .val (.agg (stateC (⟨0, 1, (W (a1.tmod 3))⟩ : State)).toArray), .val (U (D.state_State_Word (⟨0, 1, (W (a1.tmod 3))⟩ : State))), .val (.bool (x99 == (D.state_State_Word (⟨0, 1, (W (a1.tmod 3))⟩ : State)))), .val (.bool (x99 == (D.state_State_Word (⟨0, 1, (W (a1.tmod 3))⟩ : State)))), .val (.bool (x99 == (D.state_State_Word (⟨0, 1, (W (a1.tmod 3))⟩ : State)))), .val v93, .val (I (x91.length : Int)), .val (.bool ((x91.length : Int) == 1)), .val (.bool ((x91.length : Int) == 1)), .val (.bool ((x91.length : Int) == 1)), .val v93, .val (.pointer (some ⟨rowB v93, rowO v93 + (0 : Int).toNat * 1, none⟩)), .val (I x102), .val (.pointer (some ⟨b20, 0, none⟩)), .val (I x56.2.2.2.node), .val (.bool (x102 == x56.2.2.2.node)), .val (.bool (x102 == x56.2.2.2.node)), .val (.bool (x102 == x56.2.2.2.node))] mixed r (by kernel_rfl) ?_ ?_
           ·
            refine fc r (fun fr1 g w' hb' hd r' => y_move r' rfl bz) ?_
            refine fc r (fun fr1 g w' hb' hd r' => y_move r' (hd 0 rfl).1 bz) ?_
            refine eachF_want true r rfl rfl rfl (fun g w' hd => Eq.trans (show (g 1).v = .bool x89.2.2.1 from (hd 1 rfl).1) (congrArg Value.bool h96)) (fun fr1 g w' hb' hd r' => ?_) ?_
            · exact y_move r' (v := (I x89.1)) rfl ⟨Below.refl _ _, rfl⟩
            refine eachF_want true r rfl rfl rfl (fun g w' hd => Eq.trans (show (g 1).v = .bool x89.2.2.1 from (hd 1 rfl).1) (congrArg Value.bool h96)) (fun fr1 g w' hb' hd r' => ?_) ?_
            · exact y_fieldAddr r' (b := b20) (o := 0) (k := 0) rfl fo70_0 ⟨Below.refl _ _, rfl⟩
            refine eachF_want true r rfl rfl rfl (fun g w' hd => Eq.trans (show (g 1).v = .bool x89.2.2.1 from (hd 1 rfl).1) (congrArg Value.bool h96)) (fun fr1 g w' hb' hd r' => ?_) ?_
            · exact y_load_one r' (v := (I x56.2.2.2.node)) (hd 3 rfl).1 ((hP.below (dr hb')).cell (i := 2) rfl) to3 rfl ⟨Below.refl _ _, rfl⟩
            refine eachF_want true r rfl rfl rfl (fun g w' hd => Eq.trans (show (g 1).v = .bool x89.2.2.1 from (hd 1 rfl).1) (congrArg Value.bool h96)) (fun fr1 g w' hb' hd r' => ?_) ?_
            · exact y_bin r' (u := (I x89.1)) (u' := (I x56.2.2.2.node)) (v := (.bool (x89.1 == x56.2.2.2.node))) (hd 2 rfl).1 (hd 4 rfl).1 rfl rfl ⟨Below.refl _ _, rfl⟩
            refine fc r (fun fr1 g w' hb' hd r' => y_pick r' (b := true) (v := (.bool (x89.1 == x56.2.2.2.node))) (Eq.trans (show (g 1).v = .bool x89.2.2.1 from (hd 1 rfl).1) (congrArg Value.bool h96)) (hd 5 rfl).1 bz) ?_
            refine fc r (fun fr1 g w' hb' hd r' => y_move r' (hd 6 rfl).1 bz) ?_
            refine eachF_want true r rfl rfl rfl (fun g w' hd => Eq.trans (show (g 7).v = .bool (x89.1 == x56.2.2.2.node) from (hd 7 rfl).1) (congrArg Value.bool h97)) (fun fr1 g w' hb' hd r' => ?_) ?_
            · exact y_move r' (v := (I x89.2.1)) rfl ⟨Below.refl _ _, rfl⟩
            refine eachF_want true r rfl rfl rfl (fun g w' hd => Eq.trans (show (g 7).v = .bool (x89.1 == x56.2.2.2.node) from (hd 7 rfl).1) (congrArg Value.bool h97)) (fun fr1 g w' hb' hd r' => ?_) ?_
            · exact y_bin r' (u := (I x89.2.1)) (u' := (I 3)) (v := (.bool (x89.2.1 == 3))) (hd 8 rfl).1 rfl rfl rfl ⟨Below.refl _ _, rfl⟩
            refine fc r (fun fr1 g w' hb' hd r' => y_pick r' (b := true) (v := (.bool (x89.2.1 == 3))) (Eq.trans (show (g 7).v = .bool (x89.1 == x56.2.2.2.node) from (hd 7 rfl).1) (congrArg Value.bool h97)) (hd 9 rfl).1 bz) ?_
            refine fc r (fun fr1 g w' hb' hd r' => y_move r' (hd 10 rfl).1 bz) ?_
            refine eachF_want true r rfl rfl rfl (fun g w' hd => Eq.trans (show (g 11).v = .bool (x89.2.1 == 3) from (hd 11 rfl).1) (congrArg Value.bool h98)) (fun fr1 g w' hb' hd r' => ?_) ?_
            · exact y_move r' (v := (.pointer (some ⟨mg18.mb, 0, none⟩))) rfl ⟨Below.refl _ _, rfl⟩
            refine eachF_want true r rfl rfl rfl (fun g w' hd => Eq.trans (show (g 11).v = .bool (x89.2.1 == 3) from (hd 11 rfl).1) (congrArg Value.bool h98)) (fun fr1 g w' hb' hd r' => ?_) ?_
            · exact y_load_agg r' (cs := (planC a0)) (n := 6) rfl ((hP.below (dr hb')).cell (i := 0) rfl) ta23 rfl ⟨Below.refl _ _, rfl⟩
            refine eachF_want true r rfl rfl rfl (fun g w' hd => Eq.trans (show (g 11).v = .bool (x89.2.1 == 3) from (hd 11 rfl).1) (congrArg Value.bool h98)) (fun fr1 g w' hb' hd r' => ?_) ?_
            · exact y_fieldAddr r' (b := b20) (o := 0) (k := 0) rfl fo70_0 ⟨Below.refl _ _, rfl⟩
            refine eachF_want true r rfl rfl rfl (fun g w' hd => Eq.trans (show (g 11).v = .bool (x89.2.1 == 3) from (hd 11 rfl).1) (congrArg Value.bool h98)) (fun fr1 g w' hb' hd r' => ?_) ?_
            · exact y_load_one r' (v := (I x56.2.2.2.node)) (hd 14 rfl).1 ((hP.below (dr hb')).cell (i := 2) rfl) to3 rfl ⟨Below.refl _ _, rfl⟩
            refine eachF_want true r rfl rfl rfl (fun g w' hd => Eq.trans (show (g 11).v = .bool (x89.2.1 == 3) from (hd 11 rfl).1) (congrArg Value.bool h98)) (fun fr1 g w' hb' hd r' => ?_) ?_
            · exact y_call r' (args := [(.agg (planC a0).toArray), (I x56.2.2.2.node)]) (lc (hd 13 rfl).1 (lc (hd 15 rfl).1 l0)) cl28 ((c_plan_Plan_State _ a0 x56.2.2.2.node).mono (by rintro _ w2 ⟨rfl, hb2⟩; exact ⟨_, rfl, hb2, rfl⟩))
            refine eachF_want true r rfl rfl rfl (fun g w' hd => Eq.trans (show (g 11).v = .bool (x89.2.1 == 3) from (hd 11 rfl).1) (congrArg Value.bool h98)) (fun fr1 g w' hb' hd r' => ?_) ?_
            · exact y_call r' (args := [(.pointer (some ⟨mg18.mb, 0, none⟩)), (I 0), (I (D.plan_Plan_State a0 x56.2.2.2.node))]) (lc (hd 12 rfl).1 (lc rfl (lc (hd 16 rfl).1 l0))) cl27 ((c_mem_Memory_Peek _ x89.2.2.2 ((hP.below (dr hb')).mem (i := 1) rfl) 0 (D.plan_Plan_State a0 x56.2.2.2.node) hx99).mono (by rintro _ w2 ⟨rfl, hb2⟩; exact ⟨_, rfl, hb2, rfl⟩))
            refine eachF_want true r rfl rfl rfl (fun g w' hd => Eq.trans (show (g 11).v = .bool (x89.2.1 == 3) from (hd 11 rfl).1) (congrArg Value.bool h98)) (fun fr1 g w' hb' hd r' => ?_) ?_
            · exact y_move r' (v := (I (W (a1.tmod 3)))) rfl ⟨Below.refl _ _, rfl⟩
            refine eachF_want true r rfl rfl rfl (fun g w' hd => Eq.trans (show (g 11).v = .bool (x89.2.1 == 3) from (hd 11 rfl).1) (congrArg Value.bool h98)) (fun fr1 g w' hb' hd r' => ?_) ?_
            · exact y_build r' (v := (.agg (stateC (⟨0, 1, (W (a1.tmod 3))⟩ : State)).toArray)) (bs2 (rfl) (congrArg (fun z => (2, z)) (hd 18 rfl).1) (by kernel_rfl)) ⟨Below.refl _ _, rfl⟩
            refine eachF_want true r rfl rfl rfl (fun g w' hd => Eq.trans (show (g 11).v = .bool (x89.2.1 == 3) from (hd 11 rfl).1) (congrArg Value.bool h98)) (fun fr1 g w' hb' hd r' => ?_) ?_
            · exact y_call r' (args := [(.agg (stateC (⟨0, 1, (W (a1.tmod 3))⟩ : State)).toArray)]) (lc (hd 19 rfl).1 l0) cl29 ((c_state_State_Word _ (⟨0, 1, (W (a1.tmod 3))⟩ : State)).mono (by rintro _ w2 ⟨rfl, hb2⟩; exact ⟨_, rfl, hb2, rfl⟩))
            refine eachF_want true r rfl rfl rfl (fun g w' hd => Eq.trans (show (g 11).v = .bool (x89.2.1 == 3) from (hd 11 rfl).1) (congrArg Value.bool h98)) (fun fr1 g w' hb' hd r' => ?_) ?_
            · exact y_bin r' (u := (U x99)) (u' := (U (D.state_State_Word (⟨0, 1, (W (a1.tmod 3))⟩ : State)))) (v := (.bool (x99 == (D.state_State_Word (⟨0, 1, (W (a1.tmod 3))⟩ : State))))) (hd 17 rfl).1 (hd 20 rfl).1 rfl rfl ⟨Below.refl _ _, rfl⟩
            refine fc r (fun fr1 g w' hb' hd r' => y_pick r' (b := true) (v := (.bool (x99 == (D.state_State_Word (⟨0, 1, (W (a1.tmod 3))⟩ : State))))) (Eq.trans (show (g 11).v = .bool (x89.2.1 == 3) from (hd 11 rfl).1) (congrArg Value.bool h98)) (hd 21 rfl).1 bz) ?_
            refine fc r (fun fr1 g w' hb' hd r' => y_move r' (hd 22 rfl).1 bz) ?_
            refine eachF_want true r rfl rfl rfl (fun g w' hd => Eq.trans (show (g 23).v = .bool (x99 == (D.state_State_Word (⟨0, 1, (W (a1.tmod 3))⟩ : State))) from (hd 23 rfl).1) (congrArg Value.bool h100)) (fun fr1 g w' hb' hd r' => ?_) ?_
            · exact y_move r' (v := v93) rfl ⟨Below.refl _ _, rfl⟩
            refine eachF_want true r rfl rfl rfl (fun g w' hd => Eq.trans (show (g 23).v = .bool (x99 == (D.state_State_Word (⟨0, 1, (W (a1.tmod 3))⟩ : State))) from (hd 23 rfl).1) (congrArg Value.bool h100)) (fun fr1 g w' hb' hd r' => ?_) ?_
            · exact y_rowLen r' ((hP.below (dr hb')).row (i := 3) rfl).ro is24 (hd 24 rfl).1 ⟨Below.refl _ _, rfl⟩
            refine eachF_want true r rfl rfl rfl (fun g w' hd => Eq.trans (show (g 23).v = .bool (x99 == (D.state_State_Word (⟨0, 1, (W (a1.tmod 3))⟩ : State))) from (hd 23 rfl).1) (congrArg Value.bool h100)) (fun fr1 g w' hb' hd r' => ?_) ?_
            · exact y_bin r' (u := (I (x91.length : Int))) (u' := (I 1)) (v := (.bool ((x91.length : Int) == 1))) (hd 25 rfl).1 rfl rfl rfl ⟨Below.refl _ _, rfl⟩
            refine fc r (fun fr1 g w' hb' hd r' => y_pick r' (b := true) (v := (.bool ((x91.length : Int) == 1))) (Eq.trans (show (g 23).v = .bool (x99 == (D.state_State_Word (⟨0, 1, (W (a1.tmod 3))⟩ : State))) from (hd 23 rfl).1) (congrArg Value.bool h100)) (hd 26 rfl).1 bz) ?_
            refine fc r (fun fr1 g w' hb' hd r' => y_move r' (hd 27 rfl).1 bz) ?_
            refine eachF_want true r rfl rfl rfl (fun g w' hd => Eq.trans (show (g 28).v = .bool ((x91.length : Int) == 1) from (hd 28 rfl).1) (congrArg Value.bool h101)) (fun fr1 g w' hb' hd r' => ?_) ?_
            · exact y_move r' (v := v93) rfl ⟨Below.refl _ _, rfl⟩
            refine eachF_want true r rfl rfl rfl (fun g w' hd => Eq.trans (show (g 28).v = .bool ((x91.length : Int) == 1) from (hd 28 rfl).1) (congrArg Value.bool h101)) (fun fr1 g w' hb' hd r' => ?_) ?_
            · exact y_rowAddr r' ((hP.below (dr hb')).row (i := 3) rfl).ro hx102 sl24 (hd 29 rfl).1 rfl ⟨Below.refl _ _, rfl⟩
            refine eachF_want true r rfl rfl rfl (fun g w' hd => Eq.trans (show (g 28).v = .bool ((x91.length : Int) == 1) from (hd 28 rfl).1) (congrArg Value.bool h101)) (fun fr1 g w' hb' hd r' => ?_) ?_
            · exact y_loadL_one r' (u := (I x102)) (RoAt.at_ (f := i64) (x := x102) ((hP.below (dr hb')).row (i := 3) rfl).ro (fun _ => rfl) hx102) (hd 30 rfl).1 to3 ⟨Below.refl _ _, rfl⟩
            refine eachF_want true r rfl rfl rfl (fun g w' hd => Eq.trans (show (g 28).v = .bool ((x91.length : Int) == 1) from (hd 28 rfl).1) (congrArg Value.bool h101)) (fun fr1 g w' hb' hd r' => ?_) ?_
            · exact y_fieldAddr r' (b := b20) (o := 0) (k := 0) rfl fo70_0 ⟨Below.refl _ _, rfl⟩
            refine eachF_want true r rfl rfl rfl (fun g w' hd => Eq.trans (show (g 28).v = .bool ((x91.length : Int) == 1) from (hd 28 rfl).1) (congrArg Value.bool h101)) (fun fr1 g w' hb' hd r' => ?_) ?_
            · exact y_load_one r' (v := (I x56.2.2.2.node)) (hd 32 rfl).1 ((hP.below (dr hb')).cell (i := 2) rfl) to3 rfl ⟨Below.refl _ _, rfl⟩
            refine eachF_want true r rfl rfl rfl (fun g w' hd => Eq.trans (show (g 28).v = .bool ((x91.length : Int) == 1) from (hd 28 rfl).1) (congrArg Value.bool h101)) (fun fr1 g w' hb' hd r' => ?_) ?_
            · exact y_bin r' (u := (I x102)) (u' := (I x56.2.2.2.node)) (v := (.bool (x102 == x56.2.2.2.node))) (hd 31 rfl).1 (hd 33 rfl).1 rfl rfl ⟨Below.refl _ _, rfl⟩
            refine fc r (fun fr1 g w' hb' hd r' => y_pick r' (b := true) (v := (.bool (x102 == x56.2.2.2.node))) (Eq.trans (show (g 28).v = .bool ((x91.length : Int) == 1) from (hd 28 rfl).1) (congrArg Value.bool h101)) (hd 34 rfl).1 bz) ?_
            refine fc r (fun fr1 g w' hb' hd r' => y_assign r' (hd 35 rfl).1 bz) ?_
            exact eachF_nil
           ·
            intro fr gg w103 hb hΦ hap r
            have r := r.congr (sc ((hΦ 36 rfl).1) (sc ((hΦ 35 rfl).1) (sc ((hΦ 34 rfl).1) (sc ((hΦ 33 rfl).1) (sc ((hΦ 32 rfl).1) (sc ((hΦ 31 rfl).1) (sc ((hΦ 30 rfl).1) (sc ((hΦ 29 rfl).1) (sc ((hΦ 28 rfl).1) (sc ((hΦ 27 rfl).1) (sc ((hΦ 26 rfl).1) (sc ((hΦ 25 rfl).1) (sc ((hΦ 24 rfl).1) (sc ((hΦ 23 rfl).1) (sc ((hΦ 22 rfl).1) (sc ((hΦ 21 rfl).1) (sc ((hΦ 20 rfl).1) (sc ((hΦ 19 rfl).1) (sc ((hΦ 18 rfl).1) (sc ((hΦ 17 rfl).1) (sc ((hΦ 16 rfl).1) (sc ((hΦ 15 rfl).1) (sc ((hΦ 14 rfl).1) (sc ((hΦ 13 rfl).1) (sc ((hΦ 12 rfl).1) (sc ((hΦ 11 rfl).1) (sc ((hΦ 10 rfl).1) (sc ((hΦ 9 rfl).1) (sc ((hΦ 8 rfl).1) (sc ((hΦ 7 rfl).1) (sc ((hΦ 6 rfl).1) (sc ((hΦ 5 rfl).1) (sc ((hΦ 4 rfl).1) (sc ((hΦ 3 rfl).1) (sc ((hΦ 2 rfl).1) (sc ((hΦ 1 rfl).1) (sc ((hΦ 0 rfl).1) rfl)))))))))))))))))))))))))))))))))))))
            have hP : Post No [cellC b1 ((planC a0)).toArray 23, memK mg18 x89.2.2.2, cellC b20 ((grantC x56.2.2.2)).toArray 70, rowK 3 1 i64 v93 x91] w0 w103 := hP.below hb
            exact nxy95 (x102 == x56.2.2.2.node) () _ _ _ hD r (hs_cons rfl (hs_cons rfl (hs_cons rfl (hs_cons rfl (hs_cons rfl (hs_cons rfl (hs_cons rfl (hs_cons rfl (hs_cons rfl (hs_cons rfl (hs_cons rfl (hs_cons rfl (hs_cons rfl (hs_cons rfl (hs_cons rfl (hs_cons rfl hs_nil)))))))))))))))) (hP.pick [0, 1, 2, 3] rfl rfl)
          ·
           have hD := (cond_f h101).symm.trans hD
           refine wp_freeF [.val (.bool x89.2.2.1), .val (.bool x89.2.2.1), .val (I x89.1), .val (.pointer (some ⟨b20, 0, none⟩)), .val (I x56.2.2.2.node), .val (.bool (x89.1 == x56.2.2.2.node)), .val (.bool (x89.1 == x56.2.2.2.node)), .val (.bool (x89.1 == x56.2.2.2.node)), .val (I x89.2.1), .val (.bool (x89.2.1 == 3)), .val (.bool (x89.2.1 == 3)), .val (.bool (x89.2.1 == 3)), .val (.pointer (some ⟨mg18.mb, 0, none⟩)), .val (.agg (planC a0).toArray), .val (.pointer (some ⟨b20, 0, none⟩)), .val (I x56.2.2.2.node), .val (I (D.plan_Plan_State a0 x56.2.2.2.node)), .val (U x99), .val (I (W (a1.tmod 3))), .val (.agg (stateC (⟨0, 1, (W (a1.tmod 3))⟩ : State)).toArray), .val (U (D.state_State_Word (⟨0, 1, (W (a1.tmod 3))⟩ : State))), .val (.bool (x99 == (D.state_State_Word (⟨0, 1, (W (a1.tmod 3))⟩ : State)))), .val (.bool (x99 == (D.state_State_Word (⟨0, 1, (W (a1.tmod 3))⟩ : State)))), .val (.bool (x99 == (D.state_State_Word (⟨0, 1, (W (a1.tmod 3))⟩ : State)))), .val v93, .val (I (x91.length : Int)), .val (.bool ((x91.length : Int) == 1)), .val (.bool ((x91.length : Int) == 1)), .val (.bool ((x91.length : Int) == 1)), .val undef, .val undef, .val undef, .val undef, .val undef, .val undef, .val (.bool false), .val (.bool false)] mixed r (by kernel_rfl) ?_ ?_
           ·
            refine fc r (fun fr1 g w' hb' hd r' => y_move r' rfl bz) ?_
            refine fc r (fun fr1 g w' hb' hd r' => y_move r' (hd 0 rfl).1 bz) ?_
            refine eachF_want true r rfl rfl rfl (fun g w' hd => Eq.trans (show (g 1).v = .bool x89.2.2.1 from (hd 1 rfl).1) (congrArg Value.bool h96)) (fun fr1 g w' hb' hd r' => ?_) ?_
            · exact y_move r' (v := (I x89.1)) rfl ⟨Below.refl _ _, rfl⟩
            refine eachF_want true r rfl rfl rfl (fun g w' hd => Eq.trans (show (g 1).v = .bool x89.2.2.1 from (hd 1 rfl).1) (congrArg Value.bool h96)) (fun fr1 g w' hb' hd r' => ?_) ?_
            · exact y_fieldAddr r' (b := b20) (o := 0) (k := 0) rfl fo70_0 ⟨Below.refl _ _, rfl⟩
            refine eachF_want true r rfl rfl rfl (fun g w' hd => Eq.trans (show (g 1).v = .bool x89.2.2.1 from (hd 1 rfl).1) (congrArg Value.bool h96)) (fun fr1 g w' hb' hd r' => ?_) ?_
            · exact y_load_one r' (v := (I x56.2.2.2.node)) (hd 3 rfl).1 ((hP.below (dr hb')).cell (i := 2) rfl) to3 rfl ⟨Below.refl _ _, rfl⟩
            refine eachF_want true r rfl rfl rfl (fun g w' hd => Eq.trans (show (g 1).v = .bool x89.2.2.1 from (hd 1 rfl).1) (congrArg Value.bool h96)) (fun fr1 g w' hb' hd r' => ?_) ?_
            · exact y_bin r' (u := (I x89.1)) (u' := (I x56.2.2.2.node)) (v := (.bool (x89.1 == x56.2.2.2.node))) (hd 2 rfl).1 (hd 4 rfl).1 rfl rfl ⟨Below.refl _ _, rfl⟩
            refine fc r (fun fr1 g w' hb' hd r' => y_pick r' (b := true) (v := (.bool (x89.1 == x56.2.2.2.node))) (Eq.trans (show (g 1).v = .bool x89.2.2.1 from (hd 1 rfl).1) (congrArg Value.bool h96)) (hd 5 rfl).1 bz) ?_
            refine fc r (fun fr1 g w' hb' hd r' => y_move r' (hd 6 rfl).1 bz) ?_
            refine eachF_want true r rfl rfl rfl (fun g w' hd => Eq.trans (show (g 7).v = .bool (x89.1 == x56.2.2.2.node) from (hd 7 rfl).1) (congrArg Value.bool h97)) (fun fr1 g w' hb' hd r' => ?_) ?_
            · exact y_move r' (v := (I x89.2.1)) rfl ⟨Below.refl _ _, rfl⟩
            refine eachF_want true r rfl rfl rfl (fun g w' hd => Eq.trans (show (g 7).v = .bool (x89.1 == x56.2.2.2.node) from (hd 7 rfl).1) (congrArg Value.bool h97)) (fun fr1 g w' hb' hd r' => ?_) ?_
            · exact y_bin r' (u := (I x89.2.1)) (u' := (I 3)) (v := (.bool (x89.2.1 == 3))) (hd 8 rfl).1 rfl rfl rfl ⟨Below.refl _ _, rfl⟩
            refine fc r (fun fr1 g w' hb' hd r' => y_pick r' (b := true) (v := (.bool (x89.2.1 == 3))) (Eq.trans (show (g 7).v = .bool (x89.1 == x56.2.2.2.node) from (hd 7 rfl).1) (congrArg Value.bool h97)) (hd 9 rfl).1 bz) ?_
            refine fc r (fun fr1 g w' hb' hd r' => y_move r' (hd 10 rfl).1 bz) ?_
            refine eachF_want true r rfl rfl rfl (fun g w' hd => Eq.trans (show (g 11).v = .bool (x89.2.1 == 3) from (hd 11 rfl).1) (congrArg Value.bool h98)) (fun fr1 g w' hb' hd r' => ?_) ?_
            · exact y_move r' (v := (.pointer (some ⟨mg18.mb, 0, none⟩))) rfl ⟨Below.refl _ _, rfl⟩
            refine eachF_want true r rfl rfl rfl (fun g w' hd => Eq.trans (show (g 11).v = .bool (x89.2.1 == 3) from (hd 11 rfl).1) (congrArg Value.bool h98)) (fun fr1 g w' hb' hd r' => ?_) ?_
            · exact y_load_agg r' (cs := (planC a0)) (n := 6) rfl ((hP.below (dr hb')).cell (i := 0) rfl) ta23 rfl ⟨Below.refl _ _, rfl⟩
            refine eachF_want true r rfl rfl rfl (fun g w' hd => Eq.trans (show (g 11).v = .bool (x89.2.1 == 3) from (hd 11 rfl).1) (congrArg Value.bool h98)) (fun fr1 g w' hb' hd r' => ?_) ?_
            · exact y_fieldAddr r' (b := b20) (o := 0) (k := 0) rfl fo70_0 ⟨Below.refl _ _, rfl⟩
            refine eachF_want true r rfl rfl rfl (fun g w' hd => Eq.trans (show (g 11).v = .bool (x89.2.1 == 3) from (hd 11 rfl).1) (congrArg Value.bool h98)) (fun fr1 g w' hb' hd r' => ?_) ?_
            · exact y_load_one r' (v := (I x56.2.2.2.node)) (hd 14 rfl).1 ((hP.below (dr hb')).cell (i := 2) rfl) to3 rfl ⟨Below.refl _ _, rfl⟩
            refine eachF_want true r rfl rfl rfl (fun g w' hd => Eq.trans (show (g 11).v = .bool (x89.2.1 == 3) from (hd 11 rfl).1) (congrArg Value.bool h98)) (fun fr1 g w' hb' hd r' => ?_) ?_
            · exact y_call r' (args := [(.agg (planC a0).toArray), (I x56.2.2.2.node)]) (lc (hd 13 rfl).1 (lc (hd 15 rfl).1 l0)) cl28 ((c_plan_Plan_State _ a0 x56.2.2.2.node).mono (by rintro _ w2 ⟨rfl, hb2⟩; exact ⟨_, rfl, hb2, rfl⟩))
            refine eachF_want true r rfl rfl rfl (fun g w' hd => Eq.trans (show (g 11).v = .bool (x89.2.1 == 3) from (hd 11 rfl).1) (congrArg Value.bool h98)) (fun fr1 g w' hb' hd r' => ?_) ?_
            · exact y_call r' (args := [(.pointer (some ⟨mg18.mb, 0, none⟩)), (I 0), (I (D.plan_Plan_State a0 x56.2.2.2.node))]) (lc (hd 12 rfl).1 (lc rfl (lc (hd 16 rfl).1 l0))) cl27 ((c_mem_Memory_Peek _ x89.2.2.2 ((hP.below (dr hb')).mem (i := 1) rfl) 0 (D.plan_Plan_State a0 x56.2.2.2.node) hx99).mono (by rintro _ w2 ⟨rfl, hb2⟩; exact ⟨_, rfl, hb2, rfl⟩))
            refine eachF_want true r rfl rfl rfl (fun g w' hd => Eq.trans (show (g 11).v = .bool (x89.2.1 == 3) from (hd 11 rfl).1) (congrArg Value.bool h98)) (fun fr1 g w' hb' hd r' => ?_) ?_
            · exact y_move r' (v := (I (W (a1.tmod 3)))) rfl ⟨Below.refl _ _, rfl⟩
            refine eachF_want true r rfl rfl rfl (fun g w' hd => Eq.trans (show (g 11).v = .bool (x89.2.1 == 3) from (hd 11 rfl).1) (congrArg Value.bool h98)) (fun fr1 g w' hb' hd r' => ?_) ?_
            · exact y_build r' (v := (.agg (stateC (⟨0, 1, (W (a1.tmod 3))⟩ : State)).toArray)) (bs2 (rfl) (congrArg (fun z => (2, z)) (hd 18 rfl).1) (by kernel_rfl)) ⟨Below.refl _ _, rfl⟩
            refine eachF_want true r rfl rfl rfl (fun g w' hd => Eq.trans (show (g 11).v = .bool (x89.2.1 == 3) from (hd 11 rfl).1) (congrArg Value.bool h98)) (fun fr1 g w' hb' hd r' => ?_) ?_
            · exact y_call r' (args := [(.agg (stateC (⟨0, 1, (W (a1.tmod 3))⟩ : State)).toArray)]) (lc (hd 19 rfl).1 l0) cl29 ((c_state_State_Word _ (⟨0, 1, (W (a1.tmod 3))⟩ : State)).mono (by rintro _ w2 ⟨rfl, hb2⟩; exact ⟨_, rfl, hb2, rfl⟩))
            refine eachF_want true r rfl rfl rfl (fun g w' hd => Eq.trans (show (g 11).v = .bool (x89.2.1 == 3) from (hd 11 rfl).1) (congrArg Value.bool h98)) (fun fr1 g w' hb' hd r' => ?_) ?_
            · exact y_bin r' (u := (U x99)) (u' := (U (D.state_State_Word (⟨0, 1, (W (a1.tmod 3))⟩ : State)))) (v := (.bool (x99 == (D.state_State_Word (⟨0, 1, (W (a1.tmod 3))⟩ : State))))) (hd 17 rfl).1 (hd 20 rfl).1 rfl rfl ⟨Below.refl _ _, rfl⟩
            refine fc r (fun fr1 g w' hb' hd r' => y_pick r' (b := true) (v := (.bool (x99 == (D.state_State_Word (⟨0, 1, (W (a1.tmod 3))⟩ : State))))) (Eq.trans (show (g 11).v = .bool (x89.2.1 == 3) from (hd 11 rfl).1) (congrArg Value.bool h98)) (hd 21 rfl).1 bz) ?_
            refine fc r (fun fr1 g w' hb' hd r' => y_move r' (hd 22 rfl).1 bz) ?_
            refine eachF_want true r rfl rfl rfl (fun g w' hd => Eq.trans (show (g 23).v = .bool (x99 == (D.state_State_Word (⟨0, 1, (W (a1.tmod 3))⟩ : State))) from (hd 23 rfl).1) (congrArg Value.bool h100)) (fun fr1 g w' hb' hd r' => ?_) ?_
            · exact y_move r' (v := v93) rfl ⟨Below.refl _ _, rfl⟩
            refine eachF_want true r rfl rfl rfl (fun g w' hd => Eq.trans (show (g 23).v = .bool (x99 == (D.state_State_Word (⟨0, 1, (W (a1.tmod 3))⟩ : State))) from (hd 23 rfl).1) (congrArg Value.bool h100)) (fun fr1 g w' hb' hd r' => ?_) ?_
            · exact y_rowLen r' ((hP.below (dr hb')).row (i := 3) rfl).ro is24 (hd 24 rfl).1 ⟨Below.refl _ _, rfl⟩
            refine eachF_want true r rfl rfl rfl (fun g w' hd => Eq.trans (show (g 23).v = .bool (x99 == (D.state_State_Word (⟨0, 1, (W (a1.tmod 3))⟩ : State))) from (hd 23 rfl).1) (congrArg Value.bool h100)) (fun fr1 g w' hb' hd r' => ?_) ?_
            · exact y_bin r' (u := (I (x91.length : Int))) (u' := (I 1)) (v := (.bool ((x91.length : Int) == 1))) (hd 25 rfl).1 rfl rfl rfl ⟨Below.refl _ _, rfl⟩
            refine fc r (fun fr1 g w' hb' hd r' => y_pick r' (b := true) (v := (.bool ((x91.length : Int) == 1))) (Eq.trans (show (g 23).v = .bool (x99 == (D.state_State_Word (⟨0, 1, (W (a1.tmod 3))⟩ : State))) from (hd 23 rfl).1) (congrArg Value.bool h100)) (hd 26 rfl).1 bz) ?_
            refine fc r (fun fr1 g w' hb' hd r' => y_move r' (hd 27 rfl).1 bz) ?_
            refine eachF_skip true (.bool false) r rfl rfl rfl (fun g w' hd => Eq.trans (show (g 28).v = .bool ((x91.length : Int) == 1) from (hd 28 rfl).1) (congrArg Value.bool h101)) (by simp [boolOf]) (fun _ _ => ⟨Below.refl _ _, rfl⟩) ?_
            refine eachF_skip true (.bool false) r rfl rfl rfl (fun g w' hd => Eq.trans (show (g 28).v = .bool ((x91.length : Int) == 1) from (hd 28 rfl).1) (congrArg Value.bool h101)) (by simp [boolOf]) (fun _ _ => ⟨Below.refl _ _, rfl⟩) ?_
            refine eachF_skip true (.bool false) r rfl rfl rfl (fun g w' hd => Eq.trans (show (g 28).v = .bool ((x91.length : Int) == 1) from (hd 28 rfl).1) (congrArg Value.bool h101)) (by simp [boolOf]) (fun _ _ => ⟨Below.refl _ _, rfl⟩) ?_
            refine eachF_skip true (.bool false) r rfl rfl rfl (fun g w' hd => Eq.trans (show (g 28).v = .bool ((x91.length : Int) == 1) from (hd 28 rfl).1) (congrArg Value.bool h101)) (by simp [boolOf]) (fun _ _ => ⟨Below.refl _ _, rfl⟩) ?_
            refine eachF_skip true (.bool false) r rfl rfl rfl (fun g w' hd => Eq.trans (show (g 28).v = .bool ((x91.length : Int) == 1) from (hd 28 rfl).1) (congrArg Value.bool h101)) (by simp [boolOf]) (fun _ _ => ⟨Below.refl _ _, rfl⟩) ?_
            refine eachF_skip true (.bool false) r rfl rfl rfl (fun g w' hd => Eq.trans (show (g 28).v = .bool ((x91.length : Int) == 1) from (hd 28 rfl).1) (congrArg Value.bool h101)) (by simp [boolOf]) (fun _ _ => ⟨Below.refl _ _, rfl⟩) ?_
            refine fc r (fun fr1 g w' hb' hd r' => y_pick r' (b := false) (v := (.bool false)) (Eq.trans (show (g 28).v = .bool ((x91.length : Int) == 1) from (hd 28 rfl).1) (congrArg Value.bool h101)) rfl bz) ?_
            refine fc r (fun fr1 g w' hb' hd r' => y_assign r' (hd 35 rfl).1 bz) ?_
            exact eachF_nil
           ·
            intro fr gg w104 hb hΦ hap r
            have r := r.congr (sc ((hΦ 36 rfl).1) (sc ((hΦ 35 rfl).1) (sc ((hΦ 34 rfl).1) (sc ((hΦ 33 rfl).1) (sc ((hΦ 32 rfl).1) (sc ((hΦ 31 rfl).1) (sc ((hΦ 30 rfl).1) (sc ((hΦ 29 rfl).1) (sc ((hΦ 28 rfl).1) (sc ((hΦ 27 rfl).1) (sc ((hΦ 26 rfl).1) (sc ((hΦ 25 rfl).1) (sc ((hΦ 24 rfl).1) (sc ((hΦ 23 rfl).1) (sc ((hΦ 22 rfl).1) (sc ((hΦ 21 rfl).1) (sc ((hΦ 20 rfl).1) (sc ((hΦ 19 rfl).1) (sc ((hΦ 18 rfl).1) (sc ((hΦ 17 rfl).1) (sc ((hΦ 16 rfl).1) (sc ((hΦ 15 rfl).1) (sc ((hΦ 14 rfl).1) (sc ((hΦ 13 rfl).1) (sc ((hΦ 12 rfl).1) (sc ((hΦ 11 rfl).1) (sc ((hΦ 10 rfl).1) (sc ((hΦ 9 rfl).1) (sc ((hΦ 8 rfl).1) (sc ((hΦ 7 rfl).1) (sc ((hΦ 6 rfl).1) (sc ((hΦ 5 rfl).1) (sc ((hΦ 4 rfl).1) (sc ((hΦ 3 rfl).1) (sc ((hΦ 2 rfl).1) (sc ((hΦ 1 rfl).1) (sc ((hΦ 0 rfl).1) rfl)))))))))))))))))))))))))))))))))))))
            have hP : Post No [cellC b1 ((planC a0)).toArray 23, memK mg18 x89.2.2.2, cellC b20 ((grantC x56.2.2.2)).toArray 70, rowK 3 1 i64 v93 x91] w0 w104 := hP.below hb
            exact nxy95 false () _ _ _ hD r (hs_cons rfl (hs_cons rfl (hs_cons rfl (hs_cons rfl (hs_cons rfl (hs_cons rfl (hs_cons rfl (hs_cons rfl (hs_cons rfl (hs_cons rfl (hs_cons rfl (hs_cons rfl (hs_cons rfl (hs_cons rfl (hs_cons rfl (hs_cons rfl hs_nil)))))))))))))))) (hP.pick [0, 1, 2, 3] rfl rfl)
         ·
          have hD := (cond_f h100).symm.trans hD
          refine wp_freeF [.val (.bool x89.2.2.1), .val (.bool x89.2.2.1), .val (I x89.1), .val (.pointer (some ⟨b20, 0, none⟩)), .val (I x56.2.2.2.node), .val (.bool (x89.1 == x56.2.2.2.node)), .val (.bool (x89.1 == x56.2.2.2.node)), .val (.bool (x89.1 == x56.2.2.2.node)), .val (I x89.2.1), .val (.bool (x89.2.1 == 3)), .val (.bool (x89.2.1 == 3)), .val (.bool (x89.2.1 == 3)), .val (.pointer (some ⟨mg18.mb, 0, none⟩)), .val (.agg (planC a0).toArray), .val (.pointer (some ⟨b20, 0, none⟩)), .val (I x56.2.2.2.node), .val (I (D.plan_Plan_State a0 x56.2.2.2.node)), .val (U x99), .val (I (W (a1.tmod 3))), .val (.agg (stateC (⟨0, 1, (W (a1.tmod 3))⟩ : State)).toArray), .val (U (D.state_State_Word (⟨0, 1, (W (a1.tmod 3))⟩ : State))), .val (.bool (x99 == (D.state_State_Word (⟨0, 1, (W (a1.tmod 3))⟩ : State)))), .val (.bool (x99 == (D.state_State_Word (⟨0, 1, (W (a1.tmod 3))⟩ : State)))), .val (.bool (x99 == (D.state_State_Word (⟨0, 1, (W (a1.tmod 3))⟩ : State)))), .val undef, .val undef, .val undef, .val (.bool false), .val (.bool false), .val undef, .val undef, .val undef, .val undef, .val undef, .val undef, .val (.bool false), .val (.bool false)] mixed r (by kernel_rfl) ?_ ?_
          ·
           refine fc r (fun fr1 g w' hb' hd r' => y_move r' rfl bz) ?_
           refine fc r (fun fr1 g w' hb' hd r' => y_move r' (hd 0 rfl).1 bz) ?_
           refine eachF_want true r rfl rfl rfl (fun g w' hd => Eq.trans (show (g 1).v = .bool x89.2.2.1 from (hd 1 rfl).1) (congrArg Value.bool h96)) (fun fr1 g w' hb' hd r' => ?_) ?_
           · exact y_move r' (v := (I x89.1)) rfl ⟨Below.refl _ _, rfl⟩
           refine eachF_want true r rfl rfl rfl (fun g w' hd => Eq.trans (show (g 1).v = .bool x89.2.2.1 from (hd 1 rfl).1) (congrArg Value.bool h96)) (fun fr1 g w' hb' hd r' => ?_) ?_
           · exact y_fieldAddr r' (b := b20) (o := 0) (k := 0) rfl fo70_0 ⟨Below.refl _ _, rfl⟩
           refine eachF_want true r rfl rfl rfl (fun g w' hd => Eq.trans (show (g 1).v = .bool x89.2.2.1 from (hd 1 rfl).1) (congrArg Value.bool h96)) (fun fr1 g w' hb' hd r' => ?_) ?_
           · exact y_load_one r' (v := (I x56.2.2.2.node)) (hd 3 rfl).1 ((hP.below (dr hb')).cell (i := 2) rfl) to3 rfl ⟨Below.refl _ _, rfl⟩
           refine eachF_want true r rfl rfl rfl (fun g w' hd => Eq.trans (show (g 1).v = .bool x89.2.2.1 from (hd 1 rfl).1) (congrArg Value.bool h96)) (fun fr1 g w' hb' hd r' => ?_) ?_
           · exact y_bin r' (u := (I x89.1)) (u' := (I x56.2.2.2.node)) (v := (.bool (x89.1 == x56.2.2.2.node))) (hd 2 rfl).1 (hd 4 rfl).1 rfl rfl ⟨Below.refl _ _, rfl⟩
           refine fc r (fun fr1 g w' hb' hd r' => y_pick r' (b := true) (v := (.bool (x89.1 == x56.2.2.2.node))) (Eq.trans (show (g 1).v = .bool x89.2.2.1 from (hd 1 rfl).1) (congrArg Value.bool h96)) (hd 5 rfl).1 bz) ?_
           refine fc r (fun fr1 g w' hb' hd r' => y_move r' (hd 6 rfl).1 bz) ?_
           refine eachF_want true r rfl rfl rfl (fun g w' hd => Eq.trans (show (g 7).v = .bool (x89.1 == x56.2.2.2.node) from (hd 7 rfl).1) (congrArg Value.bool h97)) (fun fr1 g w' hb' hd r' => ?_) ?_
           · exact y_move r' (v := (I x89.2.1)) rfl ⟨Below.refl _ _, rfl⟩
           refine eachF_want true r rfl rfl rfl (fun g w' hd => Eq.trans (show (g 7).v = .bool (x89.1 == x56.2.2.2.node) from (hd 7 rfl).1) (congrArg Value.bool h97)) (fun fr1 g w' hb' hd r' => ?_) ?_
           · exact y_bin r' (u := (I x89.2.1)) (u' := (I 3)) (v := (.bool (x89.2.1 == 3))) (hd 8 rfl).1 rfl rfl rfl ⟨Below.refl _ _, rfl⟩
           refine fc r (fun fr1 g w' hb' hd r' => y_pick r' (b := true) (v := (.bool (x89.2.1 == 3))) (Eq.trans (show (g 7).v = .bool (x89.1 == x56.2.2.2.node) from (hd 7 rfl).1) (congrArg Value.bool h97)) (hd 9 rfl).1 bz) ?_
           refine fc r (fun fr1 g w' hb' hd r' => y_move r' (hd 10 rfl).1 bz) ?_
           refine eachF_want true r rfl rfl rfl (fun g w' hd => Eq.trans (show (g 11).v = .bool (x89.2.1 == 3) from (hd 11 rfl).1) (congrArg Value.bool h98)) (fun fr1 g w' hb' hd r' => ?_) ?_
           · exact y_move r' (v := (.pointer (some ⟨mg18.mb, 0, none⟩))) rfl ⟨Below.refl _ _, rfl⟩
           refine eachF_want true r rfl rfl rfl (fun g w' hd => Eq.trans (show (g 11).v = .bool (x89.2.1 == 3) from (hd 11 rfl).1) (congrArg Value.bool h98)) (fun fr1 g w' hb' hd r' => ?_) ?_
           · exact y_load_agg r' (cs := (planC a0)) (n := 6) rfl ((hP.below (dr hb')).cell (i := 0) rfl) ta23 rfl ⟨Below.refl _ _, rfl⟩
           refine eachF_want true r rfl rfl rfl (fun g w' hd => Eq.trans (show (g 11).v = .bool (x89.2.1 == 3) from (hd 11 rfl).1) (congrArg Value.bool h98)) (fun fr1 g w' hb' hd r' => ?_) ?_
           · exact y_fieldAddr r' (b := b20) (o := 0) (k := 0) rfl fo70_0 ⟨Below.refl _ _, rfl⟩
           refine eachF_want true r rfl rfl rfl (fun g w' hd => Eq.trans (show (g 11).v = .bool (x89.2.1 == 3) from (hd 11 rfl).1) (congrArg Value.bool h98)) (fun fr1 g w' hb' hd r' => ?_) ?_
           · exact y_load_one r' (v := (I x56.2.2.2.node)) (hd 14 rfl).1 ((hP.below (dr hb')).cell (i := 2) rfl) to3 rfl ⟨Below.refl _ _, rfl⟩
           refine eachF_want true r rfl rfl rfl (fun g w' hd => Eq.trans (show (g 11).v = .bool (x89.2.1 == 3) from (hd 11 rfl).1) (congrArg Value.bool h98)) (fun fr1 g w' hb' hd r' => ?_) ?_
           · exact y_call r' (args := [(.agg (planC a0).toArray), (I x56.2.2.2.node)]) (lc (hd 13 rfl).1 (lc (hd 15 rfl).1 l0)) cl28 ((c_plan_Plan_State _ a0 x56.2.2.2.node).mono (by rintro _ w2 ⟨rfl, hb2⟩; exact ⟨_, rfl, hb2, rfl⟩))
           refine eachF_want true r rfl rfl rfl (fun g w' hd => Eq.trans (show (g 11).v = .bool (x89.2.1 == 3) from (hd 11 rfl).1) (congrArg Value.bool h98)) (fun fr1 g w' hb' hd r' => ?_) ?_
           · exact y_call r' (args := [(.pointer (some ⟨mg18.mb, 0, none⟩)), (I 0), (I (D.plan_Plan_State a0 x56.2.2.2.node))]) (lc (hd 12 rfl).1 (lc rfl (lc (hd 16 rfl).1 l0))) cl27 ((c_mem_Memory_Peek _ x89.2.2.2 ((hP.below (dr hb')).mem (i := 1) rfl) 0 (D.plan_Plan_State a0 x56.2.2.2.node) hx99).mono (by rintro _ w2 ⟨rfl, hb2⟩; exact ⟨_, rfl, hb2, rfl⟩))
           refine eachF_want true r rfl rfl rfl (fun g w' hd => Eq.trans (show (g 11).v = .bool (x89.2.1 == 3) from (hd 11 rfl).1) (congrArg Value.bool h98)) (fun fr1 g w' hb' hd r' => ?_) ?_
           · exact y_move r' (v := (I (W (a1.tmod 3)))) rfl ⟨Below.refl _ _, rfl⟩
           refine eachF_want true r rfl rfl rfl (fun g w' hd => Eq.trans (show (g 11).v = .bool (x89.2.1 == 3) from (hd 11 rfl).1) (congrArg Value.bool h98)) (fun fr1 g w' hb' hd r' => ?_) ?_
           · exact y_build r' (v := (.agg (stateC (⟨0, 1, (W (a1.tmod 3))⟩ : State)).toArray)) (bs2 (rfl) (congrArg (fun z => (2, z)) (hd 18 rfl).1) (by kernel_rfl)) ⟨Below.refl _ _, rfl⟩
           refine eachF_want true r rfl rfl rfl (fun g w' hd => Eq.trans (show (g 11).v = .bool (x89.2.1 == 3) from (hd 11 rfl).1) (congrArg Value.bool h98)) (fun fr1 g w' hb' hd r' => ?_) ?_
           · exact y_call r' (args := [(.agg (stateC (⟨0, 1, (W (a1.tmod 3))⟩ : State)).toArray)]) (lc (hd 19 rfl).1 l0) cl29 ((c_state_State_Word _ (⟨0, 1, (W (a1.tmod 3))⟩ : State)).mono (by rintro _ w2 ⟨rfl, hb2⟩; exact ⟨_, rfl, hb2, rfl⟩))
           refine eachF_want true r rfl rfl rfl (fun g w' hd => Eq.trans (show (g 11).v = .bool (x89.2.1 == 3) from (hd 11 rfl).1) (congrArg Value.bool h98)) (fun fr1 g w' hb' hd r' => ?_) ?_
           · exact y_bin r' (u := (U x99)) (u' := (U (D.state_State_Word (⟨0, 1, (W (a1.tmod 3))⟩ : State)))) (v := (.bool (x99 == (D.state_State_Word (⟨0, 1, (W (a1.tmod 3))⟩ : State))))) (hd 17 rfl).1 (hd 20 rfl).1 rfl rfl ⟨Below.refl _ _, rfl⟩
           refine fc r (fun fr1 g w' hb' hd r' => y_pick r' (b := true) (v := (.bool (x99 == (D.state_State_Word (⟨0, 1, (W (a1.tmod 3))⟩ : State))))) (Eq.trans (show (g 11).v = .bool (x89.2.1 == 3) from (hd 11 rfl).1) (congrArg Value.bool h98)) (hd 21 rfl).1 bz) ?_
           refine fc r (fun fr1 g w' hb' hd r' => y_move r' (hd 22 rfl).1 bz) ?_
           refine eachF_skip true (.bool false) r rfl rfl rfl (fun g w' hd => Eq.trans (show (g 23).v = .bool (x99 == (D.state_State_Word (⟨0, 1, (W (a1.tmod 3))⟩ : State))) from (hd 23 rfl).1) (congrArg Value.bool h100)) (by simp [boolOf]) (fun _ _ => ⟨Below.refl _ _, rfl⟩) ?_
           refine eachF_skip true (.bool false) r rfl rfl rfl (fun g w' hd => Eq.trans (show (g 23).v = .bool (x99 == (D.state_State_Word (⟨0, 1, (W (a1.tmod 3))⟩ : State))) from (hd 23 rfl).1) (congrArg Value.bool h100)) (by simp [boolOf]) (fun _ _ => ⟨Below.refl _ _, rfl⟩) ?_
           refine eachF_skip true (.bool false) r rfl rfl rfl (fun g w' hd => Eq.trans (show (g 23).v = .bool (x99 == (D.state_State_Word (⟨0, 1, (W (a1.tmod 3))⟩ : State))) from (hd 23 rfl).1) (congrArg Value.bool h100)) (by simp [boolOf]) (fun _ _ => ⟨Below.refl _ _, rfl⟩) ?_
           refine fc r (fun fr1 g w' hb' hd r' => y_pick r' (b := false) (v := (.bool false)) (Eq.trans (show (g 23).v = .bool (x99 == (D.state_State_Word (⟨0, 1, (W (a1.tmod 3))⟩ : State))) from (hd 23 rfl).1) (congrArg Value.bool h100)) rfl bz) ?_
           refine fc r (fun fr1 g w' hb' hd r' => y_move r' (hd 27 rfl).1 bz) ?_
           refine eachF_skip true (.bool false) r rfl rfl rfl (fun g w' hd => Eq.trans (show (g 28).v = .bool false from (hd 28 rfl).1) (congrArg Value.bool (rfl : false = _))) (by simp [boolOf]) (fun _ _ => ⟨Below.refl _ _, rfl⟩) ?_
           refine eachF_skip true (.bool false) r rfl rfl rfl (fun g w' hd => Eq.trans (show (g 28).v = .bool false from (hd 28 rfl).1) (congrArg Value.bool (rfl : false = _))) (by simp [boolOf]) (fun _ _ => ⟨Below.refl _ _, rfl⟩) ?_
           refine eachF_skip true (.bool false) r rfl rfl rfl (fun g w' hd => Eq.trans (show (g 28).v = .bool false from (hd 28 rfl).1) (congrArg Value.bool (rfl : false = _))) (by simp [boolOf]) (fun _ _ => ⟨Below.refl _ _, rfl⟩) ?_
           refine eachF_skip true (.bool false) r rfl rfl rfl (fun g w' hd => Eq.trans (show (g 28).v = .bool false from (hd 28 rfl).1) (congrArg Value.bool (rfl : false = _))) (by simp [boolOf]) (fun _ _ => ⟨Below.refl _ _, rfl⟩) ?_
           refine eachF_skip true (.bool false) r rfl rfl rfl (fun g w' hd => Eq.trans (show (g 28).v = .bool false from (hd 28 rfl).1) (congrArg Value.bool (rfl : false = _))) (by simp [boolOf]) (fun _ _ => ⟨Below.refl _ _, rfl⟩) ?_
           refine eachF_skip true (.bool false) r rfl rfl rfl (fun g w' hd => Eq.trans (show (g 28).v = .bool false from (hd 28 rfl).1) (congrArg Value.bool (rfl : false = _))) (by simp [boolOf]) (fun _ _ => ⟨Below.refl _ _, rfl⟩) ?_
           refine fc r (fun fr1 g w' hb' hd r' => y_pick r' (b := false) (v := (.bool false)) (Eq.trans (show (g 28).v = .bool false from (hd 28 rfl).1) (congrArg Value.bool (rfl : false = _))) rfl bz) ?_
           refine fc r (fun fr1 g w' hb' hd r' => y_assign r' (hd 35 rfl).1 bz) ?_
           exact eachF_nil
          ·
           intro fr gg w105 hb hΦ hap r
           have r := r.congr (sc ((hΦ 36 rfl).1) (sc ((hΦ 35 rfl).1) (sc ((hΦ 34 rfl).1) (sc ((hΦ 33 rfl).1) (sc ((hΦ 32 rfl).1) (sc ((hΦ 31 rfl).1) (sc ((hΦ 30 rfl).1) (sc ((hΦ 29 rfl).1) (sc ((hΦ 28 rfl).1) (sc ((hΦ 27 rfl).1) (sc ((hΦ 26 rfl).1) (sc ((hΦ 25 rfl).1) (sc ((hΦ 24 rfl).1) (sc ((hΦ 23 rfl).1) (sc ((hΦ 22 rfl).1) (sc ((hΦ 21 rfl).1) (sc ((hΦ 20 rfl).1) (sc ((hΦ 19 rfl).1) (sc ((hΦ 18 rfl).1) (sc ((hΦ 17 rfl).1) (sc ((hΦ 16 rfl).1) (sc ((hΦ 15 rfl).1) (sc ((hΦ 14 rfl).1) (sc ((hΦ 13 rfl).1) (sc ((hΦ 12 rfl).1) (sc ((hΦ 11 rfl).1) (sc ((hΦ 10 rfl).1) (sc ((hΦ 9 rfl).1) (sc ((hΦ 8 rfl).1) (sc ((hΦ 7 rfl).1) (sc ((hΦ 6 rfl).1) (sc ((hΦ 5 rfl).1) (sc ((hΦ 4 rfl).1) (sc ((hΦ 3 rfl).1) (sc ((hΦ 2 rfl).1) (sc ((hΦ 1 rfl).1) (sc ((hΦ 0 rfl).1) rfl)))))))))))))))))))))))))))))))))))))
           have hP : Post No [cellC b1 ((planC a0)).toArray 23, memK mg18 x89.2.2.2, cellC b20 ((grantC x56.2.2.2)).toArray 70, rowK 3 1 i64 v93 x91] w0 w105 := hP.below hb
           exact nxy95 false () _ _ _ hD r (hs_cons rfl (hs_cons rfl (hs_cons rfl (hs_cons rfl (hs_cons rfl (hs_cons rfl (hs_cons rfl (hs_cons rfl (hs_cons rfl (hs_cons rfl (hs_cons rfl (hs_cons rfl (hs_cons rfl (hs_cons rfl (hs_cons rfl (hs_cons rfl hs_nil)))))))))))))))) (hP.pick [0, 1, 2, 3] rfl rfl)
        ·
         have hD := (cond_f h98).symm.trans hD
         refine wp_freeF [.val (.bool x89.2.2.1), .val (.bool x89.2.2.1), .val (I x89.1), .val (.pointer (some ⟨b20, 0, none⟩)), .val (I x56.2.2.2.node), .val (.bool (x89.1 == x56.2.2.2.node)), .val (.bool (x89.1 == x56.2.2.2.node)), .val (.bool (x89.1 == x56.2.2.2.node)), .val (I x89.2.1), .val (.bool (x89.2.1 == 3)), .val (.bool (x89.2.1 == 3)), .val (.bool (x89.2.1 == 3)), .val undef, .val undef, .val undef, .val undef, .val undef, .val undef, .val undef, .val undef, .val undef, .val undef, .val (.bool false), .val (.bool false), .val undef, .val undef, .val undef, .val (.bool false), .val (.bool false), .val undef, .val undef, .val undef, .val undef, .val undef, .val undef, .val (.bool false), .val (.bool false)] mixed r (by kernel_rfl) ?_ ?_
         ·
          refine fc r (fun fr1 g w' hb' hd r' => y_move r' rfl bz) ?_
          refine fc r (fun fr1 g w' hb' hd r' => y_move r' (hd 0 rfl).1 bz) ?_
          refine eachF_want true r rfl rfl rfl (fun g w' hd => Eq.trans (show (g 1).v = .bool x89.2.2.1 from (hd 1 rfl).1) (congrArg Value.bool h96)) (fun fr1 g w' hb' hd r' => ?_) ?_
          · exact y_move r' (v := (I x89.1)) rfl ⟨Below.refl _ _, rfl⟩
          refine eachF_want true r rfl rfl rfl (fun g w' hd => Eq.trans (show (g 1).v = .bool x89.2.2.1 from (hd 1 rfl).1) (congrArg Value.bool h96)) (fun fr1 g w' hb' hd r' => ?_) ?_
          · exact y_fieldAddr r' (b := b20) (o := 0) (k := 0) rfl fo70_0 ⟨Below.refl _ _, rfl⟩
          refine eachF_want true r rfl rfl rfl (fun g w' hd => Eq.trans (show (g 1).v = .bool x89.2.2.1 from (hd 1 rfl).1) (congrArg Value.bool h96)) (fun fr1 g w' hb' hd r' => ?_) ?_
          · exact y_load_one r' (v := (I x56.2.2.2.node)) (hd 3 rfl).1 ((hP.below (dr hb')).cell (i := 2) rfl) to3 rfl ⟨Below.refl _ _, rfl⟩
          refine eachF_want true r rfl rfl rfl (fun g w' hd => Eq.trans (show (g 1).v = .bool x89.2.2.1 from (hd 1 rfl).1) (congrArg Value.bool h96)) (fun fr1 g w' hb' hd r' => ?_) ?_
          · exact y_bin r' (u := (I x89.1)) (u' := (I x56.2.2.2.node)) (v := (.bool (x89.1 == x56.2.2.2.node))) (hd 2 rfl).1 (hd 4 rfl).1 rfl rfl ⟨Below.refl _ _, rfl⟩
          refine fc r (fun fr1 g w' hb' hd r' => y_pick r' (b := true) (v := (.bool (x89.1 == x56.2.2.2.node))) (Eq.trans (show (g 1).v = .bool x89.2.2.1 from (hd 1 rfl).1) (congrArg Value.bool h96)) (hd 5 rfl).1 bz) ?_
          refine fc r (fun fr1 g w' hb' hd r' => y_move r' (hd 6 rfl).1 bz) ?_
          refine eachF_want true r rfl rfl rfl (fun g w' hd => Eq.trans (show (g 7).v = .bool (x89.1 == x56.2.2.2.node) from (hd 7 rfl).1) (congrArg Value.bool h97)) (fun fr1 g w' hb' hd r' => ?_) ?_
          · exact y_move r' (v := (I x89.2.1)) rfl ⟨Below.refl _ _, rfl⟩
          refine eachF_want true r rfl rfl rfl (fun g w' hd => Eq.trans (show (g 7).v = .bool (x89.1 == x56.2.2.2.node) from (hd 7 rfl).1) (congrArg Value.bool h97)) (fun fr1 g w' hb' hd r' => ?_) ?_
          · exact y_bin r' (u := (I x89.2.1)) (u' := (I 3)) (v := (.bool (x89.2.1 == 3))) (hd 8 rfl).1 rfl rfl rfl ⟨Below.refl _ _, rfl⟩
          refine fc r (fun fr1 g w' hb' hd r' => y_pick r' (b := true) (v := (.bool (x89.2.1 == 3))) (Eq.trans (show (g 7).v = .bool (x89.1 == x56.2.2.2.node) from (hd 7 rfl).1) (congrArg Value.bool h97)) (hd 9 rfl).1 bz) ?_
          refine fc r (fun fr1 g w' hb' hd r' => y_move r' (hd 10 rfl).1 bz) ?_
          refine eachF_skip true (.bool false) r rfl rfl rfl (fun g w' hd => Eq.trans (show (g 11).v = .bool (x89.2.1 == 3) from (hd 11 rfl).1) (congrArg Value.bool h98)) (by simp [boolOf]) (fun _ _ => ⟨Below.refl _ _, rfl⟩) ?_
          refine eachF_skip true (.bool false) r rfl rfl rfl (fun g w' hd => Eq.trans (show (g 11).v = .bool (x89.2.1 == 3) from (hd 11 rfl).1) (congrArg Value.bool h98)) (by simp [boolOf]) (fun _ _ => ⟨Below.refl _ _, rfl⟩) ?_
          refine eachF_skip true (.bool false) r rfl rfl rfl (fun g w' hd => Eq.trans (show (g 11).v = .bool (x89.2.1 == 3) from (hd 11 rfl).1) (congrArg Value.bool h98)) (by simp [boolOf]) (fun _ _ => ⟨Below.refl _ _, rfl⟩) ?_
          refine eachF_skip true (.bool false) r rfl rfl rfl (fun g w' hd => Eq.trans (show (g 11).v = .bool (x89.2.1 == 3) from (hd 11 rfl).1) (congrArg Value.bool h98)) (by simp [boolOf]) (fun _ _ => ⟨Below.refl _ _, rfl⟩) ?_
          refine eachF_skip true (.bool false) r rfl rfl rfl (fun g w' hd => Eq.trans (show (g 11).v = .bool (x89.2.1 == 3) from (hd 11 rfl).1) (congrArg Value.bool h98)) (by simp [boolOf]) (fun _ _ => ⟨Below.refl _ _, rfl⟩) ?_
          refine eachF_skip true (.bool false) r rfl rfl rfl (fun g w' hd => Eq.trans (show (g 11).v = .bool (x89.2.1 == 3) from (hd 11 rfl).1) (congrArg Value.bool h98)) (by simp [boolOf]) (fun _ _ => ⟨Below.refl _ _, rfl⟩) ?_
          refine eachF_skip true (.bool false) r rfl rfl rfl (fun g w' hd => Eq.trans (show (g 11).v = .bool (x89.2.1 == 3) from (hd 11 rfl).1) (congrArg Value.bool h98)) (by simp [boolOf]) (fun _ _ => ⟨Below.refl _ _, rfl⟩) ?_
          refine eachF_skip true (.bool false) r rfl rfl rfl (fun g w' hd => Eq.trans (show (g 11).v = .bool (x89.2.1 == 3) from (hd 11 rfl).1) (congrArg Value.bool h98)) (by simp [boolOf]) (fun _ _ => ⟨Below.refl _ _, rfl⟩) ?_
          refine eachF_skip true (.bool false) r rfl rfl rfl (fun g w' hd => Eq.trans (show (g 11).v = .bool (x89.2.1 == 3) from (hd 11 rfl).1) (congrArg Value.bool h98)) (by simp [boolOf]) (fun _ _ => ⟨Below.refl _ _, rfl⟩) ?_
          refine eachF_skip true (.bool false) r rfl rfl rfl (fun g w' hd => Eq.trans (show (g 11).v = .bool (x89.2.1 == 3) from (hd 11 rfl).1) (congrArg Value.bool h98)) (by simp [boolOf]) (fun _ _ => ⟨Below.refl _ _, rfl⟩) ?_
          refine fc r (fun fr1 g w' hb' hd r' => y_pick r' (b := false) (v := (.bool false)) (Eq.trans (show (g 11).v = .bool (x89.2.1 == 3) from (hd 11 rfl).1) (congrArg Value.bool h98)) rfl bz) ?_
          refine fc r (fun fr1 g w' hb' hd r' => y_move r' (hd 22 rfl).1 bz) ?_
          refine eachF_skip true (.bool false) r rfl rfl rfl (fun g w' hd => Eq.trans (show (g 23).v = .bool false from (hd 23 rfl).1) (congrArg Value.bool (rfl : false = _))) (by simp [boolOf]) (fun _ _ => ⟨Below.refl _ _, rfl⟩) ?_
          refine eachF_skip true (.bool false) r rfl rfl rfl (fun g w' hd => Eq.trans (show (g 23).v = .bool false from (hd 23 rfl).1) (congrArg Value.bool (rfl : false = _))) (by simp [boolOf]) (fun _ _ => ⟨Below.refl _ _, rfl⟩) ?_
          refine eachF_skip true (.bool false) r rfl rfl rfl (fun g w' hd => Eq.trans (show (g 23).v = .bool false from (hd 23 rfl).1) (congrArg Value.bool (rfl : false = _))) (by simp [boolOf]) (fun _ _ => ⟨Below.refl _ _, rfl⟩) ?_
          refine fc r (fun fr1 g w' hb' hd r' => y_pick r' (b := false) (v := (.bool false)) (Eq.trans (show (g 23).v = .bool false from (hd 23 rfl).1) (congrArg Value.bool (rfl : false = _))) rfl bz) ?_
          refine fc r (fun fr1 g w' hb' hd r' => y_move r' (hd 27 rfl).1 bz) ?_
          refine eachF_skip true (.bool false) r rfl rfl rfl (fun g w' hd => Eq.trans (show (g 28).v = .bool false from (hd 28 rfl).1) (congrArg Value.bool (rfl : false = _))) (by simp [boolOf]) (fun _ _ => ⟨Below.refl _ _, rfl⟩) ?_
          refine eachF_skip true (.bool false) r rfl rfl rfl (fun g w' hd => Eq.trans (show (g 28).v = .bool false from (hd 28 rfl).1) (congrArg Value.bool (rfl : false = _))) (by simp [boolOf]) (fun _ _ => ⟨Below.refl _ _, rfl⟩) ?_
          refine eachF_skip true (.bool false) r rfl rfl rfl (fun g w' hd => Eq.trans (show (g 28).v = .bool false from (hd 28 rfl).1) (congrArg Value.bool (rfl : false = _))) (by simp [boolOf]) (fun _ _ => ⟨Below.refl _ _, rfl⟩) ?_
          refine eachF_skip true (.bool false) r rfl rfl rfl (fun g w' hd => Eq.trans (show (g 28).v = .bool false from (hd 28 rfl).1) (congrArg Value.bool (rfl : false = _))) (by simp [boolOf]) (fun _ _ => ⟨Below.refl _ _, rfl⟩) ?_
          refine eachF_skip true (.bool false) r rfl rfl rfl (fun g w' hd => Eq.trans (show (g 28).v = .bool false from (hd 28 rfl).1) (congrArg Value.bool (rfl : false = _))) (by simp [boolOf]) (fun _ _ => ⟨Below.refl _ _, rfl⟩) ?_
          refine eachF_skip true (.bool false) r rfl rfl rfl (fun g w' hd => Eq.trans (show (g 28).v = .bool false from (hd 28 rfl).1) (congrArg Value.bool (rfl : false = _))) (by simp [boolOf]) (fun _ _ => ⟨Below.refl _ _, rfl⟩) ?_
          refine fc r (fun fr1 g w' hb' hd r' => y_pick r' (b := false) (v := (.bool false)) (Eq.trans (show (g 28).v = .bool false from (hd 28 rfl).1) (congrArg Value.bool (rfl : false = _))) rfl bz) ?_
          refine fc r (fun fr1 g w' hb' hd r' => y_assign r' (hd 35 rfl).1 bz) ?_
          exact eachF_nil
         ·
          intro fr gg w106 hb hΦ hap r
          have r := r.congr (sc ((hΦ 36 rfl).1) (sc ((hΦ 35 rfl).1) (sc ((hΦ 34 rfl).1) (sc ((hΦ 33 rfl).1) (sc ((hΦ 32 rfl).1) (sc ((hΦ 31 rfl).1) (sc ((hΦ 30 rfl).1) (sc ((hΦ 29 rfl).1) (sc ((hΦ 28 rfl).1) (sc ((hΦ 27 rfl).1) (sc ((hΦ 26 rfl).1) (sc ((hΦ 25 rfl).1) (sc ((hΦ 24 rfl).1) (sc ((hΦ 23 rfl).1) (sc ((hΦ 22 rfl).1) (sc ((hΦ 21 rfl).1) (sc ((hΦ 20 rfl).1) (sc ((hΦ 19 rfl).1) (sc ((hΦ 18 rfl).1) (sc ((hΦ 17 rfl).1) (sc ((hΦ 16 rfl).1) (sc ((hΦ 15 rfl).1) (sc ((hΦ 14 rfl).1) (sc ((hΦ 13 rfl).1) (sc ((hΦ 12 rfl).1) (sc ((hΦ 11 rfl).1) (sc ((hΦ 10 rfl).1) (sc ((hΦ 9 rfl).1) (sc ((hΦ 8 rfl).1) (sc ((hΦ 7 rfl).1) (sc ((hΦ 6 rfl).1) (sc ((hΦ 5 rfl).1) (sc ((hΦ 4 rfl).1) (sc ((hΦ 3 rfl).1) (sc ((hΦ 2 rfl).1) (sc ((hΦ 1 rfl).1) (sc ((hΦ 0 rfl).1) rfl)))))))))))))))))))))))))))))))))))))
          have hP : Post No [cellC b1 ((planC a0)).toArray 23, memK mg18 x89.2.2.2, cellC b20 ((grantC x56.2.2.2)).toArray 70, rowK 3 1 i64 v93 x91] w0 w106 := hP.below hb
          exact nxy95 false () _ _ _ hD r (hs_cons rfl (hs_cons rfl (hs_cons rfl (hs_cons rfl (hs_cons rfl (hs_cons rfl (hs_cons rfl (hs_cons rfl (hs_cons rfl (hs_cons rfl (hs_cons rfl (hs_cons rfl (hs_cons rfl (hs_cons rfl (hs_cons rfl (hs_cons rfl hs_nil)))))))))))))))) (hP.pick [0, 1, 2, 3] rfl rfl)
       ·
        have hD := (cond_f h97).symm.trans hD
        refine wp_freeF [.val (.bool x89.2.2.1), .val (.bool x89.2.2.1), .val (I x89.1), .val (.pointer (some ⟨b20, 0, none⟩)), .val (I x56.2.2.2.node), .val (.bool (x89.1 == x56.2.2.2.node)), .val (.bool (x89.1 == x56.2.2.2.node)), .val (.bool (x89.1 == x56.2.2.2.node)), .val undef, .val undef, .val (.bool false), .val (.bool false), .val undef, .val undef, .val undef, .val undef, .val undef, .val undef, .val undef, .val undef, .val undef, .val undef, .val (.bool false), .val (.bool false), .val undef, .val undef, .val undef, .val (.bool false), .val (.bool false), .val undef, .val undef, .val undef, .val undef, .val undef, .val undef, .val (.bool false), .val (.bool false)] mixed r (by kernel_rfl) ?_ ?_
        ·
         refine fc r (fun fr1 g w' hb' hd r' => y_move r' rfl bz) ?_
         refine fc r (fun fr1 g w' hb' hd r' => y_move r' (hd 0 rfl).1 bz) ?_
         refine eachF_want true r rfl rfl rfl (fun g w' hd => Eq.trans (show (g 1).v = .bool x89.2.2.1 from (hd 1 rfl).1) (congrArg Value.bool h96)) (fun fr1 g w' hb' hd r' => ?_) ?_
         · exact y_move r' (v := (I x89.1)) rfl ⟨Below.refl _ _, rfl⟩
         refine eachF_want true r rfl rfl rfl (fun g w' hd => Eq.trans (show (g 1).v = .bool x89.2.2.1 from (hd 1 rfl).1) (congrArg Value.bool h96)) (fun fr1 g w' hb' hd r' => ?_) ?_
         · exact y_fieldAddr r' (b := b20) (o := 0) (k := 0) rfl fo70_0 ⟨Below.refl _ _, rfl⟩
         refine eachF_want true r rfl rfl rfl (fun g w' hd => Eq.trans (show (g 1).v = .bool x89.2.2.1 from (hd 1 rfl).1) (congrArg Value.bool h96)) (fun fr1 g w' hb' hd r' => ?_) ?_
         · exact y_load_one r' (v := (I x56.2.2.2.node)) (hd 3 rfl).1 ((hP.below (dr hb')).cell (i := 2) rfl) to3 rfl ⟨Below.refl _ _, rfl⟩
         refine eachF_want true r rfl rfl rfl (fun g w' hd => Eq.trans (show (g 1).v = .bool x89.2.2.1 from (hd 1 rfl).1) (congrArg Value.bool h96)) (fun fr1 g w' hb' hd r' => ?_) ?_
         · exact y_bin r' (u := (I x89.1)) (u' := (I x56.2.2.2.node)) (v := (.bool (x89.1 == x56.2.2.2.node))) (hd 2 rfl).1 (hd 4 rfl).1 rfl rfl ⟨Below.refl _ _, rfl⟩
         refine fc r (fun fr1 g w' hb' hd r' => y_pick r' (b := true) (v := (.bool (x89.1 == x56.2.2.2.node))) (Eq.trans (show (g 1).v = .bool x89.2.2.1 from (hd 1 rfl).1) (congrArg Value.bool h96)) (hd 5 rfl).1 bz) ?_
         refine fc r (fun fr1 g w' hb' hd r' => y_move r' (hd 6 rfl).1 bz) ?_
         refine eachF_skip true (.bool false) r rfl rfl rfl (fun g w' hd => Eq.trans (show (g 7).v = .bool (x89.1 == x56.2.2.2.node) from (hd 7 rfl).1) (congrArg Value.bool h97)) (by simp [boolOf]) (fun _ _ => ⟨Below.refl _ _, rfl⟩) ?_
         refine eachF_skip true (.bool false) r rfl rfl rfl (fun g w' hd => Eq.trans (show (g 7).v = .bool (x89.1 == x56.2.2.2.node) from (hd 7 rfl).1) (congrArg Value.bool h97)) (by simp [boolOf]) (fun _ _ => ⟨Below.refl _ _, rfl⟩) ?_
         refine fc r (fun fr1 g w' hb' hd r' => y_pick r' (b := false) (v := (.bool false)) (Eq.trans (show (g 7).v = .bool (x89.1 == x56.2.2.2.node) from (hd 7 rfl).1) (congrArg Value.bool h97)) rfl bz) ?_
         refine fc r (fun fr1 g w' hb' hd r' => y_move r' (hd 10 rfl).1 bz) ?_
         refine eachF_skip true (.bool false) r rfl rfl rfl (fun g w' hd => Eq.trans (show (g 11).v = .bool false from (hd 11 rfl).1) (congrArg Value.bool (rfl : false = _))) (by simp [boolOf]) (fun _ _ => ⟨Below.refl _ _, rfl⟩) ?_
         refine eachF_skip true (.bool false) r rfl rfl rfl (fun g w' hd => Eq.trans (show (g 11).v = .bool false from (hd 11 rfl).1) (congrArg Value.bool (rfl : false = _))) (by simp [boolOf]) (fun _ _ => ⟨Below.refl _ _, rfl⟩) ?_
         refine eachF_skip true (.bool false) r rfl rfl rfl (fun g w' hd => Eq.trans (show (g 11).v = .bool false from (hd 11 rfl).1) (congrArg Value.bool (rfl : false = _))) (by simp [boolOf]) (fun _ _ => ⟨Below.refl _ _, rfl⟩) ?_
         refine eachF_skip true (.bool false) r rfl rfl rfl (fun g w' hd => Eq.trans (show (g 11).v = .bool false from (hd 11 rfl).1) (congrArg Value.bool (rfl : false = _))) (by simp [boolOf]) (fun _ _ => ⟨Below.refl _ _, rfl⟩) ?_
         refine eachF_skip true (.bool false) r rfl rfl rfl (fun g w' hd => Eq.trans (show (g 11).v = .bool false from (hd 11 rfl).1) (congrArg Value.bool (rfl : false = _))) (by simp [boolOf]) (fun _ _ => ⟨Below.refl _ _, rfl⟩) ?_
         refine eachF_skip true (.bool false) r rfl rfl rfl (fun g w' hd => Eq.trans (show (g 11).v = .bool false from (hd 11 rfl).1) (congrArg Value.bool (rfl : false = _))) (by simp [boolOf]) (fun _ _ => ⟨Below.refl _ _, rfl⟩) ?_
         refine eachF_skip true (.bool false) r rfl rfl rfl (fun g w' hd => Eq.trans (show (g 11).v = .bool false from (hd 11 rfl).1) (congrArg Value.bool (rfl : false = _))) (by simp [boolOf]) (fun _ _ => ⟨Below.refl _ _, rfl⟩) ?_
         refine eachF_skip true (.bool false) r rfl rfl rfl (fun g w' hd => Eq.trans (show (g 11).v = .bool false from (hd 11 rfl).1) (congrArg Value.bool (rfl : false = _))) (by simp [boolOf]) (fun _ _ => ⟨Below.refl _ _, rfl⟩) ?_
         refine eachF_skip true (.bool false) r rfl rfl rfl (fun g w' hd => Eq.trans (show (g 11).v = .bool false from (hd 11 rfl).1) (congrArg Value.bool (rfl : false = _))) (by simp [boolOf]) (fun _ _ => ⟨Below.refl _ _, rfl⟩) ?_
         refine eachF_skip true (.bool false) r rfl rfl rfl (fun g w' hd => Eq.trans (show (g 11).v = .bool false from (hd 11 rfl).1) (congrArg Value.bool (rfl : false = _))) (by simp [boolOf]) (fun _ _ => ⟨Below.refl _ _, rfl⟩) ?_
         refine fc r (fun fr1 g w' hb' hd r' => y_pick r' (b := false) (v := (.bool false)) (Eq.trans (show (g 11).v = .bool false from (hd 11 rfl).1) (congrArg Value.bool (rfl : false = _))) rfl bz) ?_
         refine fc r (fun fr1 g w' hb' hd r' => y_move r' (hd 22 rfl).1 bz) ?_
         refine eachF_skip true (.bool false) r rfl rfl rfl (fun g w' hd => Eq.trans (show (g 23).v = .bool false from (hd 23 rfl).1) (congrArg Value.bool (rfl : false = _))) (by simp [boolOf]) (fun _ _ => ⟨Below.refl _ _, rfl⟩) ?_
         refine eachF_skip true (.bool false) r rfl rfl rfl (fun g w' hd => Eq.trans (show (g 23).v = .bool false from (hd 23 rfl).1) (congrArg Value.bool (rfl : false = _))) (by simp [boolOf]) (fun _ _ => ⟨Below.refl _ _, rfl⟩) ?_
         refine eachF_skip true (.bool false) r rfl rfl rfl (fun g w' hd => Eq.trans (show (g 23).v = .bool false from (hd 23 rfl).1) (congrArg Value.bool (rfl : false = _))) (by simp [boolOf]) (fun _ _ => ⟨Below.refl _ _, rfl⟩) ?_
         refine fc r (fun fr1 g w' hb' hd r' => y_pick r' (b := false) (v := (.bool false)) (Eq.trans (show (g 23).v = .bool false from (hd 23 rfl).1) (congrArg Value.bool (rfl : false = _))) rfl bz) ?_
         refine fc r (fun fr1 g w' hb' hd r' => y_move r' (hd 27 rfl).1 bz) ?_
         refine eachF_skip true (.bool false) r rfl rfl rfl (fun g w' hd => Eq.trans (show (g 28).v = .bool false from (hd 28 rfl).1) (congrArg Value.bool (rfl : false = _))) (by simp [boolOf]) (fun _ _ => ⟨Below.refl _ _, rfl⟩) ?_
         refine eachF_skip true (.bool false) r rfl rfl rfl (fun g w' hd => Eq.trans (show (g 28).v = .bool false from (hd 28 rfl).1) (congrArg Value.bool (rfl : false = _))) (by simp [boolOf]) (fun _ _ => ⟨Below.refl _ _, rfl⟩) ?_
         refine eachF_skip true (.bool false) r rfl rfl rfl (fun g w' hd => Eq.trans (show (g 28).v = .bool false from (hd 28 rfl).1) (congrArg Value.bool (rfl : false = _))) (by simp [boolOf]) (fun _ _ => ⟨Below.refl _ _, rfl⟩) ?_
         refine eachF_skip true (.bool false) r rfl rfl rfl (fun g w' hd => Eq.trans (show (g 28).v = .bool false from (hd 28 rfl).1) (congrArg Value.bool (rfl : false = _))) (by simp [boolOf]) (fun _ _ => ⟨Below.refl _ _, rfl⟩) ?_
         refine eachF_skip true (.bool false) r rfl rfl rfl (fun g w' hd => Eq.trans (show (g 28).v = .bool false from (hd 28 rfl).1) (congrArg Value.bool (rfl : false = _))) (by simp [boolOf]) (fun _ _ => ⟨Below.refl _ _, rfl⟩) ?_
         refine eachF_skip true (.bool false) r rfl rfl rfl (fun g w' hd => Eq.trans (show (g 28).v = .bool false from (hd 28 rfl).1) (congrArg Value.bool (rfl : false = _))) (by simp [boolOf]) (fun _ _ => ⟨Below.refl _ _, rfl⟩) ?_
         refine fc r (fun fr1 g w' hb' hd r' => y_pick r' (b := false) (v := (.bool false)) (Eq.trans (show (g 28).v = .bool false from (hd 28 rfl).1) (congrArg Value.bool (rfl : false = _))) rfl bz) ?_
         refine fc r (fun fr1 g w' hb' hd r' => y_assign r' (hd 35 rfl).1 bz) ?_
         exact eachF_nil
        ·
         intro fr gg w107 hb hΦ hap r
         have r := r.congr (sc ((hΦ 36 rfl).1) (sc ((hΦ 35 rfl).1) (sc ((hΦ 34 rfl).1) (sc ((hΦ 33 rfl).1) (sc ((hΦ 32 rfl).1) (sc ((hΦ 31 rfl).1) (sc ((hΦ 30 rfl).1) (sc ((hΦ 29 rfl).1) (sc ((hΦ 28 rfl).1) (sc ((hΦ 27 rfl).1) (sc ((hΦ 26 rfl).1) (sc ((hΦ 25 rfl).1) (sc ((hΦ 24 rfl).1) (sc ((hΦ 23 rfl).1) (sc ((hΦ 22 rfl).1) (sc ((hΦ 21 rfl).1) (sc ((hΦ 20 rfl).1) (sc ((hΦ 19 rfl).1) (sc ((hΦ 18 rfl).1) (sc ((hΦ 17 rfl).1) (sc ((hΦ 16 rfl).1) (sc ((hΦ 15 rfl).1) (sc ((hΦ 14 rfl).1) (sc ((hΦ 13 rfl).1) (sc ((hΦ 12 rfl).1) (sc ((hΦ 11 rfl).1) (sc ((hΦ 10 rfl).1) (sc ((hΦ 9 rfl).1) (sc ((hΦ 8 rfl).1) (sc ((hΦ 7 rfl).1) (sc ((hΦ 6 rfl).1) (sc ((hΦ 5 rfl).1) (sc ((hΦ 4 rfl).1) (sc ((hΦ 3 rfl).1) (sc ((hΦ 2 rfl).1) (sc ((hΦ 1 rfl).1) (sc ((hΦ 0 rfl).1) rfl)))))))))))))))))))))))))))))))))))))
         have hP : Post No [cellC b1 ((planC a0)).toArray 23, memK mg18 x89.2.2.2, cellC b20 ((grantC x56.2.2.2)).toArray 70, rowK 3 1 i64 v93 x91] w0 w107 := hP.below hb
         exact nxy95 false () _ _ _ hD r (hs_cons rfl (hs_cons rfl (hs_cons rfl (hs_cons rfl (hs_cons rfl (hs_cons rfl (hs_cons rfl (hs_cons rfl (hs_cons rfl (hs_cons rfl (hs_cons rfl (hs_cons rfl (hs_cons rfl (hs_cons rfl (hs_cons rfl (hs_cons rfl hs_nil)))))))))))))))) (hP.pick [0, 1, 2, 3] rfl rfl)
      ·
       have hD := (cond_f h96).symm.trans hD
       refine wp_freeF [.val (.bool x89.2.2.1), .val (.bool x89.2.2.1), .val undef, .val undef, .val undef, .val undef, .val (.bool false), .val (.bool false), .val undef, .val undef, .val (.bool false), .val (.bool false), .val undef, .val undef, .val undef, .val undef, .val undef, .val undef, .val undef, .val undef, .val undef, .val undef, .val (.bool false), .val (.bool false), .val undef, .val undef, .val undef, .val (.bool false), .val (.bool false), .val undef, .val undef, .val undef, .val undef, .val undef, .val undef, .val (.bool false), .val (.bool false)] mixed r (by kernel_rfl) ?_ ?_
       ·
        refine fc r (fun fr1 g w' hb' hd r' => y_move r' rfl bz) ?_
        refine fc r (fun fr1 g w' hb' hd r' => y_move r' (hd 0 rfl).1 bz) ?_
        refine eachF_skip true (.bool false) r rfl rfl rfl (fun g w' hd => Eq.trans (show (g 1).v = .bool x89.2.2.1 from (hd 1 rfl).1) (congrArg Value.bool h96)) (by simp [boolOf]) (fun _ _ => ⟨Below.refl _ _, rfl⟩) ?_
        refine eachF_skip true (.bool false) r rfl rfl rfl (fun g w' hd => Eq.trans (show (g 1).v = .bool x89.2.2.1 from (hd 1 rfl).1) (congrArg Value.bool h96)) (by simp [boolOf]) (fun _ _ => ⟨Below.refl _ _, rfl⟩) ?_
        refine eachF_skip true (.bool false) r rfl rfl rfl (fun g w' hd => Eq.trans (show (g 1).v = .bool x89.2.2.1 from (hd 1 rfl).1) (congrArg Value.bool h96)) (by simp [boolOf]) (fun _ _ => ⟨Below.refl _ _, rfl⟩) ?_
        refine eachF_skip true (.bool false) r rfl rfl rfl (fun g w' hd => Eq.trans (show (g 1).v = .bool x89.2.2.1 from (hd 1 rfl).1) (congrArg Value.bool h96)) (by simp [boolOf]) (fun _ _ => ⟨Below.refl _ _, rfl⟩) ?_
        refine fc r (fun fr1 g w' hb' hd r' => y_pick r' (b := false) (v := (.bool false)) (Eq.trans (show (g 1).v = .bool x89.2.2.1 from (hd 1 rfl).1) (congrArg Value.bool h96)) rfl bz) ?_
        refine fc r (fun fr1 g w' hb' hd r' => y_move r' (hd 6 rfl).1 bz) ?_
        refine eachF_skip true (.bool false) r rfl rfl rfl (fun g w' hd => Eq.trans (show (g 7).v = .bool false from (hd 7 rfl).1) (congrArg Value.bool (rfl : false = _))) (by simp [boolOf]) (fun _ _ => ⟨Below.refl _ _, rfl⟩) ?_
        refine eachF_skip true (.bool false) r rfl rfl rfl (fun g w' hd => Eq.trans (show (g 7).v = .bool false from (hd 7 rfl).1) (congrArg Value.bool (rfl : false = _))) (by simp [boolOf]) (fun _ _ => ⟨Below.refl _ _, rfl⟩) ?_
        refine fc r (fun fr1 g w' hb' hd r' => y_pick r' (b := false) (v := (.bool false)) (Eq.trans (show (g 7).v = .bool false from (hd 7 rfl).1) (congrArg Value.bool (rfl : false = _))) rfl bz) ?_
        refine fc r (fun fr1 g w' hb' hd r' => y_move r' (hd 10 rfl).1 bz) ?_
        refine eachF_skip true (.bool false) r rfl rfl rfl (fun g w' hd => Eq.trans (show (g 11).v = .bool false from (hd 11 rfl).1) (congrArg Value.bool (rfl : false = _))) (by simp [boolOf]) (fun _ _ => ⟨Below.refl _ _, rfl⟩) ?_
        refine eachF_skip true (.bool false) r rfl rfl rfl (fun g w' hd => Eq.trans (show (g 11).v = .bool false from (hd 11 rfl).1) (congrArg Value.bool (rfl : false = _))) (by simp [boolOf]) (fun _ _ => ⟨Below.refl _ _, rfl⟩) ?_
        refine eachF_skip true (.bool false) r rfl rfl rfl (fun g w' hd => Eq.trans (show (g 11).v = .bool false from (hd 11 rfl).1) (congrArg Value.bool (rfl : false = _))) (by simp [boolOf]) (fun _ _ => ⟨Below.refl _ _, rfl⟩) ?_
        refine eachF_skip true (.bool false) r rfl rfl rfl (fun g w' hd => Eq.trans (show (g 11).v = .bool false from (hd 11 rfl).1) (congrArg Value.bool (rfl : false = _))) (by simp [boolOf]) (fun _ _ => ⟨Below.refl _ _, rfl⟩) ?_
        refine eachF_skip true (.bool false) r rfl rfl rfl (fun g w' hd => Eq.trans (show (g 11).v = .bool false from (hd 11 rfl).1) (congrArg Value.bool (rfl : false = _))) (by simp [boolOf]) (fun _ _ => ⟨Below.refl _ _, rfl⟩) ?_
        refine eachF_skip true (.bool false) r rfl rfl rfl (fun g w' hd => Eq.trans (show (g 11).v = .bool false from (hd 11 rfl).1) (congrArg Value.bool (rfl : false = _))) (by simp [boolOf]) (fun _ _ => ⟨Below.refl _ _, rfl⟩) ?_
        refine eachF_skip true (.bool false) r rfl rfl rfl (fun g w' hd => Eq.trans (show (g 11).v = .bool false from (hd 11 rfl).1) (congrArg Value.bool (rfl : false = _))) (by simp [boolOf]) (fun _ _ => ⟨Below.refl _ _, rfl⟩) ?_
        refine eachF_skip true (.bool false) r rfl rfl rfl (fun g w' hd => Eq.trans (show (g 11).v = .bool false from (hd 11 rfl).1) (congrArg Value.bool (rfl : false = _))) (by simp [boolOf]) (fun _ _ => ⟨Below.refl _ _, rfl⟩) ?_
        refine eachF_skip true (.bool false) r rfl rfl rfl (fun g w' hd => Eq.trans (show (g 11).v = .bool false from (hd 11 rfl).1) (congrArg Value.bool (rfl : false = _))) (by simp [boolOf]) (fun _ _ => ⟨Below.refl _ _, rfl⟩) ?_
        refine eachF_skip true (.bool false) r rfl rfl rfl (fun g w' hd => Eq.trans (show (g 11).v = .bool false from (hd 11 rfl).1) (congrArg Value.bool (rfl : false = _))) (by simp [boolOf]) (fun _ _ => ⟨Below.refl _ _, rfl⟩) ?_
        refine fc r (fun fr1 g w' hb' hd r' => y_pick r' (b := false) (v := (.bool false)) (Eq.trans (show (g 11).v = .bool false from (hd 11 rfl).1) (congrArg Value.bool (rfl : false = _))) rfl bz) ?_
        refine fc r (fun fr1 g w' hb' hd r' => y_move r' (hd 22 rfl).1 bz) ?_
        refine eachF_skip true (.bool false) r rfl rfl rfl (fun g w' hd => Eq.trans (show (g 23).v = .bool false from (hd 23 rfl).1) (congrArg Value.bool (rfl : false = _))) (by simp [boolOf]) (fun _ _ => ⟨Below.refl _ _, rfl⟩) ?_
        refine eachF_skip true (.bool false) r rfl rfl rfl (fun g w' hd => Eq.trans (show (g 23).v = .bool false from (hd 23 rfl).1) (congrArg Value.bool (rfl : false = _))) (by simp [boolOf]) (fun _ _ => ⟨Below.refl _ _, rfl⟩) ?_
        refine eachF_skip true (.bool false) r rfl rfl rfl (fun g w' hd => Eq.trans (show (g 23).v = .bool false from (hd 23 rfl).1) (congrArg Value.bool (rfl : false = _))) (by simp [boolOf]) (fun _ _ => ⟨Below.refl _ _, rfl⟩) ?_
        refine fc r (fun fr1 g w' hb' hd r' => y_pick r' (b := false) (v := (.bool false)) (Eq.trans (show (g 23).v = .bool false from (hd 23 rfl).1) (congrArg Value.bool (rfl : false = _))) rfl bz) ?_
        refine fc r (fun fr1 g w' hb' hd r' => y_move r' (hd 27 rfl).1 bz) ?_
        refine eachF_skip true (.bool false) r rfl rfl rfl (fun g w' hd => Eq.trans (show (g 28).v = .bool false from (hd 28 rfl).1) (congrArg Value.bool (rfl : false = _))) (by simp [boolOf]) (fun _ _ => ⟨Below.refl _ _, rfl⟩) ?_
        refine eachF_skip true (.bool false) r rfl rfl rfl (fun g w' hd => Eq.trans (show (g 28).v = .bool false from (hd 28 rfl).1) (congrArg Value.bool (rfl : false = _))) (by simp [boolOf]) (fun _ _ => ⟨Below.refl _ _, rfl⟩) ?_
        refine eachF_skip true (.bool false) r rfl rfl rfl (fun g w' hd => Eq.trans (show (g 28).v = .bool false from (hd 28 rfl).1) (congrArg Value.bool (rfl : false = _))) (by simp [boolOf]) (fun _ _ => ⟨Below.refl _ _, rfl⟩) ?_
        refine eachF_skip true (.bool false) r rfl rfl rfl (fun g w' hd => Eq.trans (show (g 28).v = .bool false from (hd 28 rfl).1) (congrArg Value.bool (rfl : false = _))) (by simp [boolOf]) (fun _ _ => ⟨Below.refl _ _, rfl⟩) ?_
        refine eachF_skip true (.bool false) r rfl rfl rfl (fun g w' hd => Eq.trans (show (g 28).v = .bool false from (hd 28 rfl).1) (congrArg Value.bool (rfl : false = _))) (by simp [boolOf]) (fun _ _ => ⟨Below.refl _ _, rfl⟩) ?_
        refine eachF_skip true (.bool false) r rfl rfl rfl (fun g w' hd => Eq.trans (show (g 28).v = .bool false from (hd 28 rfl).1) (congrArg Value.bool (rfl : false = _))) (by simp [boolOf]) (fun _ _ => ⟨Below.refl _ _, rfl⟩) ?_
        refine fc r (fun fr1 g w' hb' hd r' => y_pick r' (b := false) (v := (.bool false)) (Eq.trans (show (g 28).v = .bool false from (hd 28 rfl).1) (congrArg Value.bool (rfl : false = _))) rfl bz) ?_
        refine fc r (fun fr1 g w' hb' hd r' => y_assign r' (hd 35 rfl).1 bz) ?_
        exact eachF_nil
       ·
        intro fr gg w108 hb hΦ hap r
        have r := r.congr (sc ((hΦ 36 rfl).1) (sc ((hΦ 35 rfl).1) (sc ((hΦ 34 rfl).1) (sc ((hΦ 33 rfl).1) (sc ((hΦ 32 rfl).1) (sc ((hΦ 31 rfl).1) (sc ((hΦ 30 rfl).1) (sc ((hΦ 29 rfl).1) (sc ((hΦ 28 rfl).1) (sc ((hΦ 27 rfl).1) (sc ((hΦ 26 rfl).1) (sc ((hΦ 25 rfl).1) (sc ((hΦ 24 rfl).1) (sc ((hΦ 23 rfl).1) (sc ((hΦ 22 rfl).1) (sc ((hΦ 21 rfl).1) (sc ((hΦ 20 rfl).1) (sc ((hΦ 19 rfl).1) (sc ((hΦ 18 rfl).1) (sc ((hΦ 17 rfl).1) (sc ((hΦ 16 rfl).1) (sc ((hΦ 15 rfl).1) (sc ((hΦ 14 rfl).1) (sc ((hΦ 13 rfl).1) (sc ((hΦ 12 rfl).1) (sc ((hΦ 11 rfl).1) (sc ((hΦ 10 rfl).1) (sc ((hΦ 9 rfl).1) (sc ((hΦ 8 rfl).1) (sc ((hΦ 7 rfl).1) (sc ((hΦ 6 rfl).1) (sc ((hΦ 5 rfl).1) (sc ((hΦ 4 rfl).1) (sc ((hΦ 3 rfl).1) (sc ((hΦ 2 rfl).1) (sc ((hΦ 1 rfl).1) (sc ((hΦ 0 rfl).1) rfl)))))))))))))))))))))))))))))))))))))
        have hP : Post No [cellC b1 ((planC a0)).toArray 23, memK mg18 x89.2.2.2, cellC b20 ((grantC x56.2.2.2)).toArray 70, rowK 3 1 i64 v93 x91] w0 w108 := hP.below hb
        exact nxy95 false () _ _ _ hD r (hs_cons rfl (hs_cons rfl (hs_cons rfl (hs_cons rfl (hs_cons rfl (hs_cons rfl (hs_cons rfl (hs_cons rfl (hs_cons rfl (hs_cons rfl (hs_cons rfl (hs_cons rfl (hs_cons rfl (hs_cons rfl (hs_cons rfl (hs_cons rfl hs_nil)))))))))))))))) (hP.pick [0, 1, 2, 3] rfl rfl)
     ·
      rintro x109 γ110 fr w111 g r hP hD
      have hP : Post No [cellC b1 ((planC a0)).toArray 23, memK mg18 x89.2.2.2, cellC b20 ((grantC x56.2.2.2)).toArray 70, rowK 3 1 i64 v93 x91] w0 w111 := hP
      refine wp_ret ?_
      have hv : x109 = res := Option.some.inj hD
      try dsimp only [Exit.then, Exit.inBlock]
      refine ret_tmp (fn := Tryz.f9) r (t := 6) rfl (v := (.bool x109)) rfl ?_
      subst hv
      exact ⟨rfl, hP.chg.below⟩

end Go.Proofs.YtphnnjiaiemkcaaGreat.Wk
