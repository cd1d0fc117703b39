/- Written by a program of ours (wip/gen.py): a law -/
import Derived.Test.YtphnnjiaiemkcaaGreatQahL12
set_option linter.unusedVariables false
set_option maxRecDepth 20000
set_option maxHeartbeats 2000000
namespace Go.Proofs.YtphnnjiaiemkcaaGreat.Wk
open Go.RowKit
theorem cl16 : callable Tryz.prog 16 = true := by kernel_rfl

theorem cl31 : callable Tryz.prog 31 = true := by kernel_rfl

theorem cl36 : callable Tryz.prog 36 = true := by kernel_rfl

theorem cl45 : callable Tryz.prog 45 = true := by kernel_rfl

theorem fo70_1 : fieldOff Tryz.prog 70 1 1 = true := by kernel_rfl

theorem ti5 : intTy Tryz.prog 5 .u8 = true := by kernel_rfl

def D.cubiclelaw12_AllocHeld (fu : Nat) (a0 : Int) (a1 : Int) : Option (Bool) := ((D.cubiclelaw12_awake fu ).bind (fun (x1 : Bool) => (bif (!x1) then (some false) else ((D.cubiclelaw09_Laid fu (⟨4, 2, 7, 0, 1, 1000⟩ : Plan)).bind (fun (x10 : Mem) => ((D.mem_Memory_Cap fu x10 0).bind (fun (x18 : Cap) => ((D.prog_Run_Grant fu (fu, (D.alloc_New (fu + 1) (⟨4, 2, 7, 0, 1, 1000⟩ : Plan) 0 0)) x10 x18 99).bind (fun (x20 : Grant × Int × Bool × Mem) => ((D.mem_Memory_Cap fu x20.2.2.2 0).bind (fun (x32 : Cap) => ((D.prog_Run_None fu (fu, (D.hazard_Set (⟨4, 2, 7, 0, 1, 1000⟩ : Plan) 1 (IntKind.i64.wrap (a1.tmod 3)) x20.1.node)) x20.2.2.2 x32 9).bind (fun (x34 : Unit × Int × Bool × Mem) => ((D.mem_Memory_Cap fu x34.2.2.2 0).bind (fun (x40 : Cap) => ((D.prog_Run_int fu (fu, (D.alloc_Retire (fu + 1) (⟨4, 2, 7, 0, 1, 1000⟩ : Plan) 0 x20.1.node)) x34.2.2.2 x40 999).bind (fun (x42 : Int × Int × Bool × Mem) => (loopThen (fun (x44 : Bool × Int × Mem) => (bif (decide (x44.2.1 < (IntKind.i64.wrap (a0.tmod 60)))) then ((D.mem_Memory_Cap fu x44.2.2 0).bind (fun (x53 : Cap) => ((D.prog_Run_Grant fu (fu, (D.alloc_New (fu + 1) (⟨4, 2, 7, 0, 1, 1000⟩ : Plan) 0 1)) x44.2.2 x53 999).bind (fun (x55 : Grant × Int × Bool × Mem) => (Option.bind (bif (x55.1.e != 0) then (some true) else (some (x55.1.node == x20.1.node))) (fun (x65 : Bool) => (bif x65 then (some (Lp.ret false)) else ((D.mem_Memory_Cap fu x55.2.2.2 0).bind (fun (x73 : Cap) => ((D.prog_Run_int fu (fu, (D.alloc_Retire (fu + 1) (⟨4, 2, 7, 0, 1, 1000⟩ : Plan) 0 x55.1.node)) x55.2.2.2 x73 999).bind (fun (x75 : Int × Int × Bool × Mem) => (some (Lp.next (x44.1, (IntKind.i64.wrap (x44.2.1 + 1)), x75.2.2.2)))))))))))))) else (some (Lp.brk (x44.1, x44.2.1, x44.2.2))))) fu (false, 0, x42.2.2.2) (fun (x77 : Bool × Int × Mem) => ((D.mem_Memory_Cap fu x77.2.2 0).bind (fun (x84 : Cap) => ((D.prog_Run_None fu (fu, (D.hazard_Clear (fu + 1) (⟨4, 2, 7, 0, 1, 1000⟩ : Plan) 1)) x77.2.2 x84 9).bind (fun (x86 : Unit × Int × Bool × Mem) => (loopThen (fun (x88 : Bool × Bool × Int × Mem) => (bif (decide (x88.2.2.1 < 4)) then ((D.mem_Memory_Cap fu x88.2.2.2 0).bind (fun (x97 : Cap) => ((D.prog_Run_Grant fu (fu, (D.alloc_New (fu + 1) (⟨4, 2, 7, 0, 1, 1000⟩ : Plan) 0 1)) x88.2.2.2 x97 999).bind (fun (x99 : Grant × Int × Bool × Mem) => (bif (x99.1.e != 0) then (some (Lp.ret false)) else (Option.bind (bif x88.2.1 then (some true) else (bif (x99.1.node == x20.1.node) then (some (x99.1.gen == 1)) else (some false))) (fun (x111 : Bool) => (some (Lp.next (x88.1, x111, (IntKind.i64.wrap (x88.2.2.1 + 1)), x99.2.2.2)))))))))) else (some (Lp.brk (x88.1, x88.2.1, x88.2.2.1, x88.2.2.2))))) fu (x77.1, false, 0, x86.2.2.2) (fun (x114 : Bool × Bool × Int × Mem) => (some x114.2.1))))))))))))))))))))))))))

theorem c_cubiclelaw12_AllocHeld {fu : Nat} (w0 : World) (a0 : Int) (a1 : Int) {res : Bool} (hD : D.cubiclelaw12_AllocHeld fu a0 a1 = some res) :
    Calls Tryz.prog 11 #[.int .u8 a0, .int .u8 a1] w0 (PureRes (.bool res) w0) := by
 refine enter Tryz.func11 rfl 127 rfl rfl fun fr r => ?_
 have hP : Post No [] w0 w0 := Post.nil w0
 unfold D.cubiclelaw12_AllocHeld at hD
 refine wsr ?_
 refine seq_val (.bool false) r (fun R => y_assign r rfl) rfl fun fr r => ?_
 refine wn ?_
 refine wp_seq ?_
 refine wsr ?_
 obtain ⟨x1, hx1, hD⟩ := bindD_elim hD
 refine seq_call r (c_cubiclelaw12_awake w0  hx1) (fun R hc => y_call r rfl cl31 hc) rfl ?_
 rintro _ w2 ⟨rfl, hb⟩
 refine ⟨_, rfl, fun fr r => ?_⟩
 have hP : Post No [] w0 w2 := hP.below hb
 refine seq_val (.bool (!x1)) r (fun R => y_un r (u := (.bool x1)) rfl rfl) rfl fun fr r => ?_
 refine wn ?_
 refine wp_cond_split (t := (!x1)) (r.ev rfl) (fun h3 => ?_) (fun h3 => ?_)
 ·
  have hD := (cond_t h3).symm.trans hD
  refine wsr ?_
  refine seq_val (.bool false) r (fun R => y_assign r rfl) rfl fun fr r => ?_
  refine wn ?_
  refine wp_ret ?_
  have hv : false = res := Option.some.inj hD
  try dsimp only [Exit.then, Exit.inBlock]
  refine ret_tmp (fn := Tryz.f11) r (t := 4) rfl (v := (.bool false)) rfl ?_
  subst hv
  exact ⟨rfl, hP.chg.below⟩
 ·
  have hD := (cond_f h3).symm.trans hD
  refine wp_skip ?_
  refine wsr ?_
  refine seq_val (.agg (planC (⟨4, 2, 7, 0, 1, 1000⟩ : Plan)).toArray) r (fun R => y_build r (by kernel_rfl)) rfl fun fr r => ?_
  refine seq_new (.cells ((planC (⟨0, 0, 0, 0, 0, 0⟩ : Plan))).toArray 23 (0, 0)) r (fun R => y_alloc tz23) rfl fun fr b4 w5 n6 r => ?_
  have hP : Post No [cellC b4 ((planC (⟨0, 0, 0, 0, 0, 0⟩ : Plan))).toArray 23] w0 w5 := hP.new n6
  refine seq_upd (.cells ((planC (⟨4, 2, 7, 0, 1, 1000⟩ : Plan))).toArray 23 (0, 0)) r (fun R => y_store r (o := 0) (v := (.agg (planC (⟨4, 2, 7, 0, 1, 1000⟩ : Plan)).toArray)) rfl rfl (hP.cell (i := 0) rfl) ts23 (Nat.le_of_ble_eq_true rfl) rfl rfl) rfl fun fr w8 u9 r => ?_
  have hP : Post No [cellC b4 ((planC (⟨4, 2, 7, 0, 1, 1000⟩ : Plan))).toArray 23] w0 w8 := hP.upd (i := 0) rfl u9
  refine wn ?_
  refine wsr ?_
  refine seq_val (.agg (planC (⟨4, 2, 7, 0, 1, 1000⟩ : Plan)).toArray) r (fun R => y_load_agg r (cs := (planC (⟨4, 2, 7, 0, 1, 1000⟩ : Plan))) (n := 6) rfl (hP.cell (i := 0) rfl) ta23 rfl) rfl fun fr r => ?_
  obtain ⟨x10, hx10, hD⟩ := bindD_elim hD
  refine seq_call r (c_cubiclelaw09_Laid w8 (⟨4, 2, 7, 0, 1, 1000⟩ : Plan) hx10) (fun R hc => y_call r rfl cl33 hc) rfl ?_
  rintro _ w11 ⟨mg12, rfl, hq⟩
  refine ⟨_, rfl, fun fr r => ?_⟩
  have hP : Post No [cellC b4 ((planC (⟨4, 2, 7, 0, 1, 1000⟩ : Plan))).toArray 23, memK mg12 x10] w0 w11 := hP.add hq
  refine seq_val (.pointer (some ⟨mg12.mb, 0, none⟩)) r (fun R => y_assign r rfl) rfl fun fr r => ?_
  refine wn ?_
  refine wp_seq ?_
  refine wsr ?_
  refine seq_val (.pointer (some ⟨mg12.mb, 0, none⟩)) r (fun R => y_move r rfl) rfl fun fr r => ?_
  refine seq_val _ r (fun R => y_bin r rfl rfl rfl rfl) rfl fun fr r => ?_
  refine wn ?_
  refine wp_cond_split (t := false) (r.ev rfl) (fun h => absurd ((rfl : false = _).symm.trans h) (by decide)) (fun _ => ?_)
  refine wp_skip ?_
  refine wsr ?_
  refine seq_val (.agg (planC (⟨4, 2, 7, 0, 1, 1000⟩ : Plan)).toArray) r (fun R => y_load_agg r (cs := (planC (⟨4, 2, 7, 0, 1, 1000⟩ : Plan))) (n := 6) rfl (hP.cell (i := 0) rfl) ta23 rfl) rfl fun fr r => ?_
  refine seq_call r (c_alloc_New (F := No) (n := fu) (j := fu + 1) (fun _ h => h.elim) (by omega) (⟨4, 2, 7, 0, 1, 1000⟩ : Plan) 0 0) (fun R hc => y_call r rfl cl35 hc) rfl ?_
  rintro _ w14 ⟨v15, rfl, hb, hr16⟩
  refine ⟨_, rfl, fun fr r => ?_⟩
  have hP : Post No [cellC b4 ((planC (⟨4, 2, 7, 0, 1, 1000⟩ : Plan))).toArray 23, memK mg12 x10, progK Tryz.prog encGrant (fu, (D.alloc_New (fu + 1) (⟨4, 2, 7, 0, 1, 1000⟩ : Plan) 0 0)) v15 (rg w11.heap.size w14.heap.size)] w0 w14 := hP.addProg hb hr16
  refine seq_val (.pointer (some ⟨mg12.mb, 0, none⟩)) r (fun R => y_move r rfl) rfl fun fr r => ?_
  refine seq_val (.pointer (some ⟨mg12.mb, 0, none⟩)) r (fun R => y_move r rfl) rfl fun fr r => ?_
  obtain ⟨x18, hx18, hD⟩ := bindD_elim hD
  refine seq_call r (c_mem_Memory_Cap w14 x10 (hP.mem (i := 1) rfl) 0 hx18) (fun R hc => y_call r rfl cl18 hc) rfl ?_
  rintro _ w19 ⟨rfl, hb⟩
  refine ⟨_, rfl, fun fr r => ?_⟩
  have hP : Post No [cellC b4 ((planC (⟨4, 2, 7, 0, 1, 1000⟩ : Plan))).toArray 23, memK mg12 x10, progK Tryz.prog encGrant (fu, (D.alloc_New (fu + 1) (⟨4, 2, 7, 0, 1, 1000⟩ : Plan) 0 0)) v15 (rg w11.heap.size w14.heap.size)] w0 w19 := hP.below hb
  obtain ⟨x20, hx20, hD⟩ := bindD_elim hD
  refine seq_call r (c_prog_Run_Grant w19 (fu, (D.alloc_New (fu + 1) (⟨4, 2, 7, 0, 1, 1000⟩ : Plan) 0 0)) x10 x18 99 (hP.sep.pk [2, 1] rfl rfl) hx20) (fun R hc => y_call r rfl cl34 hc) rfl ?_
  rintro _ w21 ⟨rfl, hq⟩
  refine ⟨_, rfl, fun fr r => ?_⟩
  have hP : Post No [cellC b4 ((planC (⟨4, 2, 7, 0, 1, 1000⟩ : Plan))).toArray 23, memK mg12 x20.2.2.2, progK Tryz.prog encGrant (fu, (D.alloc_New (fu + 1) (⟨4, 2, 7, 0, 1, 1000⟩ : Plan) 0 0)) v15 (rg w11.heap.size w14.heap.size)] w0 w21 := hP.setN (i := 1) rfl hq
  refine seq_val (.tuple #[(.agg (grantC x20.1).toArray), (I x20.2.1), (.bool x20.2.2.1)]) r (fun R => y_move r rfl) rfl fun fr r => ?_
  refine seq_val (.agg (grantC x20.1).toArray) r (fun R => y_extract r (vs := #[(.agg (grantC x20.1).toArray), (I x20.2.1), (.bool x20.2.2.1)]) rfl rfl) rfl fun fr r => ?_
  refine seq_val (I x20.2.1) r (fun R => y_extract r (vs := #[(.agg (grantC x20.1).toArray), (I x20.2.1), (.bool x20.2.2.1)]) rfl rfl) rfl fun fr r => ?_
  refine seq_val (.bool x20.2.2.1) r (fun R => y_extract r (vs := #[(.agg (grantC x20.1).toArray), (I x20.2.1), (.bool x20.2.2.1)]) rfl rfl) rfl fun fr r => ?_
  refine seq_new (.cells ((grantC (⟨0, 0, 0⟩ : Grant))).toArray 70 (0, 0)) r (fun R => y_alloc tz70) rfl fun fr b22 w23 n24 r => ?_
  have hP : Post No [cellC b4 ((planC (⟨4, 2, 7, 0, 1, 1000⟩ : Plan))).toArray 23, memK mg12 x20.2.2.2, progK Tryz.prog encGrant (fu, (D.alloc_New (fu + 1) (⟨4, 2, 7, 0, 1, 1000⟩ : Plan) 0 0)) v15 (rg w11.heap.size w14.heap.size), cellC b22 ((grantC (⟨0, 0, 0⟩ : Grant))).toArray 70] w0 w23 := hP.new n24
  refine seq_upd (.cells ((grantC x20.1)).toArray 70 (0, 0)) r (fun R => y_store r (o := 0) (v := (.agg (grantC x20.1).toArray)) rfl rfl (hP.cell (i := 3) rfl) ts70 (Nat.le_of_ble_eq_true rfl) rfl rfl) rfl fun fr w26 u27 r => ?_
  have hP : Post No [cellC b4 ((planC (⟨4, 2, 7, 0, 1, 1000⟩ : Plan))).toArray 23, memK mg12 x20.2.2.2, progK Tryz.prog encGrant (fu, (D.alloc_New (fu + 1) (⟨4, 2, 7, 0, 1, 1000⟩ : Plan) 0 0)) v15 (rg w11.heap.size w14.heap.size), cellC b22 ((grantC x20.1)).toArray 70] w0 w26 := hP.upd (i := 3) rfl u27
  refine seq_val (I x20.2.1) r (fun R => y_assign r rfl) rfl fun fr r => ?_
  refine seq_val (.bool x20.2.2.1) r (fun R => y_assign r rfl) rfl fun fr r => ?_
  refine wn ?_
  refine wsr ?_
  refine seq_val (.agg (planC (⟨4, 2, 7, 0, 1, 1000⟩ : Plan)).toArray) r (fun R => y_load_agg r (cs := (planC (⟨4, 2, 7, 0, 1, 1000⟩ : Plan))) (n := 6) rfl (hP.cell (i := 0) rfl) ta23 rfl) rfl fun fr r => ?_
  refine seq_val (.int .u8 a1) r (fun R => y_move r rfl) rfl fun fr r => ?_
  refine seq_val _ r (fun R => y_bin r rfl rfl rfl rfl) rfl fun fr r => ?_
  refine seq_val (I (W (a1.tmod 3))) r (fun R => y_convert r rfl ti5 ti3) rfl fun fr r => ?_
  refine seq_val _ r (fun R => y_fieldAddr r (o := 0) rfl fo70_0) rfl fun fr r => ?_
  refine seq_val (I x20.1.node) r (fun R => y_load_one r rfl (hP.cell (i := 3) rfl) to3 rfl) rfl fun fr r => ?_
  refine seq_call r (c_hazard_Set (F := No) (n := fu) (fun _ h => h.elim) (⟨4, 2, 7, 0, 1, 1000⟩ : Plan) 1 (W (a1.tmod 3)) x20.1.node) (fun R hc => y_call r rfl cl23 hc) rfl ?_
  rintro _ w28 ⟨v29, rfl, hb, hr30⟩
  refine ⟨_, rfl, fun fr r => ?_⟩
  have hP : Post No [cellC b4 ((planC (⟨4, 2, 7, 0, 1, 1000⟩ : Plan))).toArray 23, memK mg12 x20.2.2.2, progK Tryz.prog encGrant (fu, (D.alloc_New (fu + 1) (⟨4, 2, 7, 0, 1, 1000⟩ : Plan) 0 0)) v15 (rg w11.heap.size w14.heap.size), cellC b22 ((grantC x20.1)).toArray 70, progK Tryz.prog encNone (fu, (D.hazard_Set (⟨4, 2, 7, 0, 1, 1000⟩ : Plan) 1 (W (a1.tmod 3)) x20.1.node)) v29 (rg w26.heap.size w28.heap.size)] w0 w28 := hP.addProg hb hr30
  refine seq_val (.pointer (some ⟨mg12.mb, 0, none⟩)) r (fun R => y_move r rfl) rfl fun fr r => ?_
  refine seq_val (.pointer (some ⟨mg12.mb, 0, none⟩)) r (fun R => y_move r rfl) rfl fun fr r => ?_
  obtain ⟨x32, hx32, hD⟩ := bindD_elim hD
  refine seq_call r (c_mem_Memory_Cap w28 x20.2.2.2 (hP.mem (i := 1) rfl) 0 hx32) (fun R hc => y_call r rfl cl18 hc) rfl ?_
  rintro _ w33 ⟨rfl, hb⟩
  refine ⟨_, rfl, fun fr r => ?_⟩
  have hP : Post No [cellC b4 ((planC (⟨4, 2, 7, 0, 1, 1000⟩ : Plan))).toArray 23, memK mg12 x20.2.2.2, progK Tryz.prog encGrant (fu, (D.alloc_New (fu + 1) (⟨4, 2, 7, 0, 1, 1000⟩ : Plan) 0 0)) v15 (rg w11.heap.size w14.heap.size), cellC b22 ((grantC x20.1)).toArray 70, progK Tryz.prog encNone (fu, (D.hazard_Set (⟨4, 2, 7, 0, 1, 1000⟩ : Plan) 1 (W (a1.tmod 3)) x20.1.node)) v29 (rg w26.heap.size w28.heap.size)] w0 w33 := hP.below hb
  obtain ⟨x34, hx34, hD⟩ := bindD_elim hD
  refine seq_call r (c_prog_Run_None w33 (fu, (D.hazard_Set (⟨4, 2, 7, 0, 1, 1000⟩ : Plan) 1 (W (a1.tmod 3)) x20.1.node)) x20.2.2.2 x32 9 (hP.sep.pk [4, 1] rfl rfl) hx34) (fun R hc => y_call r rfl cl22 hc) rfl ?_
  rintro _ w35 ⟨rfl, hq⟩
  refine ⟨_, rfl, fun fr r => ?_⟩
  have hP : Post No [cellC b4 ((planC (⟨4, 2, 7, 0, 1, 1000⟩ : Plan))).toArray 23, memK mg12 x34.2.2.2, progK Tryz.prog encGrant (fu, (D.alloc_New (fu + 1) (⟨4, 2, 7, 0, 1, 1000⟩ : Plan) 0 0)) v15 (rg w11.heap.size w14.heap.size), cellC b22 ((grantC x20.1)).toArray 70, progK Tryz.prog encNone (fu, (D.hazard_Set (⟨4, 2, 7, 0, 1, 1000⟩ : Plan) 1 (W (a1.tmod 3)) x20.1.node)) v29 (rg w26.heap.size w28.heap.size)] w0 w35 := hP.setN (i := 1) rfl hq
  refine wn ?_
  refine wsr ?_
  refine seq_val (.agg (planC (⟨4, 2, 7, 0, 1, 1000⟩ : Plan)).toArray) r (fun R => y_load_agg r (cs := (planC (⟨4, 2, 7, 0, 1, 1000⟩ : Plan))) (n := 6) rfl (hP.cell (i := 0) rfl) ta23 rfl) rfl fun fr r => ?_
  refine seq_val _ r (fun R => y_fieldAddr r (o := 0) rfl fo70_0) rfl fun fr r => ?_
  refine seq_val (I x20.1.node) r (fun R => y_load_one r rfl (hP.cell (i := 3) rfl) to3 rfl) rfl fun fr r => ?_
  refine seq_call r (c_alloc_Retire (F := No) (n := fu) (j := fu + 1) (fun _ h => h.elim) (by omega) (⟨4, 2, 7, 0, 1, 1000⟩ : Plan) 0 x20.1.node) (fun R hc => y_call r rfl cl36 hc) rfl ?_
  rintro _ w36 ⟨v37, rfl, hb, hr38⟩
  refine ⟨_, rfl, fun fr r => ?_⟩
  have hP : Post No [cellC b4 ((planC (⟨4, 2, 7, 0, 1, 1000⟩ : Plan))).toArray 23, memK mg12 x34.2.2.2, progK Tryz.prog encGrant (fu, (D.alloc_New (fu + 1) (⟨4, 2, 7, 0, 1, 1000⟩ : Plan) 0 0)) v15 (rg w11.heap.size w14.heap.size), cellC b22 ((grantC x20.1)).toArray 70, progK Tryz.prog encNone (fu, (D.hazard_Set (⟨4, 2, 7, 0, 1, 1000⟩ : Plan) 1 (W (a1.tmod 3)) x20.1.node)) v29 (rg w26.heap.size w28.heap.size), progK Tryz.prog encInt (fu, (D.alloc_Retire (fu + 1) (⟨4, 2, 7, 0, 1, 1000⟩ : Plan) 0 x20.1.node)) v37 (rg w35.heap.size w36.heap.size)] w0 w36 := hP.addProg hb hr38
  refine seq_val (.pointer (some ⟨mg12.mb, 0, none⟩)) r (fun R => y_move r rfl) rfl fun fr r => ?_
  refine seq_val (.pointer (some ⟨mg12.mb, 0, none⟩)) r (fun R => y_move r rfl) rfl fun fr r => ?_
  obtain ⟨x40, hx40, hD⟩ := bindD_elim hD
  refine seq_call r (c_mem_Memory_Cap w36 x34.2.2.2 (hP.mem (i := 1) rfl) 0 hx40) (fun R hc => y_call r rfl cl18 hc) rfl ?_
  rintro _ w41 ⟨rfl, hb⟩
  refine ⟨_, rfl, fun fr r => ?_⟩
  have hP : Post No [cellC b4 ((planC (⟨4, 2, 7, 0, 1, 1000⟩ : Plan))).toArray 23, memK mg12 x34.2.2.2, progK Tryz.prog encGrant (fu, (D.alloc_New (fu + 1) (⟨4, 2, 7, 0, 1, 1000⟩ : Plan) 0 0)) v15 (rg w11.heap.size w14.heap.size), cellC b22 ((grantC x20.1)).toArray 70, progK Tryz.prog encNone (fu, (D.hazard_Set (⟨4, 2, 7, 0, 1, 1000⟩ : Plan) 1 (W (a1.tmod 3)) x20.1.node)) v29 (rg w26.heap.size w28.heap.size), progK Tryz.prog encInt (fu, (D.alloc_Retire (fu + 1) (⟨4, 2, 7, 0, 1, 1000⟩ : Plan) 0 x20.1.node)) v37 (rg w35.heap.size w36.heap.size)] w0 w41 := hP.below hb
  obtain ⟨x42, hx42, hD⟩ := bindD_elim hD
  refine seq_call r (c_prog_Run_int w41 (fu, (D.alloc_Retire (fu + 1) (⟨4, 2, 7, 0, 1, 1000⟩ : Plan) 0 x20.1.node)) x34.2.2.2 x40 999 (hP.sep.pk [5, 1] rfl rfl) hx42) (fun R hc => y_call r rfl cl16 hc) rfl ?_
  rintro _ w43 ⟨rfl, hq⟩
  refine ⟨_, rfl, fun fr r => ?_⟩
  have hP : Post No [cellC b4 ((planC (⟨4, 2, 7, 0, 1, 1000⟩ : Plan))).toArray 23, memK mg12 x42.2.2.2, progK Tryz.prog encGrant (fu, (D.alloc_New (fu + 1) (⟨4, 2, 7, 0, 1, 1000⟩ : Plan) 0 0)) v15 (rg w11.heap.size w14.heap.size), cellC b22 ((grantC x20.1)).toArray 70, progK Tryz.prog encNone (fu, (D.hazard_Set (⟨4, 2, 7, 0, 1, 1000⟩ : Plan) 1 (W (a1.tmod 3)) x20.1.node)) v29 (rg w26.heap.size w28.heap.size), progK Tryz.prog encInt (fu, (D.alloc_Retire (fu + 1) (⟨4, 2, 7, 0, 1, 1000⟩ : Plan) 0 x20.1.node)) v37 (rg w35.heap.size w36.heap.size)] w0 w43 := hP.setN (i := 1) rfl hq
  refine wn ?_
  refine wp_seq ?_
  refine wsr ?_
  refine seq_val (I 0) r (fun R => y_assign r rfl) rfl fun fr r => ?_
  refine wn ?_
  have hP : Post No [cellC b4 ((planC (⟨4, 2, 7, 0, 1, 1000⟩ : Plan))).toArray 23, memK mg12 x42.2.2.2, cellC b22 ((grantC x20.1)).toArray 70] w0 w43 := hP.pick [0, 1, 3] rfl rfl
  refine wp_loopG (X := Bool × Int × Mem) (G := Unit) (x0 := (false, 0, x42.2.2.2)) (fun x γ => [(0, (.int .u8 a0)), (1, (.int .u8 a1)), (20, (.bool (!x1))), (5, (.pointer (some ⟨b4, 0, none⟩))), (6, (.pointer (some ⟨mg12.mb, 0, none⟩))), (25, (.bool false)), (7, (.pointer (some ⟨b22, 0, none⟩))), (4, (.bool x.1)), (10, (I x.2.1))]) (fun x γ w => Post No [cellC b4 ((planC (⟨4, 2, 7, 0, 1, 1000⟩ : Plan))).toArray 23, memK mg12 x.2.2, cellC b22 ((grantC x20.1)).toArray 70] w0 w) () r (hs_cons rfl (hs_cons rfl (hs_cons rfl (hs_cons rfl (hs_cons rfl (hs_cons rfl (hs_cons rfl (hs_cons rfl (hs_cons rfl hs_nil))))))))) hP hD ?_ ?_
  ·
   rintro x44 γ45 fr w47 g y46 RPy46 nxy46 bky46 rty46 r hP hD
   have hP : Post No [cellC b4 ((planC (⟨4, 2, 7, 0, 1, 1000⟩ : Plan))).toArray 23, memK mg12 x44.2.2, cellC b22 ((grantC x20.1)).toArray 70] w0 w47 := hP
   refine wp_seq ?_
   refine wsr ?_
   refine seq_val (I x44.2.1) r (fun R => y_move r rfl) rfl fun fr r => ?_
   refine seq_val (.int .u8 a0) r (fun R => y_move r rfl) rfl fun fr r => ?_
   refine seq_val _ r (fun R => y_bin r rfl rfl rfl rfl) rfl fun fr r => ?_
   refine seq_val (I (W (a0.tmod 60))) r (fun R => y_convert r rfl ti5 ti3) rfl fun fr r => ?_
   refine seq_val _ r (fun R => y_bin r rfl rfl rfl rfl) rfl fun fr r => ?_
   refine wn ?_
   refine wp_cond_split (t := (decide (x44.2.1 < (W (a0.tmod 60))))) (r.ev rfl) (fun h48 => ?_) (fun h48 => ?_)
   ·
    have hD := (cond_t h48).symm.trans hD
    refine wp_skip ?_
    refine wp_seq ?_
    refine wp_block ?_
    refine wsr ?_
    refine seq_val (.agg (planC (⟨4, 2, 7, 0, 1, 1000⟩ : Plan)).toArray) r (fun R => y_load_agg r (cs := (planC (⟨4, 2, 7, 0, 1, 1000⟩ : Plan))) (n := 6) rfl (hP.cell (i := 0) rfl) ta23 rfl) rfl fun fr r => ?_
    refine seq_call r (c_alloc_New (F := No) (n := fu) (j := fu + 1) (fun _ h => h.elim) (by omega) (⟨4, 2, 7, 0, 1, 1000⟩ : Plan) 0 1) (fun R hc => y_call r rfl cl35 hc) rfl ?_
    rintro _ w49 ⟨v50, rfl, hb, hr51⟩
    refine ⟨_, rfl, fun fr r => ?_⟩
    have hP : Post No [cellC b4 ((planC (⟨4, 2, 7, 0, 1, 1000⟩ : Plan))).toArray 23, memK mg12 x44.2.2, cellC b22 ((grantC x20.1)).toArray 70, progK Tryz.prog encGrant (fu, (D.alloc_New (fu + 1) (⟨4, 2, 7, 0, 1, 1000⟩ : Plan) 0 1)) v50 (rg w47.heap.size w49.heap.size)] w0 w49 := hP.addProg hb hr51
    refine seq_val (.pointer (some ⟨mg12.mb, 0, none⟩)) r (fun R => y_move r rfl) rfl fun fr r => ?_
    refine seq_val (.pointer (some ⟨mg12.mb, 0, none⟩)) r (fun R => y_move r rfl) rfl fun fr r => ?_
    obtain ⟨x53, hx53, hD⟩ := bindD_elim hD
    refine seq_call r (c_mem_Memory_Cap w49 x44.2.2 (hP.mem (i := 1) rfl) 0 hx53) (fun R hc => y_call r rfl cl18 hc) rfl ?_
    rintro _ w54 ⟨rfl, hb⟩
    refine ⟨_, rfl, fun fr r => ?_⟩
    have hP : Post No [cellC b4 ((planC (⟨4, 2, 7, 0, 1, 1000⟩ : Plan))).toArray 23, memK mg12 x44.2.2, cellC b22 ((grantC x20.1)).toArray 70, progK Tryz.prog encGrant (fu, (D.alloc_New (fu + 1) (⟨4, 2, 7, 0, 1, 1000⟩ : Plan) 0 1)) v50 (rg w47.heap.size w49.heap.size)] w0 w54 := hP.below hb
    obtain ⟨x55, hx55, hD⟩ := bindD_elim hD
    refine seq_call r (c_prog_Run_Grant w54 (fu, (D.alloc_New (fu + 1) (⟨4, 2, 7, 0, 1, 1000⟩ : Plan) 0 1)) x44.2.2 x53 999 (hP.sep.pk [3, 1] rfl rfl) hx55) (fun R hc => y_call r rfl cl34 hc) rfl ?_
    rintro _ w56 ⟨rfl, hq⟩
    refine ⟨_, rfl, fun fr r => ?_⟩
    have hP : Post No [cellC b4 ((planC (⟨4, 2, 7, 0, 1, 1000⟩ : Plan))).toArray 23, memK mg12 x55.2.2.2, cellC b22 ((grantC x20.1)).toArray 70, progK Tryz.prog encGrant (fu, (D.alloc_New (fu + 1) (⟨4, 2, 7, 0, 1, 1000⟩ : Plan) 0 1)) v50 (rg w47.heap.size w49.heap.size)] w0 w56 := hP.setN (i := 1) rfl hq
    refine seq_val (.tuple #[(.agg (grantC x55.1).toArray), (I x55.2.1), (.bool x55.2.2.1)]) r (fun R => y_move r rfl) rfl fun fr r => ?_
    refine seq_val (.agg (grantC x55.1).toArray) r (fun R => y_extract r (vs := #[(.agg (grantC x55.1).toArray), (I x55.2.1), (.bool x55.2.2.1)]) rfl rfl) rfl fun fr r => ?_
    refine seq_val (I x55.2.1) r (fun R => y_extract r (vs := #[(.agg (grantC x55.1).toArray), (I x55.2.1), (.bool x55.2.2.1)]) rfl rfl) rfl fun fr r => ?_
    refine seq_val (.bool x55.2.2.1) r (fun R => y_extract r (vs := #[(.agg (grantC x55.1).toArray), (I x55.2.1), (.bool x55.2.2.1)]) rfl rfl) rfl fun fr r => ?_
    refine seq_new (.cells ((grantC (⟨0, 0, 0⟩ : Grant))).toArray 70 (0, 0)) r (fun R => y_alloc tz70) rfl fun fr b57 w58 n59 r => ?_
    have hP : Post No [cellC b4 ((planC (⟨4, 2, 7, 0, 1, 1000⟩ : Plan))).toArray 23, memK mg12 x55.2.2.2, cellC b22 ((grantC x20.1)).toArray 70, progK Tryz.prog encGrant (fu, (D.alloc_New (fu + 1) (⟨4, 2, 7, 0, 1, 1000⟩ : Plan) 0 1)) v50 (rg w47.heap.size w49.heap.size), cellC b57 ((grantC (⟨0, 0, 0⟩ : Grant))).toArray 70] w0 w58 := hP.new n59
    refine seq_upd (.cells ((grantC x55.1)).toArray 70 (0, 0)) r (fun R => y_store r (o := 0) (v := (.agg (grantC x55.1).toArray)) rfl rfl (hP.cell (i := 4) rfl) ts70 (Nat.le_of_ble_eq_true rfl) rfl rfl) rfl fun fr w61 u62 r => ?_
    have hP : Post No [cellC b4 ((planC (⟨4, 2, 7, 0, 1, 1000⟩ : Plan))).toArray 23, memK mg12 x55.2.2.2, cellC b22 ((grantC x20.1)).toArray 70, progK Tryz.prog encGrant (fu, (D.alloc_New (fu + 1) (⟨4, 2, 7, 0, 1, 1000⟩ : Plan) 0 1)) v50 (rg w47.heap.size w49.heap.size), cellC b57 ((grantC x55.1)).toArray 70] w0 w61 := hP.upd (i := 4) rfl u62
    refine seq_val (I x55.2.1) r (fun R => y_assign r rfl) rfl fun fr r => ?_
    refine seq_val (.bool x55.2.2.1) r (fun R => y_assign r rfl) rfl fun fr r => ?_
    refine wn ?_
    refine wp_seq ?_
    refine wp_seq ?_
    have hP : Post No [cellC b4 ((planC (⟨4, 2, 7, 0, 1, 1000⟩ : Plan))).toArray 23, memK mg12 x55.2.2.2, cellC b22 ((grantC x20.1)).toArray 70, cellC b57 ((grantC x55.1)).toArray 70] w0 w61 := hP.pick [0, 1, 2, 4] rfl rfl
    refine wp_joinG (N := 127) (Y := Bool) (G := Unit) (fun x γ => [(0, (.int .u8 a0)), (1, (.int .u8 a1)), (20, (.bool (!x1))), (5, (.pointer (some ⟨b4, 0, none⟩))), (6, (.pointer (some ⟨mg12.mb, 0, none⟩))), (25, (.bool false)), (7, (.pointer (some ⟨b22, 0, none⟩))), (4, (.bool x44.1)), (10, (I x44.2.1)), (59, (.bool (decide (x44.2.1 < (W (a0.tmod 60)))))), (11, (.pointer (some ⟨b57, 0, none⟩))), (81, (.bool x))]) (fun x γ w => Post No [cellC b4 ((planC (⟨4, 2, 7, 0, 1, 1000⟩ : Plan))).toArray 23, memK mg12 x55.2.2.2, cellC b22 ((grantC x20.1)).toArray 70, cellC b57 ((grantC x55.1)).toArray 70] w0 w) hD ?_ ?_
    ·
     rintro y63 RPy63 nxy63 hD
     refine wp_region_lit ?_
     refine seq_val _ r (fun R => y_fieldAddr r (o := 0) rfl fo70_2) rfl fun fr r => ?_
     refine seq_val (I x55.1.e) r (fun R => y_load_one r rfl (hP.cell (i := 3) rfl) to68 rfl) rfl fun fr r => ?_
     refine seq_val _ r (fun R => y_bin r rfl rfl rfl rfl) rfl fun fr r => ?_
     refine seq_val (.bool (x55.1.e != 0)) r (fun R => y_move r rfl) rfl fun fr r => ?_
     refine seq_split (x55.1.e != 0) (fun h64 => ?_) (fun h64 => ?_)
     ·
      have hD := (cond_t h64).symm.trans hD
      refine s0 r h64 fun fr r => ?_
      refine s0 r h64 fun fr r => ?_
      refine s0 r h64 fun fr r => ?_
      refine s0 r h64 fun fr r => ?_
      refine s0 r h64 fun fr r => ?_
      refine seq_val (.bool true) r (fun R => y_pick r (b := true) (congrArg Value.bool h64) rfl) rfl fun fr r => ?_
      refine wn ?_
      exact nxy63 true () _ _ _ hD r (hs_cons rfl (hs_cons rfl (hs_cons rfl (hs_cons rfl (hs_cons rfl (hs_cons rfl (hs_cons rfl (hs_cons rfl (hs_cons rfl (hs_cons rfl (hs_cons rfl (hs_cons rfl hs_nil)))))))))))) (hP.pick [0, 1, 2, 3] rfl rfl)
     ·
      have hD := (cond_f h64).symm.trans hD
      refine s1 r h64 ?_
      refine seq_val _ r (fun R => y_fieldAddr r (o := 0) rfl fo70_0) rfl fun fr r => ?_
      refine s1 r h64 ?_
      refine seq_val (I x55.1.node) r (fun R => y_load_one r rfl (hP.cell (i := 3) rfl) to3 rfl) rfl fun fr r => ?_
      refine s1 r h64 ?_
      refine seq_val _ r (fun R => y_fieldAddr r (o := 0) rfl fo70_0) rfl fun fr r => ?_
      refine s1 r h64 ?_
      refine seq_val (I x20.1.node) r (fun R => y_load_one r rfl (hP.cell (i := 2) rfl) to3 rfl) rfl fun fr r => ?_
      refine s1 r h64 ?_
      refine seq_val _ r (fun R => y_bin r rfl rfl rfl rfl) rfl fun fr r => ?_
      refine seq_val (.bool (x55.1.node == x20.1.node)) r (fun R => y_pick r (b := false) (congrArg Value.bool h64) rfl) rfl fun fr r => ?_
      refine wn ?_
      exact nxy63 (x55.1.node == x20.1.node) () _ _ _ hD r (hs_cons rfl (hs_cons rfl (hs_cons rfl (hs_cons rfl (hs_cons rfl (hs_cons rfl (hs_cons rfl (hs_cons rfl (hs_cons rfl (hs_cons rfl (hs_cons rfl (hs_cons rfl hs_nil)))))))))))) (hP.pick [0, 1, 2, 3] rfl rfl)
    ·
     rintro x65 γ66 fr w67 g r hP hD
     have hP : Post No [cellC b4 ((planC (⟨4, 2, 7, 0, 1, 1000⟩ : Plan))).toArray 23, memK mg12 x55.2.2.2, cellC b22 ((grantC x20.1)).toArray 70, cellC b57 ((grantC x55.1)).toArray 70] w0 w67 := hP
     refine wp_cond_split (t := x65) (r.ev rfl) (fun h68 => ?_) (fun h68 => ?_)
     ·
      have hD := (cond_t h68).symm.trans hD
      refine wsr ?_
      refine seq_val (.bool false) r (fun R => y_assign r rfl) rfl fun fr r => ?_
      refine wn ?_
      refine wp_ret ?_
      refine rty46 false _ _ hD fun hD => ?_
      have hv : false = res := Option.some.inj hD
      try dsimp only [Exit.then, Exit.inBlock]
      refine ret_tmp (fn := Tryz.f11) r (t := 4) rfl (v := (.bool false)) rfl ?_
      subst hv
      exact ⟨rfl, hP.chg.below⟩
     ·
      have hD := (cond_f h68).symm.trans hD
      refine wp_skip ?_
      refine wp_region_lit ?_
      refine seq_val (.agg (planC (⟨4, 2, 7, 0, 1, 1000⟩ : Plan)).toArray) r (fun R => y_load_agg r (cs := (planC (⟨4, 2, 7, 0, 1, 1000⟩ : Plan))) (n := 6) rfl (hP.cell (i := 0) rfl) ta23 rfl) rfl fun fr r => ?_
      refine seq_val _ r (fun R => y_fieldAddr r (o := 0) rfl fo70_0) rfl fun fr r => ?_
      refine seq_val (I x55.1.node) r (fun R => y_load_one r rfl (hP.cell (i := 3) rfl) to3 rfl) rfl fun fr r => ?_
      refine seq_call r (c_alloc_Retire (F := No) (n := fu) (j := fu + 1) (fun _ h => h.elim) (by omega) (⟨4, 2, 7, 0, 1, 1000⟩ : Plan) 0 x55.1.node) (fun R hc => y_call r rfl cl36 hc) rfl ?_
      rintro _ w69 ⟨v70, rfl, hb, hr71⟩
      refine ⟨_, rfl, fun fr r => ?_⟩
      have hP : Post No [cellC b4 ((planC (⟨4, 2, 7, 0, 1, 1000⟩ : Plan))).toArray 23, memK mg12 x55.2.2.2, cellC b22 ((grantC x20.1)).toArray 70, cellC b57 ((grantC x55.1)).toArray 70, progK Tryz.prog encInt (fu, (D.alloc_Retire (fu + 1) (⟨4, 2, 7, 0, 1, 1000⟩ : Plan) 0 x55.1.node)) v70 (rg w67.heap.size w69.heap.size)] w0 w69 := hP.addProg hb hr71
      refine seq_val (.pointer (some ⟨mg12.mb, 0, none⟩)) r (fun R => y_move r rfl) rfl fun fr r => ?_
      refine seq_val (.pointer (some ⟨mg12.mb, 0, none⟩)) r (fun R => y_move r rfl) rfl fun fr r => ?_
      obtain ⟨x73, hx73, hD⟩ := bindD_elim hD
      refine seq_call r (c_mem_Memory_Cap w69 x55.2.2.2 (hP.mem (i := 1) rfl) 0 hx73) (fun R hc => y_call r rfl cl18 hc) rfl ?_
      rintro _ w74 ⟨rfl, hb⟩
      refine ⟨_, rfl, fun fr r => ?_⟩
      have hP : Post No [cellC b4 ((planC (⟨4, 2, 7, 0, 1, 1000⟩ : Plan))).toArray 23, memK mg12 x55.2.2.2, cellC b22 ((grantC x20.1)).toArray 70, cellC b57 ((grantC x55.1)).toArray 70, progK Tryz.prog encInt (fu, (D.alloc_Retire (fu + 1) (⟨4, 2, 7, 0, 1, 1000⟩ : Plan) 0 x55.1.node)) v70 (rg w67.heap.size w69.heap.size)] w0 w74 := hP.below hb
      obtain ⟨x75, hx75, hD⟩ := bindD_elim hD
      refine seq_call r (c_prog_Run_int w74 (fu, (D.alloc_Retire (fu + 1) (⟨4, 2, 7, 0, 1, 1000⟩ : Plan) 0 x55.1.node)) x55.2.2.2 x73 999 (hP.sep.pk [4, 1] rfl rfl) hx75) (fun R hc => y_call r rfl cl16 hc) rfl ?_
      rintro _ w76 ⟨rfl, hq⟩
      refine ⟨_, rfl, fun fr r => ?_⟩
      have hP : Post No [cellC b4 ((planC (⟨4, 2, 7, 0, 1, 1000⟩ : Plan))).toArray 23, memK mg12 x75.2.2.2, cellC b22 ((grantC x20.1)).toArray 70, cellC b57 ((grantC x55.1)).toArray 70, progK Tryz.prog encInt (fu, (D.alloc_Retire (fu + 1) (⟨4, 2, 7, 0, 1, 1000⟩ : Plan) 0 x55.1.node)) v70 (rg w67.heap.size w69.heap.size)] w0 w76 := hP.setN (i := 1) rfl hq
      refine wn ?_
      refine wp_region_lit ?_
      refine seq_val (I x44.2.1) r (fun R => y_move r rfl) rfl fun fr r => ?_
      refine seq_val _ r (fun R => y_bin r rfl rfl rfl rfl) rfl fun fr r => ?_
      refine seq_val (I (W (x44.2.1 + 1))) r (fun R => y_assign r rfl) rfl fun fr r => ?_
      refine wn ?_
      exact nxy46 (x44.1, (W (x44.2.1 + 1)), x75.2.2.2) () _ _ _ hD r (hs_cons rfl (hs_cons rfl (hs_cons rfl (hs_cons rfl (hs_cons rfl (hs_cons rfl (hs_cons rfl (hs_cons rfl (hs_cons rfl hs_nil))))))))) (hP.pick [0, 1, 2] rfl rfl)
   ·
    have hD := (cond_f h48).symm.trans hD
    refine wp_exit ?_
    exact bky46 (x44.1, x44.2.1, x44.2.2) () _ _ _ hD r (hs_cons rfl (hs_cons rfl (hs_cons rfl (hs_cons rfl (hs_cons rfl (hs_cons rfl (hs_cons rfl (hs_cons rfl (hs_cons rfl hs_nil))))))))) (hP.pick [0, 1, 2] rfl rfl)
  ·
   rintro x77 γ78 fr w79 g r hP hD
   have hP : Post No [cellC b4 ((planC (⟨4, 2, 7, 0, 1, 1000⟩ : Plan))).toArray 23, memK mg12 x77.2.2, cellC b22 ((grantC x20.1)).toArray 70] w0 w79 := hP
   refine wsr ?_
   refine seq_val (.agg (planC (⟨4, 2, 7, 0, 1, 1000⟩ : Plan)).toArray) r (fun R => y_load_agg r (cs := (planC (⟨4, 2, 7, 0, 1, 1000⟩ : Plan))) (n := 6) rfl (hP.cell (i := 0) rfl) ta23 rfl) rfl fun fr r => ?_
   refine seq_call r (c_hazard_Clear (F := No) (n := fu) (j := fu + 1) (fun _ h => h.elim) (by omega) (⟨4, 2, 7, 0, 1, 1000⟩ : Plan) 1) (fun R hc => y_call r rfl cl45 hc) rfl ?_
   rintro _ w80 ⟨v81, rfl, hb, hr82⟩
   refine ⟨_, rfl, fun fr r => ?_⟩
   have hP : Post No [cellC b4 ((planC (⟨4, 2, 7, 0, 1, 1000⟩ : Plan))).toArray 23, memK mg12 x77.2.2, cellC b22 ((grantC x20.1)).toArray 70, progK Tryz.prog encNone (fu, (D.hazard_Clear (fu + 1) (⟨4, 2, 7, 0, 1, 1000⟩ : Plan) 1)) v81 (rg w79.heap.size w80.heap.size)] w0 w80 := hP.addProg hb hr82
   refine seq_val (.pointer (some ⟨mg12.mb, 0, none⟩)) r (fun R => y_move r rfl) rfl fun fr r => ?_
   refine seq_val (.pointer (some ⟨mg12.mb, 0, none⟩)) r (fun R => y_move r rfl) rfl fun fr r => ?_
   obtain ⟨x84, hx84, hD⟩ := bindD_elim hD
   refine seq_call r (c_mem_Memory_Cap w80 x77.2.2 (hP.mem (i := 1) rfl) 0 hx84) (fun R hc => y_call r rfl cl18 hc) rfl ?_
   rintro _ w85 ⟨rfl, hb⟩
   refine ⟨_, rfl, fun fr r => ?_⟩
   have hP : Post No [cellC b4 ((planC (⟨4, 2, 7, 0, 1, 1000⟩ : Plan))).toArray 23, memK mg12 x77.2.2, cellC b22 ((grantC x20.1)).toArray 70, progK Tryz.prog encNone (fu, (D.hazard_Clear (fu + 1) (⟨4, 2, 7, 0, 1, 1000⟩ : Plan) 1)) v81 (rg w79.heap.size w80.heap.size)] w0 w85 := hP.below hb
   obtain ⟨x86, hx86, hD⟩ := bindD_elim hD
   refine seq_call r (c_prog_Run_None w85 (fu, (D.hazard_Clear (fu + 1) (⟨4, 2, 7, 0, 1, 1000⟩ : Plan) 1)) x77.2.2 x84 9 (hP.sep.pk [3, 1] rfl rfl) hx86) (fun R hc => y_call r rfl cl22 hc) rfl ?_
   rintro _ w87 ⟨rfl, hq⟩
   refine ⟨_, rfl, fun fr r => ?_⟩
   have hP : Post No [cellC b4 ((planC (⟨4, 2, 7, 0, 1, 1000⟩ : Plan))).toArray 23, memK mg12 x86.2.2.2, cellC b22 ((grantC x20.1)).toArray 70, progK Tryz.prog encNone (fu, (D.hazard_Clear (fu + 1) (⟨4, 2, 7, 0, 1, 1000⟩ : Plan) 1)) v81 (rg w79.heap.size w80.heap.size)] w0 w87 := hP.setN (i := 1) rfl hq
   refine wn ?_
   refine wsr ?_
   refine seq_val (.bool false) r (fun R => y_assign r rfl) rfl fun fr r => ?_
   refine wn ?_
   refine wp_seq ?_
   refine wsr ?_
   refine seq_val (I 0) r (fun R => y_assign r rfl) rfl fun fr r => ?_
   refine wn ?_
   have hP : Post No [cellC b4 ((planC (⟨4, 2, 7, 0, 1, 1000⟩ : Plan))).toArray 23, memK mg12 x86.2.2.2, cellC b22 ((grantC x20.1)).toArray 70] w0 w87 := hP.pick [0, 1, 2] rfl rfl
   refine wp_loopG (X := Bool × Bool × Int × Mem) (G := Unit) (x0 := (x77.1, false, 0, x86.2.2.2)) (fun x γ => [(0, (.int .u8 a0)), (1, (.int .u8 a1)), (20, (.bool (!x1))), (5, (.pointer (some ⟨b4, 0, none⟩))), (6, (.pointer (some ⟨mg12.mb, 0, none⟩))), (25, (.bool false)), (7, (.pointer (some ⟨b22, 0, none⟩))), (10, (I x77.2.1)), (4, (.bool x.1)), (14, (.bool x.2.1)), (15, (I x.2.2.1))]) (fun x γ w => Post No [cellC b4 ((planC (⟨4, 2, 7, 0, 1, 1000⟩ : Plan))).toArray 23, memK mg12 x.2.2.2, cellC b22 ((grantC x20.1)).toArray 70] w0 w) () r (hs_cons rfl (hs_cons rfl (hs_cons rfl (hs_cons rfl (hs_cons rfl (hs_cons rfl (hs_cons rfl (hs_cons rfl (hs_cons rfl (hs_cons rfl (hs_cons rfl hs_nil))))))))))) hP hD ?_ ?_
   ·
    rintro x88 γ89 fr w91 g y90 RPy90 nxy90 bky90 rty90 r hP hD
    have hP : Post No [cellC b4 ((planC (⟨4, 2, 7, 0, 1, 1000⟩ : Plan))).toArray 23, memK mg12 x88.2.2.2, cellC b22 ((grantC x20.1)).toArray 70] w0 w91 := hP
    refine wp_seq ?_
    refine wsr ?_
    refine seq_val (I x88.2.2.1) r (fun R => y_move r rfl) rfl fun fr r => ?_
    refine seq_val _ r (fun R => y_bin r rfl rfl rfl rfl) rfl fun fr r => ?_
    refine wn ?_
    refine wp_cond_split (t := (decide (x88.2.2.1 < 4))) (r.ev rfl) (fun h92 => ?_) (fun h92 => ?_)
    ·
     have hD := (cond_t h92).symm.trans hD
     refine wp_skip ?_
     refine wp_seq ?_
     refine wp_block ?_
     refine wsr ?_
     refine seq_val (.agg (planC (⟨4, 2, 7, 0, 1, 1000⟩ : Plan)).toArray) r (fun R => y_load_agg r (cs := (planC (⟨4, 2, 7, 0, 1, 1000⟩ : Plan))) (n := 6) rfl (hP.cell (i := 0) rfl) ta23 rfl) rfl fun fr r => ?_
     refine seq_call r (c_alloc_New (F := No) (n := fu) (j := fu + 1) (fun _ h => h.elim) (by omega) (⟨4, 2, 7, 0, 1, 1000⟩ : Plan) 0 1) (fun R hc => y_call r rfl cl35 hc) rfl ?_
     rintro _ w93 ⟨v94, rfl, hb, hr95⟩
     refine ⟨_, rfl, fun fr r => ?_⟩
     have hP : Post No [cellC b4 ((planC (⟨4, 2, 7, 0, 1, 1000⟩ : Plan))).toArray 23, memK mg12 x88.2.2.2, cellC b22 ((grantC x20.1)).toArray 70, progK Tryz.prog encGrant (fu, (D.alloc_New (fu + 1) (⟨4, 2, 7, 0, 1, 1000⟩ : Plan) 0 1)) v94 (rg w91.heap.size w93.heap.size)] w0 w93 := hP.addProg hb hr95
     refine seq_val (.pointer (some ⟨mg12.mb, 0, none⟩)) r (fun R => y_move r rfl) rfl fun fr r => ?_
     refine seq_val (.pointer (some ⟨mg12.mb, 0, none⟩)) r (fun R => y_move r rfl) rfl fun fr r => ?_
     obtain ⟨x97, hx97, hD⟩ := bindD_elim hD
     refine seq_call r (c_mem_Memory_Cap w93 x88.2.2.2 (hP.mem (i := 1) rfl) 0 hx97) (fun R hc => y_call r rfl cl18 hc) rfl ?_
     rintro _ w98 ⟨rfl, hb⟩
     refine ⟨_, rfl, fun fr r => ?_⟩
     have hP : Post No [cellC b4 ((planC (⟨4, 2, 7, 0, 1, 1000⟩ : Plan))).toArray 23, memK mg12 x88.2.2.2, cellC b22 ((grantC x20.1)).toArray 70, progK Tryz.prog encGrant (fu, (D.alloc_New (fu + 1) (⟨4, 2, 7, 0, 1, 1000⟩ : Plan) 0 1)) v94 (rg w91.heap.size w93.heap.size)] w0 w98 := hP.below hb
     obtain ⟨x99, hx99, hD⟩ := bindD_elim hD
     refine seq_call r (c_prog_Run_Grant w98 (fu, (D.alloc_New (fu + 1) (⟨4, 2, 7, 0, 1, 1000⟩ : Plan) 0 1)) x88.2.2.2 x97 999 (hP.sep.pk [3, 1] rfl rfl) hx99) (fun R hc => y_call r rfl cl34 hc) rfl ?_
     rintro _ w100 ⟨rfl, hq⟩
     refine ⟨_, rfl, fun fr r => ?_⟩
     have hP : Post No [cellC b4 ((planC (⟨4, 2, 7, 0, 1, 1000⟩ : Plan))).toArray 23, memK mg12 x99.2.2.2, cellC b22 ((grantC x20.1)).toArray 70, progK Tryz.prog encGrant (fu, (D.alloc_New (fu + 1) (⟨4, 2, 7, 0, 1, 1000⟩ : Plan) 0 1)) v94 (rg w91.heap.size w93.heap.size)] w0 w100 := hP.setN (i := 1) rfl hq
     refine seq_val (.tuple #[(.agg (grantC x99.1).toArray), (I x99.2.1), (.bool x99.2.2.1)]) r (fun R => y_move r rfl) rfl fun fr r => ?_
     refine seq_val (.agg (grantC x99.1).toArray) r (fun R => y_extract r (vs := #[(.agg (grantC x99.1).toArray), (I x99.2.1), (.bool x99.2.2.1)]) rfl rfl) rfl fun fr r => ?_
     refine seq_val (I x99.2.1) r (fun R => y_extract r (vs := #[(.agg (grantC x99.1).toArray), (I x99.2.1), (.bool x99.2.2.1)]) rfl rfl) rfl fun fr r => ?_
     refine seq_val (.bool x99.2.2.1) r (fun R => y_extract r (vs := #[(.agg (grantC x99.1).toArray), (I x99.2.1), (.bool x99.2.2.1)]) rfl rfl) rfl fun fr r => ?_
     refine seq_new (.cells ((grantC (⟨0, 0, 0⟩ : Grant))).toArray 70 (0, 0)) r (fun R => y_alloc tz70) rfl fun fr b101 w102 n103 r => ?_
     have hP : Post No [cellC b4 ((planC (⟨4, 2, 7, 0, 1, 1000⟩ : Plan))).toArray 23, memK mg12 x99.2.2.2, cellC b22 ((grantC x20.1)).toArray 70, progK Tryz.prog encGrant (fu, (D.alloc_New (fu + 1) (⟨4, 2, 7, 0, 1, 1000⟩ : Plan) 0 1)) v94 (rg w91.heap.size w93.heap.size), cellC b101 ((grantC (⟨0, 0, 0⟩ : Grant))).toArray 70] w0 w102 := hP.new n103
     refine seq_upd (.cells ((grantC x99.1)).toArray 70 (0, 0)) r (fun R => y_store r (o := 0) (v := (.agg (grantC x99.1).toArray)) rfl rfl (hP.cell (i := 4) rfl) ts70 (Nat.le_of_ble_eq_true rfl) rfl rfl) rfl fun fr w105 u106 r => ?_
     have hP : Post No [cellC b4 ((planC (⟨4, 2, 7, 0, 1, 1000⟩ : Plan))).toArray 23, memK mg12 x99.2.2.2, cellC b22 ((grantC x20.1)).toArray 70, progK Tryz.prog encGrant (fu, (D.alloc_New (fu + 1) (⟨4, 2, 7, 0, 1, 1000⟩ : Plan) 0 1)) v94 (rg w91.heap.size w93.heap.size), cellC b101 ((grantC x99.1)).toArray 70] w0 w105 := hP.upd (i := 4) rfl u106
     refine seq_val (I x99.2.1) r (fun R => y_assign r rfl) rfl fun fr r => ?_
     refine seq_val (.bool x99.2.2.1) r (fun R => y_assign r rfl) rfl fun fr r => ?_
     refine wn ?_
     refine wp_seq ?_
     refine wsr ?_
     refine seq_val _ r (fun R => y_fieldAddr r (o := 0) rfl fo70_2) rfl fun fr r => ?_
     refine seq_val (I x99.1.e) r (fun R => y_load_one r rfl (hP.cell (i := 4) rfl) to68 rfl) rfl fun fr r => ?_
     refine seq_val _ r (fun R => y_bin r rfl rfl rfl rfl) rfl fun fr r => ?_
     refine wn ?_
     refine wp_cond_split (t := (x99.1.e != 0)) (r.ev rfl) (fun h107 => ?_) (fun h107 => ?_)
     ·
      have hD := (cond_t h107).symm.trans hD
      refine wsr ?_
      refine seq_val (.bool false) r (fun R => y_assign r rfl) rfl fun fr r => ?_
      refine wn ?_
      refine wp_ret ?_
      refine rty90 false _ _ hD fun hD => ?_
      have hv : false = res := Option.some.inj hD
      try dsimp only [Exit.then, Exit.inBlock]
      refine ret_tmp (fn := Tryz.f11) r (t := 4) rfl (v := (.bool false)) rfl ?_
      subst hv
      exact ⟨rfl, hP.chg.below⟩
     ·
      have hD := (cond_f h107).symm.trans hD
      refine wp_skip ?_
      have hP : Post No [cellC b4 ((planC (⟨4, 2, 7, 0, 1, 1000⟩ : Plan))).toArray 23, memK mg12 x99.2.2.2, cellC b22 ((grantC x20.1)).toArray 70, cellC b101 ((grantC x99.1)).toArray 70] w0 w105 := hP.pick [0, 1, 2, 4] rfl rfl
      refine wp_joinG (N := 127) (Y := Bool) (G := Unit) (fun x γ => [(0, (.int .u8 a0)), (1, (.int .u8 a1)), (20, (.bool (!x1))), (5, (.pointer (some ⟨b4, 0, none⟩))), (6, (.pointer (some ⟨mg12.mb, 0, none⟩))), (25, (.bool false)), (7, (.pointer (some ⟨b22, 0, none⟩))), (10, (I x77.2.1)), (4, (.bool x88.1)), (15, (I x88.2.2.1)), (97, (.bool (decide (x88.2.2.1 < 4)))), (16, (.pointer (some ⟨b101, 0, none⟩))), (112, (.bool (x99.1.e != 0))), (14, (.bool x))]) (fun x γ w => Post No [cellC b4 ((planC (⟨4, 2, 7, 0, 1, 1000⟩ : Plan))).toArray 23, memK mg12 x99.2.2.2, cellC b22 ((grantC x20.1)).toArray 70, cellC b101 ((grantC x99.1)).toArray 70] w0 w) hD ?_ ?_
      ·
       rintro y108 RPy108 nxy108 hD
       refine wp_region_lit ?_
       refine seq_val (.bool x88.2.1) r (fun R => y_move r rfl) rfl fun fr r => ?_
       refine seq_val (.bool x88.2.1) r (fun R => y_move r rfl) rfl fun fr r => ?_
       refine seq_split x88.2.1 (fun h109 => ?_) (fun h109 => ?_)
       ·
        have hD := (cond_t h109).symm.trans hD
        refine s0 r h109 fun fr r => ?_
        refine s0 r h109 fun fr r => ?_
        refine s0 r h109 fun fr r => ?_
        refine s0 r h109 fun fr r => ?_
        refine s0 r h109 fun fr r => ?_
        refine s0 r h109 fun fr r => ?_
        refine seq_skip r rfl rfl rfl (v := undef) rfl (by simp [boolOf, undef]) fun fr r => ?_
        refine seq_skip r rfl rfl rfl (v := undef) rfl (by simp [boolOf, undef]) fun fr r => ?_
        refine seq_skip r rfl rfl rfl (v := undef) rfl (by simp [boolOf, undef]) fun fr r => ?_
        refine s0 r h109 fun fr r => ?_
        refine seq_val (.bool true) r (fun R => y_pick r (b := true) (congrArg Value.bool h109) rfl) rfl fun fr r => ?_
        refine seq_val (.bool true) r (fun R => y_assign r rfl) rfl fun fr r => ?_
        refine wn ?_
        exact nxy108 true () _ _ _ hD r (hs_cons rfl (hs_cons rfl (hs_cons rfl (hs_cons rfl (hs_cons rfl (hs_cons rfl (hs_cons rfl (hs_cons rfl (hs_cons rfl (hs_cons rfl (hs_cons rfl (hs_cons rfl (hs_cons rfl (hs_cons rfl hs_nil)))))))))))))) (hP.pick [0, 1, 2, 3] rfl rfl)
       ·
        have hD := (cond_f h109).symm.trans hD
        refine s1 r h109 ?_
        refine seq_val _ r (fun R => y_fieldAddr r (o := 0) rfl fo70_0) rfl fun fr r => ?_
        refine s1 r h109 ?_
        refine seq_val (I x99.1.node) r (fun R => y_load_one r rfl (hP.cell (i := 3) rfl) to3 rfl) rfl fun fr r => ?_
        refine s1 r h109 ?_
        refine seq_val _ r (fun R => y_fieldAddr r (o := 0) rfl fo70_0) rfl fun fr r => ?_
        refine s1 r h109 ?_
        refine seq_val (I x20.1.node) r (fun R => y_load_one r rfl (hP.cell (i := 2) rfl) to3 rfl) rfl fun fr r => ?_
        refine s1 r h109 ?_
        refine seq_val _ r (fun R => y_bin r rfl rfl rfl rfl) rfl fun fr r => ?_
        refine s1 r h109 ?_
        refine seq_val (.bool (x99.1.node == x20.1.node)) r (fun R => y_move r rfl) rfl fun fr r => ?_
        refine seq_split (x99.1.node == x20.1.node) (fun h110 => ?_) (fun h110 => ?_)
        ·
         have hD := (cond_t h110).symm.trans hD
         refine s1 r h110 ?_
         refine seq_val _ r (fun R => y_fieldAddr r (o := 0) rfl fo70_1) rfl fun fr r => ?_
         refine s1 r h110 ?_
         refine seq_val (I x99.1.gen) r (fun R => y_load_one r rfl (hP.cell (i := 3) rfl) to3 rfl) rfl fun fr r => ?_
         refine s1 r h110 ?_
         refine seq_val _ r (fun R => y_bin r rfl rfl rfl rfl) rfl fun fr r => ?_
         refine s1 r h109 ?_
         refine seq_val (.bool (x99.1.gen == 1)) r (fun R => y_pick r (b := true) (congrArg Value.bool h110) rfl) rfl fun fr r => ?_
         refine seq_val (.bool (x99.1.gen == 1)) r (fun R => y_pick r (b := false) (congrArg Value.bool h109) rfl) rfl fun fr r => ?_
         refine seq_val (.bool (x99.1.gen == 1)) r (fun R => y_assign r rfl) rfl fun fr r => ?_
         refine wn ?_
         exact nxy108 (x99.1.gen == 1) () _ _ _ hD r (hs_cons rfl (hs_cons rfl (hs_cons rfl (hs_cons rfl (hs_cons rfl (hs_cons rfl (hs_cons rfl (hs_cons rfl (hs_cons rfl (hs_cons rfl (hs_cons rfl (hs_cons rfl (hs_cons rfl (hs_cons rfl hs_nil)))))))))))))) (hP.pick [0, 1, 2, 3] rfl rfl)
        ·
         have hD := (cond_f h110).symm.trans hD
         refine s0 r h110 fun fr r => ?_
         refine s0 r h110 fun fr r => ?_
         refine s0 r h110 fun fr r => ?_
         refine s1 r h109 ?_
         refine seq_val (.bool false) r (fun R => y_pick r (b := false) (congrArg Value.bool h110) rfl) rfl fun fr r => ?_
         refine seq_val (.bool false) r (fun R => y_pick r (b := false) (congrArg Value.bool h109) rfl) rfl fun fr r => ?_
         refine seq_val (.bool false) r (fun R => y_assign r rfl) rfl fun fr r => ?_
         refine wn ?_
         exact nxy108 false () _ _ _ hD r (hs_cons rfl (hs_cons rfl (hs_cons rfl (hs_cons rfl (hs_cons rfl (hs_cons rfl (hs_cons rfl (hs_cons rfl (hs_cons rfl (hs_cons rfl (hs_cons rfl (hs_cons rfl (hs_cons rfl (hs_cons rfl hs_nil)))))))))))))) (hP.pick [0, 1, 2, 3] rfl rfl)
      ·
       rintro x111 γ112 fr w113 g r hP hD
       have hP : Post No [cellC b4 ((planC (⟨4, 2, 7, 0, 1, 1000⟩ : Plan))).toArray 23, memK mg12 x99.2.2.2, cellC b22 ((grantC x20.1)).toArray 70, cellC b101 ((grantC x99.1)).toArray 70] w0 w113 := hP
       refine wp_region_lit ?_
       refine seq_val (I x88.2.2.1) r (fun R => y_move r rfl) rfl fun fr r => ?_
       refine seq_val _ r (fun R => y_bin r rfl rfl rfl rfl) rfl fun fr r => ?_
       refine seq_val (I (W (x88.2.2.1 + 1))) r (fun R => y_assign r rfl) rfl fun fr r => ?_
       refine wn ?_
       exact nxy90 (x88.1, x111, (W (x88.2.2.1 + 1)), x99.2.2.2) () _ _ _ hD r (hs_cons rfl (hs_cons rfl (hs_cons rfl (hs_cons rfl (hs_cons rfl (hs_cons rfl (hs_cons rfl (hs_cons rfl (hs_cons rfl (hs_cons rfl (hs_cons rfl hs_nil))))))))))) (hP.pick [0, 1, 2] rfl rfl)
    ·
     have hD := (cond_f h92).symm.trans hD
     refine wp_exit ?_
     exact bky90 (x88.1, x88.2.1, x88.2.2.1, x88.2.2.2) () _ _ _ hD r (hs_cons rfl (hs_cons rfl (hs_cons rfl (hs_cons rfl (hs_cons rfl (hs_cons rfl (hs_cons rfl (hs_cons rfl (hs_cons rfl (hs_cons rfl (hs_cons rfl hs_nil))))))))))) (hP.pick [0, 1, 2] rfl rfl)
   ·
    rintro x114 γ115 fr w116 g r hP hD
    have hP : Post No [cellC b4 ((planC (⟨4, 2, 7, 0, 1, 1000⟩ : Plan))).toArray 23, memK mg12 x114.2.2.2, cellC b22 ((grantC x20.1)).toArray 70] w0 w116 := hP
    refine wsr ?_
    refine seq_val (.bool x114.2.1) r (fun R => y_move r rfl) rfl fun fr r => ?_
    refine seq_val (.bool x114.2.1) r (fun R => y_assign r rfl) rfl fun fr r => ?_
    refine wn ?_
    refine wp_ret ?_
    have hv : x114.2.1 = res := Option.some.inj hD
    try dsimp only [Exit.then, Exit.inBlock]
    refine ret_tmp (fn := Tryz.f11) r (t := 4) rfl (v := (.bool x114.2.1)) rfl ?_
    subst hv
    exact ⟨rfl, hP.chg.below⟩

end Go.Proofs.YtphnnjiaiemkcaaGreat.Wk
