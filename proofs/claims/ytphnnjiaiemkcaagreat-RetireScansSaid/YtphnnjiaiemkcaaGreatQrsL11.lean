/- Written by a program of ours (wip/gen.py): layer 11 -/
import Derived.Test.YtphnnjiaiemkcaaGreatQrsRetires
set_option linter.unusedVariables false
set_option maxRecDepth 20000
set_option maxHeartbeats 2000000
namespace Go.Proofs.YtphnnjiaiemkcaaGreat
open Go.RowKit
theorem cl16 : callable Tryz.prog 16 = true := by kernel_rfl

theorem cl17 : callable Tryz.prog 17 = true := by kernel_rfl

theorem cl20 : callable Tryz.prog 20 = true := by kernel_rfl

theorem cl33 : callable Tryz.prog 33 = true := by kernel_rfl

theorem cl46 : callable Tryz.prog 46 = true := by kernel_rfl

theorem is56 : isSlice Tryz.prog 56 = true := by kernel_rfl

theorem sl56 : sliceTy Tryz.prog 56 1 = true := by kernel_rfl

theorem sz1_3 : sized Tryz.prog 3 1 = true := by kernel_rfl

theorem ts23 : sized Tryz.prog 23 6 = true := by kernel_rfl

theorem tz23 : zeroOf Tryz.prog 23 = some (.agg (planC (⟨0, 0, 0, 0, 0, 0⟩ : Plan)).toArray) := by kernel_rfl

def D.cubiclelaw11_awake (fu : Nat)  : Option (Bool) := ((D.cubiclelaw09_Laid fu (⟨2, 1, 4, 0, 1, 1⟩ : Plan)).bind (fun (x7 : Mem) => ((D.mem_Memory_Cap fu x7 0).bind (fun (x15 : Cap) => ((D.prog_Run_int fu (fu, (D.retire_Put (⟨2, 1, 4, 0, 1, 1⟩ : Plan) 0 1)) x7 x15 9).bind (fun (x17 : Int × Int × Bool × Mem) => (Option.bind (bif (x17.1 == 1) then (bif x17.2.2.1 then ((D.retire_List fu (⟨2, 1, 4, 0, 1, 1⟩ : Plan) x17.2.2.2 0 0).bind (fun (x22 : List Int) => (some ((x22.length : Int) == 1)))) else (some false)) else (some false)) (fun (x26 : Bool) => (some x26)))))))))

theorem c_cubiclelaw11_awake {fu : Nat} (w0 : World) {res : Bool} (hD : D.cubiclelaw11_awake fu  = some res) :
    Calls Tryz.prog 12 #[] w0 (PureRes (.bool res) w0) := by
 refine enter Tryz.func12 rfl 33 rfl rfl fun fr r => ?_
 have hP : Post No [] w0 w0 := Post.nil w0
 unfold D.cubiclelaw11_awake at hD
 refine wsr ?_
 refine seq_val (.bool false) r (fun R => y_assign r rfl) rfl fun fr r => ?_
 refine wn ?_
 refine wsr ?_
 refine seq_val (.agg (planC (⟨2, 1, 4, 0, 1, 1⟩ : Plan)).toArray) r (fun R => y_build r (by kernel_rfl)) rfl fun fr r => ?_
 refine seq_new (.cells ((planC (⟨0, 0, 0, 0, 0, 0⟩ : Plan))).toArray 23 (0, 0)) r (fun R => y_alloc tz23) rfl fun fr b1 w2 n3 r => ?_
 have hP : Post No [cellC b1 ((planC (⟨0, 0, 0, 0, 0, 0⟩ : Plan))).toArray 23] w0 w2 := hP.new n3
 refine seq_upd (.cells ((planC (⟨2, 1, 4, 0, 1, 1⟩ : Plan))).toArray 23 (0, 0)) r (fun R => y_store r (o := 0) (v := (.agg (planC (⟨2, 1, 4, 0, 1, 1⟩ : Plan)).toArray)) rfl rfl (hP.cell (i := 0) rfl) ts23 (Nat.le_of_ble_eq_true rfl) rfl rfl) rfl fun fr w5 u6 r => ?_
 have hP : Post No [cellC b1 ((planC (⟨2, 1, 4, 0, 1, 1⟩ : Plan))).toArray 23] w0 w5 := hP.upd (i := 0) rfl u6
 refine wn ?_
 refine wsr ?_
 refine seq_val (.agg (planC (⟨2, 1, 4, 0, 1, 1⟩ : Plan)).toArray) r (fun R => y_load_agg r (cs := (planC (⟨2, 1, 4, 0, 1, 1⟩ : Plan))) (n := 6) rfl (hP.cell (i := 0) rfl) ta23 rfl) rfl fun fr r => ?_
 obtain ⟨x7, hx7, hD⟩ := bindD_elim hD
 refine seq_call r (c_cubiclelaw09_Laid w5 (⟨2, 1, 4, 0, 1, 1⟩ : Plan) hx7) (fun R hc => y_call r rfl cl33 hc) rfl ?_
 rintro _ w8 ⟨mg9, rfl, hq⟩
 refine ⟨_, rfl, fun fr r => ?_⟩
 have hP : Post No [cellC b1 ((planC (⟨2, 1, 4, 0, 1, 1⟩ : Plan))).toArray 23, memK mg9 x7] w0 w8 := hP.add hq
 refine seq_val (.pointer (some ⟨mg9.mb, 0, none⟩)) r (fun R => y_assign r rfl) rfl fun fr r => ?_
 refine wn ?_
 refine wp_seq ?_
 refine wsr ?_
 refine seq_val (.pointer (some ⟨mg9.mb, 0, none⟩)) r (fun R => y_move r rfl) rfl fun fr r => ?_
 refine seq_val _ r (fun R => y_bin r rfl rfl rfl rfl) rfl fun fr r => ?_
 refine wn ?_
 refine wp_cond_split (t := false) (r.ev rfl) (fun h => absurd ((rfl : false = _).symm.trans h) (by decide)) (fun _ => ?_)
 refine wp_skip ?_
 refine wsr ?_
 refine seq_val (.agg (planC (⟨2, 1, 4, 0, 1, 1⟩ : Plan)).toArray) r (fun R => y_load_agg r (cs := (planC (⟨2, 1, 4, 0, 1, 1⟩ : Plan))) (n := 6) rfl (hP.cell (i := 0) rfl) ta23 rfl) rfl fun fr r => ?_
 refine seq_call r (c_retire_Put (F := No) (n := fu) (fun _ h => h.elim) (⟨2, 1, 4, 0, 1, 1⟩ : Plan) 0 1) (fun R hc => y_call r rfl cl17 hc) rfl ?_
 rintro _ w11 ⟨v12, rfl, hb, hr13⟩
 refine ⟨_, rfl, fun fr r => ?_⟩
 have hP : Post No [cellC b1 ((planC (⟨2, 1, 4, 0, 1, 1⟩ : Plan))).toArray 23, memK mg9 x7, progK Tryz.prog encInt (fu, (D.retire_Put (⟨2, 1, 4, 0, 1, 1⟩ : Plan) 0 1)) v12 (rg w8.heap.size w11.heap.size)] w0 w11 := hP.addProg hb hr13
 refine seq_val (.pointer (some ⟨mg9.mb, 0, none⟩)) r (fun R => y_move r rfl) rfl fun fr r => ?_
 refine seq_val (.pointer (some ⟨mg9.mb, 0, none⟩)) r (fun R => y_move r rfl) rfl fun fr r => ?_
 obtain ⟨x15, hx15, hD⟩ := bindD_elim hD
 refine seq_call r (c_mem_Memory_Cap w11 x7 (hP.mem (i := 1) rfl) 0 hx15) (fun R hc => y_call r rfl cl18 hc) rfl ?_
 rintro _ w16 ⟨rfl, hb⟩
 refine ⟨_, rfl, fun fr r => ?_⟩
 have hP : Post No [cellC b1 ((planC (⟨2, 1, 4, 0, 1, 1⟩ : Plan))).toArray 23, memK mg9 x7, progK Tryz.prog encInt (fu, (D.retire_Put (⟨2, 1, 4, 0, 1, 1⟩ : Plan) 0 1)) v12 (rg w8.heap.size w11.heap.size)] w0 w16 := hP.below hb
 obtain ⟨x17, hx17, hD⟩ := bindD_elim hD
 refine seq_call r (c_prog_Run_int w16 (fu, (D.retire_Put (⟨2, 1, 4, 0, 1, 1⟩ : Plan) 0 1)) x7 x15 9 (hP.sep.pk [2, 1] rfl rfl) hx17) (fun R hc => y_call r rfl cl16 hc) rfl ?_
 rintro _ w18 ⟨rfl, hq⟩
 refine ⟨_, rfl, fun fr r => ?_⟩
 have hP : Post No [cellC b1 ((planC (⟨2, 1, 4, 0, 1, 1⟩ : Plan))).toArray 23, memK mg9 x17.2.2.2, progK Tryz.prog encInt (fu, (D.retire_Put (⟨2, 1, 4, 0, 1, 1⟩ : Plan) 0 1)) v12 (rg w8.heap.size w11.heap.size)] w0 w18 := hP.setN (i := 1) rfl hq
 refine seq_val (.tuple #[(I x17.1), (I x17.2.1), (.bool x17.2.2.1)]) r (fun R => y_move r rfl) rfl fun fr r => ?_
 refine seq_val (I x17.1) r (fun R => y_extract r (vs := #[(I x17.1), (I x17.2.1), (.bool x17.2.2.1)]) rfl rfl) rfl fun fr r => ?_
 refine seq_val (I x17.2.1) r (fun R => y_extract r (vs := #[(I x17.1), (I x17.2.1), (.bool x17.2.2.1)]) rfl rfl) rfl fun fr r => ?_
 refine seq_val (.bool x17.2.2.1) r (fun R => y_extract r (vs := #[(I x17.1), (I x17.2.1), (.bool x17.2.2.1)]) rfl rfl) rfl fun fr r => ?_
 refine seq_val (I x17.1) r (fun R => y_assign r rfl) rfl fun fr r => ?_
 refine seq_val (I x17.2.1) r (fun R => y_assign r rfl) rfl fun fr r => ?_
 refine seq_val (.bool x17.2.2.1) r (fun R => y_assign r rfl) rfl fun fr r => ?_
 refine wn ?_
 refine wp_seq ?_
 have hP : Post No [cellC b1 ((planC (⟨2, 1, 4, 0, 1, 1⟩ : Plan))).toArray 23, memK mg9 x17.2.2.2] w0 w18 := hP.pick [0, 1] rfl rfl
 refine wp_joinG (N := 33) (Y := Bool) (G := Unit) (fun x γ => [(1, (.pointer (some ⟨b1, 0, none⟩))), (2, (.pointer (some ⟨mg9.mb, 0, none⟩))), (10, (.bool false)), (3, (I x17.1)), (5, (.bool x17.2.2.1)), (0, (.bool x))]) (fun x γ w => Post No [cellC b1 ((planC (⟨2, 1, 4, 0, 1, 1⟩ : Plan))).toArray 23, memK mg9 x17.2.2.2] w0 w) hD ?_ ?_
 ·
  rintro y19 RPy19 nxy19 hD
  refine wp_region_lit ?_
  refine seq_val (I x17.1) r (fun R => y_move r rfl) rfl fun fr r => ?_
  refine seq_val _ r (fun R => y_bin r rfl rfl rfl rfl) rfl fun fr r => ?_
  refine seq_val (.bool (x17.1 == 1)) r (fun R => y_move r rfl) rfl fun fr r => ?_
  refine seq_split (x17.1 == 1) (fun h20 => ?_) (fun h20 => ?_)
  ·
   have hD := (cond_t h20).symm.trans hD
   refine s1 r h20 ?_
   refine seq_val (.bool x17.2.2.1) r (fun R => y_move r rfl) rfl fun fr r => ?_
   refine seq_val (.bool x17.2.2.1) r (fun R => y_pick r (b := true) (congrArg Value.bool h20) rfl) rfl fun fr r => ?_
   refine seq_val (.bool x17.2.2.1) r (fun R => y_move r rfl) rfl fun fr r => ?_
   refine seq_split x17.2.2.1 (fun h21 => ?_) (fun h21 => ?_)
   ·
    have hD := (cond_t h21).symm.trans hD
    refine s1 r h21 ?_
    refine seq_val (.agg (planC (⟨2, 1, 4, 0, 1, 1⟩ : Plan)).toArray) r (fun R => y_load_agg r (cs := (planC (⟨2, 1, 4, 0, 1, 1⟩ : Plan))) (n := 6) rfl (hP.cell (i := 0) rfl) ta23 rfl) rfl fun fr r => ?_
    refine s1 r h21 ?_
    refine seq_val (.pointer (some ⟨mg9.mb, 0, none⟩)) r (fun R => y_move r rfl) rfl fun fr r => ?_
    refine s1 r h21 ?_
    obtain ⟨x22, hx22, hD⟩ := bindD_elim hD
    refine seq_call r (c_retire_List w18 (⟨2, 1, 4, 0, 1, 1⟩ : Plan) x17.2.2.2 (hP.mem (i := 1) rfl) 0 0 hx22) (fun R hc => y_call r rfl cl20 hc) rfl ?_
    rintro _ w23 ⟨v24, rfl, hq⟩
    refine ⟨_, rfl, fun fr r => ?_⟩
    have hP : Post No [cellC b1 ((planC (⟨2, 1, 4, 0, 1, 1⟩ : Plan))).toArray 23, memK mg9 x17.2.2.2, rowK 3 1 i64 v24 x22] w0 w23 := hP.add hq
    refine s1 r h21 ?_
    refine seq_val (I (x22.length : Int)) r (fun R => y_rowLen r (hP.row (i := 2) rfl).ro is24 rfl) rfl fun fr r => ?_
    refine s1 r h21 ?_
    refine seq_val _ r (fun R => y_bin r rfl rfl rfl rfl) rfl fun fr r => ?_
    refine seq_val (.bool ((x22.length : Int) == 1)) r (fun R => y_pick r (b := true) (congrArg Value.bool h21) rfl) rfl fun fr r => ?_
    refine seq_val (.bool ((x22.length : Int) == 1)) r (fun R => y_assign r rfl) rfl fun fr r => ?_
    refine wn ?_
    exact nxy19 ((x22.length : Int) == 1) () _ _ _ hD r (hs_cons rfl (hs_cons rfl (hs_cons rfl (hs_cons rfl (hs_cons rfl (hs_cons rfl hs_nil)))))) (hP.pick [0, 1] rfl rfl)
   ·
    have hD := (cond_f h21).symm.trans hD
    refine s0 r h21 fun fr r => ?_
    refine s0 r h21 fun fr r => ?_
    refine s0 r h21 fun fr r => ?_
    refine s0 r h21 fun fr r => ?_
    refine s0 r h21 fun fr r => ?_
    refine seq_val (.bool false) r (fun R => y_pick r (b := false) (congrArg Value.bool h21) rfl) rfl fun fr r => ?_
    refine seq_val (.bool false) r (fun R => y_assign r rfl) rfl fun fr r => ?_
    refine wn ?_
    exact nxy19 false () _ _ _ hD r (hs_cons rfl (hs_cons rfl (hs_cons rfl (hs_cons rfl (hs_cons rfl (hs_cons rfl hs_nil)))))) (hP.pick [0, 1] rfl rfl)
  ·
   have hD := (cond_f h20).symm.trans hD
   refine s0 r h20 fun fr r => ?_
   refine seq_val (.bool false) r (fun R => y_pick r (b := false) (congrArg Value.bool h20) rfl) rfl fun fr r => ?_
   refine seq_val (.bool false) r (fun R => y_move r rfl) rfl fun fr r => ?_
   refine s0 r (rfl : false = _) fun fr r => ?_
   refine s0 r (rfl : false = _) fun fr r => ?_
   refine s0 r (rfl : false = _) fun fr r => ?_
   refine s0 r (rfl : false = _) fun fr r => ?_
   refine s0 r (rfl : false = _) fun fr r => ?_
   refine seq_val (.bool false) r (fun R => y_pick r (b := false) (congrArg Value.bool (rfl : false = _)) rfl) rfl fun fr r => ?_
   refine seq_val (.bool false) r (fun R => y_assign r rfl) rfl fun fr r => ?_
   refine wn ?_
   exact nxy19 false () _ _ _ hD r (hs_cons rfl (hs_cons rfl (hs_cons rfl (hs_cons rfl (hs_cons rfl (hs_cons rfl hs_nil)))))) (hP.pick [0, 1] rfl rfl)
 ·
  rintro x26 γ27 fr w28 g r hP hD
  have hP : Post No [cellC b1 ((planC (⟨2, 1, 4, 0, 1, 1⟩ : Plan))).toArray 23, memK mg9 x17.2.2.2] w0 w28 := hP
  refine wp_ret ?_
  have hv : x26 = res := Option.some.inj hD
  try dsimp only [Exit.then, Exit.inBlock]
  refine ret_tmp (fn := Tryz.f12) r (t := 0) rfl (v := (.bool x26)) rfl ?_
  subst hv
  exact ⟨rfl, hP.chg.below⟩

def D.cubiclelaw11_few (a0 : Plan) : Bool := (bif (D.cubicleref06_Few a0) then (D.cubicleref06_Formed a0) else false)

theorem c_cubiclelaw11_few (w0 : World) 
    (a0 : Plan) :
    Calls Tryz.prog 13 #[.agg (planC a0).toArray] w0 (PureRes (.bool (D.cubiclelaw11_few a0)) w0) := by
 refine enter Tryz.func13 rfl 9 rfl rfl fun fr r => ?_
 have hB := Below.refl w0.heap.size w0
 refine wsr ?_
 refine seq_new (.cells ((planC a0)).toArray 23 (0, 0)) r (fun R => y_box r (v := (.agg (planC a0).toArray)) rfl) rfl fun fr b1 w2 n3 r => ?_
 obtain ⟨e_b1, z_w2, h_b1, hB, zB⟩ := n3.all hB
 refine seq_val (.bool false) r (fun R => y_assign r rfl) rfl fun fr r => ?_
 refine wn ?_
 refine wsr ?_
 refine seq_val (.agg (planC a0).toArray) r (fun R => y_load_agg r (cs := (planC a0)) (n := 6) rfl h_b1 ta23 rfl) rfl fun fr r => ?_
 refine seq_call r (c_cubicleref06_Few w2 a0) (fun R hc => y_call r rfl cl46 hc) rfl ?_
 rintro _ w4 ⟨rfl, hb⟩
 refine ⟨_, rfl, fun fr r => ?_⟩
 have z_w4 := hb.size
 have h_b1 := keep hb h_b1
 obtain ⟨hB, zB⟩ := bon hb hB
 refine seq_val (.bool (D.cubicleref06_Few a0)) r (fun R => y_move r rfl) rfl fun fr r => ?_
 refine seq_split (D.cubicleref06_Few a0) (fun h5 => ?_) (fun h5 => ?_)
 ·
  refine s1 r h5 ?_
  refine seq_val (.agg (planC a0).toArray) r (fun R => y_load_agg r (cs := (planC a0)) (n := 6) rfl h_b1 ta23 rfl) rfl fun fr r => ?_
  refine s1 r h5 ?_
  refine seq_call r (c_cubicleref06_Formed w4 a0) (fun R hc => y_call r rfl cl47 hc) rfl ?_
  rintro _ w6 ⟨rfl, hb⟩
  refine ⟨_, rfl, fun fr r => ?_⟩
  have z_w6 := hb.size
  have h_b1 := keep hb h_b1
  obtain ⟨hB, zB⟩ := bon hb hB
  refine seq_val (.bool (D.cubicleref06_Formed a0)) r (fun R => y_pick r (b := true) (congrArg Value.bool h5) rfl) rfl fun fr r => ?_
  refine seq_val (.bool (D.cubicleref06_Formed a0)) r (fun R => y_assign r rfl) rfl fun fr r => ?_
  refine wn ?_
  refine wp_ret ?_
  have hd : D.cubiclelaw11_few a0 = (D.cubicleref06_Formed a0) := (cond_t h5).trans (rfl)
  refine ret_tmp r rfl rfl ?_
  rw [hd]
  exact ⟨rfl, hB⟩
 ·
  refine s0 r h5 fun fr r => ?_
  refine s0 r h5 fun fr r => ?_
  refine seq_val (.bool false) r (fun R => y_pick r (b := false) (congrArg Value.bool h5) rfl) rfl fun fr r => ?_
  refine seq_val (.bool false) r (fun R => y_assign r rfl) rfl fun fr r => ?_
  refine wn ?_
  refine wp_ret ?_
  have hd : D.cubiclelaw11_few a0 = false := (cond_f h5).trans (rfl)
  refine ret_tmp r rfl rfl ?_
  rw [hd]
  exact ⟨rfl, hB⟩

def D.cubiclelaw11_popped (fu : Nat) (a0 : Plan) (a1 : State) : Option (Mem) := ((D.cubiclelaw09_Laid fu a0).bind (fun (x9 : Mem) => (loopThen (fun (x13 : Int × Mem) => (bif (decide (x13.1 < a0.nodes)) then ((D.mem_Memory_Cap fu x13.2 0).bind (fun (x22 : Cap) => ((D.prog_Run_int fu (fu, (D.free_Pop (fu + 1) a0)) x13.2 x22 9).bind (fun (x24 : Int × Int × Bool × Mem) => ((D.mem_Memory_Cap fu x24.2.2.2 0).bind (fun (x26 : Cap) => ((D.mem_Memory_Do fu x24.2.2.2 x26 (⟨1, (D.plan_Plan_State a0 x13.1), (D.state_State_Word a1), 0⟩ : Access)).bind (fun (x27 : Int × Bool × Mem) => (loopThen (fun (x29 : Int × Mem) => (bif (decide (x29.1 < 3)) then ((D.mem_Memory_Cap fu x29.2 0).bind (fun (x34 : Cap) => ((D.mem_Memory_Do fu x29.2 x34 (⟨1, (D.plan_Plan_Field a0 x13.1 x29.1), 7, 0⟩ : Access)).bind (fun (x35 : Int × Bool × Mem) => (some (Lp.next ((IntKind.i64.wrap (x29.1 + 1)), x35.2.2))))))) else (some (Lp.brk (x29.1, x29.2))))) fu (0, x27.2.2) (fun (x37 : Int × Mem) => (some (Lp.next ((IntKind.i64.wrap (x13.1 + 1)), x37.2))))))))))))) else (some (Lp.brk (x13.1, x13.2))))) fu (0, x9) (fun (x40 : Int × Mem) => (some x40.2)))))

theorem c_cubiclelaw11_popped {fu : Nat} (w0 : World) (a0 : Plan) (a1 : State) {res : Mem} (hD : D.cubiclelaw11_popped fu a0 a1 = some res) :
    Calls Tryz.prog 14 #[.agg (planC a0).toArray, .agg (stateC a1).toArray] w0 (fun e w' => ∃ (g0 : MG), e = .returned (.pointer (some ⟨g0.mb, 0, none⟩)) ∧ Done No No [memK g0 res] w0 w') := by
 refine enter Tryz.func14 rfl 48 rfl rfl fun fr r => ?_
 have hP : Post No [] w0 w0 := Post.nil w0
 unfold D.cubiclelaw11_popped at hD
 refine wsr ?_
 refine seq_new (.cells ((planC a0)).toArray 23 (0, 0)) r (fun R => y_box r (v := (.agg (planC a0).toArray)) rfl) rfl fun fr b1 w2 n3 r => ?_
 have hP : Post No [cellC b1 ((planC a0)).toArray 23] w0 w2 := hP.new n3
 refine seq_new (.cells ((stateC a1)).toArray 30 (0, 0)) r (fun R => y_box r (v := (.agg (stateC a1).toArray)) rfl) rfl fun fr b5 w6 n7 r => ?_
 have hP : Post No [cellC b1 ((planC a0)).toArray 23, cellC b5 ((stateC a1)).toArray 30] w0 w6 := hP.new n7
 refine seq_val (.pointer none) r (fun R => y_assign r rfl) rfl fun fr r => ?_
 refine wn ?_
 refine wsr ?_
 refine seq_val (.agg (planC a0).toArray) r (fun R => y_load_agg r (cs := (planC a0)) (n := 6) rfl (hP.cell (i := 0) rfl) ta23 rfl) rfl fun fr r => ?_
 obtain ⟨x9, hx9, hD⟩ := bindD_elim hD
 refine seq_call r (c_cubiclelaw09_Laid w6 a0 hx9) (fun R hc => y_call r rfl cl33 hc) rfl ?_
 rintro _ w10 ⟨mg11, rfl, hq⟩
 refine ⟨_, rfl, fun fr r => ?_⟩
 have hP : Post No [cellC b1 ((planC a0)).toArray 23, cellC b5 ((stateC a1)).toArray 30, memK mg11 x9] w0 w10 := hP.add hq
 refine seq_val (.pointer (some ⟨mg11.mb, 0, none⟩)) r (fun R => y_assign r rfl) rfl fun fr r => ?_
 refine wn ?_
 refine wp_seq ?_
 refine wsr ?_
 refine seq_val (.pointer (some ⟨mg11.mb, 0, none⟩)) r (fun R => y_move r rfl) rfl fun fr r => ?_
 refine seq_val _ r (fun R => y_bin r rfl rfl rfl rfl) rfl fun fr r => ?_
 refine wn ?_
 refine wp_cond_split (t := false) (r.ev rfl) (fun h => absurd ((rfl : false = _).symm.trans h) (by decide)) (fun _ => ?_)
 refine wp_skip ?_
 refine wp_seq ?_
 refine wsr ?_
 refine seq_val (I 0) r (fun R => y_assign r rfl) rfl fun fr r => ?_
 refine wn ?_
 refine wp_loopG (X := Int × Mem) (G := Unit) (x0 := (0, x9)) (fun x γ => [(0, (.agg (planC a0).toArray)), (1, (.agg (stateC a1).toArray)), (2, (.pointer (some ⟨b1, 0, none⟩))), (3, (.pointer (some ⟨b5, 0, none⟩))), (4, (.pointer none)), (5, (.pointer (some ⟨mg11.mb, 0, none⟩))), (11, (.bool false)), (6, (I x.1))]) (fun x γ w => Post No [cellC b1 ((planC a0)).toArray 23, cellC b5 ((stateC a1)).toArray 30, memK mg11 x.2] w0 w) () r (hs_cons rfl (hs_cons rfl (hs_cons rfl (hs_cons rfl (hs_cons rfl (hs_cons rfl (hs_cons rfl (hs_cons rfl hs_nil)))))))) hP hD ?_ ?_
 ·
  rintro x13 γ14 fr w16 g y15 RPy15 nxy15 bky15 rty15 r hP hD
  have hP : Post No [cellC b1 ((planC a0)).toArray 23, cellC b5 ((stateC a1)).toArray 30, memK mg11 x13.2] w0 w16 := hP
  refine wp_seq ?_
  refine wsr ?_
  refine seq_val (I x13.1) r (fun R => y_move r rfl) rfl fun fr r => ?_
  refine seq_val _ r (fun R => y_fieldAddr r (o := 0) rfl fo23_0) rfl fun fr r => ?_
  refine seq_val (I a0.nodes) r (fun R => y_load_one r rfl (hP.cell (i := 0) rfl) to3 rfl) rfl fun fr r => ?_
  refine seq_val _ r (fun R => y_bin r rfl rfl rfl rfl) rfl fun fr r => ?_
  refine wn ?_
  refine wp_cond_split (t := (decide (x13.1 < a0.nodes))) (r.ev rfl) (fun h17 => ?_) (fun h17 => ?_)
  ·
   have hD := (cond_t h17).symm.trans hD
   refine wp_skip ?_
   refine wp_seq ?_
   refine wp_block ?_
   refine wsr ?_
   refine seq_val (.agg (planC a0).toArray) r (fun R => y_load_agg r (cs := (planC a0)) (n := 6) rfl (hP.cell (i := 0) rfl) ta23 rfl) rfl fun fr r => ?_
   refine seq_call r ((c_free_Pop (n := fu) (k := fu + 1) (by omega)) No w16 (fun _ h => h.elim) a0) (fun R hc => y_call r rfl cl48 hc) rfl ?_
   rintro _ w18 ⟨v19, rfl, hb, hr20⟩
   refine ⟨_, rfl, fun fr r => ?_⟩
   have hP : Post No [cellC b1 ((planC a0)).toArray 23, cellC b5 ((stateC a1)).toArray 30, memK mg11 x13.2, progK Tryz.prog encInt (fu, (D.free_Pop (fu + 1) a0)) v19 (rg w16.heap.size w18.heap.size)] w0 w18 := hP.addProg hb hr20
   refine seq_val (.pointer (some ⟨mg11.mb, 0, none⟩)) r (fun R => y_move r rfl) rfl fun fr r => ?_
   refine seq_val (.pointer (some ⟨mg11.mb, 0, none⟩)) r (fun R => y_move r rfl) rfl fun fr r => ?_
   obtain ⟨x22, hx22, hD⟩ := bindD_elim hD
   refine seq_call r (c_mem_Memory_Cap w18 x13.2 (hP.mem (i := 2) rfl) 0 hx22) (fun R hc => y_call r rfl cl18 hc) rfl ?_
   rintro _ w23 ⟨rfl, hb⟩
   refine ⟨_, rfl, fun fr r => ?_⟩
   have hP : Post No [cellC b1 ((planC a0)).toArray 23, cellC b5 ((stateC a1)).toArray 30, memK mg11 x13.2, progK Tryz.prog encInt (fu, (D.free_Pop (fu + 1) a0)) v19 (rg w16.heap.size w18.heap.size)] w0 w23 := hP.below hb
   obtain ⟨x24, hx24, hD⟩ := bindD_elim hD
   refine seq_call r (c_prog_Run_int w23 (fu, (D.free_Pop (fu + 1) a0)) x13.2 x22 9 (hP.sep.pk [3, 2] rfl rfl) hx24) (fun R hc => y_call r rfl cl16 hc) rfl ?_
   rintro _ w25 ⟨rfl, hq⟩
   refine ⟨_, rfl, fun fr r => ?_⟩
   have hP : Post No [cellC b1 ((planC a0)).toArray 23, cellC b5 ((stateC a1)).toArray 30, memK mg11 x24.2.2.2, progK Tryz.prog encInt (fu, (D.free_Pop (fu + 1) a0)) v19 (rg w16.heap.size w18.heap.size)] w0 w25 := hP.setN (i := 2) rfl hq
   refine wn ?_
   refine wp_seq ?_
   obtain ⟨x26, hx26, hD⟩ := bindD_elim hD
   obtain ⟨x27, hx27, hD⟩ := bindD_elim hD
   refine wp_freeE mg11.bs [.val (.pointer (some ⟨mg11.mb, 0, none⟩)), .val (.pointer (some ⟨mg11.mb, 0, none⟩)), .val (.agg (capC x26).toArray), .val (.agg (planC a0).toArray), .val (I x13.1), .val (I (D.plan_Plan_State a0 x13.1)), .val (.agg (stateC a1).toArray), .val (U (D.state_State_Word a1)), .val (.agg (accessC (⟨1, (D.plan_Plan_State a0 x13.1), (D.state_State_Word a1), 0⟩ : Access)).toArray), .eff (EffP w25.heap.size (memK mg11 x27.2.2) (fun _ : Unit => (.tuple #[(U x27.1), (.bool x27.2.1)])) (fun _ : Unit => [])) (EffP.st _ _ _ _)] mixed r (fun b hb => hP.sep.lt (i := 2) rfl (.inl hb)) (by kernel_rfl) ?_ ?_
   ·
    refine eachE_early r rfl (by kernel_rfl) (fun fr1 g w' hb' hd r' => ?_) ?_
    · exact y_move r' (v := (.pointer (some ⟨mg11.mb, 0, none⟩))) rfl ⟨Below.refl _ _, rfl⟩
    refine eachE_late r rfl (fun fr1 g w' hk' hd r' => ?_) ?_
    · exact y_move r' (v := (.pointer (some ⟨mg11.mb, 0, none⟩))) rfl ⟨Below.refl _ _, rfl⟩
    refine eachE_early r rfl (by kernel_rfl) (fun fr1 g w' hb' hd r' => ?_) ?_
    · exact y_call r' (args := [(.pointer (some ⟨mg11.mb, 0, none⟩)), (I 0)]) (lc (hd 1 rfl).1 (lc rfl l0)) cl18 ((c_mem_Memory_Cap _ x24.2.2.2 ((hP.below (dr hb')).mem (i := 2) rfl) 0 hx26).mono (by rintro _ w2 ⟨rfl, hb2⟩; exact ⟨_, rfl, hb2, rfl⟩))
    refine eachE_late r rfl (fun fr1 g w' hk' hd r' => ?_) ?_
    · exact y_load_agg r' (cs := (planC a0)) (n := 6) rfl (hP.cellK (j := 2) rfl (drK hk') (i := 0) rfl rfl) ta23 rfl ⟨Below.refl _ _, rfl⟩
    refine eachE_late r rfl (fun fr1 g w' hk' hd r' => ?_) ?_
    · exact y_move r' (v := (I x13.1)) rfl ⟨Below.refl _ _, rfl⟩
    refine eachE_late r rfl (fun fr1 g w' hk' hd r' => ?_) ?_
    · exact y_call r' (args := [(.agg (planC a0).toArray), (I x13.1)]) (lc (hd 3 rfl).1 (lc (hd 4 rfl).1 l0)) cl28 ((c_plan_Plan_State _ a0 x13.1).mono (by rintro _ w2 ⟨rfl, hb2⟩; exact ⟨_, rfl, hb2, rfl⟩))
    refine eachE_late r rfl (fun fr1 g w' hk' hd r' => ?_) ?_
    · exact y_load_agg r' (cs := (stateC a1)) (n := 3) rfl (hP.cellK (j := 2) rfl (drK hk') (i := 1) rfl rfl) ta30 rfl ⟨Below.refl _ _, rfl⟩
    refine eachE_early r rfl (by kernel_rfl) (fun fr1 g w' hb' hd r' => ?_) ?_
    · exact y_call r' (args := [(.agg (stateC a1).toArray)]) (lc (hd 6 rfl).1 l0) cl29 ((c_state_State_Word _ a1).mono (by rintro _ w2 ⟨rfl, hb2⟩; exact ⟨_, rfl, hb2, rfl⟩))
    refine eachE_early r rfl (by kernel_rfl) (fun fr1 g w' hb' hd r' => ?_) ?_
    · exact y_build r' (v := (.agg (accessC (⟨1, (D.plan_Plan_State a0 x13.1), (D.state_State_Word a1), 0⟩ : Access)).toArray)) (bs3 (rfl) (congrArg (fun z => (1, z)) (hd 5 rfl).1) (congrArg (fun z => (2, z)) (hd 7 rfl).1) (by kernel_rfl)) ⟨Below.refl _ _, rfl⟩
    refine eachE_early r rfl (by kernel_rfl) (fun fr1 g w' hb' hd r' => ?_) ?_
    · exact y_call r' (args := [(.pointer (some ⟨mg11.mb, 0, none⟩)), (.agg (capC x26).toArray), (.agg (accessC (⟨1, (D.plan_Plan_State a0 x13.1), (D.state_State_Word a1), 0⟩ : Access)).toArray)]) (lc (hd 0 rfl).1 (lc (hd 2 rfl).1 (lc (hd 8 rfl).1 l0))) cl49 ((c_mem_Memory_Do _ x24.2.2.2 x26 (⟨1, (D.plan_Plan_State a0 x13.1), (D.state_State_Word a1), 0⟩ : Access) ((hP.below (dr hb')).sep.pk [2] rfl rfl) hx27).mono (by rintro _ w2 ⟨rfl, hq⟩; exact ⟨_, rfl, hq.chg.kept, EffP.of () hq rfl (fun b hb => hP.sep.lt (i := 2) rfl hb)⟩))
    exact eachF_nil
   ·
    intro fr gg w28 hb hΦ hap r
    obtain ⟨⟨⟩, g9, hcE, _, hs9⟩ := (hΦ 9 rfl).1
    have r := r.congr (sc g9 (sc ((hΦ 8 rfl).1) (sc ((hΦ 7 rfl).1) (sc ((hΦ 6 rfl).1) (sc ((hΦ 5 rfl).1) (sc ((hΦ 4 rfl).1) (sc ((hΦ 3 rfl).1) (sc ((hΦ 2 rfl).1) (sc ((hΦ 1 rfl).1) (sc ((hΦ 0 rfl).1) rfl))))))))))
    have hP : Post No [cellC b1 ((planC a0)).toArray 23, cellC b5 ((stateC a1)).toArray 30, memK mg11 x27.2.2, progK Tryz.prog encInt (fu, (D.free_Pop (fu + 1) a0)) v19 (rg w16.heap.size w18.heap.size)] w0 w28 := hP.effL (i := 2) (l := []) rfl hb hcE rfl rfl trivial
    refine wsr ?_
    refine seq_val (I 0) r (fun R => y_assign r rfl) rfl fun fr r => ?_
    refine wn ?_
    have hP : Post No [cellC b1 ((planC a0)).toArray 23, cellC b5 ((stateC a1)).toArray 30, memK mg11 x27.2.2] w0 w28 := hP.pick [0, 1, 2] rfl rfl
    refine wp_loopG (X := Int × Mem) (G := Unit) (x0 := (0, x27.2.2)) (fun x γ => [(0, (.agg (planC a0).toArray)), (1, (.agg (stateC a1).toArray)), (2, (.pointer (some ⟨b1, 0, none⟩))), (3, (.pointer (some ⟨b5, 0, none⟩))), (4, (.pointer none)), (5, (.pointer (some ⟨mg11.mb, 0, none⟩))), (11, (.bool false)), (6, (I x13.1)), (15, (.bool (decide (x13.1 < a0.nodes)))), (7, (I x.1))]) (fun x γ w => Post No [cellC b1 ((planC a0)).toArray 23, cellC b5 ((stateC a1)).toArray 30, memK mg11 x.2] w0 w) () r (hs_cons rfl (hs_cons rfl (hs_cons rfl (hs_cons rfl (hs_cons rfl (hs_cons rfl (hs_cons rfl (hs_cons rfl (hs_cons rfl (hs_cons rfl hs_nil)))))))))) hP hD ?_ ?_
    ·
     rintro x29 γ30 fr w32 g y31 RPy31 nxy31 bky31 rty31 r hP hD
     have hP : Post No [cellC b1 ((planC a0)).toArray 23, cellC b5 ((stateC a1)).toArray 30, memK mg11 x29.2] w0 w32 := hP
     refine wp_seq ?_
     refine wsr ?_
     refine seq_val (I x29.1) r (fun R => y_move r rfl) rfl fun fr r => ?_
     refine seq_val _ r (fun R => y_bin r rfl rfl rfl rfl) rfl fun fr r => ?_
     refine wn ?_
     refine wp_cond_split (t := (decide (x29.1 < 3))) (r.ev rfl) (fun h33 => ?_) (fun h33 => ?_)
     ·
      have hD := (cond_t h33).symm.trans hD
      refine wp_skip ?_
      refine wp_seq ?_
      refine wp_block ?_
      obtain ⟨x34, hx34, hD⟩ := bindD_elim hD
      obtain ⟨x35, hx35, hD⟩ := bindD_elim hD
      refine wp_freeE mg11.bs [.val (.pointer (some ⟨mg11.mb, 0, none⟩)), .val (.pointer (some ⟨mg11.mb, 0, none⟩)), .val (.agg (capC x34).toArray), .val (.agg (planC a0).toArray), .val (I x13.1), .val (I x29.1), .val (I (D.plan_Plan_Field a0 x13.1 x29.1)), .val (.agg (accessC (⟨1, (D.plan_Plan_Field a0 x13.1 x29.1), 7, 0⟩ : Access)).toArray), .eff (EffP w32.heap.size (memK mg11 x35.2.2) (fun _ : Unit => (.tuple #[(U x35.1), (.bool x35.2.1)])) (fun _ : Unit => [])) (EffP.st _ _ _ _)] mixed r (fun b hb => hP.sep.lt (i := 2) rfl (.inl hb)) (by kernel_rfl) ?_ ?_
      ·
       refine eachE_early r rfl (by kernel_rfl) (fun fr1 g w' hb' hd r' => ?_) ?_
       · exact y_move r' (v := (.pointer (some ⟨mg11.mb, 0, none⟩))) rfl ⟨Below.refl _ _, rfl⟩
       refine eachE_late r rfl (fun fr1 g w' hk' hd r' => ?_) ?_
       · exact y_move r' (v := (.pointer (some ⟨mg11.mb, 0, none⟩))) rfl ⟨Below.refl _ _, rfl⟩
       refine eachE_early r rfl (by kernel_rfl) (fun fr1 g w' hb' hd r' => ?_) ?_
       · exact y_call r' (args := [(.pointer (some ⟨mg11.mb, 0, none⟩)), (I 0)]) (lc (hd 1 rfl).1 (lc rfl l0)) cl18 ((c_mem_Memory_Cap _ x29.2 ((hP.below (dr hb')).mem (i := 2) rfl) 0 hx34).mono (by rintro _ w2 ⟨rfl, hb2⟩; exact ⟨_, rfl, hb2, rfl⟩))
       refine eachE_late r rfl (fun fr1 g w' hk' hd r' => ?_) ?_
       · exact y_load_agg r' (cs := (planC a0)) (n := 6) rfl (hP.cellK (j := 2) rfl (drK hk') (i := 0) rfl rfl) ta23 rfl ⟨Below.refl _ _, rfl⟩
       refine eachE_late r rfl (fun fr1 g w' hk' hd r' => ?_) ?_
       · exact y_move r' (v := (I x13.1)) rfl ⟨Below.refl _ _, rfl⟩
       refine eachE_late r rfl (fun fr1 g w' hk' hd r' => ?_) ?_
       · exact y_move r' (v := (I x29.1)) rfl ⟨Below.refl _ _, rfl⟩
       refine eachE_early r rfl (by kernel_rfl) (fun fr1 g w' hb' hd r' => ?_) ?_
       · exact y_call r' (args := [(.agg (planC a0).toArray), (I x13.1), (I x29.1)]) (lc (hd 3 rfl).1 (lc (hd 4 rfl).1 (lc (hd 5 rfl).1 l0))) cl30 ((c_plan_Plan_Field _ a0 x13.1 x29.1).mono (by rintro _ w2 ⟨rfl, hb2⟩; exact ⟨_, rfl, hb2, rfl⟩))
       refine eachE_early r rfl (by kernel_rfl) (fun fr1 g w' hb' hd r' => ?_) ?_
       · exact y_build r' (v := (.agg (accessC (⟨1, (D.plan_Plan_Field a0 x13.1 x29.1), 7, 0⟩ : Access)).toArray)) (bs3 (rfl) (congrArg (fun z => (1, z)) (hd 6 rfl).1) (rfl) (by kernel_rfl)) ⟨Below.refl _ _, rfl⟩
       refine eachE_early r rfl (by kernel_rfl) (fun fr1 g w' hb' hd r' => ?_) ?_
       · exact y_call r' (args := [(.pointer (some ⟨mg11.mb, 0, none⟩)), (.agg (capC x34).toArray), (.agg (accessC (⟨1, (D.plan_Plan_Field a0 x13.1 x29.1), 7, 0⟩ : Access)).toArray)]) (lc (hd 0 rfl).1 (lc (hd 2 rfl).1 (lc (hd 7 rfl).1 l0))) cl49 ((c_mem_Memory_Do _ x29.2 x34 (⟨1, (D.plan_Plan_Field a0 x13.1 x29.1), 7, 0⟩ : Access) ((hP.below (dr hb')).sep.pk [2] rfl rfl) hx35).mono (by rintro _ w2 ⟨rfl, hq⟩; exact ⟨_, rfl, hq.chg.kept, EffP.of () hq rfl (fun b hb => hP.sep.lt (i := 2) rfl hb)⟩))
       exact eachF_nil
      ·
       intro fr gg w36 hb hΦ hap r
       obtain ⟨⟨⟩, g8, hcE, _, hs8⟩ := (hΦ 8 rfl).1
       have r := r.congr (sc g8 (sc ((hΦ 7 rfl).1) (sc ((hΦ 6 rfl).1) (sc ((hΦ 5 rfl).1) (sc ((hΦ 4 rfl).1) (sc ((hΦ 3 rfl).1) (sc ((hΦ 2 rfl).1) (sc ((hΦ 1 rfl).1) (sc ((hΦ 0 rfl).1) rfl)))))))))
       have hP : Post No [cellC b1 ((planC a0)).toArray 23, cellC b5 ((stateC a1)).toArray 30, memK mg11 x35.2.2] w0 w36 := hP.effL (i := 2) (l := []) rfl hb hcE rfl rfl trivial
       refine wp_region_lit ?_
       refine seq_val (I x29.1) r (fun R => y_move r rfl) rfl fun fr r => ?_
       refine seq_val _ r (fun R => y_bin r rfl rfl rfl rfl) rfl fun fr r => ?_
       refine seq_val (I (W (x29.1 + 1))) r (fun R => y_assign r rfl) rfl fun fr r => ?_
       refine wn ?_
       exact nxy31 ((W (x29.1 + 1)), x35.2.2) () _ _ _ hD r (hs_cons rfl (hs_cons rfl (hs_cons rfl (hs_cons rfl (hs_cons rfl (hs_cons rfl (hs_cons rfl (hs_cons rfl (hs_cons rfl (hs_cons rfl hs_nil)))))))))) (hP.pick [0, 1, 2] rfl rfl)
     ·
      have hD := (cond_f h33).symm.trans hD
      refine wp_exit ?_
      exact bky31 (x29.1, x29.2) () _ _ _ hD r (hs_cons rfl (hs_cons rfl (hs_cons rfl (hs_cons rfl (hs_cons rfl (hs_cons rfl (hs_cons rfl (hs_cons rfl (hs_cons rfl (hs_cons rfl hs_nil)))))))))) (hP.pick [0, 1, 2] rfl rfl)
    ·
     rintro x37 γ38 fr w39 g r hP hD
     have hP : Post No [cellC b1 ((planC a0)).toArray 23, cellC b5 ((stateC a1)).toArray 30, memK mg11 x37.2] w0 w39 := hP
     refine wp_region_lit ?_
     refine seq_val (I x13.1) r (fun R => y_move r rfl) rfl fun fr r => ?_
     refine seq_val _ r (fun R => y_bin r rfl rfl rfl rfl) rfl fun fr r => ?_
     refine seq_val (I (W (x13.1 + 1))) r (fun R => y_assign r rfl) rfl fun fr r => ?_
     refine wn ?_
     exact nxy15 ((W (x13.1 + 1)), x37.2) () _ _ _ hD r (hs_cons rfl (hs_cons rfl (hs_cons rfl (hs_cons rfl (hs_cons rfl (hs_cons rfl (hs_cons rfl (hs_cons rfl hs_nil)))))))) (hP.pick [0, 1, 2] rfl rfl)
  ·
   have hD := (cond_f h17).symm.trans hD
   refine wp_exit ?_
   exact bky15 (x13.1, x13.2) () _ _ _ hD r (hs_cons rfl (hs_cons rfl (hs_cons rfl (hs_cons rfl (hs_cons rfl (hs_cons rfl (hs_cons rfl (hs_cons rfl hs_nil)))))))) (hP.pick [0, 1, 2] rfl rfl)
 ·
  rintro x40 γ41 fr w42 g r hP hD
  have hP : Post No [cellC b1 ((planC a0)).toArray 23, cellC b5 ((stateC a1)).toArray 30, memK mg11 x40.2] w0 w42 := hP
  refine wsr ?_
  refine seq_val (.pointer (some ⟨mg11.mb, 0, none⟩)) r (fun R => y_move r rfl) rfl fun fr r => ?_
  refine seq_val (.pointer (some ⟨mg11.mb, 0, none⟩)) r (fun R => y_assign r rfl) rfl fun fr r => ?_
  refine wn ?_
  refine wp_ret ?_
  have hv : x40.2 = res := Option.some.inj hD
  try dsimp only [Exit.then, Exit.inBlock]
  refine ret_tmp (fn := Tryz.f14) r (t := 4) rfl (v := (.pointer (some ⟨mg11.mb, 0, none⟩))) rfl ?_
  subst hv
  exact ⟨mg11, rfl, (hP.pick [2] rfl rfl).done (rest_cons rfl rest_nil)⟩

def D.cubicleref11_Scan (fu : Nat) (a0 : List Int) (a1 : List Bool) : Option (List Int × List Int) := ((appD ([] : List Int) a0).bind (fun (x5 : List Int) => (loopThen (fun (x10 : List Int × List Int × Int) => (bif (decide (x10.2.2 ≥ 0)) then ((getI x10.1 x10.2.2).bind (fun (x15 : Int) => (Option.bind (bif (decide (x15 ≥ 0)) then (bif (decide (x15 < (a1.length : Int))) then ((getI a1 x15).bind (fun (x19 : Bool) => (some x19))) else (some false)) else (some false)) (fun (x20 : Bool) => (bif x20 then (some (Lp.next (x10.1, x10.2.1, (IntKind.i64.wrap (x10.2.2 - 1))))) else ((appD x10.2.1 ([x15])).bind (fun (x28 : List Int) => ((getI x10.1 (IntKind.i64.wrap ((x10.1.length : Int) - 1))).bind (fun (x32 : Int) => ((getI x10.1 x10.2.2).bind (fun (x33 : Int) => ((sliceD (x10.1.set x10.2.2.toNat x32) 0 (IntKind.i64.wrap (((x10.1.set x10.2.2.toNat x32).length : Int) - 1))).bind (fun (x36 : List Int) => (some (Lp.next (x36, x28, (IntKind.i64.wrap (x10.2.2 - 1)))))))))))))))))) else (some (Lp.brk (x10.1, x10.2.1, x10.2.2))))) fu (x5, [], (IntKind.i64.wrap ((a0.length : Int) - 1))) (fun (x37 : List Int × List Int × Int) => (some (x37.1, x37.2.1))))))

theorem c_cubicleref11_Scan {fu : Nat} (w0 : World) {a0_v : Value} (a0 : List Int) (a0_h : RoAt 3 1 i64 a0_v a0 w0) {a1_v : Value} (a1 : List Bool) (a1_h : RoAt 4 1 boolE a1_v a1 w0) {res : List Int × List Int} (hD : D.cubicleref11_Scan fu a0 a1 = some res) :
    Calls Tryz.prog 24 #[a0_v, a1_v] w0 (fun e w' => ∃ (v0 : Value) (v1 : Value), e = .returned (.tuple #[v0, v1]) ∧ Done No No [rowK 3 1 i64 v0 res.1, rowK 3 1 i64 v1 res.2] w0 w') := by
 refine enter Tryz.func24 rfl 58 rfl rfl fun fr r => ?_
 have hP : Post No [] w0 w0 := Post.nil w0
 have hP : Post No [roK 3 1 i64 a0_v a0] w0 w0 := hP.addRo norw_nil a0_h rfl a0_h.lt
 have hP : Post No [roK 3 1 i64 a0_v a0, roK 4 1 boolE a1_v a1] w0 w0 := hP.addRo (norw_cons rfl norw_nil) a1_h rfl a1_h.lt
 unfold D.cubicleref11_Scan at hD
 refine wsr ?_
 refine seq_val (Value.slice none 0 0) r (fun R => y_assign r rfl) rfl fun fr r => ?_
 refine seq_val (Value.slice none 0 0) r (fun R => y_assign r rfl) rfl fun fr r => ?_
 refine wn ?_
 refine wsr ?_
 refine seq_newS (.cells ((([] : List Int)).flatMap i64).toArray 3 (0, 0)) 0 r (fun R => y_bslice r (by kernel_rfl)) rfl fun fr b1 w2 n3 r => ?_
 have hP : Post No [roK 3 1 i64 a0_v a0, roK 4 1 boolE a1_v a1, rowK 3 1 i64 (.slice (some ⟨b1, 0, none⟩) 0 0) ([] : List Int)] w0 w2 := hP.newRow n3 (fun _ => rfl) rfl
 refine seq_val a0_v r (fun R => y_move r rfl) rfl fun fr r => ?_
 obtain ⟨x5, hx5, hD⟩ := bindD_elim hD
 refine seq_app 3 1 i64 (.slice (some ⟨b1, 0, none⟩) 0 0) r (fun R => y_append r rt24 (fun _ => rfl) (fun _ => rfl) (hP.row (i := 2) rfl) (hP.ro (i := 0) rfl) hx5 rfl rfl) rfl fun fr v6 w7 ha8 r => ?_
 have hP : Post No [roK 3 1 i64 a0_v a0, roK 4 1 boolE a1_v a1, rowK 3 1 i64 v6 x5] w0 w7 := hP.append (i := 2) rfl ha8
 refine seq_val v6 r (fun R => y_assign r rfl) rfl fun fr r => ?_
 refine wn ?_
 refine wsr ?_
 refine seq_val (Value.slice none 0 0) r (fun R => y_assign r rfl) rfl fun fr r => ?_
 refine wn ?_
 refine wp_seq ?_
 refine wsr ?_
 refine seq_val a0_v r (fun R => y_move r rfl) rfl fun fr r => ?_
 refine seq_val (I (a0.length : Int)) r (fun R => y_rowLen r (hP.ro (i := 0) rfl) is24 rfl) rfl fun fr r => ?_
 refine seq_val _ r (fun R => y_bin r rfl rfl rfl rfl) rfl fun fr r => ?_
 refine seq_val (I (W ((a0.length : Int) - 1))) r (fun R => y_assign r rfl) rfl fun fr r => ?_
 refine wn ?_
 have hP : Post No [roK 3 1 i64 a0_v a0, roK 4 1 boolE a1_v a1, rowK 3 1 i64 v6 x5, rowK 3 1 i64 (Value.slice none 0 0) ([])] w0 w7 := hP.nilRow 3 1 i64
 refine wp_loopG (X := List Int × List Int × Int) (G := Value × Value) (x0 := (x5, [], (W ((a0.length : Int) - 1)))) (fun x γ => [(0, a0_v), (1, a1_v), (4, (Value.slice none 0 0)), (5, (Value.slice none 0 0)), (6, γ.1), (7, γ.2), (8, (I x.2.2))]) (fun x γ w => Post No [roK 3 1 i64 a0_v a0, roK 4 1 boolE a1_v a1, rowK 3 1 i64 γ.1 x.1, rowK 3 1 i64 γ.2 x.2.1] w0 w) (v6, (Value.slice none 0 0)) r (hs_cons rfl (hs_cons rfl (hs_cons rfl (hs_cons rfl (hs_cons rfl (hs_cons rfl (hs_cons rfl hs_nil))))))) hP hD ?_ ?_
 ·
  rintro x10 γ11 fr w13 g y12 RPy12 nxy12 bky12 rty12 r hP hD
  have hP : Post No [roK 3 1 i64 a0_v a0, roK 4 1 boolE a1_v a1, rowK 3 1 i64 γ11.1 x10.1, rowK 3 1 i64 γ11.2 x10.2.1] w0 w13 := hP
  refine wp_seq ?_
  refine wsr ?_
  refine seq_val (I x10.2.2) r (fun R => y_move r rfl) rfl fun fr r => ?_
  refine seq_val _ r (fun R => y_bin r rfl rfl rfl rfl) rfl fun fr r => ?_
  refine wn ?_
  refine wp_cond_split (t := (decide (x10.2.2 ≥ 0))) (r.ev rfl) (fun h14 => ?_) (fun h14 => ?_)
  ·
   have hD := (cond_t h14).symm.trans hD
   refine wp_skip ?_
   refine wp_seq ?_
   refine wp_block ?_
   refine wsr ?_
   refine seq_val γ11.1 r (fun R => y_move r rfl) rfl fun fr r => ?_
   refine seq_val (I x10.2.2) r (fun R => y_move r rfl) rfl fun fr r => ?_
   obtain ⟨x15, hx15, hD⟩ := bindD_elim hD
   refine seq_val (.pointer (some ⟨rowB γ11.1, rowO γ11.1 + x10.2.2.toNat * 1, none⟩)) r (fun R => y_rowAddr r (hP.row (i := 2) rfl).ro hx15 sl24 rfl rfl) rfl fun fr r => ?_
   refine seq_val (I x15) r (fun R => y_loadL_one r (u := (I x15)) (RoAt.at_ (f := i64) (x := x15) (hP.row (i := 2) rfl).ro (fun _ => rfl) hx15) rfl to3) rfl fun fr r => ?_
   refine seq_val (I x15) r (fun R => y_assign r rfl) rfl fun fr r => ?_
   refine wn ?_
   refine wp_seq ?_
   refine wp_seq ?_
   refine wp_joinG (N := 58) (Y := Bool) (G := Unit) (fun x γ => [(0, a0_v), (1, a1_v), (4, (Value.slice none 0 0)), (5, (Value.slice none 0 0)), (6, γ11.1), (7, γ11.2), (8, (I x10.2.2)), (17, (.bool (decide (x10.2.2 ≥ 0)))), (9, (I x15)), (37, (.bool x))]) (fun x γ w => Post No [roK 3 1 i64 a0_v a0, roK 4 1 boolE a1_v a1, rowK 3 1 i64 γ11.1 x10.1, rowK 3 1 i64 γ11.2 x10.2.1] w0 w) hD ?_ ?_
   ·
    rintro y16 RPy16 nxy16 hD
    refine wp_region_lit ?_
    refine seq_val (I x15) r (fun R => y_move r rfl) rfl fun fr r => ?_
    refine seq_val _ r (fun R => y_bin r rfl rfl rfl rfl) rfl fun fr r => ?_
    refine seq_val (.bool (decide (x15 ≥ 0))) r (fun R => y_move r rfl) rfl fun fr r => ?_
    refine seq_split (decide (x15 ≥ 0)) (fun h17 => ?_) (fun h17 => ?_)
    ·
     have hD := (cond_t h17).symm.trans hD
     refine s1 r h17 ?_
     refine seq_val (I x15) r (fun R => y_move r rfl) rfl fun fr r => ?_
     refine s1 r h17 ?_
     refine seq_val a1_v r (fun R => y_move r rfl) rfl fun fr r => ?_
     refine s1 r h17 ?_
     refine seq_val (I (a1.length : Int)) r (fun R => y_rowLen r (hP.ro (i := 1) rfl) is56 rfl) rfl fun fr r => ?_
     refine s1 r h17 ?_
     refine seq_val _ r (fun R => y_bin r rfl rfl rfl rfl) rfl fun fr r => ?_
     refine seq_val (.bool (decide (x15 < (a1.length : Int)))) r (fun R => y_pick r (b := true) (congrArg Value.bool h17) rfl) rfl fun fr r => ?_
     refine seq_val (.bool (decide (x15 < (a1.length : Int)))) r (fun R => y_move r rfl) rfl fun fr r => ?_
     refine seq_split (decide (x15 < (a1.length : Int))) (fun h18 => ?_) (fun h18 => ?_)
     ·
      have hD := (cond_t h18).symm.trans hD
      refine s1 r h18 ?_
      refine seq_val a1_v r (fun R => y_move r rfl) rfl fun fr r => ?_
      refine s1 r h18 ?_
      refine seq_val (I x15) r (fun R => y_move r rfl) rfl fun fr r => ?_
      refine s1 r h18 ?_
      obtain ⟨x19, hx19, hD⟩ := bindD_elim hD
      refine seq_val (.pointer (some ⟨rowB a1_v, rowO a1_v + x15.toNat * 1, none⟩)) r (fun R => y_rowAddr r (hP.ro (i := 1) rfl) hx19 sl56 rfl rfl) rfl fun fr r => ?_
      refine s1 r h18 ?_
      refine seq_val (.bool x19) r (fun R => y_loadL_one r (u := (.bool x19)) (RoAt.at_ (f := boolE) (x := x19) (hP.ro (i := 1) rfl) (fun _ => rfl) hx19) rfl to4) rfl fun fr r => ?_
      refine seq_val (.bool x19) r (fun R => y_pick r (b := true) (congrArg Value.bool h18) rfl) rfl fun fr r => ?_
      refine wn ?_
      exact nxy16 x19 () _ _ _ hD r (hs_cons rfl (hs_cons rfl (hs_cons rfl (hs_cons rfl (hs_cons rfl (hs_cons rfl (hs_cons rfl (hs_cons rfl (hs_cons rfl (hs_cons rfl hs_nil)))))))))) (hP.pick [0, 1, 2, 3] rfl rfl)
     ·
      have hD := (cond_f h18).symm.trans hD
      refine s0 r h18 fun fr r => ?_
      refine s0 r h18 fun fr r => ?_
      refine s0 r h18 fun fr r => ?_
      refine s0 r h18 fun fr r => ?_
      refine seq_val (.bool false) r (fun R => y_pick r (b := false) (congrArg Value.bool h18) rfl) rfl fun fr r => ?_
      refine wn ?_
      exact nxy16 false () _ _ _ hD r (hs_cons rfl (hs_cons rfl (hs_cons rfl (hs_cons rfl (hs_cons rfl (hs_cons rfl (hs_cons rfl (hs_cons rfl (hs_cons rfl (hs_cons rfl hs_nil)))))))))) (hP.pick [0, 1, 2, 3] rfl rfl)
    ·
     have hD := (cond_f h17).symm.trans hD
     refine s0 r h17 fun fr r => ?_
     refine s0 r h17 fun fr r => ?_
     refine s0 r h17 fun fr r => ?_
     refine s0 r h17 fun fr r => ?_
     refine seq_val (.bool false) r (fun R => y_pick r (b := false) (congrArg Value.bool h17) rfl) rfl fun fr r => ?_
     refine seq_val (.bool false) r (fun R => y_move r rfl) rfl fun fr r => ?_
     refine s0 r (rfl : false = _) fun fr r => ?_
     refine s0 r (rfl : false = _) fun fr r => ?_
     refine s0 r (rfl : false = _) fun fr r => ?_
     refine s0 r (rfl : false = _) fun fr r => ?_
     refine seq_val (.bool false) r (fun R => y_pick r (b := false) (congrArg Value.bool (rfl : false = _)) rfl) rfl fun fr r => ?_
     refine wn ?_
     exact nxy16 false () _ _ _ hD r (hs_cons rfl (hs_cons rfl (hs_cons rfl (hs_cons rfl (hs_cons rfl (hs_cons rfl (hs_cons rfl (hs_cons rfl (hs_cons rfl (hs_cons rfl hs_nil)))))))))) (hP.pick [0, 1, 2, 3] rfl rfl)
   ·
    rintro x20 γ21 fr w22 g r hP hD
    have hP : Post No [roK 3 1 i64 a0_v a0, roK 4 1 boolE a1_v a1, rowK 3 1 i64 γ11.1 x10.1, rowK 3 1 i64 γ11.2 x10.2.1] w0 w22 := hP
    refine wp_cond_split (t := x20) (r.ev rfl) (fun h23 => ?_) (fun h23 => ?_)
    ·
     have hD := (cond_t h23).symm.trans hD
     refine wp_exit ?_
     refine wp_region_lit ?_
     refine seq_val (I x10.2.2) r (fun R => y_move r rfl) rfl fun fr r => ?_
     refine seq_val _ r (fun R => y_bin r rfl rfl rfl rfl) rfl fun fr r => ?_
     refine seq_val (I (W (x10.2.2 - 1))) r (fun R => y_assign r rfl) rfl fun fr r => ?_
     refine wn ?_
     exact nxy12 (x10.1, x10.2.1, (W (x10.2.2 - 1))) (γ11.1, γ11.2) _ _ _ hD r (hs_cons rfl (hs_cons rfl (hs_cons rfl (hs_cons rfl (hs_cons rfl (hs_cons rfl (hs_cons rfl hs_nil))))))) (hP.pick [0, 1, 2, 3] rfl rfl)
    ·
     have hD := (cond_f h23).symm.trans hD
     refine wp_skip ?_
     refine wsr ?_
     refine seq_val γ11.2 r (fun R => y_move r rfl) rfl fun fr r => ?_
     refine seq_val (I x15) r (fun R => y_move r rfl) rfl fun fr r => ?_
     refine seq_newS (.cells (([x15]).flatMap i64).toArray 3 (0, 0)) 1 r (fun R => y_bslice r (by kernel_rfl)) rfl fun fr b24 w25 n26 r => ?_
     have hP : Post No [roK 3 1 i64 a0_v a0, roK 4 1 boolE a1_v a1, rowK 3 1 i64 γ11.1 x10.1, rowK 3 1 i64 γ11.2 x10.2.1, rowK 3 1 i64 (.slice (some ⟨b24, 0, none⟩) 1 1) ([x15])] w0 w25 := hP.newRow n26 (fun _ => rfl) rfl
     obtain ⟨x28, hx28, hD⟩ := bindD_elim hD
     refine seq_app 3 1 i64 γ11.2 r (fun R => y_append r rt24 (fun _ => rfl) (fun _ => rfl) (hP.row (i := 3) rfl) (hP.row (i := 4) rfl).ro hx28 rfl rfl) rfl fun fr v29 w30 ha31 r => ?_
     have hP : Post No [roK 3 1 i64 a0_v a0, roK 4 1 boolE a1_v a1, rowK 3 1 i64 γ11.1 x10.1, rowK 3 1 i64 v29 x28, rowK 3 1 i64 (.slice (some ⟨b24, 0, none⟩) 1 1) ([x15])] w0 w30 := hP.append (i := 3) rfl ha31
     refine seq_val v29 r (fun R => y_assign r rfl) rfl fun fr r => ?_
     refine wn ?_
     refine wsr ?_
     refine seq_val γ11.1 r (fun R => y_move r rfl) rfl fun fr r => ?_
     refine seq_val (I x10.2.2) r (fun R => y_move r rfl) rfl fun fr r => ?_
     refine seq_val γ11.1 r (fun R => y_move r rfl) rfl fun fr r => ?_
     refine seq_val γ11.1 r (fun R => y_move r rfl) rfl fun fr r => ?_
     refine seq_val (I (x10.1.length : Int)) r (fun R => y_rowLen r (hP.row (i := 2) rfl).ro is24 rfl) rfl fun fr r => ?_
     refine seq_val _ r (fun R => y_bin r rfl rfl rfl rfl) rfl fun fr r => ?_
     obtain ⟨x32, hx32, hD⟩ := bindD_elim hD
     refine seq_val (.pointer (some ⟨rowB γ11.1, rowO γ11.1 + (W ((x10.1.length : Int) - 1)).toNat * 1, none⟩)) r (fun R => y_rowAddr r (hP.row (i := 2) rfl).ro hx32 sl24 rfl rfl) rfl fun fr r => ?_
     refine seq_val (I x32) r (fun R => y_loadL_one r (u := (I x32)) (RoAt.at_ (f := i64) (x := x32) (hP.row (i := 2) rfl).ro (fun _ => rfl) hx32) rfl to3) rfl fun fr r => ?_
     obtain ⟨x33, hx33, hD⟩ := bindD_elim hD
     refine seq_val (.pointer (some ⟨rowB γ11.1, rowO γ11.1 + x10.2.2.toNat * 1, none⟩)) r (fun R => y_rowAddr r (hP.row (i := 2) rfl).ro hx33 sl24 rfl rfl) rfl fun fr r => ?_
     refine seq_set 3 i64 γ11.1 (x10.1.set x10.2.2.toNat x32) r (fun R => y_setRow r (hP.row (i := 2) rfl) hx33 (fun _ => rfl) rfl rfl rfl rfl rfl sz1_3) rfl fun fr w34 ha35 r => ?_
     have hP : Post No [roK 3 1 i64 a0_v a0, roK 4 1 boolE a1_v a1, rowK 3 1 i64 γ11.1 (x10.1.set x10.2.2.toNat x32), rowK 3 1 i64 v29 x28, rowK 3 1 i64 (.slice (some ⟨b24, 0, none⟩) 1 1) ([x15])] w0 w34 := hP.append (i := 2) rfl ha35
     refine wn ?_
     refine wp_region_lit ?_
     refine seq_val γ11.1 r (fun R => y_move r rfl) rfl fun fr r => ?_
     refine seq_val γ11.1 r (fun R => y_move r rfl) rfl fun fr r => ?_
     refine seq_val (I ((x10.1.set x10.2.2.toNat x32).length : Int)) r (fun R => y_rowLen r (hP.row (i := 2) rfl).ro is24 rfl) rfl fun fr r => ?_
     refine seq_val _ r (fun R => y_bin r rfl rfl rfl rfl) rfl fun fr r => ?_
     obtain ⟨x36, hx36, hD⟩ := bindD_elim hD
     refine seq_val (sliceV 1 γ11.1 (0 : Int).toNat (W (((x10.1.set x10.2.2.toNat x32).length : Int) - 1)).toNat) r (fun R => y_cut r (hP.row (i := 2) rfl).ro sl24 rfl rfl rfl rfl rfl rfl rfl hx36) rfl fun fr r => ?_
     refine seq_val (sliceV 1 γ11.1 (0 : Int).toNat (W (((x10.1.set x10.2.2.toNat x32).length : Int) - 1)).toNat) r (fun R => y_assign r rfl) rfl fun fr r => ?_
     refine wn ?_
     refine wp_region_lit ?_
     refine seq_val (I x10.2.2) r (fun R => y_move r rfl) rfl fun fr r => ?_
     refine seq_val _ r (fun R => y_bin r rfl rfl rfl rfl) rfl fun fr r => ?_
     refine seq_val (I (W (x10.2.2 - 1))) r (fun R => y_assign r rfl) rfl fun fr r => ?_
     refine wn ?_
     have hP : Post No [roK 3 1 i64 a0_v a0, roK 4 1 boolE a1_v a1, rowK 3 1 i64 (sliceV 1 γ11.1 (0 : Int).toNat (W (((x10.1.set x10.2.2.toNat x32).length : Int) - 1)).toNat) x36, rowK 3 1 i64 v29 x28, rowK 3 1 i64 (.slice (some ⟨b24, 0, none⟩) 1 1) ([x15])] w0 w34 := hP.narrow (i := 2) rfl (fun _ => rfl) hx36
     exact nxy12 (x36, x28, (W (x10.2.2 - 1))) ((sliceV 1 γ11.1 (0 : Int).toNat (W (((x10.1.set x10.2.2.toNat x32).length : Int) - 1)).toNat), v29) _ _ _ hD r (hs_cons rfl (hs_cons rfl (hs_cons rfl (hs_cons rfl (hs_cons rfl (hs_cons rfl (hs_cons rfl hs_nil))))))) (hP.pick [0, 1, 2, 3] rfl rfl)
  ·
   have hD := (cond_f h14).symm.trans hD
   refine wp_exit ?_
   exact bky12 (x10.1, x10.2.1, x10.2.2) (γ11.1, γ11.2) _ _ _ hD r (hs_cons rfl (hs_cons rfl (hs_cons rfl (hs_cons rfl (hs_cons rfl (hs_cons rfl (hs_cons rfl hs_nil))))))) (hP.pick [0, 1, 2, 3] rfl rfl)
 ·
  rintro x37 γ38 fr w39 g r hP hD
  have hP : Post No [roK 3 1 i64 a0_v a0, roK 4 1 boolE a1_v a1, rowK 3 1 i64 γ38.1 x37.1, rowK 3 1 i64 γ38.2 x37.2.1] w0 w39 := hP
  refine wsr ?_
  refine seq_val γ38.1 r (fun R => y_move r rfl) rfl fun fr r => ?_
  refine seq_val γ38.2 r (fun R => y_move r rfl) rfl fun fr r => ?_
  refine seq_val γ38.1 r (fun R => y_assign r rfl) rfl fun fr r => ?_
  refine seq_val γ38.2 r (fun R => y_assign r rfl) rfl fun fr r => ?_
  refine wn ?_
  refine wp_ret ?_
  have hv : (x37.1, x37.2.1) = res := Option.some.inj hD
  try dsimp only [Exit.then, Exit.inBlock]
  refine ret_tmp2 (fn := Tryz.f24) r (t := 4) (t' := 5) rfl (v := γ38.1) (v' := γ38.2) rfl rfl ?_
  subst hv
  exact ⟨γ38.1, γ38.2, rfl, (hP.pick [2, 3] rfl rfl).done (rest_cons rfl (rest_cons rfl rest_nil))⟩

end Go.Proofs.YtphnnjiaiemkcaaGreat
