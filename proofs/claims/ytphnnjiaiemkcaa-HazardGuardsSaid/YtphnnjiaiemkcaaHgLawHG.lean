/- Written by a program of ours (wip/gen.py): a law -/
import Derived.Test.YtphnnjiaiemkcaaHgLaids
set_option linter.unusedVariables false
namespace Go.Proofs.Ytphnnjiaiemkcaa.Wk
open Go.RowKit
theorem cl20 : callable Try.prog 20 = true := by kernel_rfl

theorem cl37 : callable Try.prog 37 = true := by kernel_rfl

theorem cl38 : callable Try.prog 38 = true := by kernel_rfl

theorem cl47 : callable Try.prog 47 = true := by kernel_rfl

theorem cl50 : callable Try.prog 50 = true := by kernel_rfl

theorem cl51 : callable Try.prog 51 = true := by kernel_rfl

theorem cl53 : callable Try.prog 53 = true := by kernel_rfl

theorem cl54 : callable Try.prog 54 = true := by kernel_rfl

theorem fo95_0 : fieldOff Try.prog 95 0 0 = true := by kernel_rfl

theorem fo95_1 : fieldOff Try.prog 95 1 1 = true := by kernel_rfl

theorem is93 : isSlice Try.prog 93 = true := by kernel_rfl

theorem sl93 : sliceTy Try.prog 93 2 = true := by kernel_rfl

theorem ti5 : intTy Try.prog 5 .u8 = true := by kernel_rfl

theorem to5 : tyO Try.prog 5 = true := by kernel_rfl

def D.cubiclelaw10_HazardGuards (fu : Nat) (a0 : Plan) (a1 : Int) (a2 : List Move) : Option (Bool) := (Option.bind ((D.cubiclelaw10_awake fu ).bind (fun (x6 : Bool) => (bif (!x6) then (some true) else (bif (decide ((a2.length : Int) > 20)) then (some true) else (bif (!(D.cubiclelaw10_fits a0 0 0 0)) then (some true) else (some (decide (a0.nodes < 2)))))))) (fun (x12 : Bool) => (bif x12 then ((D.cubiclelaw10_awake fu ).bind (fun (x16 : Bool) => (some x16))) else ((D.cubiclelaw09_Laid fu a0).bind (fun (x18 : Mem) => ((guardI (decide (0 ≤ (IntKind.i64.wrap (a1.tmod 2))))).bind (fun (x23 : Unit) => (loopThen (fun (x34 : Bool × Int × Mem × (Nat × T Int)) => (bif (decide (x34.2.1 < 60)) then (loopThen (fun (x39 : Int × Mem) => (bif (decide (x39.1 < (a2.length : Int))) then ((getI a2 x39.1).bind (fun (x44 : Move) => (Option.bind (bif ((IntKind.i64.wrap x44.step) == x34.2.1) then ((D.mem_Memory_Cap fu x39.2 0).bind (fun (x47 : Cap) => ((getI a2 x39.1).bind (fun (x48 : Move) => ((D.mem_Memory_Do fu x39.2 x47 (⟨1, (D.plan_Plan_Field a0 0 0), (IntKind.u64.wrap x48.w), 0⟩ : Access)).bind (fun (x49 : Int × Bool × Mem) => (some x49.2.2))))))) else (some x39.2)) (fun (x51 : Mem) => (some (Lp.next ((IntKind.i64.wrap (x39.1 + 1)), x51))))))) else (some (Lp.brk (x39.1, x39.2))))) fu (0, x34.2.2.1) (fun (x54 : Int × Mem) => ((D.mem_Memory_Peek fu x54.2 0 (D.plan_Plan_Field a0 0 0)).bind (fun (x57 : Int) => ((D.prog_Prog_uint64_Access fu x34.2.2.2).bind (fun (x59 : Access × Bool) => ((D.mem_Memory_Cap fu x54.2 0).bind (fun (x67 : Cap) => ((D.prog_Prog_uint64_Step fu x34.2.2.2 x54.2 x67).bind (fun (x68 : (Nat × T Int) × Bool × Mem) => (Option.bind (bif (!x59.2) then (some true) else (some (!x68.2.1))) (fun (x76 : Bool) => (bif x76 then (some (Lp.ret false)) else ((D.prog_Prog_uint64_Over fu x68.1).bind (fun (x82 : Int × Bool) => (bif (!x82.2) then (some (Lp.next (x34.1, (IntKind.i64.wrap (x34.2.1 + 1)), x68.2.2, x68.1))) else (Option.bind (bif (x59.1.op == 0) then (bif (x59.1.at_ == (D.plan_Plan_Field a0 0 0)) then (bif (x82.1 == x57) then (bif (decide ((D.cubicleref10_Named x82.1 (IntKind.i64.wrap (a1.tmod 2))) < 0)) then (some true) else ((D.mem_Memory_Peek fu x68.2.2 0 (D.plan_Plan_Hazard a0 0 1)).bind (fun (x92 : Int) => (some (x92 == (IntKind.u64.wrap (IntKind.i64.wrap ((D.cubicleref10_Named x82.1 (IntKind.i64.wrap (a1.tmod 2))) + 1)))))))) else (some false)) else (some false)) else (some false)) (fun (x94 : Bool) => (some (Lp.ret x94)))))))))))))))))))) else (some (Lp.brk (x34.1, x34.2.1, x34.2.2.1, x34.2.2.2))))) fu (false, 0, x18, (fu, (D.hazard_Guard (fu + 1) a0 0 1 (D.plan_Plan_Field a0 0 0) (IntKind.i64.wrap (a1.tmod 2))))) (fun (x97 : Bool × Int × Mem × (Nat × T Int)) => (some false))))))))))

set_option maxRecDepth 20000 in
set_option maxHeartbeats 2000000 in
theorem c_cubiclelaw10_HazardGuards {fu : Nat} (w0 : World) (a0 : Plan) (a1 : Int) {a2_v : Value} (a2 : List Move) (a2_h : RoAt 95 2 moveC a2_v a2 w0) {res : Bool} (hD : D.cubiclelaw10_HazardGuards fu a0 a1 a2 = some res) :
    Calls Try.prog 12 #[.agg (planC a0).toArray, .int .u8 a1, a2_v] w0 (PureRes (.bool res) w0) := by
  refine enter (l := [.agg (planC a0).toArray, .int .u8 a1, a2_v]) Try.func12 rfl 143 rfl rfl fun fr r => ?_
  have hP : Post No [] w0 w0 := Post.nil w0
  have hP : Post No [roK 95 2 moveC a2_v a2] w0 w0 := hP.addRo norw_nil a2_h rfl a2_h.lt
  unfold D.cubiclelaw10_HazardGuards at hD
  refine wp_seq ?_
  refine wp_region_lit ?_
  refine seq_new (.cells ((planC a0)).toArray 24 (0, 0)) r (fun R => y_box r (v := (.agg (planC a0).toArray)) rfl) rfl fun fr b1 w2 n3 r => ?_
  have hP : Post No [roK 95 2 moveC a2_v a2, cellC b1 ((planC a0)).toArray 24] w0 w2 := hP.new n3
  refine seq_val (.bool false) r (fun R => y_assign r rfl) rfl fun fr r => ?_
  refine wpList_nil ?_
  refine wp_seq ?_
  refine wp_seq ?_
  refine wp_joinG (N := 143) (Y := Bool) (G := Unit) (fun x γ => [(0, (.agg (planC a0).toArray)), (1, (.int .u8 a1)), (2, a2_v), (3, (.pointer (some ⟨b1, 0, none⟩))), (6, (.bool false)), (37, (.bool x))]) (fun x γ w => Post No [roK 95 2 moveC a2_v a2, cellC b1 ((planC a0)).toArray 24] w0 w) hD ?_ ?_
  · skip
    rintro y5 RPy5 nxy5 hD
    refine wp_region_lit ?_
    obtain ⟨x6, hx6, hD⟩ := bindD_elim hD
    refine seq_call r (c_cubiclelaw10_awake w2  hx6) (fun R hc => y_call r rfl cl37 hc) rfl ?_
    rintro _ w7 ⟨rfl, hb⟩
    refine ⟨_, rfl, fun fr r => ?_⟩
    have hP : Post No [roK 95 2 moveC a2_v a2, cellC b1 ((planC a0)).toArray 24] w0 w7 := hP.below hb
    refine seq_val (.bool (!x6)) r (fun R => y_un r (u := (.bool x6)) rfl rfl) rfl fun fr r => ?_
    refine seq_val (.bool (!x6)) r (fun R => y_move r rfl) rfl fun fr r => ?_
    refine seq_split (!x6) (fun h8 => ?_) (fun h8 => ?_)
    · skip
      have hD := (cond_t h8).symm.trans hD
      refine seq_skip r rfl rfl rfl (v := .bool true) (congrArg Value.bool h8) (by simp [boolOf]) fun fr r => ?_
      refine seq_skip r rfl rfl rfl (v := .bool true) (congrArg Value.bool h8) (by simp [boolOf]) fun fr r => ?_
      refine seq_skip r rfl rfl rfl (v := .bool true) (congrArg Value.bool h8) (by simp [boolOf]) fun fr r => ?_
      refine seq_val (.bool true) r (fun R => y_pick r (b := true) (congrArg Value.bool h8) rfl) rfl fun fr r => ?_
      refine seq_val (.bool true) r (fun R => y_move r rfl) rfl fun fr r => ?_
      refine seq_skip r rfl rfl rfl (v := .bool true) (congrArg Value.bool (rfl : true = _)) (by simp [boolOf]) fun fr r => ?_
      refine seq_skip r rfl rfl rfl (v := .bool true) (congrArg Value.bool (rfl : true = _)) (by simp [boolOf]) fun fr r => ?_
      refine seq_skip r rfl rfl rfl (v := .bool true) (congrArg Value.bool (rfl : true = _)) (by simp [boolOf]) fun fr r => ?_
      refine seq_val (.bool true) r (fun R => y_pick r (b := true) (congrArg Value.bool (rfl : true = _)) rfl) rfl fun fr r => ?_
      refine seq_val (.bool true) r (fun R => y_move r rfl) rfl fun fr r => ?_
      refine seq_skip r rfl rfl rfl (v := .bool true) (congrArg Value.bool (rfl : true = _)) (by simp [boolOf]) fun fr r => ?_
      refine seq_skip r rfl rfl rfl (v := .bool true) (congrArg Value.bool (rfl : true = _)) (by simp [boolOf]) fun fr r => ?_
      refine seq_skip r rfl rfl rfl (v := .bool true) (congrArg Value.bool (rfl : true = _)) (by simp [boolOf]) fun fr r => ?_
      refine seq_val (.bool true) r (fun R => y_pick r (b := true) (congrArg Value.bool (rfl : true = _)) rfl) rfl fun fr r => ?_
      refine wpList_nil ?_
      exact nxy5 true () _ _ _ hD r (hs_cons rfl (hs_cons rfl (hs_cons rfl (hs_cons rfl (hs_cons rfl (hs_cons rfl hs_nil)))))) (hP.pick [0, 1] rfl rfl)
    · skip
      have hD := (cond_f h8).symm.trans hD
      refine seq_want r rfl rfl rfl (congrArg Value.bool h8) ?_
      refine seq_val a2_v r (fun R => y_move r rfl) rfl fun fr r => ?_
      refine seq_want r rfl rfl rfl (congrArg Value.bool h8) ?_
      refine seq_val (.int .i64 (a2.length : Int)) r (fun R => y_rowLen r (hP.ro (i := 0) rfl) is93 rfl) rfl fun fr r => ?_
      refine seq_want r rfl rfl rfl (congrArg Value.bool h8) ?_
      refine seq_val (.bool (decide ((a2.length : Int) > 20))) r (fun R => y_bin r (u := (.int .i64 (a2.length : Int))) (u' := (.int .i64 20)) rfl rfl rfl rfl) rfl fun fr r => ?_
      refine seq_val (.bool (decide ((a2.length : Int) > 20))) r (fun R => y_pick r (b := false) (congrArg Value.bool h8) rfl) rfl fun fr r => ?_
      refine seq_val (.bool (decide ((a2.length : Int) > 20))) r (fun R => y_move r rfl) rfl fun fr r => ?_
      refine seq_split (decide ((a2.length : Int) > 20)) (fun h9 => ?_) (fun h9 => ?_)
      · skip
        have hD := (cond_t h9).symm.trans hD
        refine seq_skip r rfl rfl rfl (v := .bool true) (congrArg Value.bool h9) (by simp [boolOf]) fun fr r => ?_
        refine seq_skip r rfl rfl rfl (v := .bool true) (congrArg Value.bool h9) (by simp [boolOf]) fun fr r => ?_
        refine seq_skip r rfl rfl rfl (v := .bool true) (congrArg Value.bool h9) (by simp [boolOf]) fun fr r => ?_
        refine seq_val (.bool true) r (fun R => y_pick r (b := true) (congrArg Value.bool h9) rfl) rfl fun fr r => ?_
        refine seq_val (.bool true) r (fun R => y_move r rfl) rfl fun fr r => ?_
        refine seq_skip r rfl rfl rfl (v := .bool true) (congrArg Value.bool (rfl : true = _)) (by simp [boolOf]) fun fr r => ?_
        refine seq_skip r rfl rfl rfl (v := .bool true) (congrArg Value.bool (rfl : true = _)) (by simp [boolOf]) fun fr r => ?_
        refine seq_skip r rfl rfl rfl (v := .bool true) (congrArg Value.bool (rfl : true = _)) (by simp [boolOf]) fun fr r => ?_
        refine seq_val (.bool true) r (fun R => y_pick r (b := true) (congrArg Value.bool (rfl : true = _)) rfl) rfl fun fr r => ?_
        refine wpList_nil ?_
        exact nxy5 true () _ _ _ hD r (hs_cons rfl (hs_cons rfl (hs_cons rfl (hs_cons rfl (hs_cons rfl (hs_cons rfl hs_nil)))))) (hP.pick [0, 1] rfl rfl)
      · skip
        have hD := (cond_f h9).symm.trans hD
        refine seq_want r rfl rfl rfl (congrArg Value.bool h9) ?_
        refine seq_val (.agg (planC a0).toArray) r (fun R => y_load_agg r (cs := (planC a0)) (n := 6) rfl (hP.cell (i := 1) rfl) ta24 rfl) rfl fun fr r => ?_
        refine seq_want r rfl rfl rfl (congrArg Value.bool h9) ?_
        refine seq_call r (c_cubiclelaw10_fits w7 a0 0 0 0) (fun R hc => y_call r rfl cl38 hc) rfl ?_
        rintro _ w10 ⟨rfl, hb⟩
        refine ⟨_, rfl, fun fr r => ?_⟩
        have hP : Post No [roK 95 2 moveC a2_v a2, cellC b1 ((planC a0)).toArray 24] w0 w10 := hP.below hb
        refine seq_want r rfl rfl rfl (congrArg Value.bool h9) ?_
        refine seq_val (.bool (!(D.cubiclelaw10_fits a0 0 0 0))) r (fun R => y_un r (u := (.bool (D.cubiclelaw10_fits a0 0 0 0))) rfl rfl) rfl fun fr r => ?_
        refine seq_val (.bool (!(D.cubiclelaw10_fits a0 0 0 0))) r (fun R => y_pick r (b := false) (congrArg Value.bool h9) rfl) rfl fun fr r => ?_
        refine seq_val (.bool (!(D.cubiclelaw10_fits a0 0 0 0))) r (fun R => y_move r rfl) rfl fun fr r => ?_
        refine seq_split (!(D.cubiclelaw10_fits a0 0 0 0)) (fun h11 => ?_) (fun h11 => ?_)
        · skip
          have hD := (cond_t h11).symm.trans hD
          refine seq_skip r rfl rfl rfl (v := .bool true) (congrArg Value.bool h11) (by simp [boolOf]) fun fr r => ?_
          refine seq_skip r rfl rfl rfl (v := .bool true) (congrArg Value.bool h11) (by simp [boolOf]) fun fr r => ?_
          refine seq_skip r rfl rfl rfl (v := .bool true) (congrArg Value.bool h11) (by simp [boolOf]) fun fr r => ?_
          refine seq_val (.bool true) r (fun R => y_pick r (b := true) (congrArg Value.bool h11) rfl) rfl fun fr r => ?_
          refine wpList_nil ?_
          exact nxy5 true () _ _ _ hD r (hs_cons rfl (hs_cons rfl (hs_cons rfl (hs_cons rfl (hs_cons rfl (hs_cons rfl hs_nil)))))) (hP.pick [0, 1] rfl rfl)
        · skip
          have hD := (cond_f h11).symm.trans hD
          refine seq_want r rfl rfl rfl (congrArg Value.bool h11) ?_
          refine seq_val (.pointer (some ⟨b1, 0, none⟩)) r (fun R => y_fieldAddr r (o := 0) rfl fo24_0) rfl fun fr r => ?_
          refine seq_want r rfl rfl rfl (congrArg Value.bool h11) ?_
          refine seq_val (.int .i64 a0.nodes) r (fun R => y_load_one r (v := (.int .i64 a0.nodes)) rfl (hP.cell (i := 1) rfl) to3 rfl) rfl fun fr r => ?_
          refine seq_want r rfl rfl rfl (congrArg Value.bool h11) ?_
          refine seq_val (.bool (decide (a0.nodes < 2))) r (fun R => y_bin r (u := (.int .i64 a0.nodes)) (u' := (.int .i64 2)) rfl rfl rfl rfl) rfl fun fr r => ?_
          refine seq_val (.bool (decide (a0.nodes < 2))) r (fun R => y_pick r (b := false) (congrArg Value.bool h11) rfl) rfl fun fr r => ?_
          refine wpList_nil ?_
          exact nxy5 (decide (a0.nodes < 2)) () _ _ _ hD r (hs_cons rfl (hs_cons rfl (hs_cons rfl (hs_cons rfl (hs_cons rfl (hs_cons rfl hs_nil)))))) (hP.pick [0, 1] rfl rfl)
  · skip
    rintro x12 γ13 fr w14 g r hP hD
    have hP : Post No [roK 95 2 moveC a2_v a2, cellC b1 ((planC a0)).toArray 24] w0 w14 := hP
    refine wp_cond_split (t := x12) (r.ev rfl) (fun h15 => ?_) (fun h15 => ?_)
    · skip
      have hD := (cond_t h15).symm.trans hD
      refine wp_seq ?_
      refine wp_region_lit ?_
      obtain ⟨x16, hx16, hD⟩ := bindD_elim hD
      refine seq_call r (c_cubiclelaw10_awake w14  hx16) (fun R hc => y_call r rfl cl37 hc) rfl ?_
      rintro _ w17 ⟨rfl, hb⟩
      refine ⟨_, rfl, fun fr r => ?_⟩
      have hP : Post No [roK 95 2 moveC a2_v a2, cellC b1 ((planC a0)).toArray 24] w0 w17 := hP.below hb
      refine seq_val (.bool x16) r (fun R => y_assign r rfl) rfl fun fr r => ?_
      refine wpList_nil ?_
      refine wp_ret ?_
      have hv : x16 = res := Option.some.inj hD
      try dsimp only [Exit.then, Exit.inBlock]
      refine ret_tmp (fn := Try.f12) r (t := 6) rfl (v := (.bool x16)) rfl ?_
      subst hv
      exact ⟨rfl, hP.chg.below⟩
    · skip
      have hD := (cond_f h15).symm.trans hD
      refine wp_skip ?_
      refine wp_seq ?_
      refine wp_region_lit ?_
      refine seq_val (.agg (planC a0).toArray) r (fun R => y_load_agg r (cs := (planC a0)) (n := 6) rfl (hP.cell (i := 1) rfl) ta24 rfl) rfl fun fr r => ?_
      obtain ⟨x18, hx18, hD⟩ := bindD_elim hD
      refine seq_call r (c_cubiclelaw09_Laid w14 a0 hx18) (fun R hc => y_call r rfl cl39 hc) rfl ?_
      rintro _ w19 ⟨mg20, rfl, hq⟩
      refine ⟨_, rfl, fun fr r => ?_⟩
      have hP : Post No [roK 95 2 moveC a2_v a2, cellC b1 ((planC a0)).toArray 24, memK mg20 x18] w0 w19 := hP.add hq
      refine seq_val (.pointer (some ⟨mg20.mb, 0, none⟩)) r (fun R => y_assign r rfl) rfl fun fr r => ?_
      refine wpList_nil ?_
      refine wp_seq ?_
      refine wp_seq ?_
      refine wp_region_lit ?_
      refine seq_val (.pointer (some ⟨mg20.mb, 0, none⟩)) r (fun R => y_move r rfl) rfl fun fr r => ?_
      refine seq_val (.bool false) r (fun R => y_bin r (u := (.pointer (some ⟨mg20.mb, 0, none⟩))) (u' := (.pointer none)) (v := (.bool false)) rfl rfl rfl rfl) rfl fun fr r => ?_
      refine wpList_nil ?_
      refine wp_cond_split (t := false) (r.ev rfl) (fun h => absurd ((rfl : false = _).symm.trans h) (by decide)) (fun _ => ?_)
      refine wp_skip ?_
      refine wp_seq ?_
      refine wp_region_lit ?_
      refine seq_val (.int .u8 a1) r (fun R => y_move r rfl) rfl fun fr r => ?_
      refine seq_val (.int .u8 (a1.tmod 2)) r (fun R => y_bin r (u := (.int .u8 a1)) (u' := (.int .u8 2)) rfl rfl rfl rfl) rfl fun fr r => ?_
      refine seq_val (.int .i64 (IntKind.i64.wrap (a1.tmod 2))) r (fun R => y_convert r rfl ti5 ti3) rfl fun fr r => ?_
      refine seq_val (.int .i64 (IntKind.i64.wrap (a1.tmod 2))) r (fun R => y_assign r rfl) rfl fun fr r => ?_
      refine wpList_nil ?_
      refine wp_seq ?_
      refine wp_region_lit ?_
      refine seq_val (.agg (planC a0).toArray) r (fun R => y_load_agg r (cs := (planC a0)) (n := 6) rfl (hP.cell (i := 1) rfl) ta24 rfl) rfl fun fr r => ?_
      refine seq_call r (c_plan_Plan_Field w19 a0 0 0) (fun R hc => y_call r rfl cl20 hc) rfl ?_
      rintro _ w22 ⟨rfl, hb⟩
      refine ⟨_, rfl, fun fr r => ?_⟩
      have hP : Post No [roK 95 2 moveC a2_v a2, cellC b1 ((planC a0)).toArray 24, memK mg20 x18] w0 w22 := hP.below hb
      refine seq_val (.int .i64 (D.plan_Plan_Field a0 0 0)) r (fun R => y_assign r rfl) rfl fun fr r => ?_
      refine wpList_nil ?_
      refine wp_seq ?_
      refine wp_region_lit ?_
      refine seq_val (.agg (planC a0).toArray) r (fun R => y_load_agg r (cs := (planC a0)) (n := 6) rfl (hP.cell (i := 1) rfl) ta24 rfl) rfl fun fr r => ?_
      refine seq_val (.int .i64 (D.plan_Plan_Field a0 0 0)) r (fun R => y_move r rfl) rfl fun fr r => ?_
      refine seq_val (.int .i64 (IntKind.i64.wrap (a1.tmod 2))) r (fun R => y_move r rfl) rfl fun fr r => ?_
      obtain ⟨x23, hx23, hD⟩ := bindD_elim hD
      have gu_x23 := guardI_eq hx23
      refine seq_call r (c_hazard_Guard (F := No) (n := fu) (j := fu + 1) (fun _ h => h.elim) (by omega) a0 0 1 (D.plan_Plan_Field a0 0 0) (IntKind.i64.wrap (a1.tmod 2)) (guardI_eq hx23)) (fun R hc => y_call r rfl cl50 hc) rfl ?_
      rintro _ w24 ⟨v25, rfl, hb, hr26⟩
      refine ⟨_, rfl, fun fr r => ?_⟩
      have hP : Post No [roK 95 2 moveC a2_v a2, cellC b1 ((planC a0)).toArray 24, memK mg20 x18, progK Try.prog encWord (fu, (D.hazard_Guard (fu + 1) a0 0 1 (D.plan_Plan_Field a0 0 0) (IntKind.i64.wrap (a1.tmod 2)))) v25 (rg w22.heap.size w24.heap.size)] w0 w24 := hP.addProg hb hr26
      refine seq_new (.cells (progCells false encWord.zero 0 0 0 0 .nilFunc) 83 (0, 0)) r (fun R => y_alloc tz83) rfl fun fr b28 w29 n30 r => ?_
      have hP : Post No [roK 95 2 moveC a2_v a2, cellC b1 ((planC a0)).toArray 24, memK mg20 x18, progK Try.prog encWord (fu, (D.hazard_Guard (fu + 1) a0 0 1 (D.plan_Plan_Field a0 0 0) (IntKind.i64.wrap (a1.tmod 2)))) v25 (rg w22.heap.size w24.heap.size), cellC b28 (progCells false encWord.zero 0 0 0 0 .nilFunc) 83] w0 w29 := hP.new n30
      refine seq_upd (.cells v25.cells 83 (0, 0)) r (fun R => y_storep r (hP.prog (i := 3) rfl).shape rfl rfl (hP.cell (i := 4) rfl) ts83 rfl) rfl fun fr w32 u33 r => ?_
      have hP : Post No [roK 95 2 moveC a2_v a2, cellC b1 ((planC a0)).toArray 24, memK mg20 x18, progK Try.prog encWord (fu, (D.hazard_Guard (fu + 1) a0 0 1 (D.plan_Plan_Field a0 0 0) (IntKind.i64.wrap (a1.tmod 2)))) v25 (rg w22.heap.size w24.heap.size), cellC b28 v25.cells 83] w0 w32 := hP.upd (i := 4) rfl u33
      refine wpList_nil ?_
      refine wp_seq ?_
      refine wp_seq ?_
      refine wp_region_lit ?_
      refine seq_val (.int .i64 0) r (fun R => y_assign r rfl) rfl fun fr r => ?_
      refine wpList_nil ?_
      refine wp_loopG (X := Bool × Int × Mem × (Nat × T Int)) (G := Value × List Nat) (x0 := (false, 0, x18, (fu, (D.hazard_Guard (fu + 1) a0 0 1 (D.plan_Plan_Field a0 0 0) (IntKind.i64.wrap (a1.tmod 2)))))) (fun x γ => [(0, (.agg (planC a0).toArray)), (1, (.int .u8 a1)), (2, a2_v), (3, (.pointer (some ⟨b1, 0, none⟩))), (37, (.bool x12)), (7, (.pointer (some ⟨mg20.mb, 0, none⟩))), (42, (.bool false)), (8, (.int .i64 (IntKind.i64.wrap (a1.tmod 2)))), (9, (.int .i64 (D.plan_Plan_Field a0 0 0))), (10, (.pointer (some ⟨b28, 0, none⟩))), (6, (.bool x.1)), (11, (.int .i64 x.2.1))]) (fun x γ w => Post No [roK 95 2 moveC a2_v a2, cellC b1 ((planC a0)).toArray 24, memK mg20 x.2.2.1, progK Try.prog encWord x.2.2.2 γ.1 γ.2, cellC b28 γ.1.cells 83] w0 w) (v25, (rg w22.heap.size w24.heap.size)) r (hs_cons rfl (hs_cons rfl (hs_cons rfl (hs_cons rfl (hs_cons rfl (hs_cons rfl (hs_cons rfl (hs_cons rfl (hs_cons rfl (hs_cons rfl (hs_cons rfl (hs_cons rfl hs_nil)))))))))))) hP hD ?_ ?_
      · skip
        rintro x34 γ35 fr w37 g y36 RPy36 nxy36 bky36 rty36 r hP hD
        have hP : Post No [roK 95 2 moveC a2_v a2, cellC b1 ((planC a0)).toArray 24, memK mg20 x34.2.2.1, progK Try.prog encWord x34.2.2.2 γ35.1 γ35.2, cellC b28 γ35.1.cells 83] w0 w37 := hP
        refine wp_seq ?_
        refine wp_seq ?_
        refine wp_region_lit ?_
        refine seq_val (.int .i64 x34.2.1) r (fun R => y_move r rfl) rfl fun fr r => ?_
        refine seq_val (.bool (decide (x34.2.1 < 60))) r (fun R => y_bin r (u := (.int .i64 x34.2.1)) (u' := (.int .i64 60)) rfl rfl rfl rfl) rfl fun fr r => ?_
        refine wpList_nil ?_
        refine wp_cond_split (t := (decide (x34.2.1 < 60))) (r.ev rfl) (fun h38 => ?_) (fun h38 => ?_)
        · skip
          have hD := (cond_t h38).symm.trans hD
          refine wp_skip ?_
          refine wp_seq ?_
          refine wp_block ?_
          refine wp_seq ?_
          refine wp_seq ?_
          refine wp_region_lit ?_
          refine seq_val (.int .i64 0) r (fun R => y_assign r rfl) rfl fun fr r => ?_
          refine wpList_nil ?_
          refine wp_loopG (X := Int × Mem) (G := Unit) (x0 := (0, x34.2.2.1)) (fun x γ => [(0, (.agg (planC a0).toArray)), (1, (.int .u8 a1)), (2, a2_v), (3, (.pointer (some ⟨b1, 0, none⟩))), (37, (.bool x12)), (7, (.pointer (some ⟨mg20.mb, 0, none⟩))), (42, (.bool false)), (8, (.int .i64 (IntKind.i64.wrap (a1.tmod 2)))), (9, (.int .i64 (D.plan_Plan_Field a0 0 0))), (10, (.pointer (some ⟨b28, 0, none⟩))), (6, (.bool x34.1)), (11, (.int .i64 x34.2.1)), (53, (.bool (decide (x34.2.1 < 60)))), (12, (.int .i64 x.1))]) (fun x γ w => Post No [roK 95 2 moveC a2_v a2, cellC b1 ((planC a0)).toArray 24, memK mg20 x.2, progK Try.prog encWord x34.2.2.2 γ35.1 γ35.2, cellC b28 γ35.1.cells 83] w0 w) () r (hs_cons rfl (hs_cons rfl (hs_cons rfl (hs_cons rfl (hs_cons rfl (hs_cons rfl (hs_cons rfl (hs_cons rfl (hs_cons rfl (hs_cons rfl (hs_cons rfl (hs_cons rfl (hs_cons rfl (hs_cons rfl hs_nil)))))))))))))) hP hD ?_ ?_
          · skip
            rintro x39 γ40 fr w42 g y41 RPy41 nxy41 bky41 rty41 r hP hD
            have hP : Post No [roK 95 2 moveC a2_v a2, cellC b1 ((planC a0)).toArray 24, memK mg20 x39.2, progK Try.prog encWord x34.2.2.2 γ35.1 γ35.2, cellC b28 γ35.1.cells 83] w0 w42 := hP
            refine wp_seq ?_
            refine wp_seq ?_
            refine wp_region_lit ?_
            refine seq_val (.int .i64 x39.1) r (fun R => y_move r rfl) rfl fun fr r => ?_
            refine seq_val a2_v r (fun R => y_move r rfl) rfl fun fr r => ?_
            refine seq_val (.int .i64 (a2.length : Int)) r (fun R => y_rowLen r (hP.ro (i := 0) rfl) is93 rfl) rfl fun fr r => ?_
            refine seq_val (.bool (decide (x39.1 < (a2.length : Int)))) r (fun R => y_bin r (u := (.int .i64 x39.1)) (u' := (.int .i64 (a2.length : Int))) rfl rfl rfl rfl) rfl fun fr r => ?_
            refine wpList_nil ?_
            refine wp_cond_split (t := (decide (x39.1 < (a2.length : Int)))) (r.ev rfl) (fun h43 => ?_) (fun h43 => ?_)
            · skip
              have hD := (cond_t h43).symm.trans hD
              refine wp_skip ?_
              refine wp_seq ?_
              refine wp_block ?_
              refine wp_seq ?_
              refine wp_region_lit ?_
              refine seq_val a2_v r (fun R => y_move r rfl) rfl fun fr r => ?_
              refine seq_val (.int .i64 x39.1) r (fun R => y_move r rfl) rfl fun fr r => ?_
              obtain ⟨x44, hx44, hD⟩ := bindD_elim hD
              refine seq_val (.pointer (some ⟨rowB a2_v, rowO a2_v + x39.1.toNat * 2, none⟩)) r (fun R => y_rowAddr r (hP.ro (i := 0) rfl) hx44 sl93 rfl rfl) rfl fun fr r => ?_
              refine seq_val (.pointer (some ⟨rowB a2_v, rowO a2_v + x39.1.toNat * 2 + 0, none⟩)) r (fun R => y_fieldAddr r (b := rowB a2_v) (o := rowO a2_v + x39.1.toNat * 2) (k := 0) rfl fo95_0) rfl fun fr r => ?_
              refine seq_val (.int .u8 x44.step) r (fun R => y_loadL_one r (u := (.int .u8 x44.step)) ((RoAt.at_ (f := moveC) (x := x44) (hP.ro (i := 0) rfl) (fun _ => rfl) hx44).part 0 1) rfl to5) rfl fun fr r => ?_
              refine seq_val (.int .i64 (IntKind.i64.wrap x44.step)) r (fun R => y_convert r rfl ti5 ti3) rfl fun fr r => ?_
              refine seq_val (.int .i64 x34.2.1) r (fun R => y_move r rfl) rfl fun fr r => ?_
              refine seq_val (.bool ((IntKind.i64.wrap x44.step) == x34.2.1)) r (fun R => y_bin r (u := (.int .i64 (IntKind.i64.wrap x44.step))) (u' := (.int .i64 x34.2.1)) rfl rfl rfl rfl) rfl fun fr r => ?_
              refine wpList_nil ?_
              refine wp_joinG (N := 143) (Y := Mem) (G := Unit) (fun x γ => [(0, (.agg (planC a0).toArray)), (1, (.int .u8 a1)), (2, a2_v), (3, (.pointer (some ⟨b1, 0, none⟩))), (37, (.bool x12)), (7, (.pointer (some ⟨mg20.mb, 0, none⟩))), (42, (.bool false)), (8, (.int .i64 (IntKind.i64.wrap (a1.tmod 2)))), (9, (.int .i64 (D.plan_Plan_Field a0 0 0))), (10, (.pointer (some ⟨b28, 0, none⟩))), (6, (.bool x34.1)), (11, (.int .i64 x34.2.1)), (53, (.bool (decide (x34.2.1 < 60)))), (12, (.int .i64 x39.1)), (59, (.bool (decide (x39.1 < (a2.length : Int))))), (69, (.bool ((IntKind.i64.wrap x44.step) == x34.2.1)))]) (fun x γ w => Post No [roK 95 2 moveC a2_v a2, cellC b1 ((planC a0)).toArray 24, memK mg20 x, progK Try.prog encWord x34.2.2.2 γ35.1 γ35.2, cellC b28 γ35.1.cells 83] w0 w) hD ?_ ?_
              · skip
                rintro y45 RPy45 nxy45 hD
                refine wp_cond_split (t := ((IntKind.i64.wrap x44.step) == x34.2.1)) (r.ev rfl) (fun h46 => ?_) (fun h46 => ?_)
                · skip
                  have hD := (cond_t h46).symm.trans hD
                  obtain ⟨x47, hx47, hD⟩ := bindD_elim hD
                  obtain ⟨x48, hx48, hD⟩ := bindD_elim hD
                  obtain ⟨x49, hx49, hD⟩ := bindD_elim hD
                  refine wp_freeE mg20.bs [.val (.pointer (some ⟨mg20.mb, 0, none⟩)), .val (.pointer (some ⟨mg20.mb, 0, none⟩)), .val (.agg (capC x47).toArray), .val (.int .i64 (D.plan_Plan_Field a0 0 0)), .val a2_v, .val (.int .i64 x39.1), .val (.pointer (some ⟨rowB a2_v, rowO a2_v + x39.1.toNat * 2, none⟩)), .val (.pointer (some ⟨rowB a2_v, rowO a2_v + x39.1.toNat * 2 + 1, none⟩)), .val (.int .u8 x48.w), .val (.int .u64 (IntKind.u64.wrap x48.w)), .val (.agg (accessC (⟨1, (D.plan_Plan_Field a0 0 0), (IntKind.u64.wrap x48.w), 0⟩ : Access)).toArray), .eff (EffP w42.heap.size (memK mg20 x49.2.2) (fun _ : Unit => (.tuple #[(.int .u64 x49.1), (.bool x49.2.1)])) (fun _ : Unit => [])) (EffP.st _ _ _ _)] mixed r (fun b hb => hP.sep.lt (i := 2) rfl (.inl hb)) (by kernel_rfl) ?_ ?_
                  · skip
                    refine eachE_early r rfl (by kernel_rfl) (fun fr1 g w' hb' hd r' => ?_) ?_
                    · exact y_move r' (v := (.pointer (some ⟨mg20.mb, 0, none⟩))) rfl ⟨Below.refl _ _, rfl⟩
                    refine eachE_late r rfl (fun fr1 g w' hk' hd r' => ?_) ?_
                    · exact y_move r' (v := (.pointer (some ⟨mg20.mb, 0, none⟩))) rfl ⟨Below.refl _ _, rfl⟩
                    refine eachE_early r rfl (by kernel_rfl) (fun fr1 g w' hb' hd r' => ?_) ?_
                    · exact y_call r' (args := [(.pointer (some ⟨mg20.mb, 0, none⟩)), (.int .i64 0)]) (lc (hd 1 rfl).1 (lc rfl l0)) cl42 ((c_mem_Memory_Cap _ x39.2 ((hP.below (dr hb')).mem (i := 2) rfl) 0 hx47).mono (by rintro _ w2 ⟨rfl, hb2⟩; exact ⟨_, rfl, hb2, rfl⟩))
                    refine eachE_late r rfl (fun fr1 g w' hk' hd r' => ?_) ?_
                    · exact y_move r' (v := (.int .i64 (D.plan_Plan_Field a0 0 0))) rfl ⟨Below.refl _ _, rfl⟩
                    refine eachE_late r rfl (fun fr1 g w' hk' hd r' => ?_) ?_
                    · exact y_move r' (v := a2_v) rfl ⟨Below.refl _ _, rfl⟩
                    refine eachE_late r rfl (fun fr1 g w' hk' hd r' => ?_) ?_
                    · exact y_move r' (v := (.int .i64 x39.1)) rfl ⟨Below.refl _ _, rfl⟩
                    refine eachE_late r rfl (fun fr1 g w' hk' hd r' => ?_) ?_
                    · exact y_rowAddr r' (show RoAt 0 _ _ _ _ _ from hP.okK (j := 2) rfl (drK hk') (i := 0) rfl rfl) hx48 sl93 (hd 4 rfl).1 (hd 5 rfl).1 ⟨Below.refl _ _, rfl⟩
                    refine eachE_late r rfl (fun fr1 g w' hk' hd r' => ?_) ?_
                    · exact y_fieldAddr r' (b := rowB a2_v) (o := rowO a2_v + x39.1.toNat * 2) (k := 1) (hd 6 rfl).1 fo95_1 ⟨Below.refl _ _, rfl⟩
                    refine eachE_late r rfl (fun fr1 g w' hk' hd r' => ?_) ?_
                    · exact y_loadL_one r' (u := (.int .u8 x48.w)) ((RoAt.at_ (f := moveC) (x := x48) (show RoAt 0 _ _ _ _ _ from hP.okK (j := 2) rfl (drK hk') (i := 0) rfl rfl) (fun _ => rfl) hx48).part 1 1) (hd 7 rfl).1 to5 ⟨Below.refl _ _, rfl⟩
                    refine eachE_late r rfl (fun fr1 g w' hk' hd r' => ?_) ?_
                    · exact y_convert r' (n := x48.w) (hd 8 rfl).1 ti5 ti49 ⟨Below.refl _ _, rfl⟩
                    refine eachE_early r rfl (by kernel_rfl) (fun fr1 g w' hb' hd r' => ?_) ?_
                    · exact y_build r' (v := (.agg (accessC (⟨1, (D.plan_Plan_Field a0 0 0), (IntKind.u64.wrap x48.w), 0⟩ : Access)).toArray)) (bs3 (rfl) (congrArg (fun z => (1, z)) (hd 3 rfl).1) (congrArg (fun z => (2, z)) (hd 9 rfl).1) (by kernel_rfl)) ⟨Below.refl _ _, rfl⟩
                    refine eachE_early r rfl (by kernel_rfl) (fun fr1 g w' hb' hd r' => ?_) ?_
                    · exact y_call r' (args := [(.pointer (some ⟨mg20.mb, 0, none⟩)), (.agg (capC x47).toArray), (.agg (accessC (⟨1, (D.plan_Plan_Field a0 0 0), (IntKind.u64.wrap x48.w), 0⟩ : Access)).toArray)]) (lc (hd 0 rfl).1 (lc (hd 2 rfl).1 (lc (hd 10 rfl).1 l0))) cl48 ((c_mem_Memory_Do _ x39.2 x47 (⟨1, (D.plan_Plan_Field a0 0 0), (IntKind.u64.wrap x48.w), 0⟩ : Access) ((hP.below (dr hb')).sep.pk [2] rfl rfl) hx49).mono (by rintro _ w2 ⟨rfl, hq⟩; exact ⟨_, rfl, hq.chg.kept, EffP.of () hq rfl (fun b hb => hP.sep.lt (i := 2) rfl hb)⟩))
                    exact eachF_nil
                  · skip
                    intro fr gg w50 hb hΦ hap r
                    have g0 : (gg 0).v = (.pointer (some ⟨mg20.mb, 0, none⟩)) := (hΦ 0 rfl).1
                    have g1 : (gg 1).v = (.pointer (some ⟨mg20.mb, 0, none⟩)) := (hΦ 1 rfl).1
                    have g2 : (gg 2).v = (.agg (capC x47).toArray) := (hΦ 2 rfl).1
                    have g3 : (gg 3).v = (.int .i64 (D.plan_Plan_Field a0 0 0)) := (hΦ 3 rfl).1
                    have g4 : (gg 4).v = a2_v := (hΦ 4 rfl).1
                    have g5 : (gg 5).v = (.int .i64 x39.1) := (hΦ 5 rfl).1
                    have g6 : (gg 6).v = (.pointer (some ⟨rowB a2_v, rowO a2_v + x39.1.toNat * 2, none⟩)) := (hΦ 6 rfl).1
                    have g7 : (gg 7).v = (.pointer (some ⟨rowB a2_v, rowO a2_v + x39.1.toNat * 2 + 1, none⟩)) := (hΦ 7 rfl).1
                    have g8 : (gg 8).v = (.int .u8 x48.w) := (hΦ 8 rfl).1
                    have g9 : (gg 9).v = (.int .u64 (IntKind.u64.wrap x48.w)) := (hΦ 9 rfl).1
                    have g10 : (gg 10).v = (.agg (accessC (⟨1, (D.plan_Plan_Field a0 0 0), (IntKind.u64.wrap x48.w), 0⟩ : Access)).toArray) := (hΦ 10 rfl).1
                    obtain ⟨⟨⟩, g11, hcE, _, hs11⟩ := (hΦ 11 rfl).1
                    have r := r.congr (sc g11 (sc g10 (sc g9 (sc g8 (sc g7 (sc g6 (sc g5 (sc g4 (sc g3 (sc g2 (sc g1 (sc g0 rfl))))))))))))
                    have hP : Post No [roK 95 2 moveC a2_v a2, cellC b1 ((planC a0)).toArray 24, memK mg20 x49.2.2, progK Try.prog encWord x34.2.2.2 γ35.1 γ35.2, cellC b28 γ35.1.cells 83] w0 w50 := hP.effL (i := 2) (l := []) rfl hb hcE rfl rfl trivial
                    exact nxy45 x49.2.2 () _ _ _ hD r (hs_cons rfl (hs_cons rfl (hs_cons rfl (hs_cons rfl (hs_cons rfl (hs_cons rfl (hs_cons rfl (hs_cons rfl (hs_cons rfl (hs_cons rfl (hs_cons rfl (hs_cons rfl (hs_cons rfl (hs_cons rfl (hs_cons rfl (hs_cons rfl hs_nil)))))))))))))))) (hP.pick [0, 1, 2, 3, 4] rfl rfl)
                · skip
                  have hD := (cond_f h46).symm.trans hD
                  refine wp_skip ?_
                  exact nxy45 x39.2 () _ _ _ hD r (hs_cons rfl (hs_cons rfl (hs_cons rfl (hs_cons rfl (hs_cons rfl (hs_cons rfl (hs_cons rfl (hs_cons rfl (hs_cons rfl (hs_cons rfl (hs_cons rfl (hs_cons rfl (hs_cons rfl (hs_cons rfl (hs_cons rfl (hs_cons rfl hs_nil)))))))))))))))) (hP.pick [0, 1, 2, 3, 4] rfl rfl)
              · skip
                rintro x51 γ52 fr w53 g r hP hD
                have hP : Post No [roK 95 2 moveC a2_v a2, cellC b1 ((planC a0)).toArray 24, memK mg20 x51, progK Try.prog encWord x34.2.2.2 γ35.1 γ35.2, cellC b28 γ35.1.cells 83] w0 w53 := hP
                refine wp_region_lit ?_
                refine seq_val (.int .i64 x39.1) r (fun R => y_move r rfl) rfl fun fr r => ?_
                refine seq_val (.int .i64 (IntKind.i64.wrap (x39.1 + 1))) r (fun R => y_bin r (u := (.int .i64 x39.1)) (u' := (.int .i64 1)) rfl rfl rfl rfl) rfl fun fr r => ?_
                refine seq_val (.int .i64 (IntKind.i64.wrap (x39.1 + 1))) r (fun R => y_assign r rfl) rfl fun fr r => ?_
                refine wpList_nil ?_
                exact nxy41 ((IntKind.i64.wrap (x39.1 + 1)), x51) () _ _ _ hD r (hs_cons rfl (hs_cons rfl (hs_cons rfl (hs_cons rfl (hs_cons rfl (hs_cons rfl (hs_cons rfl (hs_cons rfl (hs_cons rfl (hs_cons rfl (hs_cons rfl (hs_cons rfl (hs_cons rfl (hs_cons rfl hs_nil)))))))))))))) (hP.pick [0, 1, 2, 3, 4] rfl rfl)
            · skip
              have hD := (cond_f h43).symm.trans hD
              refine wp_exit ?_
              exact bky41 (x39.1, x39.2) () _ _ _ hD r (hs_cons rfl (hs_cons rfl (hs_cons rfl (hs_cons rfl (hs_cons rfl (hs_cons rfl (hs_cons rfl (hs_cons rfl (hs_cons rfl (hs_cons rfl (hs_cons rfl (hs_cons rfl (hs_cons rfl (hs_cons rfl hs_nil)))))))))))))) (hP.pick [0, 1, 2, 3, 4] rfl rfl)
          · skip
            rintro x54 γ55 fr w56 g r hP hD
            have hP : Post No [roK 95 2 moveC a2_v a2, cellC b1 ((planC a0)).toArray 24, memK mg20 x54.2, progK Try.prog encWord x34.2.2.2 γ35.1 γ35.2, cellC b28 γ35.1.cells 83] w0 w56 := hP
            refine wp_seq ?_
            refine wp_region_lit ?_
            refine seq_val (.pointer (some ⟨mg20.mb, 0, none⟩)) r (fun R => y_move r rfl) rfl fun fr r => ?_
            refine seq_val (.int .i64 (D.plan_Plan_Field a0 0 0)) r (fun R => y_move r rfl) rfl fun fr r => ?_
            obtain ⟨x57, hx57, hD⟩ := bindD_elim hD
            refine seq_call r (c_mem_Memory_Peek w56 x54.2 (hP.mem (i := 2) rfl) 0 (D.plan_Plan_Field a0 0 0) hx57) (fun R hc => y_call r rfl cl47 hc) rfl ?_
            rintro _ w58 ⟨rfl, hb⟩
            refine ⟨_, rfl, fun fr r => ?_⟩
            have hP : Post No [roK 95 2 moveC a2_v a2, cellC b1 ((planC a0)).toArray 24, memK mg20 x54.2, progK Try.prog encWord x34.2.2.2 γ35.1 γ35.2, cellC b28 γ35.1.cells 83] w0 w58 := hP.below hb
            refine seq_val (.int .u64 x57) r (fun R => y_assign r rfl) rfl fun fr r => ?_
            refine wpList_nil ?_
            refine wp_seq ?_
            refine wp_region_lit ?_
            refine seq_val γ35.1 r (fun R => y_loadp r (hP.prog (i := 3) rfl).shape rfl (hP.cell (i := 4) rfl) ta83) rfl fun fr r => ?_
            obtain ⟨x59, hx59, hD⟩ := bindD_elim hD
            refine seq_call r (c_prog_Prog_uint64_Access w58 x34.2.2.2 (hP.prog (i := 3) rfl) (fun b hb => hP.sep.lt (i := 3) rfl (.inr hb)) hx59) (fun R hc => y_call r rfl cl54 hc) rfl ?_
            rintro _ w60 ⟨rfl, hb⟩
            refine ⟨_, rfl, fun fr r => ?_⟩
            have hP : Post No [roK 95 2 moveC a2_v a2, cellC b1 ((planC a0)).toArray 24, memK mg20 x54.2, progK Try.prog encWord x34.2.2.2 γ35.1 γ35.2, cellC b28 γ35.1.cells 83] w0 w60 := hP.below hb
            refine seq_val (.tuple #[(.agg (accessC x59.1).toArray), (.bool x59.2)]) r (fun R => y_move r rfl) rfl fun fr r => ?_
            refine seq_val (.agg (accessC x59.1).toArray) r (fun R => y_extract r (vs := #[(.agg (accessC x59.1).toArray), (.bool x59.2)]) rfl rfl) rfl fun fr r => ?_
            refine seq_val (.bool x59.2) r (fun R => y_extract r (vs := #[(.agg (accessC x59.1).toArray), (.bool x59.2)]) rfl rfl) rfl fun fr r => ?_
            refine seq_new (.cells ((accessC (⟨0, 0, 0, 0⟩ : Access))).toArray 51 (0, 0)) r (fun R => y_alloc tz51) rfl fun fr b61 w62 n63 r => ?_
            have hP : Post No [roK 95 2 moveC a2_v a2, cellC b1 ((planC a0)).toArray 24, memK mg20 x54.2, progK Try.prog encWord x34.2.2.2 γ35.1 γ35.2, cellC b28 γ35.1.cells 83, cellC b61 ((accessC (⟨0, 0, 0, 0⟩ : Access))).toArray 51] w0 w62 := hP.new n63
            refine seq_upd (.cells ((accessC x59.1)).toArray 51 (0, 0)) r (fun R => y_store r (o := 0) (v := (.agg (accessC x59.1).toArray)) rfl rfl (hP.cell (i := 5) rfl) ts51 (Nat.le_of_ble_eq_true rfl) rfl rfl) rfl fun fr w65 u66 r => ?_
            have hP : Post No [roK 95 2 moveC a2_v a2, cellC b1 ((planC a0)).toArray 24, memK mg20 x54.2, progK Try.prog encWord x34.2.2.2 γ35.1 γ35.2, cellC b28 γ35.1.cells 83, cellC b61 ((accessC x59.1)).toArray 51] w0 w65 := hP.upd (i := 5) rfl u66
            refine seq_val (.bool x59.2) r (fun R => y_assign r rfl) rfl fun fr r => ?_
            refine wpList_nil ?_
            refine wp_seq ?_
            obtain ⟨x67, hx67, hD⟩ := bindD_elim hD
            obtain ⟨x68, hx68, hD⟩ := bindD_elim hD
            refine wp_freeE mg20.bs [.val γ35.1, .val (.pointer (some ⟨mg20.mb, 0, none⟩)), .val (.pointer (some ⟨mg20.mb, 0, none⟩)), .val (.agg (capC x67).toArray), .eff (EffR Try.prog encWord w65.heap.size γ35.2 (memK mg20 x68.2.2) x68.1 (.bool x68.2.1)) EffR.st, .dep 4 (fun u v => v = u ∧ ∃ y, v = .tuple #[y, (.bool x68.2.1)] ∧ Shape encWord y), .dep 5 (fun u v => Shape encWord v ∧ u = .tuple #[v, (.bool x68.2.1)]), .val (.bool x68.2.1), .cell 83 7, .storedD 8 6 (fun v => v.cells) 83 7, .val (.bool x68.2.1)] mixed r (fun b hb => hP.sep.lt (i := 2) rfl (.inl hb)) (by kernel_rfl) ?_ ?_
            · skip
              refine eachE_early r rfl (by kernel_rfl) (fun fr1 g w' hb' hd r' => ?_) ?_
              · exact y_loadp r' ((hP.below (dr hb')).prog (i := 3) rfl).shape rfl ((hP.below (dr hb')).cell (i := 4) rfl) ta83 ⟨Below.refl _ _, rfl⟩
              refine eachE_early r rfl (by kernel_rfl) (fun fr1 g w' hb' hd r' => ?_) ?_
              · exact y_move r' (v := (.pointer (some ⟨mg20.mb, 0, none⟩))) rfl ⟨Below.refl _ _, rfl⟩
              refine eachE_late r rfl (fun fr1 g w' hk' hd r' => ?_) ?_
              · exact y_move r' (v := (.pointer (some ⟨mg20.mb, 0, none⟩))) rfl ⟨Below.refl _ _, rfl⟩
              refine eachE_early r rfl (by kernel_rfl) (fun fr1 g w' hb' hd r' => ?_) ?_
              · exact y_call r' (args := [(.pointer (some ⟨mg20.mb, 0, none⟩)), (.int .i64 0)]) (lc (hd 2 rfl).1 (lc rfl l0)) cl42 ((c_mem_Memory_Cap _ x54.2 ((hP.below (dr hb')).mem (i := 2) rfl) 0 hx67).mono (by rintro _ w2 ⟨rfl, hb2⟩; exact ⟨_, rfl, hb2, rfl⟩))
              refine eachE_early r rfl (by kernel_rfl) (fun fr1 g w' hb' hd r' => ?_) ?_
              · exact y_call r' (args := [γ35.1, (.pointer (some ⟨mg20.mb, 0, none⟩)), (.agg (capC x67).toArray)]) (lc (hd 0 rfl).1 (lc (hd 1 rfl).1 (lc (hd 3 rfl).1 l0))) cl52 ((c_prog_Prog_uint64_Step _ x34.2.2.2 x54.2 x67 ((hP.below (dr hb')).sep.pk [3, 2] rfl rfl) hx68).mono (by rintro _ w2 ⟨y, F, rfl, hq⟩; exact ⟨_, rfl, hq.chg.kept, EffR.of hq (fun b hb => hP.sep.lt (i := 2) rfl hb) (fun b hb => hP.sep.lt (i := 3) rfl (.inr hb))⟩))
              refine eachE_late r rfl (fun fr1 g w' hk' hd r' => ?_) ?_
              · obtain ⟨y, F, hv, _, _, _, hr, _⟩ := (hd 4 rfl).1; exact y_move r' (v := (g 4).v) rfl ⟨Below.refl _ _, rfl, y, hv, hr.shape⟩
              refine eachE_late r rfl (fun fr1 g w' hk' hd r' => ?_) ?_
              · obtain ⟨_, y, hv, hs⟩ := (hd 5 rfl).1; exact y_extract r' (vs := #[y, (.bool x68.2.1)]) hv rfl ⟨Below.refl _ _, hs, hv⟩
              refine eachE_late r rfl (fun fr1 g w' hk' hd r' => ?_) ?_
              · obtain ⟨_, y, hv, hs⟩ := (hd 5 rfl).1; exact y_extract r' (vs := #[y, (.bool x68.2.1)]) hv rfl ⟨Below.refl _ _, rfl⟩
              refine eachE_late r rfl (fun fr1 g w' hk' hd r' => ?_) ?_
              · exact y_alloc tz83 (fun b w2 n2 => ⟨n2.below, b, rfl, n2.eq, _, n2.at_, rfl⟩)
              refine eachE_late r rfl (fun fr1 g w' hk' hd r' => ?_) ?_
              · obtain ⟨hp, _, c, hc, hn⟩ := (hd 8 rfl).1; obtain ⟨hs, _⟩ := (hd 6 rfl).1; exact y_storep r' hs hp rfl hc ts83 hn (fun w2 u2 => ⟨u2, rfl, hs.cells.1⟩)
              refine eachE_late r rfl (fun fr1 g w' hk' hd r' => ?_) ?_
              · exact y_assign r' (v := (.bool x68.2.1)) (hd 7 rfl).1 ⟨Below.refl _ _, rfl⟩
              exact eachF_nil
            · skip
              intro fr gg w73 hb hΦ hap r
              have g0 : (gg 0).v = γ35.1 := (hΦ 0 rfl).1
              have g1 : (gg 1).v = (.pointer (some ⟨mg20.mb, 0, none⟩)) := (hΦ 1 rfl).1
              have g2 : (gg 2).v = (.pointer (some ⟨mg20.mb, 0, none⟩)) := (hΦ 2 rfl).1
              have g3 : (gg 3).v = (.agg (capC x67).toArray) := (hΦ 3 rfl).1
              obtain ⟨v69, F70, g4, hcE, _, _, hrE, hFE⟩ := (hΦ 4 rfl).1
              have g5 := (hΦ 5 rfl).1.1.trans g4
              have g6 : (gg 6).v = v69 := tup_eq ((hΦ 6 rfl).1.2.symm.trans g5)
              have g7 : (gg 7).v = (.bool x68.2.1) := (hΦ 7 rfl).1
              obtain ⟨b72, ee_b72⟩ : ∃ b, b = (gg 8).lo := ⟨_, rfl⟩
              have g8 : (gg 8).v = (.pointer (some ⟨b72, 0, none⟩)) := by rw [ee_b72]; exact (hΦ 8 rfl).1.1
              have h_b72 : w73.heap[b72]? = some (.cells v69.cells 83 (0, 0)) := by rw [ee_b72, ← g6]; exact (hΦ 9 rfl).1.2
              have hs8 : Fresh [cellC b72 v69.cells 83] (gg 8).lo (gg 8).hi w73 := by subst ee_b72; exact Fresh.cell (hΦ 8 rfl).1.2.1 h_b72
              have g10 : (gg 10).v = (.bool x68.2.1) := (hΦ 10 rfl).1
              have r := r.congr (sc g10 (sc g8 (sc g7 (sc g6 (sc g5 (sc g4 (sc g3 (sc g2 (sc g1 (sc g0 rfl))))))))))
              have hP : Post No [roK 95 2 moveC a2_v a2, cellC b1 ((planC a0)).toArray 24, memK mg20 x68.2.2, progK Try.prog encWord x34.2.2.2 γ35.1 γ35.2, cellC b28 γ35.1.cells 83, cellC b61 ((accessC x59.1)).toArray 51, progK Try.prog encWord x68.1 v69 F70, cellC b72 v69.cells 83] w0 w73 := hP.effR (i := 2) (k := 3) (l := [([cellC b72 v69.cells 83], (gg 8).lo, (gg 8).hi)]) rfl rfl rfl hb hcE rfl rfl rfl hrE hFE (hΦ 4 rfl).2.1 (hΦ 4 rfl).2.2.2 ⟨hs8, (hΦ 8 rfl).2.1, disj_nil, trivial⟩ (disj_cons (hap 4 8 rfl) disj_nil)
              refine wp_seq ?_
              refine wp_seq ?_
              refine wp_joinG (N := 143) (Y := Bool) (G := Unit) (fun x γ => [(0, (.agg (planC a0).toArray)), (1, (.int .u8 a1)), (2, a2_v), (3, (.pointer (some ⟨b1, 0, none⟩))), (37, (.bool x12)), (7, (.pointer (some ⟨mg20.mb, 0, none⟩))), (42, (.bool false)), (8, (.int .i64 (IntKind.i64.wrap (a1.tmod 2)))), (9, (.int .i64 (D.plan_Plan_Field a0 0 0))), (10, (.pointer (some ⟨b28, 0, none⟩))), (6, (.bool x34.1)), (11, (.int .i64 x34.2.1)), (53, (.bool (decide (x34.2.1 < 60)))), (12, (.int .i64 x54.1)), (13, (.int .u64 x57)), (14, (.pointer (some ⟨b61, 0, none⟩))), (15, (.bool x59.2)), (16, (.pointer (some ⟨b72, 0, none⟩))), (17, (.bool x68.2.1)), (103, (.bool x))]) (fun x γ w => Post No [roK 95 2 moveC a2_v a2, cellC b1 ((planC a0)).toArray 24, memK mg20 x68.2.2, progK Try.prog encWord x34.2.2.2 γ35.1 γ35.2, cellC b28 γ35.1.cells 83, cellC b61 ((accessC x59.1)).toArray 51, progK Try.prog encWord x68.1 v69 F70, cellC b72 v69.cells 83] w0 w) hD ?_ ?_
              · skip
                rintro y74 RPy74 nxy74 hD
                refine wp_region_lit ?_
                refine seq_val (.bool x59.2) r (fun R => y_move r rfl) rfl fun fr r => ?_
                refine seq_val (.bool (!x59.2)) r (fun R => y_un r (u := (.bool x59.2)) rfl rfl) rfl fun fr r => ?_
                refine seq_val (.bool (!x59.2)) r (fun R => y_move r rfl) rfl fun fr r => ?_
                refine seq_split (!x59.2) (fun h75 => ?_) (fun h75 => ?_)
                · skip
                  have hD := (cond_t h75).symm.trans hD
                  refine seq_skip r rfl rfl rfl (v := .bool true) (congrArg Value.bool h75) (by simp [boolOf]) fun fr r => ?_
                  refine seq_skip r rfl rfl rfl (v := .bool true) (congrArg Value.bool h75) (by simp [boolOf]) fun fr r => ?_
                  refine seq_val (.bool true) r (fun R => y_pick r (b := true) (congrArg Value.bool h75) rfl) rfl fun fr r => ?_
                  refine wpList_nil ?_
                  exact nxy74 true () _ _ _ hD r (hs_cons rfl (hs_cons rfl (hs_cons rfl (hs_cons rfl (hs_cons rfl (hs_cons rfl (hs_cons rfl (hs_cons rfl (hs_cons rfl (hs_cons rfl (hs_cons rfl (hs_cons rfl (hs_cons rfl (hs_cons rfl (hs_cons rfl (hs_cons rfl (hs_cons rfl (hs_cons rfl (hs_cons rfl (hs_cons rfl hs_nil)))))))))))))))))))) (hP.pick [0, 1, 2, 3, 4, 5, 6, 7] rfl rfl)
                · skip
                  have hD := (cond_f h75).symm.trans hD
                  refine seq_want r rfl rfl rfl (congrArg Value.bool h75) ?_
                  refine seq_val (.bool x68.2.1) r (fun R => y_move r rfl) rfl fun fr r => ?_
                  refine seq_want r rfl rfl rfl (congrArg Value.bool h75) ?_
                  refine seq_val (.bool (!x68.2.1)) r (fun R => y_un r (u := (.bool x68.2.1)) rfl rfl) rfl fun fr r => ?_
                  refine seq_val (.bool (!x68.2.1)) r (fun R => y_pick r (b := false) (congrArg Value.bool h75) rfl) rfl fun fr r => ?_
                  refine wpList_nil ?_
                  exact nxy74 (!x68.2.1) () _ _ _ hD r (hs_cons rfl (hs_cons rfl (hs_cons rfl (hs_cons rfl (hs_cons rfl (hs_cons rfl (hs_cons rfl (hs_cons rfl (hs_cons rfl (hs_cons rfl (hs_cons rfl (hs_cons rfl (hs_cons rfl (hs_cons rfl (hs_cons rfl (hs_cons rfl (hs_cons rfl (hs_cons rfl (hs_cons rfl (hs_cons rfl hs_nil)))))))))))))))))))) (hP.pick [0, 1, 2, 3, 4, 5, 6, 7] rfl rfl)
              · skip
                rintro x76 γ77 fr w78 g r hP hD
                have hP : Post No [roK 95 2 moveC a2_v a2, cellC b1 ((planC a0)).toArray 24, memK mg20 x68.2.2, progK Try.prog encWord x34.2.2.2 γ35.1 γ35.2, cellC b28 γ35.1.cells 83, cellC b61 ((accessC x59.1)).toArray 51, progK Try.prog encWord x68.1 v69 F70, cellC b72 v69.cells 83] w0 w78 := hP
                refine wp_cond_split (t := x76) (r.ev rfl) (fun h79 => ?_) (fun h79 => ?_)
                · skip
                  have hD := (cond_t h79).symm.trans hD
                  refine wp_seq ?_
                  refine wp_region_lit ?_
                  refine seq_val (.bool false) r (fun R => y_assign r rfl) rfl fun fr r => ?_
                  refine wpList_nil ?_
                  refine wp_ret ?_
                  refine rty36 false _ _ hD fun hD => ?_
                  have hv : false = res := Option.some.inj hD
                  try dsimp only [Exit.then, Exit.inBlock]
                  refine ret_tmp (fn := Try.f12) r (t := 6) rfl (v := (.bool false)) rfl ?_
                  subst hv
                  exact ⟨rfl, hP.chg.below⟩
                · skip
                  have hD := (cond_f h79).symm.trans hD
                  refine wp_skip ?_
                  refine wp_seq ?_
                  refine wp_region_lit ?_
                  refine seq_val v69 r (fun R => y_loadp r (hP.prog (i := 6) rfl).shape rfl (hP.cell (i := 7) rfl) ta83) rfl fun fr r => ?_
                  refine seq_upd (.cells v69.cells 83 (0, 0)) r (fun R => y_storep r (hP.prog (i := 6) rfl).shape rfl rfl (hP.cell (i := 4) rfl) ts83 (by have h := (hP.prog (i := 3) rfl).shape.cells.1; simpa using h)) rfl fun fr w80 u81 r => ?_
                  have hP : Post No [roK 95 2 moveC a2_v a2, cellC b1 ((planC a0)).toArray 24, memK mg20 x68.2.2, progK Try.prog encWord x34.2.2.2 γ35.1 γ35.2, cellC b28 v69.cells 83, cellC b61 ((accessC x59.1)).toArray 51, progK Try.prog encWord x68.1 v69 F70, cellC b72 v69.cells 83] w0 w80 := hP.upd (i := 4) rfl u81
                  refine wpList_nil ?_
                  refine wp_seq ?_
                  refine wp_region_lit ?_
                  refine seq_val v69 r (fun R => y_loadp r (hP.prog (i := 6) rfl).shape rfl (hP.cell (i := 4) rfl) ta83) rfl fun fr r => ?_
                  obtain ⟨x82, hx82, hD⟩ := bindD_elim hD
                  refine seq_call r (c_prog_Prog_uint64_Over w80 x68.1 (hP.prog (i := 6) rfl) (fun b hb => hP.sep.lt (i := 6) rfl (.inr hb)) hx82) (fun R hc => y_call r rfl cl53 hc) rfl ?_
                  rintro _ w83 ⟨rfl, hb⟩
                  refine ⟨_, rfl, fun fr r => ?_⟩
                  have hP : Post No [roK 95 2 moveC a2_v a2, cellC b1 ((planC a0)).toArray 24, memK mg20 x68.2.2, progK Try.prog encWord x34.2.2.2 γ35.1 γ35.2, cellC b28 v69.cells 83, cellC b61 ((accessC x59.1)).toArray 51, progK Try.prog encWord x68.1 v69 F70, cellC b72 v69.cells 83] w0 w83 := hP.below hb
                  refine seq_val (.tuple #[(.int .u64 x82.1), (.bool x82.2)]) r (fun R => y_move r rfl) rfl fun fr r => ?_
                  refine seq_val (.int .u64 x82.1) r (fun R => y_extract r (vs := #[(.int .u64 x82.1), (.bool x82.2)]) rfl rfl) rfl fun fr r => ?_
                  refine seq_val (.bool x82.2) r (fun R => y_extract r (vs := #[(.int .u64 x82.1), (.bool x82.2)]) rfl rfl) rfl fun fr r => ?_
                  refine seq_val (.int .u64 x82.1) r (fun R => y_assign r rfl) rfl fun fr r => ?_
                  refine seq_val (.bool x82.2) r (fun R => y_assign r rfl) rfl fun fr r => ?_
                  refine wpList_nil ?_
                  refine wp_seq ?_
                  refine wp_seq ?_
                  refine wp_region_lit ?_
                  refine seq_val (.bool x82.2) r (fun R => y_move r rfl) rfl fun fr r => ?_
                  refine seq_val (.bool (!x82.2)) r (fun R => y_un r (u := (.bool x82.2)) rfl rfl) rfl fun fr r => ?_
                  refine wpList_nil ?_
                  refine wp_cond_split (t := (!x82.2)) (r.ev rfl) (fun h84 => ?_) (fun h84 => ?_)
                  · skip
                    have hD := (cond_t h84).symm.trans hD
                    refine wp_exit ?_
                    refine wp_region_lit ?_
                    refine seq_val (.int .i64 x34.2.1) r (fun R => y_move r rfl) rfl fun fr r => ?_
                    refine seq_val (.int .i64 (IntKind.i64.wrap (x34.2.1 + 1))) r (fun R => y_bin r (u := (.int .i64 x34.2.1)) (u' := (.int .i64 1)) rfl rfl rfl rfl) rfl fun fr r => ?_
                    refine seq_val (.int .i64 (IntKind.i64.wrap (x34.2.1 + 1))) r (fun R => y_assign r rfl) rfl fun fr r => ?_
                    refine wpList_nil ?_
                    exact nxy36 (x34.1, (IntKind.i64.wrap (x34.2.1 + 1)), x68.2.2, x68.1) (v69, F70) _ _ _ hD r (hs_cons rfl (hs_cons rfl (hs_cons rfl (hs_cons rfl (hs_cons rfl (hs_cons rfl (hs_cons rfl (hs_cons rfl (hs_cons rfl (hs_cons rfl (hs_cons rfl (hs_cons rfl hs_nil)))))))))))) (hP.pick [0, 1, 2, 6, 4] rfl rfl)
                  · skip
                    have hD := (cond_f h84).symm.trans hD
                    refine wp_skip ?_
                    refine wp_seq ?_
                    refine wp_region_lit ?_
                    refine seq_val (.int .u64 x82.1) r (fun R => y_move r rfl) rfl fun fr r => ?_
                    refine seq_val (.int .i64 (IntKind.i64.wrap (a1.tmod 2))) r (fun R => y_move r rfl) rfl fun fr r => ?_
                    refine seq_call r (c_cubicleref10_Named w83 x82.1 (IntKind.i64.wrap (a1.tmod 2)) (by first | assumption | decide | (simp; done))) (fun R hc => y_call r rfl cl51 hc) rfl ?_
                    rintro _ w85 ⟨rfl, hb⟩
                    refine ⟨_, rfl, fun fr r => ?_⟩
                    have hP : Post No [roK 95 2 moveC a2_v a2, cellC b1 ((planC a0)).toArray 24, memK mg20 x68.2.2, progK Try.prog encWord x34.2.2.2 γ35.1 γ35.2, cellC b28 v69.cells 83, cellC b61 ((accessC x59.1)).toArray 51, progK Try.prog encWord x68.1 v69 F70, cellC b72 v69.cells 83] w0 w85 := hP.below hb
                    refine seq_val (.int .i64 (D.cubicleref10_Named x82.1 (IntKind.i64.wrap (a1.tmod 2)))) r (fun R => y_assign r rfl) rfl fun fr r => ?_
                    refine wpList_nil ?_
                    refine wp_seq ?_
                    have hP : Post No [roK 95 2 moveC a2_v a2, cellC b1 ((planC a0)).toArray 24, memK mg20 x68.2.2, cellC b28 v69.cells 83, cellC b61 ((accessC x59.1)).toArray 51, progK Try.prog encWord x68.1 v69 F70, cellC b72 v69.cells 83] w0 w85 := hP.pick [0, 1, 2, 4, 5, 6, 7] rfl rfl
                    refine wp_joinG (N := 143) (Y := Bool) (G := Unit) (fun x γ => [(0, (.agg (planC a0).toArray)), (1, (.int .u8 a1)), (2, a2_v), (3, (.pointer (some ⟨b1, 0, none⟩))), (37, (.bool x12)), (7, (.pointer (some ⟨mg20.mb, 0, none⟩))), (42, (.bool false)), (8, (.int .i64 (IntKind.i64.wrap (a1.tmod 2)))), (9, (.int .i64 (D.plan_Plan_Field a0 0 0))), (10, (.pointer (some ⟨b28, 0, none⟩))), (11, (.int .i64 x34.2.1)), (53, (.bool (decide (x34.2.1 < 60)))), (12, (.int .i64 x54.1)), (13, (.int .u64 x57)), (14, (.pointer (some ⟨b61, 0, none⟩))), (15, (.bool x59.2)), (16, (.pointer (some ⟨b72, 0, none⟩))), (17, (.bool x68.2.1)), (103, (.bool x76)), (18, (.int .u64 x82.1)), (19, (.bool x82.2)), (111, (.bool (!x82.2))), (20, (.int .i64 (D.cubicleref10_Named x82.1 (IntKind.i64.wrap (a1.tmod 2))))), (6, (.bool x))]) (fun x γ w => Post No [roK 95 2 moveC a2_v a2, cellC b1 ((planC a0)).toArray 24, memK mg20 x68.2.2, cellC b28 v69.cells 83, cellC b61 ((accessC x59.1)).toArray 51, progK Try.prog encWord x68.1 v69 F70, cellC b72 v69.cells 83] w0 w) hD ?_ ?_
                    · skip
                      rintro y86 RPy86 nxy86 hD
                      refine wp_region_lit ?_
                      refine seq_val (.pointer (some ⟨b61, 0, none⟩)) r (fun R => y_fieldAddr r (o := 0) rfl fo51_0) rfl fun fr r => ?_
                      refine seq_val (.int .i64 x59.1.op) r (fun R => y_load_one r (v := (.int .i64 x59.1.op)) rfl (hP.cell (i := 4) rfl) to3 rfl) rfl fun fr r => ?_
                      refine seq_val (.bool (x59.1.op == 0)) r (fun R => y_bin r (u := (.int .i64 x59.1.op)) (u' := (.int .i64 0)) rfl rfl rfl rfl) rfl fun fr r => ?_
                      refine seq_val (.bool (x59.1.op == 0)) r (fun R => y_move r rfl) rfl fun fr r => ?_
                      refine seq_split (x59.1.op == 0) (fun h87 => ?_) (fun h87 => ?_)
                      · skip
                        have hD := (cond_t h87).symm.trans hD
                        refine seq_want r rfl rfl rfl (congrArg Value.bool h87) ?_
                        refine seq_val (.pointer (some ⟨b61, 1, none⟩)) r (fun R => y_fieldAddr r (o := 0) rfl fo51_1) rfl fun fr r => ?_
                        refine seq_want r rfl rfl rfl (congrArg Value.bool h87) ?_
                        refine seq_val (.int .i64 x59.1.at_) r (fun R => y_load_one r (v := (.int .i64 x59.1.at_)) rfl (hP.cell (i := 4) rfl) to3 rfl) rfl fun fr r => ?_
                        refine seq_want r rfl rfl rfl (congrArg Value.bool h87) ?_
                        refine seq_val (.int .i64 (D.plan_Plan_Field a0 0 0)) r (fun R => y_move r rfl) rfl fun fr r => ?_
                        refine seq_want r rfl rfl rfl (congrArg Value.bool h87) ?_
                        refine seq_val (.bool (x59.1.at_ == (D.plan_Plan_Field a0 0 0))) r (fun R => y_bin r (u := (.int .i64 x59.1.at_)) (u' := (.int .i64 (D.plan_Plan_Field a0 0 0))) rfl rfl rfl rfl) rfl fun fr r => ?_
                        refine seq_val (.bool (x59.1.at_ == (D.plan_Plan_Field a0 0 0))) r (fun R => y_pick r (b := true) (congrArg Value.bool h87) rfl) rfl fun fr r => ?_
                        refine seq_val (.bool (x59.1.at_ == (D.plan_Plan_Field a0 0 0))) r (fun R => y_move r rfl) rfl fun fr r => ?_
                        refine seq_split (x59.1.at_ == (D.plan_Plan_Field a0 0 0)) (fun h88 => ?_) (fun h88 => ?_)
                        · skip
                          have hD := (cond_t h88).symm.trans hD
                          refine seq_want r rfl rfl rfl (congrArg Value.bool h88) ?_
                          refine seq_val (.int .u64 x82.1) r (fun R => y_move r rfl) rfl fun fr r => ?_
                          refine seq_want r rfl rfl rfl (congrArg Value.bool h88) ?_
                          refine seq_val (.int .u64 x57) r (fun R => y_move r rfl) rfl fun fr r => ?_
                          refine seq_want r rfl rfl rfl (congrArg Value.bool h88) ?_
                          refine seq_val (.bool (x82.1 == x57)) r (fun R => y_bin r (u := (.int .u64 x82.1)) (u' := (.int .u64 x57)) rfl rfl rfl rfl) rfl fun fr r => ?_
                          refine seq_val (.bool (x82.1 == x57)) r (fun R => y_pick r (b := true) (congrArg Value.bool h88) rfl) rfl fun fr r => ?_
                          refine seq_val (.bool (x82.1 == x57)) r (fun R => y_move r rfl) rfl fun fr r => ?_
                          refine seq_split (x82.1 == x57) (fun h89 => ?_) (fun h89 => ?_)
                          · skip
                            have hD := (cond_t h89).symm.trans hD
                            refine seq_want r rfl rfl rfl (congrArg Value.bool h89) ?_
                            refine seq_val (.int .i64 (D.cubicleref10_Named x82.1 (IntKind.i64.wrap (a1.tmod 2)))) r (fun R => y_move r rfl) rfl fun fr r => ?_
                            refine seq_want r rfl rfl rfl (congrArg Value.bool h89) ?_
                            refine seq_val (.bool (decide ((D.cubicleref10_Named x82.1 (IntKind.i64.wrap (a1.tmod 2))) < 0))) r (fun R => y_bin r (u := (.int .i64 (D.cubicleref10_Named x82.1 (IntKind.i64.wrap (a1.tmod 2))))) (u' := (.int .i64 0)) rfl rfl rfl rfl) rfl fun fr r => ?_
                            refine seq_want r rfl rfl rfl (congrArg Value.bool h89) ?_
                            refine seq_val (.bool (decide ((D.cubicleref10_Named x82.1 (IntKind.i64.wrap (a1.tmod 2))) < 0))) r (fun R => y_move r rfl) rfl fun fr r => ?_
                            refine seq_split (decide ((D.cubicleref10_Named x82.1 (IntKind.i64.wrap (a1.tmod 2))) < 0)) (fun h90 => ?_) (fun h90 => ?_)
                            · skip
                              have hD := (cond_t h90).symm.trans hD
                              refine seq_skip r rfl rfl rfl (v := .bool true) (congrArg Value.bool h90) (by simp [boolOf]) fun fr r => ?_
                              refine seq_skip r rfl rfl rfl (v := .bool true) (congrArg Value.bool h90) (by simp [boolOf]) fun fr r => ?_
                              refine seq_skip r rfl rfl rfl (v := .bool true) (congrArg Value.bool h90) (by simp [boolOf]) fun fr r => ?_
                              refine seq_skip r rfl rfl rfl (v := .bool true) (congrArg Value.bool h90) (by simp [boolOf]) fun fr r => ?_
                              refine seq_skip r rfl rfl rfl (v := .bool true) (congrArg Value.bool h90) (by simp [boolOf]) fun fr r => ?_
                              refine seq_skip r rfl rfl rfl (v := .bool true) (congrArg Value.bool h90) (by simp [boolOf]) fun fr r => ?_
                              refine seq_skip r rfl rfl rfl (v := .bool true) (congrArg Value.bool h90) (by simp [boolOf]) fun fr r => ?_
                              refine seq_skip r rfl rfl rfl (v := .bool true) (congrArg Value.bool h90) (by simp [boolOf]) fun fr r => ?_
                              refine seq_want r rfl rfl rfl (congrArg Value.bool h89) ?_
                              refine seq_val (.bool true) r (fun R => y_pick r (b := true) (congrArg Value.bool h90) rfl) rfl fun fr r => ?_
                              refine seq_val (.bool true) r (fun R => y_pick r (b := true) (congrArg Value.bool h89) rfl) rfl fun fr r => ?_
                              refine seq_val (.bool true) r (fun R => y_assign r rfl) rfl fun fr r => ?_
                              refine wpList_nil ?_
                              exact nxy86 true () _ _ _ hD r (hs_cons rfl (hs_cons rfl (hs_cons rfl (hs_cons rfl (hs_cons rfl (hs_cons rfl (hs_cons rfl (hs_cons rfl (hs_cons rfl (hs_cons rfl (hs_cons rfl (hs_cons rfl (hs_cons rfl (hs_cons rfl (hs_cons rfl (hs_cons rfl (hs_cons rfl (hs_cons rfl (hs_cons rfl (hs_cons rfl (hs_cons rfl (hs_cons rfl (hs_cons rfl (hs_cons rfl hs_nil)))))))))))))))))))))))) (hP.pick [0, 1, 2, 3, 4, 5, 6] rfl rfl)
                            · skip
                              have hD := (cond_f h90).symm.trans hD
                              refine seq_want r rfl rfl rfl (congrArg Value.bool h90) ?_
                              refine seq_val (.pointer (some ⟨mg20.mb, 0, none⟩)) r (fun R => y_move r rfl) rfl fun fr r => ?_
                              refine seq_want r rfl rfl rfl (congrArg Value.bool h90) ?_
                              refine seq_val (.agg (planC a0).toArray) r (fun R => y_load_agg r (cs := (planC a0)) (n := 6) rfl (hP.cell (i := 1) rfl) ta24 rfl) rfl fun fr r => ?_
                              refine seq_want r rfl rfl rfl (congrArg Value.bool h90) ?_
                              refine seq_call r (c_plan_Plan_Hazard w85 a0 0 1) (fun R hc => y_call r rfl cl27 hc) rfl ?_
                              rintro _ w91 ⟨rfl, hb⟩
                              refine ⟨_, rfl, fun fr r => ?_⟩
                              have hP : Post No [roK 95 2 moveC a2_v a2, cellC b1 ((planC a0)).toArray 24, memK mg20 x68.2.2, cellC b28 v69.cells 83, cellC b61 ((accessC x59.1)).toArray 51, progK Try.prog encWord x68.1 v69 F70, cellC b72 v69.cells 83] w0 w91 := hP.below hb
                              refine seq_want r rfl rfl rfl (congrArg Value.bool h90) ?_
                              obtain ⟨x92, hx92, hD⟩ := bindD_elim hD
                              refine seq_call r (c_mem_Memory_Peek w91 x68.2.2 (hP.mem (i := 2) rfl) 0 (D.plan_Plan_Hazard a0 0 1) hx92) (fun R hc => y_call r rfl cl47 hc) rfl ?_
                              rintro _ w93 ⟨rfl, hb⟩
                              refine ⟨_, rfl, fun fr r => ?_⟩
                              have hP : Post No [roK 95 2 moveC a2_v a2, cellC b1 ((planC a0)).toArray 24, memK mg20 x68.2.2, cellC b28 v69.cells 83, cellC b61 ((accessC x59.1)).toArray 51, progK Try.prog encWord x68.1 v69 F70, cellC b72 v69.cells 83] w0 w93 := hP.below hb
                              refine seq_want r rfl rfl rfl (congrArg Value.bool h90) ?_
                              refine seq_val (.int .i64 (D.cubicleref10_Named x82.1 (IntKind.i64.wrap (a1.tmod 2)))) r (fun R => y_move r rfl) rfl fun fr r => ?_
                              refine seq_want r rfl rfl rfl (congrArg Value.bool h90) ?_
                              refine seq_val (.int .i64 (IntKind.i64.wrap ((D.cubicleref10_Named x82.1 (IntKind.i64.wrap (a1.tmod 2))) + 1))) r (fun R => y_bin r (u := (.int .i64 (D.cubicleref10_Named x82.1 (IntKind.i64.wrap (a1.tmod 2))))) (u' := (.int .i64 1)) rfl rfl rfl rfl) rfl fun fr r => ?_
                              refine seq_want r rfl rfl rfl (congrArg Value.bool h90) ?_
                              refine seq_val (.int .u64 (IntKind.u64.wrap (IntKind.i64.wrap ((D.cubicleref10_Named x82.1 (IntKind.i64.wrap (a1.tmod 2))) + 1)))) r (fun R => y_convert r rfl ti3 ti49) rfl fun fr r => ?_
                              refine seq_want r rfl rfl rfl (congrArg Value.bool h90) ?_
                              refine seq_val (.bool (x92 == (IntKind.u64.wrap (IntKind.i64.wrap ((D.cubicleref10_Named x82.1 (IntKind.i64.wrap (a1.tmod 2))) + 1))))) r (fun R => y_bin r (u := (.int .u64 x92)) (u' := (.int .u64 (IntKind.u64.wrap (IntKind.i64.wrap ((D.cubicleref10_Named x82.1 (IntKind.i64.wrap (a1.tmod 2))) + 1))))) rfl rfl rfl rfl) rfl fun fr r => ?_
                              refine seq_want r rfl rfl rfl (congrArg Value.bool h89) ?_
                              refine seq_val (.bool (x92 == (IntKind.u64.wrap (IntKind.i64.wrap ((D.cubicleref10_Named x82.1 (IntKind.i64.wrap (a1.tmod 2))) + 1))))) r (fun R => y_pick r (b := false) (congrArg Value.bool h90) rfl) rfl fun fr r => ?_
                              refine seq_val (.bool (x92 == (IntKind.u64.wrap (IntKind.i64.wrap ((D.cubicleref10_Named x82.1 (IntKind.i64.wrap (a1.tmod 2))) + 1))))) r (fun R => y_pick r (b := true) (congrArg Value.bool h89) rfl) rfl fun fr r => ?_
                              refine seq_val (.bool (x92 == (IntKind.u64.wrap (IntKind.i64.wrap ((D.cubicleref10_Named x82.1 (IntKind.i64.wrap (a1.tmod 2))) + 1))))) r (fun R => y_assign r rfl) rfl fun fr r => ?_
                              refine wpList_nil ?_
                              exact nxy86 (x92 == (IntKind.u64.wrap (IntKind.i64.wrap ((D.cubicleref10_Named x82.1 (IntKind.i64.wrap (a1.tmod 2))) + 1)))) () _ _ _ hD r (hs_cons rfl (hs_cons rfl (hs_cons rfl (hs_cons rfl (hs_cons rfl (hs_cons rfl (hs_cons rfl (hs_cons rfl (hs_cons rfl (hs_cons rfl (hs_cons rfl (hs_cons rfl (hs_cons rfl (hs_cons rfl (hs_cons rfl (hs_cons rfl (hs_cons rfl (hs_cons rfl (hs_cons rfl (hs_cons rfl (hs_cons rfl (hs_cons rfl (hs_cons rfl (hs_cons rfl hs_nil)))))))))))))))))))))))) (hP.pick [0, 1, 2, 3, 4, 5, 6] rfl rfl)
                          · skip
                            have hD := (cond_f h89).symm.trans hD
                            refine seq_skip r rfl rfl rfl (v := .bool false) (congrArg Value.bool h89) (by simp [boolOf]) fun fr r => ?_
                            refine seq_skip r rfl rfl rfl (v := .bool false) (congrArg Value.bool h89) (by simp [boolOf]) fun fr r => ?_
                            refine seq_skip r rfl rfl rfl (v := .bool false) (congrArg Value.bool h89) (by simp [boolOf]) fun fr r => ?_
                            refine seq_skip r rfl rfl rfl (v := undef) rfl (by simp [boolOf, undef]) fun fr r => ?_
                            refine seq_skip r rfl rfl rfl (v := undef) rfl (by simp [boolOf, undef]) fun fr r => ?_
                            refine seq_skip r rfl rfl rfl (v := undef) rfl (by simp [boolOf, undef]) fun fr r => ?_
                            refine seq_skip r rfl rfl rfl (v := undef) rfl (by simp [boolOf, undef]) fun fr r => ?_
                            refine seq_skip r rfl rfl rfl (v := undef) rfl (by simp [boolOf, undef]) fun fr r => ?_
                            refine seq_skip r rfl rfl rfl (v := undef) rfl (by simp [boolOf, undef]) fun fr r => ?_
                            refine seq_skip r rfl rfl rfl (v := undef) rfl (by simp [boolOf, undef]) fun fr r => ?_
                            refine seq_skip r rfl rfl rfl (v := undef) rfl (by simp [boolOf, undef]) fun fr r => ?_
                            refine seq_skip r rfl rfl rfl (v := .bool false) (congrArg Value.bool h89) (by simp [boolOf]) fun fr r => ?_
                            refine seq_val (.bool false) r (fun R => y_pick r (b := false) (congrArg Value.bool h89) rfl) rfl fun fr r => ?_
                            refine seq_val (.bool false) r (fun R => y_assign r rfl) rfl fun fr r => ?_
                            refine wpList_nil ?_
                            exact nxy86 false () _ _ _ hD r (hs_cons rfl (hs_cons rfl (hs_cons rfl (hs_cons rfl (hs_cons rfl (hs_cons rfl (hs_cons rfl (hs_cons rfl (hs_cons rfl (hs_cons rfl (hs_cons rfl (hs_cons rfl (hs_cons rfl (hs_cons rfl (hs_cons rfl (hs_cons rfl (hs_cons rfl (hs_cons rfl (hs_cons rfl (hs_cons rfl (hs_cons rfl (hs_cons rfl (hs_cons rfl (hs_cons rfl hs_nil)))))))))))))))))))))))) (hP.pick [0, 1, 2, 3, 4, 5, 6] rfl rfl)
                        · skip
                          have hD := (cond_f h88).symm.trans hD
                          refine seq_skip r rfl rfl rfl (v := .bool false) (congrArg Value.bool h88) (by simp [boolOf]) fun fr r => ?_
                          refine seq_skip r rfl rfl rfl (v := .bool false) (congrArg Value.bool h88) (by simp [boolOf]) fun fr r => ?_
                          refine seq_skip r rfl rfl rfl (v := .bool false) (congrArg Value.bool h88) (by simp [boolOf]) fun fr r => ?_
                          refine seq_val (.bool false) r (fun R => y_pick r (b := false) (congrArg Value.bool h88) rfl) rfl fun fr r => ?_
                          refine seq_val (.bool false) r (fun R => y_move r rfl) rfl fun fr r => ?_
                          refine seq_skip r rfl rfl rfl (v := .bool false) (congrArg Value.bool (rfl : false = _)) (by simp [boolOf]) fun fr r => ?_
                          refine seq_skip r rfl rfl rfl (v := .bool false) (congrArg Value.bool (rfl : false = _)) (by simp [boolOf]) fun fr r => ?_
                          refine seq_skip r rfl rfl rfl (v := .bool false) (congrArg Value.bool (rfl : false = _)) (by simp [boolOf]) fun fr r => ?_
                          refine seq_skip r rfl rfl rfl (v := undef) rfl (by simp [boolOf, undef]) fun fr r => ?_
                          refine seq_skip r rfl rfl rfl (v := undef) rfl (by simp [boolOf, undef]) fun fr r => ?_
                          refine seq_skip r rfl rfl rfl (v := undef) rfl (by simp [boolOf, undef]) fun fr r => ?_
                          refine seq_skip r rfl rfl rfl (v := undef) rfl (by simp [boolOf, undef]) fun fr r => ?_
                          refine seq_skip r rfl rfl rfl (v := undef) rfl (by simp [boolOf, undef]) fun fr r => ?_
                          refine seq_skip r rfl rfl rfl (v := undef) rfl (by simp [boolOf, undef]) fun fr r => ?_
                          refine seq_skip r rfl rfl rfl (v := undef) rfl (by simp [boolOf, undef]) fun fr r => ?_
                          refine seq_skip r rfl rfl rfl (v := undef) rfl (by simp [boolOf, undef]) fun fr r => ?_
                          refine seq_skip r rfl rfl rfl (v := .bool false) (congrArg Value.bool (rfl : false = _)) (by simp [boolOf]) fun fr r => ?_
                          refine seq_val (.bool false) r (fun R => y_pick r (b := false) (congrArg Value.bool (rfl : false = _)) rfl) rfl fun fr r => ?_
                          refine seq_val (.bool false) r (fun R => y_assign r rfl) rfl fun fr r => ?_
                          refine wpList_nil ?_
                          exact nxy86 false () _ _ _ hD r (hs_cons rfl (hs_cons rfl (hs_cons rfl (hs_cons rfl (hs_cons rfl (hs_cons rfl (hs_cons rfl (hs_cons rfl (hs_cons rfl (hs_cons rfl (hs_cons rfl (hs_cons rfl (hs_cons rfl (hs_cons rfl (hs_cons rfl (hs_cons rfl (hs_cons rfl (hs_cons rfl (hs_cons rfl (hs_cons rfl (hs_cons rfl (hs_cons rfl (hs_cons rfl (hs_cons rfl hs_nil)))))))))))))))))))))))) (hP.pick [0, 1, 2, 3, 4, 5, 6] rfl rfl)
                      · skip
                        have hD := (cond_f h87).symm.trans hD
                        refine seq_skip r rfl rfl rfl (v := .bool false) (congrArg Value.bool h87) (by simp [boolOf]) fun fr r => ?_
                        refine seq_skip r rfl rfl rfl (v := .bool false) (congrArg Value.bool h87) (by simp [boolOf]) fun fr r => ?_
                        refine seq_skip r rfl rfl rfl (v := .bool false) (congrArg Value.bool h87) (by simp [boolOf]) fun fr r => ?_
                        refine seq_skip r rfl rfl rfl (v := .bool false) (congrArg Value.bool h87) (by simp [boolOf]) fun fr r => ?_
                        refine seq_val (.bool false) r (fun R => y_pick r (b := false) (congrArg Value.bool h87) rfl) rfl fun fr r => ?_
                        refine seq_val (.bool false) r (fun R => y_move r rfl) rfl fun fr r => ?_
                        refine seq_skip r rfl rfl rfl (v := .bool false) (congrArg Value.bool (rfl : false = _)) (by simp [boolOf]) fun fr r => ?_
                        refine seq_skip r rfl rfl rfl (v := .bool false) (congrArg Value.bool (rfl : false = _)) (by simp [boolOf]) fun fr r => ?_
                        refine seq_skip r rfl rfl rfl (v := .bool false) (congrArg Value.bool (rfl : false = _)) (by simp [boolOf]) fun fr r => ?_
                        refine seq_val (.bool false) r (fun R => y_pick r (b := false) (congrArg Value.bool (rfl : false = _)) rfl) rfl fun fr r => ?_
                        refine seq_val (.bool false) r (fun R => y_move r rfl) rfl fun fr r => ?_
                        refine seq_skip r rfl rfl rfl (v := .bool false) (congrArg Value.bool (rfl : false = _)) (by simp [boolOf]) fun fr r => ?_
                        refine seq_skip r rfl rfl rfl (v := .bool false) (congrArg Value.bool (rfl : false = _)) (by simp [boolOf]) fun fr r => ?_
                        refine seq_skip r rfl rfl rfl (v := .bool false) (congrArg Value.bool (rfl : false = _)) (by simp [boolOf]) fun fr r => ?_
                        refine seq_skip r rfl rfl rfl (v := undef) rfl (by simp [boolOf, undef]) fun fr r => ?_
                        refine seq_skip r rfl rfl rfl (v := undef) rfl (by simp [boolOf, undef]) fun fr r => ?_
                        refine seq_skip r rfl rfl rfl (v := undef) rfl (by simp [boolOf, undef]) fun fr r => ?_
                        refine seq_skip r rfl rfl rfl (v := undef) rfl (by simp [boolOf, undef]) fun fr r => ?_
                        refine seq_skip r rfl rfl rfl (v := undef) rfl (by simp [boolOf, undef]) fun fr r => ?_
                        refine seq_skip r rfl rfl rfl (v := undef) rfl (by simp [boolOf, undef]) fun fr r => ?_
                        refine seq_skip r rfl rfl rfl (v := undef) rfl (by simp [boolOf, undef]) fun fr r => ?_
                        refine seq_skip r rfl rfl rfl (v := undef) rfl (by simp [boolOf, undef]) fun fr r => ?_
                        refine seq_skip r rfl rfl rfl (v := .bool false) (congrArg Value.bool (rfl : false = _)) (by simp [boolOf]) fun fr r => ?_
                        refine seq_val (.bool false) r (fun R => y_pick r (b := false) (congrArg Value.bool (rfl : false = _)) rfl) rfl fun fr r => ?_
                        refine seq_val (.bool false) r (fun R => y_assign r rfl) rfl fun fr r => ?_
                        refine wpList_nil ?_
                        exact nxy86 false () _ _ _ hD r (hs_cons rfl (hs_cons rfl (hs_cons rfl (hs_cons rfl (hs_cons rfl (hs_cons rfl (hs_cons rfl (hs_cons rfl (hs_cons rfl (hs_cons rfl (hs_cons rfl (hs_cons rfl (hs_cons rfl (hs_cons rfl (hs_cons rfl (hs_cons rfl (hs_cons rfl (hs_cons rfl (hs_cons rfl (hs_cons rfl (hs_cons rfl (hs_cons rfl (hs_cons rfl (hs_cons rfl hs_nil)))))))))))))))))))))))) (hP.pick [0, 1, 2, 3, 4, 5, 6] rfl rfl)
                    · skip
                      rintro x94 γ95 fr w96 g r hP hD
                      have hP : Post No [roK 95 2 moveC a2_v a2, cellC b1 ((planC a0)).toArray 24, memK mg20 x68.2.2, cellC b28 v69.cells 83, cellC b61 ((accessC x59.1)).toArray 51, progK Try.prog encWord x68.1 v69 F70, cellC b72 v69.cells 83] w0 w96 := hP
                      refine wp_ret ?_
                      refine rty36 x94 _ _ hD fun hD => ?_
                      have hv : x94 = res := Option.some.inj hD
                      try dsimp only [Exit.then, Exit.inBlock]
                      refine ret_tmp (fn := Try.f12) r (t := 6) rfl (v := (.bool x94)) rfl ?_
                      subst hv
                      exact ⟨rfl, hP.chg.below⟩
        · skip
          have hD := (cond_f h38).symm.trans hD
          refine wp_exit ?_
          exact bky36 (x34.1, x34.2.1, x34.2.2.1, x34.2.2.2) (γ35.1, γ35.2) _ _ _ hD r (hs_cons rfl (hs_cons rfl (hs_cons rfl (hs_cons rfl (hs_cons rfl (hs_cons rfl (hs_cons rfl (hs_cons rfl (hs_cons rfl (hs_cons rfl (hs_cons rfl (hs_cons rfl hs_nil)))))))))))) (hP.pick [0, 1, 2, 3, 4] rfl rfl)
      · skip
        rintro x97 γ98 fr w99 g r hP hD
        have hP : Post No [roK 95 2 moveC a2_v a2, cellC b1 ((planC a0)).toArray 24, memK mg20 x97.2.2.1, progK Try.prog encWord x97.2.2.2 γ98.1 γ98.2, cellC b28 γ98.1.cells 83] w0 w99 := hP
        refine wp_seq ?_
        refine wp_region_lit ?_
        refine seq_val (.bool false) r (fun R => y_assign r rfl) rfl fun fr r => ?_
        refine wpList_nil ?_
        refine wp_ret ?_
        have hv : false = res := Option.some.inj hD
        try dsimp only [Exit.then, Exit.inBlock]
        refine ret_tmp (fn := Try.f12) r (t := 6) rfl (v := (.bool false)) rfl ?_
        subst hv
        exact ⟨rfl, hP.chg.below⟩

end Go.Proofs.Ytphnnjiaiemkcaa.Wk
