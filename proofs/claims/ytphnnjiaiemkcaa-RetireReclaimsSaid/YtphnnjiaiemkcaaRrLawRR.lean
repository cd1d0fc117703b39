/- Written by a program of ours (wip/gen.py): a law -/
import Derived.Test.YtphnnjiaiemkcaaRrL11
set_option linter.unusedVariables false
namespace Go.Proofs.Ytphnnjiaiemkcaa.Wk
open Go.RowKit
theorem cl68 : callable Try.prog 68 = true := by kernel_rfl

theorem cl69 : callable Try.prog 69 = true := by kernel_rfl

theorem cl70 : callable Try.prog 70 = true := by kernel_rfl

theorem cl71 : callable Try.prog 71 = true := by kernel_rfl

theorem cl72 : callable Try.prog 72 = true := by kernel_rfl

def D.cubiclelaw11_RetireReclaims (fu : Nat) (a0 : Plan) (a1 : Int) (a2 : State) : Option (Bool) := (Option.bind ((D.cubiclelaw11_awake fu ).bind (fun (x10 : Bool) => (bif (!x10) then (some true) else (bif (!(D.cubiclelaw11_few a0)) then (some true) else (bif (decide (a1 < 0)) then (some true) else (bif (decide (a1 ≥ a0.nodes)) then (some true) else (some (!(D.state_State_Formed a2))))))))) (fun (x18 : Bool) => (bif x18 then ((D.cubiclelaw11_awake fu ).bind (fun (x22 : Bool) => (some x22))) else ((D.cubiclelaw11_popped fu a0 a2).bind (fun (x24 : Mem) => ((D.mem_Memory_Cap fu x24 0).bind (fun (x32 : Cap) => ((D.prog_Run_int fu (fu, (D.retire_Reclaim (fu + 1) a0 a1)) x24 x32 99).bind (fun (x34 : Int × Int × Bool × Mem) => ((D.free_List fu a0 x34.2.2.2 0).bind (fun (x43 : List Int) => (Option.bind (bif (!x34.2.2.1) then (some true) else ((D.mem_Memory_Peek fu x34.2.2.2 0 (D.plan_Plan_State a0 a1)).bind (fun (x50 : Int) => (bif (x50 != (D.state_State_Word (D.state_State_Freed a2 a0.gen))) then (some true) else ((D.mem_Memory_Peek fu x34.2.2.2 0 (D.plan_Plan_Field a0 a1 0)).bind (fun (x53 : Int) => (bif (x53 != 0) then (some true) else ((D.mem_Memory_Peek fu x34.2.2.2 0 (D.plan_Plan_Field a0 a1 1)).bind (fun (x56 : Int) => (bif (x56 != 0) then (some true) else ((D.mem_Memory_Peek fu x34.2.2.2 0 (D.plan_Plan_Field a0 a1 2)).bind (fun (x59 : Int) => (some (x59 != 0)))))))))))))) (fun (x61 : Bool) => (bif x61 then (some false) else (bif (((D.state_State_Freed a2 a0.gen).mode) == 3) then (Option.bind (bif (x34.1 == (-1)) then (some ((x43.length : Int) == 0)) else (some false)) (fun (x68 : Bool) => (some x68))) else (Option.bind (bif (x34.1 == a1) then (bif ((x43.length : Int) == 1) then ((getI x43 0).bind (fun (x74 : Int) => (some (x74 == a1)))) else (some false)) else (some false)) (fun (x75 : Bool) => (some x75))))))))))))))))))

set_option maxRecDepth 20000 in
set_option maxHeartbeats 2000000 in
theorem c_cubiclelaw11_RetireReclaims {fu : Nat} (w0 : World) (a0 : Plan) (a1 : Int) (a2 : State) {res : Bool} (hD : D.cubiclelaw11_RetireReclaims fu a0 a1 a2 = some res) :
    Calls Try.prog 17 #[.agg (planC a0).toArray, .int .i64 a1, .agg (stateC a2).toArray] w0 (PureRes (.bool res) w0) := by
  refine enter (l := [.agg (planC a0).toArray, .int .i64 a1, .agg (stateC a2).toArray]) Try.func17 rfl 120 rfl rfl fun fr r => ?_
  have hP : Post No [] w0 w0 := Post.nil w0
  unfold D.cubiclelaw11_RetireReclaims at hD
  refine wp_seq ?_
  refine wp_region_lit ?_
  refine seq_new (.cells ((planC a0)).toArray 24 (0, 0)) r (fun R => y_box r (v := (.agg (planC a0).toArray)) rfl) rfl fun fr b1 w2 n3 r => ?_
  have hP : Post No [cellC b1 ((planC a0)).toArray 24] w0 w2 := hP.new n3
  refine seq_new (.cells ((stateC a2)).toArray 126 (0, 0)) r (fun R => y_box r (v := (.agg (stateC a2).toArray)) rfl) rfl fun fr b5 w6 n7 r => ?_
  have hP : Post No [cellC b1 ((planC a0)).toArray 24, cellC b5 ((stateC a2)).toArray 126] w0 w6 := hP.new n7
  refine seq_val (.bool false) r (fun R => y_assign r rfl) rfl fun fr r => ?_
  refine wpList_nil ?_
  refine wp_seq ?_
  refine wp_seq ?_
  refine wp_joinG (N := 120) (Y := Bool) (G := Unit) (fun x γ => [(0, (.agg (planC a0).toArray)), (1, (.int .i64 a1)), (2, (.agg (stateC a2).toArray)), (3, (.pointer (some ⟨b1, 0, none⟩))), (5, (.pointer (some ⟨b5, 0, none⟩))), (6, (.bool false)), (34, (.bool x))]) (fun x γ w => Post No [cellC b1 ((planC a0)).toArray 24, cellC b5 ((stateC a2)).toArray 126] w0 w) hD ?_ ?_
  · skip
    rintro y9 RPy9 nxy9 hD
    refine wp_region_lit ?_
    obtain ⟨x10, hx10, hD⟩ := bindD_elim hD
    refine seq_call r (c_cubiclelaw11_awake w6  hx10) (fun R hc => y_call r rfl cl68 hc) rfl ?_
    rintro _ w11 ⟨rfl, hb⟩
    refine ⟨_, rfl, fun fr r => ?_⟩
    have hP : Post No [cellC b1 ((planC a0)).toArray 24, cellC b5 ((stateC a2)).toArray 126] w0 w11 := hP.below hb
    refine seq_val (.bool (!x10)) r (fun R => y_un r (u := (.bool x10)) rfl rfl) rfl fun fr r => ?_
    refine seq_val (.bool (!x10)) r (fun R => y_move r rfl) rfl fun fr r => ?_
    refine seq_split (!x10) (fun h12 => ?_) (fun h12 => ?_)
    · skip
      have hD := (cond_t h12).symm.trans hD
      refine seq_skip r rfl rfl rfl (v := .bool true) (congrArg Value.bool h12) (by simp [boolOf]) fun fr r => ?_
      refine seq_skip r rfl rfl rfl (v := .bool true) (congrArg Value.bool h12) (by simp [boolOf]) fun fr r => ?_
      refine seq_skip r rfl rfl rfl (v := .bool true) (congrArg Value.bool h12) (by simp [boolOf]) fun fr r => ?_
      refine seq_val (.bool true) r (fun R => y_pick r (b := true) (congrArg Value.bool h12) rfl) rfl fun fr r => ?_
      refine seq_val (.bool true) r (fun R => y_move r rfl) rfl fun fr r => ?_
      refine seq_skip r rfl rfl rfl (v := .bool true) (congrArg Value.bool (rfl : true = _)) (by simp [boolOf]) fun fr r => ?_
      refine seq_skip r rfl rfl rfl (v := .bool true) (congrArg Value.bool (rfl : true = _)) (by simp [boolOf]) fun fr r => ?_
      refine seq_val (.bool true) r (fun R => y_pick r (b := true) (congrArg Value.bool (rfl : true = _)) rfl) rfl fun fr r => ?_
      refine seq_val (.bool true) r (fun R => y_move r rfl) rfl fun fr r => ?_
      refine seq_skip r rfl rfl rfl (v := .bool true) (congrArg Value.bool (rfl : true = _)) (by simp [boolOf]) fun fr r => ?_
      refine seq_skip r rfl rfl rfl (v := .bool true) (congrArg Value.bool (rfl : true = _)) (by simp [boolOf]) fun fr r => ?_
      refine seq_skip r rfl rfl rfl (v := .bool true) (congrArg Value.bool (rfl : true = _)) (by simp [boolOf]) fun fr r => ?_
      refine seq_skip r rfl rfl rfl (v := .bool true) (congrArg Value.bool (rfl : true = _)) (by simp [boolOf]) fun fr r => ?_
      refine seq_val (.bool true) r (fun R => y_pick r (b := true) (congrArg Value.bool (rfl : true = _)) rfl) rfl fun fr r => ?_
      refine seq_val (.bool true) r (fun R => y_move r rfl) rfl fun fr r => ?_
      refine seq_skip r rfl rfl rfl (v := .bool true) (congrArg Value.bool (rfl : true = _)) (by simp [boolOf]) fun fr r => ?_
      refine seq_skip r rfl rfl rfl (v := .bool true) (congrArg Value.bool (rfl : true = _)) (by simp [boolOf]) fun fr r => ?_
      refine seq_skip r rfl rfl rfl (v := .bool true) (congrArg Value.bool (rfl : true = _)) (by simp [boolOf]) fun fr r => ?_
      refine seq_val (.bool true) r (fun R => y_pick r (b := true) (congrArg Value.bool (rfl : true = _)) rfl) rfl fun fr r => ?_
      refine wpList_nil ?_
      exact nxy9 true () _ _ _ hD r (hs_cons rfl (hs_cons rfl (hs_cons rfl (hs_cons rfl (hs_cons rfl (hs_cons rfl (hs_cons rfl hs_nil))))))) (hP.pick [0, 1] rfl rfl)
    · skip
      have hD := (cond_f h12).symm.trans hD
      refine seq_want r rfl rfl rfl (congrArg Value.bool h12) ?_
      refine seq_val (.agg (planC a0).toArray) r (fun R => y_load_agg r (cs := (planC a0)) (n := 6) rfl (hP.cell (i := 0) rfl) ta24 rfl) rfl fun fr r => ?_
      refine seq_want r rfl rfl rfl (congrArg Value.bool h12) ?_
      refine seq_call r (c_cubiclelaw11_few w11 a0) (fun R hc => y_call r rfl cl69 hc) rfl ?_
      rintro _ w13 ⟨rfl, hb⟩
      refine ⟨_, rfl, fun fr r => ?_⟩
      have hP : Post No [cellC b1 ((planC a0)).toArray 24, cellC b5 ((stateC a2)).toArray 126] w0 w13 := hP.below hb
      refine seq_want r rfl rfl rfl (congrArg Value.bool h12) ?_
      refine seq_val (.bool (!(D.cubiclelaw11_few a0))) r (fun R => y_un r (u := (.bool (D.cubiclelaw11_few a0))) rfl rfl) rfl fun fr r => ?_
      refine seq_val (.bool (!(D.cubiclelaw11_few a0))) r (fun R => y_pick r (b := false) (congrArg Value.bool h12) rfl) rfl fun fr r => ?_
      refine seq_val (.bool (!(D.cubiclelaw11_few a0))) r (fun R => y_move r rfl) rfl fun fr r => ?_
      refine seq_split (!(D.cubiclelaw11_few a0)) (fun h14 => ?_) (fun h14 => ?_)
      · skip
        have hD := (cond_t h14).symm.trans hD
        refine seq_skip r rfl rfl rfl (v := .bool true) (congrArg Value.bool h14) (by simp [boolOf]) fun fr r => ?_
        refine seq_skip r rfl rfl rfl (v := .bool true) (congrArg Value.bool h14) (by simp [boolOf]) fun fr r => ?_
        refine seq_val (.bool true) r (fun R => y_pick r (b := true) (congrArg Value.bool h14) rfl) rfl fun fr r => ?_
        refine seq_val (.bool true) r (fun R => y_move r rfl) rfl fun fr r => ?_
        refine seq_skip r rfl rfl rfl (v := .bool true) (congrArg Value.bool (rfl : true = _)) (by simp [boolOf]) fun fr r => ?_
        refine seq_skip r rfl rfl rfl (v := .bool true) (congrArg Value.bool (rfl : true = _)) (by simp [boolOf]) fun fr r => ?_
        refine seq_skip r rfl rfl rfl (v := .bool true) (congrArg Value.bool (rfl : true = _)) (by simp [boolOf]) fun fr r => ?_
        refine seq_skip r rfl rfl rfl (v := .bool true) (congrArg Value.bool (rfl : true = _)) (by simp [boolOf]) fun fr r => ?_
        refine seq_val (.bool true) r (fun R => y_pick r (b := true) (congrArg Value.bool (rfl : true = _)) rfl) rfl fun fr r => ?_
        refine seq_val (.bool true) r (fun R => y_move r rfl) rfl fun fr r => ?_
        refine seq_skip r rfl rfl rfl (v := .bool true) (congrArg Value.bool (rfl : true = _)) (by simp [boolOf]) fun fr r => ?_
        refine seq_skip r rfl rfl rfl (v := .bool true) (congrArg Value.bool (rfl : true = _)) (by simp [boolOf]) fun fr r => ?_
        refine seq_skip r rfl rfl rfl (v := .bool true) (congrArg Value.bool (rfl : true = _)) (by simp [boolOf]) fun fr r => ?_
        refine seq_val (.bool true) r (fun R => y_pick r (b := true) (congrArg Value.bool (rfl : true = _)) rfl) rfl fun fr r => ?_
        refine wpList_nil ?_
        exact nxy9 true () _ _ _ hD r (hs_cons rfl (hs_cons rfl (hs_cons rfl (hs_cons rfl (hs_cons rfl (hs_cons rfl (hs_cons rfl hs_nil))))))) (hP.pick [0, 1] rfl rfl)
      · skip
        have hD := (cond_f h14).symm.trans hD
        refine seq_want r rfl rfl rfl (congrArg Value.bool h14) ?_
        refine seq_val (.int .i64 a1) r (fun R => y_move r rfl) rfl fun fr r => ?_
        refine seq_want r rfl rfl rfl (congrArg Value.bool h14) ?_
        refine seq_val (.bool (decide (a1 < 0))) r (fun R => y_bin r (u := (.int .i64 a1)) (u' := (.int .i64 0)) rfl rfl rfl rfl) rfl fun fr r => ?_
        refine seq_val (.bool (decide (a1 < 0))) r (fun R => y_pick r (b := false) (congrArg Value.bool h14) rfl) rfl fun fr r => ?_
        refine seq_val (.bool (decide (a1 < 0))) r (fun R => y_move r rfl) rfl fun fr r => ?_
        refine seq_split (decide (a1 < 0)) (fun h15 => ?_) (fun h15 => ?_)
        · skip
          have hD := (cond_t h15).symm.trans hD
          refine seq_skip r rfl rfl rfl (v := .bool true) (congrArg Value.bool h15) (by simp [boolOf]) fun fr r => ?_
          refine seq_skip r rfl rfl rfl (v := .bool true) (congrArg Value.bool h15) (by simp [boolOf]) fun fr r => ?_
          refine seq_skip r rfl rfl rfl (v := .bool true) (congrArg Value.bool h15) (by simp [boolOf]) fun fr r => ?_
          refine seq_skip r rfl rfl rfl (v := .bool true) (congrArg Value.bool h15) (by simp [boolOf]) fun fr r => ?_
          refine seq_val (.bool true) r (fun R => y_pick r (b := true) (congrArg Value.bool h15) rfl) rfl fun fr r => ?_
          refine seq_val (.bool true) r (fun R => y_move r rfl) rfl fun fr r => ?_
          refine seq_skip r rfl rfl rfl (v := .bool true) (congrArg Value.bool (rfl : true = _)) (by simp [boolOf]) fun fr r => ?_
          refine seq_skip r rfl rfl rfl (v := .bool true) (congrArg Value.bool (rfl : true = _)) (by simp [boolOf]) fun fr r => ?_
          refine seq_skip r rfl rfl rfl (v := .bool true) (congrArg Value.bool (rfl : true = _)) (by simp [boolOf]) fun fr r => ?_
          refine seq_val (.bool true) r (fun R => y_pick r (b := true) (congrArg Value.bool (rfl : true = _)) rfl) rfl fun fr r => ?_
          refine wpList_nil ?_
          exact nxy9 true () _ _ _ hD r (hs_cons rfl (hs_cons rfl (hs_cons rfl (hs_cons rfl (hs_cons rfl (hs_cons rfl (hs_cons rfl hs_nil))))))) (hP.pick [0, 1] rfl rfl)
        · skip
          have hD := (cond_f h15).symm.trans hD
          refine seq_want r rfl rfl rfl (congrArg Value.bool h15) ?_
          refine seq_val (.int .i64 a1) r (fun R => y_move r rfl) rfl fun fr r => ?_
          refine seq_want r rfl rfl rfl (congrArg Value.bool h15) ?_
          refine seq_val (.pointer (some ⟨b1, 0, none⟩)) r (fun R => y_fieldAddr r (o := 0) rfl fo24_0) rfl fun fr r => ?_
          refine seq_want r rfl rfl rfl (congrArg Value.bool h15) ?_
          refine seq_val (.int .i64 a0.nodes) r (fun R => y_load_one r (v := (.int .i64 a0.nodes)) rfl (hP.cell (i := 0) rfl) to3 rfl) rfl fun fr r => ?_
          refine seq_want r rfl rfl rfl (congrArg Value.bool h15) ?_
          refine seq_val (.bool (decide (a1 ≥ a0.nodes))) r (fun R => y_bin r (u := (.int .i64 a1)) (u' := (.int .i64 a0.nodes)) rfl rfl rfl rfl) rfl fun fr r => ?_
          refine seq_val (.bool (decide (a1 ≥ a0.nodes))) r (fun R => y_pick r (b := false) (congrArg Value.bool h15) rfl) rfl fun fr r => ?_
          refine seq_val (.bool (decide (a1 ≥ a0.nodes))) r (fun R => y_move r rfl) rfl fun fr r => ?_
          refine seq_split (decide (a1 ≥ a0.nodes)) (fun h16 => ?_) (fun h16 => ?_)
          · skip
            have hD := (cond_t h16).symm.trans hD
            refine seq_skip r rfl rfl rfl (v := .bool true) (congrArg Value.bool h16) (by simp [boolOf]) fun fr r => ?_
            refine seq_skip r rfl rfl rfl (v := .bool true) (congrArg Value.bool h16) (by simp [boolOf]) fun fr r => ?_
            refine seq_skip r rfl rfl rfl (v := .bool true) (congrArg Value.bool h16) (by simp [boolOf]) fun fr r => ?_
            refine seq_val (.bool true) r (fun R => y_pick r (b := true) (congrArg Value.bool h16) rfl) rfl fun fr r => ?_
            refine wpList_nil ?_
            exact nxy9 true () _ _ _ hD r (hs_cons rfl (hs_cons rfl (hs_cons rfl (hs_cons rfl (hs_cons rfl (hs_cons rfl (hs_cons rfl hs_nil))))))) (hP.pick [0, 1] rfl rfl)
          · skip
            have hD := (cond_f h16).symm.trans hD
            refine seq_want r rfl rfl rfl (congrArg Value.bool h16) ?_
            refine seq_val (.agg (stateC a2).toArray) r (fun R => y_load_agg r (cs := (stateC a2)) (n := 3) rfl (hP.cell (i := 1) rfl) ta126 rfl) rfl fun fr r => ?_
            refine seq_want r rfl rfl rfl (congrArg Value.bool h16) ?_
            refine seq_call r (c_state_State_Formed w13 a2) (fun R hc => y_call r rfl cl70 hc) rfl ?_
            rintro _ w17 ⟨rfl, hb⟩
            refine ⟨_, rfl, fun fr r => ?_⟩
            have hP : Post No [cellC b1 ((planC a0)).toArray 24, cellC b5 ((stateC a2)).toArray 126] w0 w17 := hP.below hb
            refine seq_want r rfl rfl rfl (congrArg Value.bool h16) ?_
            refine seq_val (.bool (!(D.state_State_Formed a2))) r (fun R => y_un r (u := (.bool (D.state_State_Formed a2))) rfl rfl) rfl fun fr r => ?_
            refine seq_val (.bool (!(D.state_State_Formed a2))) r (fun R => y_pick r (b := false) (congrArg Value.bool h16) rfl) rfl fun fr r => ?_
            refine wpList_nil ?_
            exact nxy9 (!(D.state_State_Formed a2)) () _ _ _ hD r (hs_cons rfl (hs_cons rfl (hs_cons rfl (hs_cons rfl (hs_cons rfl (hs_cons rfl (hs_cons rfl hs_nil))))))) (hP.pick [0, 1] rfl rfl)
  · skip
    rintro x18 γ19 fr w20 g r hP hD
    have hP : Post No [cellC b1 ((planC a0)).toArray 24, cellC b5 ((stateC a2)).toArray 126] w0 w20 := hP
    refine wp_cond_split (t := x18) (r.ev rfl) (fun h21 => ?_) (fun h21 => ?_)
    · skip
      have hD := (cond_t h21).symm.trans hD
      refine wp_seq ?_
      refine wp_region_lit ?_
      obtain ⟨x22, hx22, hD⟩ := bindD_elim hD
      refine seq_call r (c_cubiclelaw11_awake w20  hx22) (fun R hc => y_call r rfl cl68 hc) rfl ?_
      rintro _ w23 ⟨rfl, hb⟩
      refine ⟨_, rfl, fun fr r => ?_⟩
      have hP : Post No [cellC b1 ((planC a0)).toArray 24, cellC b5 ((stateC a2)).toArray 126] w0 w23 := hP.below hb
      refine seq_val (.bool x22) r (fun R => y_assign r rfl) rfl fun fr r => ?_
      refine wpList_nil ?_
      refine wp_ret ?_
      have hv : x22 = res := Option.some.inj hD
      try dsimp only [Exit.then, Exit.inBlock]
      refine ret_tmp (fn := Try.f17) r (t := 6) rfl (v := (.bool x22)) rfl ?_
      subst hv
      exact ⟨rfl, hP.chg.below⟩
    · skip
      have hD := (cond_f h21).symm.trans hD
      refine wp_skip ?_
      refine wp_seq ?_
      refine wp_region_lit ?_
      refine seq_val (.agg (planC a0).toArray) r (fun R => y_load_agg r (cs := (planC a0)) (n := 6) rfl (hP.cell (i := 0) rfl) ta24 rfl) rfl fun fr r => ?_
      refine seq_val (.agg (stateC a2).toArray) r (fun R => y_load_agg r (cs := (stateC a2)) (n := 3) rfl (hP.cell (i := 1) rfl) ta126 rfl) rfl fun fr r => ?_
      obtain ⟨x24, hx24, hD⟩ := bindD_elim hD
      refine seq_call r (c_cubiclelaw11_popped w20 a0 a2 hx24) (fun R hc => y_call r rfl cl71 hc) rfl ?_
      rintro _ w25 ⟨mg26, rfl, hq⟩
      refine ⟨_, rfl, fun fr r => ?_⟩
      have hP : Post No [cellC b1 ((planC a0)).toArray 24, cellC b5 ((stateC a2)).toArray 126, memK mg26 x24] w0 w25 := hP.add hq
      refine seq_val (.pointer (some ⟨mg26.mb, 0, none⟩)) r (fun R => y_assign r rfl) rfl fun fr r => ?_
      refine wpList_nil ?_
      refine wp_seq ?_
      refine wp_seq ?_
      refine wp_region_lit ?_
      refine seq_val (.pointer (some ⟨mg26.mb, 0, none⟩)) r (fun R => y_move r rfl) rfl fun fr r => ?_
      refine seq_val (.bool false) r (fun R => y_bin r (u := (.pointer (some ⟨mg26.mb, 0, none⟩))) (u' := (.pointer none)) (v := (.bool false)) rfl rfl rfl rfl) rfl fun fr r => ?_
      refine wpList_nil ?_
      refine wp_cond_split (t := false) (r.ev rfl) (fun h => absurd ((rfl : false = _).symm.trans h) (by decide)) (fun _ => ?_)
      refine wp_skip ?_
      refine wp_seq ?_
      refine wp_region_lit ?_
      refine seq_val (.agg (planC a0).toArray) r (fun R => y_load_agg r (cs := (planC a0)) (n := 6) rfl (hP.cell (i := 0) rfl) ta24 rfl) rfl fun fr r => ?_
      refine seq_val (.int .i64 a1) r (fun R => y_move r rfl) rfl fun fr r => ?_
      refine seq_call r (c_retire_Reclaim (F := No) (n := fu) (j := fu + 1) (fun _ h => h.elim) (by omega) a0 a1) (fun R hc => y_call r rfl cl72 hc) rfl ?_
      rintro _ w28 ⟨v29, rfl, hb, hr30⟩
      refine ⟨_, rfl, fun fr r => ?_⟩
      have hP : Post No [cellC b1 ((planC a0)).toArray 24, cellC b5 ((stateC a2)).toArray 126, memK mg26 x24, progK Try.prog encInt (fu, (D.retire_Reclaim (fu + 1) a0 a1)) v29 (rg w25.heap.size w28.heap.size)] w0 w28 := hP.addProg hb hr30
      refine seq_val (.pointer (some ⟨mg26.mb, 0, none⟩)) r (fun R => y_move r rfl) rfl fun fr r => ?_
      refine seq_val (.pointer (some ⟨mg26.mb, 0, none⟩)) r (fun R => y_move r rfl) rfl fun fr r => ?_
      obtain ⟨x32, hx32, hD⟩ := bindD_elim hD
      refine seq_call r (c_mem_Memory_Cap w28 x24 (hP.mem (i := 2) rfl) 0 hx32) (fun R hc => y_call r rfl cl42 hc) rfl ?_
      rintro _ w33 ⟨rfl, hb⟩
      refine ⟨_, rfl, fun fr r => ?_⟩
      have hP : Post No [cellC b1 ((planC a0)).toArray 24, cellC b5 ((stateC a2)).toArray 126, memK mg26 x24, progK Try.prog encInt (fu, (D.retire_Reclaim (fu + 1) a0 a1)) v29 (rg w25.heap.size w28.heap.size)] w0 w33 := hP.below hb
      obtain ⟨x34, hx34, hD⟩ := bindD_elim hD
      refine seq_call r (c_prog_Run_int w33 (fu, (D.retire_Reclaim (fu + 1) a0 a1)) x24 x32 99 (hP.sep.pk [3, 2] rfl rfl) hx34) (fun R hc => y_call r rfl cl57 hc) rfl ?_
      rintro _ w35 ⟨rfl, hq⟩
      refine ⟨_, rfl, fun fr r => ?_⟩
      have hP : Post No [cellC b1 ((planC a0)).toArray 24, cellC b5 ((stateC a2)).toArray 126, memK mg26 x34.2.2.2, progK Try.prog encInt (fu, (D.retire_Reclaim (fu + 1) a0 a1)) v29 (rg w25.heap.size w28.heap.size)] w0 w35 := hP.setN (i := 2) rfl hq
      refine seq_val (.tuple #[(.int .i64 x34.1), (.int .i64 x34.2.1), (.bool x34.2.2.1)]) r (fun R => y_move r rfl) rfl fun fr r => ?_
      refine seq_val (.int .i64 x34.1) r (fun R => y_extract r (vs := #[(.int .i64 x34.1), (.int .i64 x34.2.1), (.bool x34.2.2.1)]) rfl rfl) rfl fun fr r => ?_
      refine seq_val (.int .i64 x34.2.1) r (fun R => y_extract r (vs := #[(.int .i64 x34.1), (.int .i64 x34.2.1), (.bool x34.2.2.1)]) rfl rfl) rfl fun fr r => ?_
      refine seq_val (.bool x34.2.2.1) r (fun R => y_extract r (vs := #[(.int .i64 x34.1), (.int .i64 x34.2.1), (.bool x34.2.2.1)]) rfl rfl) rfl fun fr r => ?_
      refine seq_val (.int .i64 x34.1) r (fun R => y_assign r rfl) rfl fun fr r => ?_
      refine seq_val (.int .i64 x34.2.1) r (fun R => y_assign r rfl) rfl fun fr r => ?_
      refine seq_val (.bool x34.2.2.1) r (fun R => y_assign r rfl) rfl fun fr r => ?_
      refine wpList_nil ?_
      refine wp_seq ?_
      refine wp_region_lit ?_
      refine seq_val (.agg (stateC a2).toArray) r (fun R => y_load_agg r (cs := (stateC a2)) (n := 3) rfl (hP.cell (i := 1) rfl) ta126 rfl) rfl fun fr r => ?_
      refine seq_val (.pointer (some ⟨b1, 5, none⟩)) r (fun R => y_fieldAddr r (o := 0) rfl fo24_5) rfl fun fr r => ?_
      refine seq_val (.int .i64 a0.gen) r (fun R => y_load_one r (v := (.int .i64 a0.gen)) rfl (hP.cell (i := 0) rfl) to3 rfl) rfl fun fr r => ?_
      refine seq_call r (c_state_State_Freed w35 a2 a0.gen) (fun R hc => y_call r rfl cl73 hc) rfl ?_
      rintro _ w36 ⟨rfl, hb⟩
      refine ⟨_, rfl, fun fr r => ?_⟩
      have hP : Post No [cellC b1 ((planC a0)).toArray 24, cellC b5 ((stateC a2)).toArray 126, memK mg26 x34.2.2.2, progK Try.prog encInt (fu, (D.retire_Reclaim (fu + 1) a0 a1)) v29 (rg w25.heap.size w28.heap.size)] w0 w36 := hP.below hb
      refine seq_new (.cells ((stateC (⟨0, 0, 0⟩ : State))).toArray 126 (0, 0)) r (fun R => y_alloc tz126) rfl fun fr b37 w38 n39 r => ?_
      have hP : Post No [cellC b1 ((planC a0)).toArray 24, cellC b5 ((stateC a2)).toArray 126, memK mg26 x34.2.2.2, progK Try.prog encInt (fu, (D.retire_Reclaim (fu + 1) a0 a1)) v29 (rg w25.heap.size w28.heap.size), cellC b37 ((stateC (⟨0, 0, 0⟩ : State))).toArray 126] w0 w38 := hP.new n39
      refine seq_upd (.cells ((stateC (D.state_State_Freed a2 a0.gen))).toArray 126 (0, 0)) r (fun R => y_store r (o := 0) (v := (.agg (stateC (D.state_State_Freed a2 a0.gen)).toArray)) rfl rfl (hP.cell (i := 4) rfl) ts126 (Nat.le_of_ble_eq_true rfl) rfl rfl) rfl fun fr w41 u42 r => ?_
      have hP : Post No [cellC b1 ((planC a0)).toArray 24, cellC b5 ((stateC a2)).toArray 126, memK mg26 x34.2.2.2, progK Try.prog encInt (fu, (D.retire_Reclaim (fu + 1) a0 a1)) v29 (rg w25.heap.size w28.heap.size), cellC b37 ((stateC (D.state_State_Freed a2 a0.gen))).toArray 126] w0 w41 := hP.upd (i := 4) rfl u42
      refine wpList_nil ?_
      refine wp_seq ?_
      refine wp_region_lit ?_
      refine seq_val (.agg (planC a0).toArray) r (fun R => y_load_agg r (cs := (planC a0)) (n := 6) rfl (hP.cell (i := 0) rfl) ta24 rfl) rfl fun fr r => ?_
      refine seq_val (.pointer (some ⟨mg26.mb, 0, none⟩)) r (fun R => y_move r rfl) rfl fun fr r => ?_
      obtain ⟨x43, hx43, hD⟩ := bindD_elim hD
      refine seq_call r (c_free_List w41 a0 x34.2.2.2 (hP.mem (i := 2) rfl) 0 hx43) (fun R hc => y_call r rfl cl63 hc) rfl ?_
      rintro _ w44 ⟨v45, rfl, hq⟩
      refine ⟨_, rfl, fun fr r => ?_⟩
      have hP : Post No [cellC b1 ((planC a0)).toArray 24, cellC b5 ((stateC a2)).toArray 126, memK mg26 x34.2.2.2, progK Try.prog encInt (fu, (D.retire_Reclaim (fu + 1) a0 a1)) v29 (rg w25.heap.size w28.heap.size), cellC b37 ((stateC (D.state_State_Freed a2 a0.gen))).toArray 126, rowK 3 1 i64 v45 x43] w0 w44 := hP.add hq
      refine seq_val v45 r (fun R => y_assign r rfl) rfl fun fr r => ?_
      refine wpList_nil ?_
      refine wp_seq ?_
      refine wp_seq ?_
      have hP : Post No [cellC b1 ((planC a0)).toArray 24, cellC b5 ((stateC a2)).toArray 126, memK mg26 x34.2.2.2, cellC b37 ((stateC (D.state_State_Freed a2 a0.gen))).toArray 126, rowK 3 1 i64 v45 x43] w0 w44 := hP.pick [0, 1, 2, 4, 5] rfl rfl
      refine wp_joinG (N := 120) (Y := Bool) (G := Unit) (fun x γ => [(0, (.agg (planC a0).toArray)), (1, (.int .i64 a1)), (2, (.agg (stateC a2).toArray)), (3, (.pointer (some ⟨b1, 0, none⟩))), (5, (.pointer (some ⟨b5, 0, none⟩))), (6, (.bool false)), (34, (.bool x18)), (7, (.pointer (some ⟨mg26.mb, 0, none⟩))), (40, (.bool false)), (8, (.int .i64 x34.1)), (10, (.bool x34.2.2.1)), (11, (.pointer (some ⟨b37, 0, none⟩))), (12, v45), (94, (.bool x))]) (fun x γ w => Post No [cellC b1 ((planC a0)).toArray 24, cellC b5 ((stateC a2)).toArray 126, memK mg26 x34.2.2.2, cellC b37 ((stateC (D.state_State_Freed a2 a0.gen))).toArray 126, rowK 3 1 i64 v45 x43] w0 w) hD ?_ ?_
      · skip
        rintro y47 RPy47 nxy47 hD
        refine seq_split (!x34.2.2.1) (fun h48 => ?_) (fun h48 => ?_)
        · skip
          have hD := (cond_t h48).symm.trans hD
          refine wp_freeF [.val (.bool x34.2.2.1), .val (.bool (!x34.2.2.1)), .val (.bool (!x34.2.2.1)), .val undef, .val undef, .val undef, .val undef, .val undef, .val undef, .val undef, .val undef, .val (.bool true), .val (.bool true), .val undef, .val undef, .val undef, .val undef, .val undef, .val undef, .val (.bool true), .val (.bool true), .val undef, .val undef, .val undef, .val undef, .val undef, .val undef, .val (.bool true), .val (.bool true), .val undef, .val undef, .val undef, .val undef, .val undef, .val undef, .val (.bool true)] mixed r (by kernel_rfl) ?_ ?_
          · skip
            refine eachF_cons r rfl (fun fr1 g w' hb' hd r' => ?_) ?_
            · exact y_move r' (v := (.bool x34.2.2.1)) rfl ⟨Below.refl _ _, rfl⟩
            refine eachF_cons r rfl (fun fr1 g w' hb' hd r' => ?_) ?_
            · exact y_un r' (u := (.bool x34.2.2.1)) (v := (.bool (!x34.2.2.1))) (hd 0 rfl).1 rfl ⟨Below.refl _ _, rfl⟩
            refine eachF_cons r rfl (fun fr1 g w' hb' hd r' => ?_) ?_
            · exact y_move r' (v := (.bool (!x34.2.2.1))) (hd 1 rfl).1 ⟨Below.refl _ _, rfl⟩
            refine eachF_skip false (.bool true) r rfl rfl rfl (fun g w' hd => Eq.trans (show (g 2).v = .bool (!x34.2.2.1) from (hd 2 rfl).1) (congrArg Value.bool h48)) (by simp [boolOf]) (fun _ _ => ⟨Below.refl _ _, rfl⟩) ?_
            refine eachF_skip false (.bool true) r rfl rfl rfl (fun g w' hd => Eq.trans (show (g 2).v = .bool (!x34.2.2.1) from (hd 2 rfl).1) (congrArg Value.bool h48)) (by simp [boolOf]) (fun _ _ => ⟨Below.refl _ _, rfl⟩) ?_
            refine eachF_skip false (.bool true) r rfl rfl rfl (fun g w' hd => Eq.trans (show (g 2).v = .bool (!x34.2.2.1) from (hd 2 rfl).1) (congrArg Value.bool h48)) (by simp [boolOf]) (fun _ _ => ⟨Below.refl _ _, rfl⟩) ?_
            refine eachF_skip false (.bool true) r rfl rfl rfl (fun g w' hd => Eq.trans (show (g 2).v = .bool (!x34.2.2.1) from (hd 2 rfl).1) (congrArg Value.bool h48)) (by simp [boolOf]) (fun _ _ => ⟨Below.refl _ _, rfl⟩) ?_
            refine eachF_skip false (.bool true) r rfl rfl rfl (fun g w' hd => Eq.trans (show (g 2).v = .bool (!x34.2.2.1) from (hd 2 rfl).1) (congrArg Value.bool h48)) (by simp [boolOf]) (fun _ _ => ⟨Below.refl _ _, rfl⟩) ?_
            refine eachF_skip false (.bool true) r rfl rfl rfl (fun g w' hd => Eq.trans (show (g 2).v = .bool (!x34.2.2.1) from (hd 2 rfl).1) (congrArg Value.bool h48)) (by simp [boolOf]) (fun _ _ => ⟨Below.refl _ _, rfl⟩) ?_
            refine eachF_skip false (.bool true) r rfl rfl rfl (fun g w' hd => Eq.trans (show (g 2).v = .bool (!x34.2.2.1) from (hd 2 rfl).1) (congrArg Value.bool h48)) (by simp [boolOf]) (fun _ _ => ⟨Below.refl _ _, rfl⟩) ?_
            refine eachF_skip false (.bool true) r rfl rfl rfl (fun g w' hd => Eq.trans (show (g 2).v = .bool (!x34.2.2.1) from (hd 2 rfl).1) (congrArg Value.bool h48)) (by simp [boolOf]) (fun _ _ => ⟨Below.refl _ _, rfl⟩) ?_
            refine eachF_cons r rfl (fun fr1 g w' hb' hd r' => ?_) ?_
            · exact y_pick r' (b := true) (v := (.bool true)) (Eq.trans (show (g 2).v = .bool (!x34.2.2.1) from (hd 2 rfl).1) (congrArg Value.bool h48)) rfl ⟨Below.refl _ _, rfl⟩
            refine eachF_cons r rfl (fun fr1 g w' hb' hd r' => ?_) ?_
            · exact y_move r' (v := (.bool true)) (hd 11 rfl).1 ⟨Below.refl _ _, rfl⟩
            refine eachF_skip false (.bool true) r rfl rfl rfl (fun g w' hd => Eq.trans (show (g 12).v = .bool true from (hd 12 rfl).1) (congrArg Value.bool (rfl : true = _))) (by simp [boolOf]) (fun _ _ => ⟨Below.refl _ _, rfl⟩) ?_
            refine eachF_skip false (.bool true) r rfl rfl rfl (fun g w' hd => Eq.trans (show (g 12).v = .bool true from (hd 12 rfl).1) (congrArg Value.bool (rfl : true = _))) (by simp [boolOf]) (fun _ _ => ⟨Below.refl _ _, rfl⟩) ?_
            refine eachF_skip false (.bool true) r rfl rfl rfl (fun g w' hd => Eq.trans (show (g 12).v = .bool true from (hd 12 rfl).1) (congrArg Value.bool (rfl : true = _))) (by simp [boolOf]) (fun _ _ => ⟨Below.refl _ _, rfl⟩) ?_
            refine eachF_skip false (.bool true) r rfl rfl rfl (fun g w' hd => Eq.trans (show (g 12).v = .bool true from (hd 12 rfl).1) (congrArg Value.bool (rfl : true = _))) (by simp [boolOf]) (fun _ _ => ⟨Below.refl _ _, rfl⟩) ?_
            refine eachF_skip false (.bool true) r rfl rfl rfl (fun g w' hd => Eq.trans (show (g 12).v = .bool true from (hd 12 rfl).1) (congrArg Value.bool (rfl : true = _))) (by simp [boolOf]) (fun _ _ => ⟨Below.refl _ _, rfl⟩) ?_
            refine eachF_skip false (.bool true) r rfl rfl rfl (fun g w' hd => Eq.trans (show (g 12).v = .bool true from (hd 12 rfl).1) (congrArg Value.bool (rfl : true = _))) (by simp [boolOf]) (fun _ _ => ⟨Below.refl _ _, rfl⟩) ?_
            refine eachF_cons r rfl (fun fr1 g w' hb' hd r' => ?_) ?_
            · exact y_pick r' (b := true) (v := (.bool true)) (Eq.trans (show (g 12).v = .bool true from (hd 12 rfl).1) (congrArg Value.bool (rfl : true = _))) rfl ⟨Below.refl _ _, rfl⟩
            refine eachF_cons r rfl (fun fr1 g w' hb' hd r' => ?_) ?_
            · exact y_move r' (v := (.bool true)) (hd 19 rfl).1 ⟨Below.refl _ _, rfl⟩
            refine eachF_skip false (.bool true) r rfl rfl rfl (fun g w' hd => Eq.trans (show (g 20).v = .bool true from (hd 20 rfl).1) (congrArg Value.bool (rfl : true = _))) (by simp [boolOf]) (fun _ _ => ⟨Below.refl _ _, rfl⟩) ?_
            refine eachF_skip false (.bool true) r rfl rfl rfl (fun g w' hd => Eq.trans (show (g 20).v = .bool true from (hd 20 rfl).1) (congrArg Value.bool (rfl : true = _))) (by simp [boolOf]) (fun _ _ => ⟨Below.refl _ _, rfl⟩) ?_
            refine eachF_skip false (.bool true) r rfl rfl rfl (fun g w' hd => Eq.trans (show (g 20).v = .bool true from (hd 20 rfl).1) (congrArg Value.bool (rfl : true = _))) (by simp [boolOf]) (fun _ _ => ⟨Below.refl _ _, rfl⟩) ?_
            refine eachF_skip false (.bool true) r rfl rfl rfl (fun g w' hd => Eq.trans (show (g 20).v = .bool true from (hd 20 rfl).1) (congrArg Value.bool (rfl : true = _))) (by simp [boolOf]) (fun _ _ => ⟨Below.refl _ _, rfl⟩) ?_
            refine eachF_skip false (.bool true) r rfl rfl rfl (fun g w' hd => Eq.trans (show (g 20).v = .bool true from (hd 20 rfl).1) (congrArg Value.bool (rfl : true = _))) (by simp [boolOf]) (fun _ _ => ⟨Below.refl _ _, rfl⟩) ?_
            refine eachF_skip false (.bool true) r rfl rfl rfl (fun g w' hd => Eq.trans (show (g 20).v = .bool true from (hd 20 rfl).1) (congrArg Value.bool (rfl : true = _))) (by simp [boolOf]) (fun _ _ => ⟨Below.refl _ _, rfl⟩) ?_
            refine eachF_cons r rfl (fun fr1 g w' hb' hd r' => ?_) ?_
            · exact y_pick r' (b := true) (v := (.bool true)) (Eq.trans (show (g 20).v = .bool true from (hd 20 rfl).1) (congrArg Value.bool (rfl : true = _))) rfl ⟨Below.refl _ _, rfl⟩
            refine eachF_cons r rfl (fun fr1 g w' hb' hd r' => ?_) ?_
            · exact y_move r' (v := (.bool true)) (hd 27 rfl).1 ⟨Below.refl _ _, rfl⟩
            refine eachF_skip false (.bool true) r rfl rfl rfl (fun g w' hd => Eq.trans (show (g 28).v = .bool true from (hd 28 rfl).1) (congrArg Value.bool (rfl : true = _))) (by simp [boolOf]) (fun _ _ => ⟨Below.refl _ _, rfl⟩) ?_
            refine eachF_skip false (.bool true) r rfl rfl rfl (fun g w' hd => Eq.trans (show (g 28).v = .bool true from (hd 28 rfl).1) (congrArg Value.bool (rfl : true = _))) (by simp [boolOf]) (fun _ _ => ⟨Below.refl _ _, rfl⟩) ?_
            refine eachF_skip false (.bool true) r rfl rfl rfl (fun g w' hd => Eq.trans (show (g 28).v = .bool true from (hd 28 rfl).1) (congrArg Value.bool (rfl : true = _))) (by simp [boolOf]) (fun _ _ => ⟨Below.refl _ _, rfl⟩) ?_
            refine eachF_skip false (.bool true) r rfl rfl rfl (fun g w' hd => Eq.trans (show (g 28).v = .bool true from (hd 28 rfl).1) (congrArg Value.bool (rfl : true = _))) (by simp [boolOf]) (fun _ _ => ⟨Below.refl _ _, rfl⟩) ?_
            refine eachF_skip false (.bool true) r rfl rfl rfl (fun g w' hd => Eq.trans (show (g 28).v = .bool true from (hd 28 rfl).1) (congrArg Value.bool (rfl : true = _))) (by simp [boolOf]) (fun _ _ => ⟨Below.refl _ _, rfl⟩) ?_
            refine eachF_skip false (.bool true) r rfl rfl rfl (fun g w' hd => Eq.trans (show (g 28).v = .bool true from (hd 28 rfl).1) (congrArg Value.bool (rfl : true = _))) (by simp [boolOf]) (fun _ _ => ⟨Below.refl _ _, rfl⟩) ?_
            refine eachF_cons r rfl (fun fr1 g w' hb' hd r' => ?_) ?_
            · exact y_pick r' (b := true) (v := (.bool true)) (Eq.trans (show (g 28).v = .bool true from (hd 28 rfl).1) (congrArg Value.bool (rfl : true = _))) rfl ⟨Below.refl _ _, rfl⟩
            exact eachF_nil
          · skip
            intro fr gg w49 hb hΦ hap r
            have g0 : (gg 0).v = (.bool x34.2.2.1) := (hΦ 0 rfl).1
            have g1 : (gg 1).v = (.bool (!x34.2.2.1)) := (hΦ 1 rfl).1
            have g2 : (gg 2).v = (.bool (!x34.2.2.1)) := (hΦ 2 rfl).1
            have g3 : (gg 3).v = undef := (hΦ 3 rfl).1
            have g4 : (gg 4).v = undef := (hΦ 4 rfl).1
            have g5 : (gg 5).v = undef := (hΦ 5 rfl).1
            have g6 : (gg 6).v = undef := (hΦ 6 rfl).1
            have g7 : (gg 7).v = undef := (hΦ 7 rfl).1
            have g8 : (gg 8).v = undef := (hΦ 8 rfl).1
            have g9 : (gg 9).v = undef := (hΦ 9 rfl).1
            have g10 : (gg 10).v = undef := (hΦ 10 rfl).1
            have g11 : (gg 11).v = (.bool true) := (hΦ 11 rfl).1
            have g12 : (gg 12).v = (.bool true) := (hΦ 12 rfl).1
            have g13 : (gg 13).v = undef := (hΦ 13 rfl).1
            have g14 : (gg 14).v = undef := (hΦ 14 rfl).1
            have g15 : (gg 15).v = undef := (hΦ 15 rfl).1
            have g16 : (gg 16).v = undef := (hΦ 16 rfl).1
            have g17 : (gg 17).v = undef := (hΦ 17 rfl).1
            have g18 : (gg 18).v = undef := (hΦ 18 rfl).1
            have g19 : (gg 19).v = (.bool true) := (hΦ 19 rfl).1
            have g20 : (gg 20).v = (.bool true) := (hΦ 20 rfl).1
            have g21 : (gg 21).v = undef := (hΦ 21 rfl).1
            have g22 : (gg 22).v = undef := (hΦ 22 rfl).1
            have g23 : (gg 23).v = undef := (hΦ 23 rfl).1
            have g24 : (gg 24).v = undef := (hΦ 24 rfl).1
            have g25 : (gg 25).v = undef := (hΦ 25 rfl).1
            have g26 : (gg 26).v = undef := (hΦ 26 rfl).1
            have g27 : (gg 27).v = (.bool true) := (hΦ 27 rfl).1
            have g28 : (gg 28).v = (.bool true) := (hΦ 28 rfl).1
            have g29 : (gg 29).v = undef := (hΦ 29 rfl).1
            have g30 : (gg 30).v = undef := (hΦ 30 rfl).1
            have g31 : (gg 31).v = undef := (hΦ 31 rfl).1
            have g32 : (gg 32).v = undef := (hΦ 32 rfl).1
            have g33 : (gg 33).v = undef := (hΦ 33 rfl).1
            have g34 : (gg 34).v = undef := (hΦ 34 rfl).1
            have g35 : (gg 35).v = (.bool true) := (hΦ 35 rfl).1
            have r := r.congr (sc g35 (sc g34 (sc g33 (sc g32 (sc g31 (sc g30 (sc g29 (sc g28 (sc g27 (sc g26 (sc g25 (sc g24 (sc g23 (sc g22 (sc g21 (sc g20 (sc g19 (sc g18 (sc g17 (sc g16 (sc g15 (sc g14 (sc g13 (sc g12 (sc g11 (sc g10 (sc g9 (sc g8 (sc g7 (sc g6 (sc g5 (sc g4 (sc g3 (sc g2 (sc g1 (sc g0 rfl))))))))))))))))))))))))))))))))))))
            have hP : Post No [cellC b1 ((planC a0)).toArray 24, cellC b5 ((stateC a2)).toArray 126, memK mg26 x34.2.2.2, cellC b37 ((stateC (D.state_State_Freed a2 a0.gen))).toArray 126, rowK 3 1 i64 v45 x43] w0 w49 := hP.below hb
            exact nxy47 true () _ _ _ hD r (hs_cons rfl (hs_cons rfl (hs_cons rfl (hs_cons rfl (hs_cons rfl (hs_cons rfl (hs_cons rfl (hs_cons rfl (hs_cons rfl (hs_cons rfl (hs_cons rfl (hs_cons rfl (hs_cons rfl (hs_cons rfl hs_nil)))))))))))))) (hP.pick [0, 1, 2, 3, 4] rfl rfl)
        · skip
          have hD := (cond_f h48).symm.trans hD
          obtain ⟨x50, hx50, hD⟩ := bindD_elim hD
          refine seq_split (x50 != (D.state_State_Word (D.state_State_Freed a2 a0.gen))) (fun h51 => ?_) (fun h51 => ?_)
          · skip
            have hD := (cond_t h51).symm.trans hD
            refine wp_freeF [.val (.bool x34.2.2.1), .val (.bool (!x34.2.2.1)), .val (.bool (!x34.2.2.1)), .val (.pointer (some ⟨mg26.mb, 0, none⟩)), .val (.agg (planC a0).toArray), .val (.int .i64 a1), .val (.int .i64 (D.plan_Plan_State a0 a1)), .val (.int .u64 x50), .val (.agg (stateC (D.state_State_Freed a2 a0.gen)).toArray), .val (.int .u64 (D.state_State_Word (D.state_State_Freed a2 a0.gen))), .val (.bool (x50 != (D.state_State_Word (D.state_State_Freed a2 a0.gen)))), .val (.bool (x50 != (D.state_State_Word (D.state_State_Freed a2 a0.gen)))), .val (.bool (x50 != (D.state_State_Word (D.state_State_Freed a2 a0.gen)))), .val undef, .val undef, .val undef, .val undef, .val undef, .val undef, .val (.bool true), .val (.bool true), .val undef, .val undef, .val undef, .val undef, .val undef, .val undef, .val (.bool true), .val (.bool true), .val undef, .val undef, .val undef, .val undef, .val undef, .val undef, .val (.bool true)] mixed r (by kernel_rfl) ?_ ?_
            · skip
              refine eachF_cons r rfl (fun fr1 g w' hb' hd r' => ?_) ?_
              · exact y_move r' (v := (.bool x34.2.2.1)) rfl ⟨Below.refl _ _, rfl⟩
              refine eachF_cons r rfl (fun fr1 g w' hb' hd r' => ?_) ?_
              · exact y_un r' (u := (.bool x34.2.2.1)) (v := (.bool (!x34.2.2.1))) (hd 0 rfl).1 rfl ⟨Below.refl _ _, rfl⟩
              refine eachF_cons r rfl (fun fr1 g w' hb' hd r' => ?_) ?_
              · exact y_move r' (v := (.bool (!x34.2.2.1))) (hd 1 rfl).1 ⟨Below.refl _ _, rfl⟩
              refine eachF_want false r rfl rfl rfl (fun g w' hd => Eq.trans (show (g 2).v = .bool (!x34.2.2.1) from (hd 2 rfl).1) (congrArg Value.bool h48)) (fun fr1 g w' hb' hd r' => ?_) ?_
              · exact y_move r' (v := (.pointer (some ⟨mg26.mb, 0, none⟩))) rfl ⟨Below.refl _ _, rfl⟩
              refine eachF_want false r rfl rfl rfl (fun g w' hd => Eq.trans (show (g 2).v = .bool (!x34.2.2.1) from (hd 2 rfl).1) (congrArg Value.bool h48)) (fun fr1 g w' hb' hd r' => ?_) ?_
              · exact y_load_agg r' (cs := (planC a0)) (n := 6) rfl ((hP.below (dr hb')).cell (i := 0) rfl) ta24 rfl ⟨Below.refl _ _, rfl⟩
              refine eachF_want false r rfl rfl rfl (fun g w' hd => Eq.trans (show (g 2).v = .bool (!x34.2.2.1) from (hd 2 rfl).1) (congrArg Value.bool h48)) (fun fr1 g w' hb' hd r' => ?_) ?_
              · exact y_move r' (v := (.int .i64 a1)) rfl ⟨Below.refl _ _, rfl⟩
              refine eachF_want false r rfl rfl rfl (fun g w' hd => Eq.trans (show (g 2).v = .bool (!x34.2.2.1) from (hd 2 rfl).1) (congrArg Value.bool h48)) (fun fr1 g w' hb' hd r' => ?_) ?_
              · exact y_call r' (args := [(.agg (planC a0).toArray), (.int .i64 a1)]) (lc (hd 4 rfl).1 (lc (hd 5 rfl).1 l0)) cl25 ((c_plan_Plan_State _ a0 a1).mono (by rintro _ w2 ⟨rfl, hb2⟩; exact ⟨_, rfl, hb2, rfl⟩))
              refine eachF_want false r rfl rfl rfl (fun g w' hd => Eq.trans (show (g 2).v = .bool (!x34.2.2.1) from (hd 2 rfl).1) (congrArg Value.bool h48)) (fun fr1 g w' hb' hd r' => ?_) ?_
              · exact y_call r' (args := [(.pointer (some ⟨mg26.mb, 0, none⟩)), (.int .i64 0), (.int .i64 (D.plan_Plan_State a0 a1))]) (lc (hd 3 rfl).1 (lc rfl (lc (hd 6 rfl).1 l0))) cl47 ((c_mem_Memory_Peek _ x34.2.2.2 ((hP.below (dr hb')).mem (i := 2) rfl) 0 (D.plan_Plan_State a0 a1) hx50).mono (by rintro _ w2 ⟨rfl, hb2⟩; exact ⟨_, rfl, hb2, rfl⟩))
              refine eachF_want false r rfl rfl rfl (fun g w' hd => Eq.trans (show (g 2).v = .bool (!x34.2.2.1) from (hd 2 rfl).1) (congrArg Value.bool h48)) (fun fr1 g w' hb' hd r' => ?_) ?_
              · exact y_load_agg r' (cs := (stateC (D.state_State_Freed a2 a0.gen))) (n := 3) rfl ((hP.below (dr hb')).cell (i := 3) rfl) ta126 rfl ⟨Below.refl _ _, rfl⟩
              refine eachF_want false r rfl rfl rfl (fun g w' hd => Eq.trans (show (g 2).v = .bool (!x34.2.2.1) from (hd 2 rfl).1) (congrArg Value.bool h48)) (fun fr1 g w' hb' hd r' => ?_) ?_
              · exact y_call r' (args := [(.agg (stateC (D.state_State_Freed a2 a0.gen)).toArray)]) (lc (hd 8 rfl).1 l0) cl74 ((c_state_State_Word _ (D.state_State_Freed a2 a0.gen)).mono (by rintro _ w2 ⟨rfl, hb2⟩; exact ⟨_, rfl, hb2, rfl⟩))
              refine eachF_want false r rfl rfl rfl (fun g w' hd => Eq.trans (show (g 2).v = .bool (!x34.2.2.1) from (hd 2 rfl).1) (congrArg Value.bool h48)) (fun fr1 g w' hb' hd r' => ?_) ?_
              · exact y_bin r' (u := (.int .u64 x50)) (u' := (.int .u64 (D.state_State_Word (D.state_State_Freed a2 a0.gen)))) (v := (.bool (x50 != (D.state_State_Word (D.state_State_Freed a2 a0.gen))))) (hd 7 rfl).1 (hd 9 rfl).1 rfl rfl ⟨Below.refl _ _, rfl⟩
              refine eachF_cons r rfl (fun fr1 g w' hb' hd r' => ?_) ?_
              · exact y_pick r' (b := false) (v := (.bool (x50 != (D.state_State_Word (D.state_State_Freed a2 a0.gen))))) (Eq.trans (show (g 2).v = .bool (!x34.2.2.1) from (hd 2 rfl).1) (congrArg Value.bool h48)) (hd 10 rfl).1 ⟨Below.refl _ _, rfl⟩
              refine eachF_cons r rfl (fun fr1 g w' hb' hd r' => ?_) ?_
              · exact y_move r' (v := (.bool (x50 != (D.state_State_Word (D.state_State_Freed a2 a0.gen))))) (hd 11 rfl).1 ⟨Below.refl _ _, rfl⟩
              refine eachF_skip false (.bool true) r rfl rfl rfl (fun g w' hd => Eq.trans (show (g 12).v = .bool (x50 != (D.state_State_Word (D.state_State_Freed a2 a0.gen))) from (hd 12 rfl).1) (congrArg Value.bool h51)) (by simp [boolOf]) (fun _ _ => ⟨Below.refl _ _, rfl⟩) ?_
              refine eachF_skip false (.bool true) r rfl rfl rfl (fun g w' hd => Eq.trans (show (g 12).v = .bool (x50 != (D.state_State_Word (D.state_State_Freed a2 a0.gen))) from (hd 12 rfl).1) (congrArg Value.bool h51)) (by simp [boolOf]) (fun _ _ => ⟨Below.refl _ _, rfl⟩) ?_
              refine eachF_skip false (.bool true) r rfl rfl rfl (fun g w' hd => Eq.trans (show (g 12).v = .bool (x50 != (D.state_State_Word (D.state_State_Freed a2 a0.gen))) from (hd 12 rfl).1) (congrArg Value.bool h51)) (by simp [boolOf]) (fun _ _ => ⟨Below.refl _ _, rfl⟩) ?_
              refine eachF_skip false (.bool true) r rfl rfl rfl (fun g w' hd => Eq.trans (show (g 12).v = .bool (x50 != (D.state_State_Word (D.state_State_Freed a2 a0.gen))) from (hd 12 rfl).1) (congrArg Value.bool h51)) (by simp [boolOf]) (fun _ _ => ⟨Below.refl _ _, rfl⟩) ?_
              refine eachF_skip false (.bool true) r rfl rfl rfl (fun g w' hd => Eq.trans (show (g 12).v = .bool (x50 != (D.state_State_Word (D.state_State_Freed a2 a0.gen))) from (hd 12 rfl).1) (congrArg Value.bool h51)) (by simp [boolOf]) (fun _ _ => ⟨Below.refl _ _, rfl⟩) ?_
              refine eachF_skip false (.bool true) r rfl rfl rfl (fun g w' hd => Eq.trans (show (g 12).v = .bool (x50 != (D.state_State_Word (D.state_State_Freed a2 a0.gen))) from (hd 12 rfl).1) (congrArg Value.bool h51)) (by simp [boolOf]) (fun _ _ => ⟨Below.refl _ _, rfl⟩) ?_
              refine eachF_cons r rfl (fun fr1 g w' hb' hd r' => ?_) ?_
              · exact y_pick r' (b := true) (v := (.bool true)) (Eq.trans (show (g 12).v = .bool (x50 != (D.state_State_Word (D.state_State_Freed a2 a0.gen))) from (hd 12 rfl).1) (congrArg Value.bool h51)) rfl ⟨Below.refl _ _, rfl⟩
              refine eachF_cons r rfl (fun fr1 g w' hb' hd r' => ?_) ?_
              · exact y_move r' (v := (.bool true)) (hd 19 rfl).1 ⟨Below.refl _ _, rfl⟩
              refine eachF_skip false (.bool true) r rfl rfl rfl (fun g w' hd => Eq.trans (show (g 20).v = .bool true from (hd 20 rfl).1) (congrArg Value.bool (rfl : true = _))) (by simp [boolOf]) (fun _ _ => ⟨Below.refl _ _, rfl⟩) ?_
              refine eachF_skip false (.bool true) r rfl rfl rfl (fun g w' hd => Eq.trans (show (g 20).v = .bool true from (hd 20 rfl).1) (congrArg Value.bool (rfl : true = _))) (by simp [boolOf]) (fun _ _ => ⟨Below.refl _ _, rfl⟩) ?_
              refine eachF_skip false (.bool true) r rfl rfl rfl (fun g w' hd => Eq.trans (show (g 20).v = .bool true from (hd 20 rfl).1) (congrArg Value.bool (rfl : true = _))) (by simp [boolOf]) (fun _ _ => ⟨Below.refl _ _, rfl⟩) ?_
              refine eachF_skip false (.bool true) r rfl rfl rfl (fun g w' hd => Eq.trans (show (g 20).v = .bool true from (hd 20 rfl).1) (congrArg Value.bool (rfl : true = _))) (by simp [boolOf]) (fun _ _ => ⟨Below.refl _ _, rfl⟩) ?_
              refine eachF_skip false (.bool true) r rfl rfl rfl (fun g w' hd => Eq.trans (show (g 20).v = .bool true from (hd 20 rfl).1) (congrArg Value.bool (rfl : true = _))) (by simp [boolOf]) (fun _ _ => ⟨Below.refl _ _, rfl⟩) ?_
              refine eachF_skip false (.bool true) r rfl rfl rfl (fun g w' hd => Eq.trans (show (g 20).v = .bool true from (hd 20 rfl).1) (congrArg Value.bool (rfl : true = _))) (by simp [boolOf]) (fun _ _ => ⟨Below.refl _ _, rfl⟩) ?_
              refine eachF_cons r rfl (fun fr1 g w' hb' hd r' => ?_) ?_
              · exact y_pick r' (b := true) (v := (.bool true)) (Eq.trans (show (g 20).v = .bool true from (hd 20 rfl).1) (congrArg Value.bool (rfl : true = _))) rfl ⟨Below.refl _ _, rfl⟩
              refine eachF_cons r rfl (fun fr1 g w' hb' hd r' => ?_) ?_
              · exact y_move r' (v := (.bool true)) (hd 27 rfl).1 ⟨Below.refl _ _, rfl⟩
              refine eachF_skip false (.bool true) r rfl rfl rfl (fun g w' hd => Eq.trans (show (g 28).v = .bool true from (hd 28 rfl).1) (congrArg Value.bool (rfl : true = _))) (by simp [boolOf]) (fun _ _ => ⟨Below.refl _ _, rfl⟩) ?_
              refine eachF_skip false (.bool true) r rfl rfl rfl (fun g w' hd => Eq.trans (show (g 28).v = .bool true from (hd 28 rfl).1) (congrArg Value.bool (rfl : true = _))) (by simp [boolOf]) (fun _ _ => ⟨Below.refl _ _, rfl⟩) ?_
              refine eachF_skip false (.bool true) r rfl rfl rfl (fun g w' hd => Eq.trans (show (g 28).v = .bool true from (hd 28 rfl).1) (congrArg Value.bool (rfl : true = _))) (by simp [boolOf]) (fun _ _ => ⟨Below.refl _ _, rfl⟩) ?_
              refine eachF_skip false (.bool true) r rfl rfl rfl (fun g w' hd => Eq.trans (show (g 28).v = .bool true from (hd 28 rfl).1) (congrArg Value.bool (rfl : true = _))) (by simp [boolOf]) (fun _ _ => ⟨Below.refl _ _, rfl⟩) ?_
              refine eachF_skip false (.bool true) r rfl rfl rfl (fun g w' hd => Eq.trans (show (g 28).v = .bool true from (hd 28 rfl).1) (congrArg Value.bool (rfl : true = _))) (by simp [boolOf]) (fun _ _ => ⟨Below.refl _ _, rfl⟩) ?_
              refine eachF_skip false (.bool true) r rfl rfl rfl (fun g w' hd => Eq.trans (show (g 28).v = .bool true from (hd 28 rfl).1) (congrArg Value.bool (rfl : true = _))) (by simp [boolOf]) (fun _ _ => ⟨Below.refl _ _, rfl⟩) ?_
              refine eachF_cons r rfl (fun fr1 g w' hb' hd r' => ?_) ?_
              · exact y_pick r' (b := true) (v := (.bool true)) (Eq.trans (show (g 28).v = .bool true from (hd 28 rfl).1) (congrArg Value.bool (rfl : true = _))) rfl ⟨Below.refl _ _, rfl⟩
              exact eachF_nil
            · skip
              intro fr gg w52 hb hΦ hap r
              have g0 : (gg 0).v = (.bool x34.2.2.1) := (hΦ 0 rfl).1
              have g1 : (gg 1).v = (.bool (!x34.2.2.1)) := (hΦ 1 rfl).1
              have g2 : (gg 2).v = (.bool (!x34.2.2.1)) := (hΦ 2 rfl).1
              have g3 : (gg 3).v = (.pointer (some ⟨mg26.mb, 0, none⟩)) := (hΦ 3 rfl).1
              have g4 : (gg 4).v = (.agg (planC a0).toArray) := (hΦ 4 rfl).1
              have g5 : (gg 5).v = (.int .i64 a1) := (hΦ 5 rfl).1
              have g6 : (gg 6).v = (.int .i64 (D.plan_Plan_State a0 a1)) := (hΦ 6 rfl).1
              have g7 : (gg 7).v = (.int .u64 x50) := (hΦ 7 rfl).1
              have g8 : (gg 8).v = (.agg (stateC (D.state_State_Freed a2 a0.gen)).toArray) := (hΦ 8 rfl).1
              have g9 : (gg 9).v = (.int .u64 (D.state_State_Word (D.state_State_Freed a2 a0.gen))) := (hΦ 9 rfl).1
              have g10 : (gg 10).v = (.bool (x50 != (D.state_State_Word (D.state_State_Freed a2 a0.gen)))) := (hΦ 10 rfl).1
              have g11 : (gg 11).v = (.bool (x50 != (D.state_State_Word (D.state_State_Freed a2 a0.gen)))) := (hΦ 11 rfl).1
              have g12 : (gg 12).v = (.bool (x50 != (D.state_State_Word (D.state_State_Freed a2 a0.gen)))) := (hΦ 12 rfl).1
              have g13 : (gg 13).v = undef := (hΦ 13 rfl).1
              have g14 : (gg 14).v = undef := (hΦ 14 rfl).1
              have g15 : (gg 15).v = undef := (hΦ 15 rfl).1
              have g16 : (gg 16).v = undef := (hΦ 16 rfl).1
              have g17 : (gg 17).v = undef := (hΦ 17 rfl).1
              have g18 : (gg 18).v = undef := (hΦ 18 rfl).1
              have g19 : (gg 19).v = (.bool true) := (hΦ 19 rfl).1
              have g20 : (gg 20).v = (.bool true) := (hΦ 20 rfl).1
              have g21 : (gg 21).v = undef := (hΦ 21 rfl).1
              have g22 : (gg 22).v = undef := (hΦ 22 rfl).1
              have g23 : (gg 23).v = undef := (hΦ 23 rfl).1
              have g24 : (gg 24).v = undef := (hΦ 24 rfl).1
              have g25 : (gg 25).v = undef := (hΦ 25 rfl).1
              have g26 : (gg 26).v = undef := (hΦ 26 rfl).1
              have g27 : (gg 27).v = (.bool true) := (hΦ 27 rfl).1
              have g28 : (gg 28).v = (.bool true) := (hΦ 28 rfl).1
              have g29 : (gg 29).v = undef := (hΦ 29 rfl).1
              have g30 : (gg 30).v = undef := (hΦ 30 rfl).1
              have g31 : (gg 31).v = undef := (hΦ 31 rfl).1
              have g32 : (gg 32).v = undef := (hΦ 32 rfl).1
              have g33 : (gg 33).v = undef := (hΦ 33 rfl).1
              have g34 : (gg 34).v = undef := (hΦ 34 rfl).1
              have g35 : (gg 35).v = (.bool true) := (hΦ 35 rfl).1
              have r := r.congr (sc g35 (sc g34 (sc g33 (sc g32 (sc g31 (sc g30 (sc g29 (sc g28 (sc g27 (sc g26 (sc g25 (sc g24 (sc g23 (sc g22 (sc g21 (sc g20 (sc g19 (sc g18 (sc g17 (sc g16 (sc g15 (sc g14 (sc g13 (sc g12 (sc g11 (sc g10 (sc g9 (sc g8 (sc g7 (sc g6 (sc g5 (sc g4 (sc g3 (sc g2 (sc g1 (sc g0 rfl))))))))))))))))))))))))))))))))))))
              have hP : Post No [cellC b1 ((planC a0)).toArray 24, cellC b5 ((stateC a2)).toArray 126, memK mg26 x34.2.2.2, cellC b37 ((stateC (D.state_State_Freed a2 a0.gen))).toArray 126, rowK 3 1 i64 v45 x43] w0 w52 := hP.below hb
              exact nxy47 true () _ _ _ hD r (hs_cons rfl (hs_cons rfl (hs_cons rfl (hs_cons rfl (hs_cons rfl (hs_cons rfl (hs_cons rfl (hs_cons rfl (hs_cons rfl (hs_cons rfl (hs_cons rfl (hs_cons rfl (hs_cons rfl (hs_cons rfl hs_nil)))))))))))))) (hP.pick [0, 1, 2, 3, 4] rfl rfl)
          · skip
            have hD := (cond_f h51).symm.trans hD
            obtain ⟨x53, hx53, hD⟩ := bindD_elim hD
            refine seq_split (x53 != 0) (fun h54 => ?_) (fun h54 => ?_)
            · skip
              have hD := (cond_t h54).symm.trans hD
              refine wp_freeF [.val (.bool x34.2.2.1), .val (.bool (!x34.2.2.1)), .val (.bool (!x34.2.2.1)), .val (.pointer (some ⟨mg26.mb, 0, none⟩)), .val (.agg (planC a0).toArray), .val (.int .i64 a1), .val (.int .i64 (D.plan_Plan_State a0 a1)), .val (.int .u64 x50), .val (.agg (stateC (D.state_State_Freed a2 a0.gen)).toArray), .val (.int .u64 (D.state_State_Word (D.state_State_Freed a2 a0.gen))), .val (.bool (x50 != (D.state_State_Word (D.state_State_Freed a2 a0.gen)))), .val (.bool (x50 != (D.state_State_Word (D.state_State_Freed a2 a0.gen)))), .val (.bool (x50 != (D.state_State_Word (D.state_State_Freed a2 a0.gen)))), .val (.pointer (some ⟨mg26.mb, 0, none⟩)), .val (.agg (planC a0).toArray), .val (.int .i64 a1), .val (.int .i64 (D.plan_Plan_Field a0 a1 0)), .val (.int .u64 x53), .val (.bool (x53 != 0)), .val (.bool (x53 != 0)), .val (.bool (x53 != 0)), .val undef, .val undef, .val undef, .val undef, .val undef, .val undef, .val (.bool true), .val (.bool true), .val undef, .val undef, .val undef, .val undef, .val undef, .val undef, .val (.bool true)] mixed r (by kernel_rfl) ?_ ?_
              · skip
                refine eachF_cons r rfl (fun fr1 g w' hb' hd r' => ?_) ?_
                · exact y_move r' (v := (.bool x34.2.2.1)) rfl ⟨Below.refl _ _, rfl⟩
                refine eachF_cons r rfl (fun fr1 g w' hb' hd r' => ?_) ?_
                · exact y_un r' (u := (.bool x34.2.2.1)) (v := (.bool (!x34.2.2.1))) (hd 0 rfl).1 rfl ⟨Below.refl _ _, rfl⟩
                refine eachF_cons r rfl (fun fr1 g w' hb' hd r' => ?_) ?_
                · exact y_move r' (v := (.bool (!x34.2.2.1))) (hd 1 rfl).1 ⟨Below.refl _ _, rfl⟩
                refine eachF_want false r rfl rfl rfl (fun g w' hd => Eq.trans (show (g 2).v = .bool (!x34.2.2.1) from (hd 2 rfl).1) (congrArg Value.bool h48)) (fun fr1 g w' hb' hd r' => ?_) ?_
                · exact y_move r' (v := (.pointer (some ⟨mg26.mb, 0, none⟩))) rfl ⟨Below.refl _ _, rfl⟩
                refine eachF_want false r rfl rfl rfl (fun g w' hd => Eq.trans (show (g 2).v = .bool (!x34.2.2.1) from (hd 2 rfl).1) (congrArg Value.bool h48)) (fun fr1 g w' hb' hd r' => ?_) ?_
                · exact y_load_agg r' (cs := (planC a0)) (n := 6) rfl ((hP.below (dr hb')).cell (i := 0) rfl) ta24 rfl ⟨Below.refl _ _, rfl⟩
                refine eachF_want false r rfl rfl rfl (fun g w' hd => Eq.trans (show (g 2).v = .bool (!x34.2.2.1) from (hd 2 rfl).1) (congrArg Value.bool h48)) (fun fr1 g w' hb' hd r' => ?_) ?_
                · exact y_move r' (v := (.int .i64 a1)) rfl ⟨Below.refl _ _, rfl⟩
                refine eachF_want false r rfl rfl rfl (fun g w' hd => Eq.trans (show (g 2).v = .bool (!x34.2.2.1) from (hd 2 rfl).1) (congrArg Value.bool h48)) (fun fr1 g w' hb' hd r' => ?_) ?_
                · exact y_call r' (args := [(.agg (planC a0).toArray), (.int .i64 a1)]) (lc (hd 4 rfl).1 (lc (hd 5 rfl).1 l0)) cl25 ((c_plan_Plan_State _ a0 a1).mono (by rintro _ w2 ⟨rfl, hb2⟩; exact ⟨_, rfl, hb2, rfl⟩))
                refine eachF_want false r rfl rfl rfl (fun g w' hd => Eq.trans (show (g 2).v = .bool (!x34.2.2.1) from (hd 2 rfl).1) (congrArg Value.bool h48)) (fun fr1 g w' hb' hd r' => ?_) ?_
                · exact y_call r' (args := [(.pointer (some ⟨mg26.mb, 0, none⟩)), (.int .i64 0), (.int .i64 (D.plan_Plan_State a0 a1))]) (lc (hd 3 rfl).1 (lc rfl (lc (hd 6 rfl).1 l0))) cl47 ((c_mem_Memory_Peek _ x34.2.2.2 ((hP.below (dr hb')).mem (i := 2) rfl) 0 (D.plan_Plan_State a0 a1) hx50).mono (by rintro _ w2 ⟨rfl, hb2⟩; exact ⟨_, rfl, hb2, rfl⟩))
                refine eachF_want false r rfl rfl rfl (fun g w' hd => Eq.trans (show (g 2).v = .bool (!x34.2.2.1) from (hd 2 rfl).1) (congrArg Value.bool h48)) (fun fr1 g w' hb' hd r' => ?_) ?_
                · exact y_load_agg r' (cs := (stateC (D.state_State_Freed a2 a0.gen))) (n := 3) rfl ((hP.below (dr hb')).cell (i := 3) rfl) ta126 rfl ⟨Below.refl _ _, rfl⟩
                refine eachF_want false r rfl rfl rfl (fun g w' hd => Eq.trans (show (g 2).v = .bool (!x34.2.2.1) from (hd 2 rfl).1) (congrArg Value.bool h48)) (fun fr1 g w' hb' hd r' => ?_) ?_
                · exact y_call r' (args := [(.agg (stateC (D.state_State_Freed a2 a0.gen)).toArray)]) (lc (hd 8 rfl).1 l0) cl74 ((c_state_State_Word _ (D.state_State_Freed a2 a0.gen)).mono (by rintro _ w2 ⟨rfl, hb2⟩; exact ⟨_, rfl, hb2, rfl⟩))
                refine eachF_want false r rfl rfl rfl (fun g w' hd => Eq.trans (show (g 2).v = .bool (!x34.2.2.1) from (hd 2 rfl).1) (congrArg Value.bool h48)) (fun fr1 g w' hb' hd r' => ?_) ?_
                · exact y_bin r' (u := (.int .u64 x50)) (u' := (.int .u64 (D.state_State_Word (D.state_State_Freed a2 a0.gen)))) (v := (.bool (x50 != (D.state_State_Word (D.state_State_Freed a2 a0.gen))))) (hd 7 rfl).1 (hd 9 rfl).1 rfl rfl ⟨Below.refl _ _, rfl⟩
                refine eachF_cons r rfl (fun fr1 g w' hb' hd r' => ?_) ?_
                · exact y_pick r' (b := false) (v := (.bool (x50 != (D.state_State_Word (D.state_State_Freed a2 a0.gen))))) (Eq.trans (show (g 2).v = .bool (!x34.2.2.1) from (hd 2 rfl).1) (congrArg Value.bool h48)) (hd 10 rfl).1 ⟨Below.refl _ _, rfl⟩
                refine eachF_cons r rfl (fun fr1 g w' hb' hd r' => ?_) ?_
                · exact y_move r' (v := (.bool (x50 != (D.state_State_Word (D.state_State_Freed a2 a0.gen))))) (hd 11 rfl).1 ⟨Below.refl _ _, rfl⟩
                refine eachF_want false r rfl rfl rfl (fun g w' hd => Eq.trans (show (g 12).v = .bool (x50 != (D.state_State_Word (D.state_State_Freed a2 a0.gen))) from (hd 12 rfl).1) (congrArg Value.bool h51)) (fun fr1 g w' hb' hd r' => ?_) ?_
                · exact y_move r' (v := (.pointer (some ⟨mg26.mb, 0, none⟩))) rfl ⟨Below.refl _ _, rfl⟩
                refine eachF_want false r rfl rfl rfl (fun g w' hd => Eq.trans (show (g 12).v = .bool (x50 != (D.state_State_Word (D.state_State_Freed a2 a0.gen))) from (hd 12 rfl).1) (congrArg Value.bool h51)) (fun fr1 g w' hb' hd r' => ?_) ?_
                · exact y_load_agg r' (cs := (planC a0)) (n := 6) rfl ((hP.below (dr hb')).cell (i := 0) rfl) ta24 rfl ⟨Below.refl _ _, rfl⟩
                refine eachF_want false r rfl rfl rfl (fun g w' hd => Eq.trans (show (g 12).v = .bool (x50 != (D.state_State_Word (D.state_State_Freed a2 a0.gen))) from (hd 12 rfl).1) (congrArg Value.bool h51)) (fun fr1 g w' hb' hd r' => ?_) ?_
                · exact y_move r' (v := (.int .i64 a1)) rfl ⟨Below.refl _ _, rfl⟩
                refine eachF_want false r rfl rfl rfl (fun g w' hd => Eq.trans (show (g 12).v = .bool (x50 != (D.state_State_Word (D.state_State_Freed a2 a0.gen))) from (hd 12 rfl).1) (congrArg Value.bool h51)) (fun fr1 g w' hb' hd r' => ?_) ?_
                · exact y_call r' (args := [(.agg (planC a0).toArray), (.int .i64 a1), (.int .i64 0)]) (lc (hd 14 rfl).1 (lc (hd 15 rfl).1 (lc rfl l0))) cl20 ((c_plan_Plan_Field _ a0 a1 0).mono (by rintro _ w2 ⟨rfl, hb2⟩; exact ⟨_, rfl, hb2, rfl⟩))
                refine eachF_want false r rfl rfl rfl (fun g w' hd => Eq.trans (show (g 12).v = .bool (x50 != (D.state_State_Word (D.state_State_Freed a2 a0.gen))) from (hd 12 rfl).1) (congrArg Value.bool h51)) (fun fr1 g w' hb' hd r' => ?_) ?_
                · exact y_call r' (args := [(.pointer (some ⟨mg26.mb, 0, none⟩)), (.int .i64 0), (.int .i64 (D.plan_Plan_Field a0 a1 0))]) (lc (hd 13 rfl).1 (lc rfl (lc (hd 16 rfl).1 l0))) cl47 ((c_mem_Memory_Peek _ x34.2.2.2 ((hP.below (dr hb')).mem (i := 2) rfl) 0 (D.plan_Plan_Field a0 a1 0) hx53).mono (by rintro _ w2 ⟨rfl, hb2⟩; exact ⟨_, rfl, hb2, rfl⟩))
                refine eachF_want false r rfl rfl rfl (fun g w' hd => Eq.trans (show (g 12).v = .bool (x50 != (D.state_State_Word (D.state_State_Freed a2 a0.gen))) from (hd 12 rfl).1) (congrArg Value.bool h51)) (fun fr1 g w' hb' hd r' => ?_) ?_
                · exact y_bin r' (u := (.int .u64 x53)) (u' := (.int .u64 0)) (v := (.bool (x53 != 0))) (hd 17 rfl).1 rfl rfl rfl ⟨Below.refl _ _, rfl⟩
                refine eachF_cons r rfl (fun fr1 g w' hb' hd r' => ?_) ?_
                · exact y_pick r' (b := false) (v := (.bool (x53 != 0))) (Eq.trans (show (g 12).v = .bool (x50 != (D.state_State_Word (D.state_State_Freed a2 a0.gen))) from (hd 12 rfl).1) (congrArg Value.bool h51)) (hd 18 rfl).1 ⟨Below.refl _ _, rfl⟩
                refine eachF_cons r rfl (fun fr1 g w' hb' hd r' => ?_) ?_
                · exact y_move r' (v := (.bool (x53 != 0))) (hd 19 rfl).1 ⟨Below.refl _ _, rfl⟩
                refine eachF_skip false (.bool true) r rfl rfl rfl (fun g w' hd => Eq.trans (show (g 20).v = .bool (x53 != 0) from (hd 20 rfl).1) (congrArg Value.bool h54)) (by simp [boolOf]) (fun _ _ => ⟨Below.refl _ _, rfl⟩) ?_
                refine eachF_skip false (.bool true) r rfl rfl rfl (fun g w' hd => Eq.trans (show (g 20).v = .bool (x53 != 0) from (hd 20 rfl).1) (congrArg Value.bool h54)) (by simp [boolOf]) (fun _ _ => ⟨Below.refl _ _, rfl⟩) ?_
                refine eachF_skip false (.bool true) r rfl rfl rfl (fun g w' hd => Eq.trans (show (g 20).v = .bool (x53 != 0) from (hd 20 rfl).1) (congrArg Value.bool h54)) (by simp [boolOf]) (fun _ _ => ⟨Below.refl _ _, rfl⟩) ?_
                refine eachF_skip false (.bool true) r rfl rfl rfl (fun g w' hd => Eq.trans (show (g 20).v = .bool (x53 != 0) from (hd 20 rfl).1) (congrArg Value.bool h54)) (by simp [boolOf]) (fun _ _ => ⟨Below.refl _ _, rfl⟩) ?_
                refine eachF_skip false (.bool true) r rfl rfl rfl (fun g w' hd => Eq.trans (show (g 20).v = .bool (x53 != 0) from (hd 20 rfl).1) (congrArg Value.bool h54)) (by simp [boolOf]) (fun _ _ => ⟨Below.refl _ _, rfl⟩) ?_
                refine eachF_skip false (.bool true) r rfl rfl rfl (fun g w' hd => Eq.trans (show (g 20).v = .bool (x53 != 0) from (hd 20 rfl).1) (congrArg Value.bool h54)) (by simp [boolOf]) (fun _ _ => ⟨Below.refl _ _, rfl⟩) ?_
                refine eachF_cons r rfl (fun fr1 g w' hb' hd r' => ?_) ?_
                · exact y_pick r' (b := true) (v := (.bool true)) (Eq.trans (show (g 20).v = .bool (x53 != 0) from (hd 20 rfl).1) (congrArg Value.bool h54)) rfl ⟨Below.refl _ _, rfl⟩
                refine eachF_cons r rfl (fun fr1 g w' hb' hd r' => ?_) ?_
                · exact y_move r' (v := (.bool true)) (hd 27 rfl).1 ⟨Below.refl _ _, rfl⟩
                refine eachF_skip false (.bool true) r rfl rfl rfl (fun g w' hd => Eq.trans (show (g 28).v = .bool true from (hd 28 rfl).1) (congrArg Value.bool (rfl : true = _))) (by simp [boolOf]) (fun _ _ => ⟨Below.refl _ _, rfl⟩) ?_
                refine eachF_skip false (.bool true) r rfl rfl rfl (fun g w' hd => Eq.trans (show (g 28).v = .bool true from (hd 28 rfl).1) (congrArg Value.bool (rfl : true = _))) (by simp [boolOf]) (fun _ _ => ⟨Below.refl _ _, rfl⟩) ?_
                refine eachF_skip false (.bool true) r rfl rfl rfl (fun g w' hd => Eq.trans (show (g 28).v = .bool true from (hd 28 rfl).1) (congrArg Value.bool (rfl : true = _))) (by simp [boolOf]) (fun _ _ => ⟨Below.refl _ _, rfl⟩) ?_
                refine eachF_skip false (.bool true) r rfl rfl rfl (fun g w' hd => Eq.trans (show (g 28).v = .bool true from (hd 28 rfl).1) (congrArg Value.bool (rfl : true = _))) (by simp [boolOf]) (fun _ _ => ⟨Below.refl _ _, rfl⟩) ?_
                refine eachF_skip false (.bool true) r rfl rfl rfl (fun g w' hd => Eq.trans (show (g 28).v = .bool true from (hd 28 rfl).1) (congrArg Value.bool (rfl : true = _))) (by simp [boolOf]) (fun _ _ => ⟨Below.refl _ _, rfl⟩) ?_
                refine eachF_skip false (.bool true) r rfl rfl rfl (fun g w' hd => Eq.trans (show (g 28).v = .bool true from (hd 28 rfl).1) (congrArg Value.bool (rfl : true = _))) (by simp [boolOf]) (fun _ _ => ⟨Below.refl _ _, rfl⟩) ?_
                refine eachF_cons r rfl (fun fr1 g w' hb' hd r' => ?_) ?_
                · exact y_pick r' (b := true) (v := (.bool true)) (Eq.trans (show (g 28).v = .bool true from (hd 28 rfl).1) (congrArg Value.bool (rfl : true = _))) rfl ⟨Below.refl _ _, rfl⟩
                exact eachF_nil
              · skip
                intro fr gg w55 hb hΦ hap r
                have g0 : (gg 0).v = (.bool x34.2.2.1) := (hΦ 0 rfl).1
                have g1 : (gg 1).v = (.bool (!x34.2.2.1)) := (hΦ 1 rfl).1
                have g2 : (gg 2).v = (.bool (!x34.2.2.1)) := (hΦ 2 rfl).1
                have g3 : (gg 3).v = (.pointer (some ⟨mg26.mb, 0, none⟩)) := (hΦ 3 rfl).1
                have g4 : (gg 4).v = (.agg (planC a0).toArray) := (hΦ 4 rfl).1
                have g5 : (gg 5).v = (.int .i64 a1) := (hΦ 5 rfl).1
                have g6 : (gg 6).v = (.int .i64 (D.plan_Plan_State a0 a1)) := (hΦ 6 rfl).1
                have g7 : (gg 7).v = (.int .u64 x50) := (hΦ 7 rfl).1
                have g8 : (gg 8).v = (.agg (stateC (D.state_State_Freed a2 a0.gen)).toArray) := (hΦ 8 rfl).1
                have g9 : (gg 9).v = (.int .u64 (D.state_State_Word (D.state_State_Freed a2 a0.gen))) := (hΦ 9 rfl).1
                have g10 : (gg 10).v = (.bool (x50 != (D.state_State_Word (D.state_State_Freed a2 a0.gen)))) := (hΦ 10 rfl).1
                have g11 : (gg 11).v = (.bool (x50 != (D.state_State_Word (D.state_State_Freed a2 a0.gen)))) := (hΦ 11 rfl).1
                have g12 : (gg 12).v = (.bool (x50 != (D.state_State_Word (D.state_State_Freed a2 a0.gen)))) := (hΦ 12 rfl).1
                have g13 : (gg 13).v = (.pointer (some ⟨mg26.mb, 0, none⟩)) := (hΦ 13 rfl).1
                have g14 : (gg 14).v = (.agg (planC a0).toArray) := (hΦ 14 rfl).1
                have g15 : (gg 15).v = (.int .i64 a1) := (hΦ 15 rfl).1
                have g16 : (gg 16).v = (.int .i64 (D.plan_Plan_Field a0 a1 0)) := (hΦ 16 rfl).1
                have g17 : (gg 17).v = (.int .u64 x53) := (hΦ 17 rfl).1
                have g18 : (gg 18).v = (.bool (x53 != 0)) := (hΦ 18 rfl).1
                have g19 : (gg 19).v = (.bool (x53 != 0)) := (hΦ 19 rfl).1
                have g20 : (gg 20).v = (.bool (x53 != 0)) := (hΦ 20 rfl).1
                have g21 : (gg 21).v = undef := (hΦ 21 rfl).1
                have g22 : (gg 22).v = undef := (hΦ 22 rfl).1
                have g23 : (gg 23).v = undef := (hΦ 23 rfl).1
                have g24 : (gg 24).v = undef := (hΦ 24 rfl).1
                have g25 : (gg 25).v = undef := (hΦ 25 rfl).1
                have g26 : (gg 26).v = undef := (hΦ 26 rfl).1
                have g27 : (gg 27).v = (.bool true) := (hΦ 27 rfl).1
                have g28 : (gg 28).v = (.bool true) := (hΦ 28 rfl).1
                have g29 : (gg 29).v = undef := (hΦ 29 rfl).1
                have g30 : (gg 30).v = undef := (hΦ 30 rfl).1
                have g31 : (gg 31).v = undef := (hΦ 31 rfl).1
                have g32 : (gg 32).v = undef := (hΦ 32 rfl).1
                have g33 : (gg 33).v = undef := (hΦ 33 rfl).1
                have g34 : (gg 34).v = undef := (hΦ 34 rfl).1
                have g35 : (gg 35).v = (.bool true) := (hΦ 35 rfl).1
                have r := r.congr (sc g35 (sc g34 (sc g33 (sc g32 (sc g31 (sc g30 (sc g29 (sc g28 (sc g27 (sc g26 (sc g25 (sc g24 (sc g23 (sc g22 (sc g21 (sc g20 (sc g19 (sc g18 (sc g17 (sc g16 (sc g15 (sc g14 (sc g13 (sc g12 (sc g11 (sc g10 (sc g9 (sc g8 (sc g7 (sc g6 (sc g5 (sc g4 (sc g3 (sc g2 (sc g1 (sc g0 rfl))))))))))))))))))))))))))))))))))))
                have hP : Post No [cellC b1 ((planC a0)).toArray 24, cellC b5 ((stateC a2)).toArray 126, memK mg26 x34.2.2.2, cellC b37 ((stateC (D.state_State_Freed a2 a0.gen))).toArray 126, rowK 3 1 i64 v45 x43] w0 w55 := hP.below hb
                exact nxy47 true () _ _ _ hD r (hs_cons rfl (hs_cons rfl (hs_cons rfl (hs_cons rfl (hs_cons rfl (hs_cons rfl (hs_cons rfl (hs_cons rfl (hs_cons rfl (hs_cons rfl (hs_cons rfl (hs_cons rfl (hs_cons rfl (hs_cons rfl hs_nil)))))))))))))) (hP.pick [0, 1, 2, 3, 4] rfl rfl)
            · skip
              have hD := (cond_f h54).symm.trans hD
              obtain ⟨x56, hx56, hD⟩ := bindD_elim hD
              refine seq_split (x56 != 0) (fun h57 => ?_) (fun h57 => ?_)
              · skip
                have hD := (cond_t h57).symm.trans hD
                refine wp_freeF [.val (.bool x34.2.2.1), .val (.bool (!x34.2.2.1)), .val (.bool (!x34.2.2.1)), .val (.pointer (some ⟨mg26.mb, 0, none⟩)), .val (.agg (planC a0).toArray), .val (.int .i64 a1), .val (.int .i64 (D.plan_Plan_State a0 a1)), .val (.int .u64 x50), .val (.agg (stateC (D.state_State_Freed a2 a0.gen)).toArray), .val (.int .u64 (D.state_State_Word (D.state_State_Freed a2 a0.gen))), .val (.bool (x50 != (D.state_State_Word (D.state_State_Freed a2 a0.gen)))), .val (.bool (x50 != (D.state_State_Word (D.state_State_Freed a2 a0.gen)))), .val (.bool (x50 != (D.state_State_Word (D.state_State_Freed a2 a0.gen)))), .val (.pointer (some ⟨mg26.mb, 0, none⟩)), .val (.agg (planC a0).toArray), .val (.int .i64 a1), .val (.int .i64 (D.plan_Plan_Field a0 a1 0)), .val (.int .u64 x53), .val (.bool (x53 != 0)), .val (.bool (x53 != 0)), .val (.bool (x53 != 0)), .val (.pointer (some ⟨mg26.mb, 0, none⟩)), .val (.agg (planC a0).toArray), .val (.int .i64 a1), .val (.int .i64 (D.plan_Plan_Field a0 a1 1)), .val (.int .u64 x56), .val (.bool (x56 != 0)), .val (.bool (x56 != 0)), .val (.bool (x56 != 0)), .val undef, .val undef, .val undef, .val undef, .val undef, .val undef, .val (.bool true)] mixed r (by kernel_rfl) ?_ ?_
                · skip
                  refine eachF_cons r rfl (fun fr1 g w' hb' hd r' => ?_) ?_
                  · exact y_move r' (v := (.bool x34.2.2.1)) rfl ⟨Below.refl _ _, rfl⟩
                  refine eachF_cons r rfl (fun fr1 g w' hb' hd r' => ?_) ?_
                  · exact y_un r' (u := (.bool x34.2.2.1)) (v := (.bool (!x34.2.2.1))) (hd 0 rfl).1 rfl ⟨Below.refl _ _, rfl⟩
                  refine eachF_cons r rfl (fun fr1 g w' hb' hd r' => ?_) ?_
                  · exact y_move r' (v := (.bool (!x34.2.2.1))) (hd 1 rfl).1 ⟨Below.refl _ _, rfl⟩
                  refine eachF_want false r rfl rfl rfl (fun g w' hd => Eq.trans (show (g 2).v = .bool (!x34.2.2.1) from (hd 2 rfl).1) (congrArg Value.bool h48)) (fun fr1 g w' hb' hd r' => ?_) ?_
                  · exact y_move r' (v := (.pointer (some ⟨mg26.mb, 0, none⟩))) rfl ⟨Below.refl _ _, rfl⟩
                  refine eachF_want false r rfl rfl rfl (fun g w' hd => Eq.trans (show (g 2).v = .bool (!x34.2.2.1) from (hd 2 rfl).1) (congrArg Value.bool h48)) (fun fr1 g w' hb' hd r' => ?_) ?_
                  · exact y_load_agg r' (cs := (planC a0)) (n := 6) rfl ((hP.below (dr hb')).cell (i := 0) rfl) ta24 rfl ⟨Below.refl _ _, rfl⟩
                  refine eachF_want false r rfl rfl rfl (fun g w' hd => Eq.trans (show (g 2).v = .bool (!x34.2.2.1) from (hd 2 rfl).1) (congrArg Value.bool h48)) (fun fr1 g w' hb' hd r' => ?_) ?_
                  · exact y_move r' (v := (.int .i64 a1)) rfl ⟨Below.refl _ _, rfl⟩
                  refine eachF_want false r rfl rfl rfl (fun g w' hd => Eq.trans (show (g 2).v = .bool (!x34.2.2.1) from (hd 2 rfl).1) (congrArg Value.bool h48)) (fun fr1 g w' hb' hd r' => ?_) ?_
                  · exact y_call r' (args := [(.agg (planC a0).toArray), (.int .i64 a1)]) (lc (hd 4 rfl).1 (lc (hd 5 rfl).1 l0)) cl25 ((c_plan_Plan_State _ a0 a1).mono (by rintro _ w2 ⟨rfl, hb2⟩; exact ⟨_, rfl, hb2, rfl⟩))
                  refine eachF_want false r rfl rfl rfl (fun g w' hd => Eq.trans (show (g 2).v = .bool (!x34.2.2.1) from (hd 2 rfl).1) (congrArg Value.bool h48)) (fun fr1 g w' hb' hd r' => ?_) ?_
                  · exact y_call r' (args := [(.pointer (some ⟨mg26.mb, 0, none⟩)), (.int .i64 0), (.int .i64 (D.plan_Plan_State a0 a1))]) (lc (hd 3 rfl).1 (lc rfl (lc (hd 6 rfl).1 l0))) cl47 ((c_mem_Memory_Peek _ x34.2.2.2 ((hP.below (dr hb')).mem (i := 2) rfl) 0 (D.plan_Plan_State a0 a1) hx50).mono (by rintro _ w2 ⟨rfl, hb2⟩; exact ⟨_, rfl, hb2, rfl⟩))
                  refine eachF_want false r rfl rfl rfl (fun g w' hd => Eq.trans (show (g 2).v = .bool (!x34.2.2.1) from (hd 2 rfl).1) (congrArg Value.bool h48)) (fun fr1 g w' hb' hd r' => ?_) ?_
                  · exact y_load_agg r' (cs := (stateC (D.state_State_Freed a2 a0.gen))) (n := 3) rfl ((hP.below (dr hb')).cell (i := 3) rfl) ta126 rfl ⟨Below.refl _ _, rfl⟩
                  refine eachF_want false r rfl rfl rfl (fun g w' hd => Eq.trans (show (g 2).v = .bool (!x34.2.2.1) from (hd 2 rfl).1) (congrArg Value.bool h48)) (fun fr1 g w' hb' hd r' => ?_) ?_
                  · exact y_call r' (args := [(.agg (stateC (D.state_State_Freed a2 a0.gen)).toArray)]) (lc (hd 8 rfl).1 l0) cl74 ((c_state_State_Word _ (D.state_State_Freed a2 a0.gen)).mono (by rintro _ w2 ⟨rfl, hb2⟩; exact ⟨_, rfl, hb2, rfl⟩))
                  refine eachF_want false r rfl rfl rfl (fun g w' hd => Eq.trans (show (g 2).v = .bool (!x34.2.2.1) from (hd 2 rfl).1) (congrArg Value.bool h48)) (fun fr1 g w' hb' hd r' => ?_) ?_
                  · exact y_bin r' (u := (.int .u64 x50)) (u' := (.int .u64 (D.state_State_Word (D.state_State_Freed a2 a0.gen)))) (v := (.bool (x50 != (D.state_State_Word (D.state_State_Freed a2 a0.gen))))) (hd 7 rfl).1 (hd 9 rfl).1 rfl rfl ⟨Below.refl _ _, rfl⟩
                  refine eachF_cons r rfl (fun fr1 g w' hb' hd r' => ?_) ?_
                  · exact y_pick r' (b := false) (v := (.bool (x50 != (D.state_State_Word (D.state_State_Freed a2 a0.gen))))) (Eq.trans (show (g 2).v = .bool (!x34.2.2.1) from (hd 2 rfl).1) (congrArg Value.bool h48)) (hd 10 rfl).1 ⟨Below.refl _ _, rfl⟩
                  refine eachF_cons r rfl (fun fr1 g w' hb' hd r' => ?_) ?_
                  · exact y_move r' (v := (.bool (x50 != (D.state_State_Word (D.state_State_Freed a2 a0.gen))))) (hd 11 rfl).1 ⟨Below.refl _ _, rfl⟩
                  refine eachF_want false r rfl rfl rfl (fun g w' hd => Eq.trans (show (g 12).v = .bool (x50 != (D.state_State_Word (D.state_State_Freed a2 a0.gen))) from (hd 12 rfl).1) (congrArg Value.bool h51)) (fun fr1 g w' hb' hd r' => ?_) ?_
                  · exact y_move r' (v := (.pointer (some ⟨mg26.mb, 0, none⟩))) rfl ⟨Below.refl _ _, rfl⟩
                  refine eachF_want false r rfl rfl rfl (fun g w' hd => Eq.trans (show (g 12).v = .bool (x50 != (D.state_State_Word (D.state_State_Freed a2 a0.gen))) from (hd 12 rfl).1) (congrArg Value.bool h51)) (fun fr1 g w' hb' hd r' => ?_) ?_
                  · exact y_load_agg r' (cs := (planC a0)) (n := 6) rfl ((hP.below (dr hb')).cell (i := 0) rfl) ta24 rfl ⟨Below.refl _ _, rfl⟩
                  refine eachF_want false r rfl rfl rfl (fun g w' hd => Eq.trans (show (g 12).v = .bool (x50 != (D.state_State_Word (D.state_State_Freed a2 a0.gen))) from (hd 12 rfl).1) (congrArg Value.bool h51)) (fun fr1 g w' hb' hd r' => ?_) ?_
                  · exact y_move r' (v := (.int .i64 a1)) rfl ⟨Below.refl _ _, rfl⟩
                  refine eachF_want false r rfl rfl rfl (fun g w' hd => Eq.trans (show (g 12).v = .bool (x50 != (D.state_State_Word (D.state_State_Freed a2 a0.gen))) from (hd 12 rfl).1) (congrArg Value.bool h51)) (fun fr1 g w' hb' hd r' => ?_) ?_
                  · exact y_call r' (args := [(.agg (planC a0).toArray), (.int .i64 a1), (.int .i64 0)]) (lc (hd 14 rfl).1 (lc (hd 15 rfl).1 (lc rfl l0))) cl20 ((c_plan_Plan_Field _ a0 a1 0).mono (by rintro _ w2 ⟨rfl, hb2⟩; exact ⟨_, rfl, hb2, rfl⟩))
                  refine eachF_want false r rfl rfl rfl (fun g w' hd => Eq.trans (show (g 12).v = .bool (x50 != (D.state_State_Word (D.state_State_Freed a2 a0.gen))) from (hd 12 rfl).1) (congrArg Value.bool h51)) (fun fr1 g w' hb' hd r' => ?_) ?_
                  · exact y_call r' (args := [(.pointer (some ⟨mg26.mb, 0, none⟩)), (.int .i64 0), (.int .i64 (D.plan_Plan_Field a0 a1 0))]) (lc (hd 13 rfl).1 (lc rfl (lc (hd 16 rfl).1 l0))) cl47 ((c_mem_Memory_Peek _ x34.2.2.2 ((hP.below (dr hb')).mem (i := 2) rfl) 0 (D.plan_Plan_Field a0 a1 0) hx53).mono (by rintro _ w2 ⟨rfl, hb2⟩; exact ⟨_, rfl, hb2, rfl⟩))
                  refine eachF_want false r rfl rfl rfl (fun g w' hd => Eq.trans (show (g 12).v = .bool (x50 != (D.state_State_Word (D.state_State_Freed a2 a0.gen))) from (hd 12 rfl).1) (congrArg Value.bool h51)) (fun fr1 g w' hb' hd r' => ?_) ?_
                  · exact y_bin r' (u := (.int .u64 x53)) (u' := (.int .u64 0)) (v := (.bool (x53 != 0))) (hd 17 rfl).1 rfl rfl rfl ⟨Below.refl _ _, rfl⟩
                  refine eachF_cons r rfl (fun fr1 g w' hb' hd r' => ?_) ?_
                  · exact y_pick r' (b := false) (v := (.bool (x53 != 0))) (Eq.trans (show (g 12).v = .bool (x50 != (D.state_State_Word (D.state_State_Freed a2 a0.gen))) from (hd 12 rfl).1) (congrArg Value.bool h51)) (hd 18 rfl).1 ⟨Below.refl _ _, rfl⟩
                  refine eachF_cons r rfl (fun fr1 g w' hb' hd r' => ?_) ?_
                  · exact y_move r' (v := (.bool (x53 != 0))) (hd 19 rfl).1 ⟨Below.refl _ _, rfl⟩
                  refine eachF_want false r rfl rfl rfl (fun g w' hd => Eq.trans (show (g 20).v = .bool (x53 != 0) from (hd 20 rfl).1) (congrArg Value.bool h54)) (fun fr1 g w' hb' hd r' => ?_) ?_
                  · exact y_move r' (v := (.pointer (some ⟨mg26.mb, 0, none⟩))) rfl ⟨Below.refl _ _, rfl⟩
                  refine eachF_want false r rfl rfl rfl (fun g w' hd => Eq.trans (show (g 20).v = .bool (x53 != 0) from (hd 20 rfl).1) (congrArg Value.bool h54)) (fun fr1 g w' hb' hd r' => ?_) ?_
                  · exact y_load_agg r' (cs := (planC a0)) (n := 6) rfl ((hP.below (dr hb')).cell (i := 0) rfl) ta24 rfl ⟨Below.refl _ _, rfl⟩
                  refine eachF_want false r rfl rfl rfl (fun g w' hd => Eq.trans (show (g 20).v = .bool (x53 != 0) from (hd 20 rfl).1) (congrArg Value.bool h54)) (fun fr1 g w' hb' hd r' => ?_) ?_
                  · exact y_move r' (v := (.int .i64 a1)) rfl ⟨Below.refl _ _, rfl⟩
                  refine eachF_want false r rfl rfl rfl (fun g w' hd => Eq.trans (show (g 20).v = .bool (x53 != 0) from (hd 20 rfl).1) (congrArg Value.bool h54)) (fun fr1 g w' hb' hd r' => ?_) ?_
                  · exact y_call r' (args := [(.agg (planC a0).toArray), (.int .i64 a1), (.int .i64 1)]) (lc (hd 22 rfl).1 (lc (hd 23 rfl).1 (lc rfl l0))) cl20 ((c_plan_Plan_Field _ a0 a1 1).mono (by rintro _ w2 ⟨rfl, hb2⟩; exact ⟨_, rfl, hb2, rfl⟩))
                  refine eachF_want false r rfl rfl rfl (fun g w' hd => Eq.trans (show (g 20).v = .bool (x53 != 0) from (hd 20 rfl).1) (congrArg Value.bool h54)) (fun fr1 g w' hb' hd r' => ?_) ?_
                  · exact y_call r' (args := [(.pointer (some ⟨mg26.mb, 0, none⟩)), (.int .i64 0), (.int .i64 (D.plan_Plan_Field a0 a1 1))]) (lc (hd 21 rfl).1 (lc rfl (lc (hd 24 rfl).1 l0))) cl47 ((c_mem_Memory_Peek _ x34.2.2.2 ((hP.below (dr hb')).mem (i := 2) rfl) 0 (D.plan_Plan_Field a0 a1 1) hx56).mono (by rintro _ w2 ⟨rfl, hb2⟩; exact ⟨_, rfl, hb2, rfl⟩))
                  refine eachF_want false r rfl rfl rfl (fun g w' hd => Eq.trans (show (g 20).v = .bool (x53 != 0) from (hd 20 rfl).1) (congrArg Value.bool h54)) (fun fr1 g w' hb' hd r' => ?_) ?_
                  · exact y_bin r' (u := (.int .u64 x56)) (u' := (.int .u64 0)) (v := (.bool (x56 != 0))) (hd 25 rfl).1 rfl rfl rfl ⟨Below.refl _ _, rfl⟩
                  refine eachF_cons r rfl (fun fr1 g w' hb' hd r' => ?_) ?_
                  · exact y_pick r' (b := false) (v := (.bool (x56 != 0))) (Eq.trans (show (g 20).v = .bool (x53 != 0) from (hd 20 rfl).1) (congrArg Value.bool h54)) (hd 26 rfl).1 ⟨Below.refl _ _, rfl⟩
                  refine eachF_cons r rfl (fun fr1 g w' hb' hd r' => ?_) ?_
                  · exact y_move r' (v := (.bool (x56 != 0))) (hd 27 rfl).1 ⟨Below.refl _ _, rfl⟩
                  refine eachF_skip false (.bool true) r rfl rfl rfl (fun g w' hd => Eq.trans (show (g 28).v = .bool (x56 != 0) from (hd 28 rfl).1) (congrArg Value.bool h57)) (by simp [boolOf]) (fun _ _ => ⟨Below.refl _ _, rfl⟩) ?_
                  refine eachF_skip false (.bool true) r rfl rfl rfl (fun g w' hd => Eq.trans (show (g 28).v = .bool (x56 != 0) from (hd 28 rfl).1) (congrArg Value.bool h57)) (by simp [boolOf]) (fun _ _ => ⟨Below.refl _ _, rfl⟩) ?_
                  refine eachF_skip false (.bool true) r rfl rfl rfl (fun g w' hd => Eq.trans (show (g 28).v = .bool (x56 != 0) from (hd 28 rfl).1) (congrArg Value.bool h57)) (by simp [boolOf]) (fun _ _ => ⟨Below.refl _ _, rfl⟩) ?_
                  refine eachF_skip false (.bool true) r rfl rfl rfl (fun g w' hd => Eq.trans (show (g 28).v = .bool (x56 != 0) from (hd 28 rfl).1) (congrArg Value.bool h57)) (by simp [boolOf]) (fun _ _ => ⟨Below.refl _ _, rfl⟩) ?_
                  refine eachF_skip false (.bool true) r rfl rfl rfl (fun g w' hd => Eq.trans (show (g 28).v = .bool (x56 != 0) from (hd 28 rfl).1) (congrArg Value.bool h57)) (by simp [boolOf]) (fun _ _ => ⟨Below.refl _ _, rfl⟩) ?_
                  refine eachF_skip false (.bool true) r rfl rfl rfl (fun g w' hd => Eq.trans (show (g 28).v = .bool (x56 != 0) from (hd 28 rfl).1) (congrArg Value.bool h57)) (by simp [boolOf]) (fun _ _ => ⟨Below.refl _ _, rfl⟩) ?_
                  refine eachF_cons r rfl (fun fr1 g w' hb' hd r' => ?_) ?_
                  · exact y_pick r' (b := true) (v := (.bool true)) (Eq.trans (show (g 28).v = .bool (x56 != 0) from (hd 28 rfl).1) (congrArg Value.bool h57)) rfl ⟨Below.refl _ _, rfl⟩
                  exact eachF_nil
                · skip
                  intro fr gg w58 hb hΦ hap r
                  have g0 : (gg 0).v = (.bool x34.2.2.1) := (hΦ 0 rfl).1
                  have g1 : (gg 1).v = (.bool (!x34.2.2.1)) := (hΦ 1 rfl).1
                  have g2 : (gg 2).v = (.bool (!x34.2.2.1)) := (hΦ 2 rfl).1
                  have g3 : (gg 3).v = (.pointer (some ⟨mg26.mb, 0, none⟩)) := (hΦ 3 rfl).1
                  have g4 : (gg 4).v = (.agg (planC a0).toArray) := (hΦ 4 rfl).1
                  have g5 : (gg 5).v = (.int .i64 a1) := (hΦ 5 rfl).1
                  have g6 : (gg 6).v = (.int .i64 (D.plan_Plan_State a0 a1)) := (hΦ 6 rfl).1
                  have g7 : (gg 7).v = (.int .u64 x50) := (hΦ 7 rfl).1
                  have g8 : (gg 8).v = (.agg (stateC (D.state_State_Freed a2 a0.gen)).toArray) := (hΦ 8 rfl).1
                  have g9 : (gg 9).v = (.int .u64 (D.state_State_Word (D.state_State_Freed a2 a0.gen))) := (hΦ 9 rfl).1
                  have g10 : (gg 10).v = (.bool (x50 != (D.state_State_Word (D.state_State_Freed a2 a0.gen)))) := (hΦ 10 rfl).1
                  have g11 : (gg 11).v = (.bool (x50 != (D.state_State_Word (D.state_State_Freed a2 a0.gen)))) := (hΦ 11 rfl).1
                  have g12 : (gg 12).v = (.bool (x50 != (D.state_State_Word (D.state_State_Freed a2 a0.gen)))) := (hΦ 12 rfl).1
                  have g13 : (gg 13).v = (.pointer (some ⟨mg26.mb, 0, none⟩)) := (hΦ 13 rfl).1
                  have g14 : (gg 14).v = (.agg (planC a0).toArray) := (hΦ 14 rfl).1
                  have g15 : (gg 15).v = (.int .i64 a1) := (hΦ 15 rfl).1
                  have g16 : (gg 16).v = (.int .i64 (D.plan_Plan_Field a0 a1 0)) := (hΦ 16 rfl).1
                  have g17 : (gg 17).v = (.int .u64 x53) := (hΦ 17 rfl).1
                  have g18 : (gg 18).v = (.bool (x53 != 0)) := (hΦ 18 rfl).1
                  have g19 : (gg 19).v = (.bool (x53 != 0)) := (hΦ 19 rfl).1
                  have g20 : (gg 20).v = (.bool (x53 != 0)) := (hΦ 20 rfl).1
                  have g21 : (gg 21).v = (.pointer (some ⟨mg26.mb, 0, none⟩)) := (hΦ 21 rfl).1
                  have g22 : (gg 22).v = (.agg (planC a0).toArray) := (hΦ 22 rfl).1
                  have g23 : (gg 23).v = (.int .i64 a1) := (hΦ 23 rfl).1
                  have g24 : (gg 24).v = (.int .i64 (D.plan_Plan_Field a0 a1 1)) := (hΦ 24 rfl).1
                  have g25 : (gg 25).v = (.int .u64 x56) := (hΦ 25 rfl).1
                  have g26 : (gg 26).v = (.bool (x56 != 0)) := (hΦ 26 rfl).1
                  have g27 : (gg 27).v = (.bool (x56 != 0)) := (hΦ 27 rfl).1
                  have g28 : (gg 28).v = (.bool (x56 != 0)) := (hΦ 28 rfl).1
                  have g29 : (gg 29).v = undef := (hΦ 29 rfl).1
                  have g30 : (gg 30).v = undef := (hΦ 30 rfl).1
                  have g31 : (gg 31).v = undef := (hΦ 31 rfl).1
                  have g32 : (gg 32).v = undef := (hΦ 32 rfl).1
                  have g33 : (gg 33).v = undef := (hΦ 33 rfl).1
                  have g34 : (gg 34).v = undef := (hΦ 34 rfl).1
                  have g35 : (gg 35).v = (.bool true) := (hΦ 35 rfl).1
                  have r := r.congr (sc g35 (sc g34 (sc g33 (sc g32 (sc g31 (sc g30 (sc g29 (sc g28 (sc g27 (sc g26 (sc g25 (sc g24 (sc g23 (sc g22 (sc g21 (sc g20 (sc g19 (sc g18 (sc g17 (sc g16 (sc g15 (sc g14 (sc g13 (sc g12 (sc g11 (sc g10 (sc g9 (sc g8 (sc g7 (sc g6 (sc g5 (sc g4 (sc g3 (sc g2 (sc g1 (sc g0 rfl))))))))))))))))))))))))))))))))))))
                  have hP : Post No [cellC b1 ((planC a0)).toArray 24, cellC b5 ((stateC a2)).toArray 126, memK mg26 x34.2.2.2, cellC b37 ((stateC (D.state_State_Freed a2 a0.gen))).toArray 126, rowK 3 1 i64 v45 x43] w0 w58 := hP.below hb
                  exact nxy47 true () _ _ _ hD r (hs_cons rfl (hs_cons rfl (hs_cons rfl (hs_cons rfl (hs_cons rfl (hs_cons rfl (hs_cons rfl (hs_cons rfl (hs_cons rfl (hs_cons rfl (hs_cons rfl (hs_cons rfl (hs_cons rfl (hs_cons rfl hs_nil)))))))))))))) (hP.pick [0, 1, 2, 3, 4] rfl rfl)
              · skip
                have hD := (cond_f h57).symm.trans hD
                obtain ⟨x59, hx59, hD⟩ := bindD_elim hD
                refine wp_freeF [.val (.bool x34.2.2.1), .val (.bool (!x34.2.2.1)), .val (.bool (!x34.2.2.1)), .val (.pointer (some ⟨mg26.mb, 0, none⟩)), .val (.agg (planC a0).toArray), .val (.int .i64 a1), .val (.int .i64 (D.plan_Plan_State a0 a1)), .val (.int .u64 x50), .val (.agg (stateC (D.state_State_Freed a2 a0.gen)).toArray), .val (.int .u64 (D.state_State_Word (D.state_State_Freed a2 a0.gen))), .val (.bool (x50 != (D.state_State_Word (D.state_State_Freed a2 a0.gen)))), .val (.bool (x50 != (D.state_State_Word (D.state_State_Freed a2 a0.gen)))), .val (.bool (x50 != (D.state_State_Word (D.state_State_Freed a2 a0.gen)))), .val (.pointer (some ⟨mg26.mb, 0, none⟩)), .val (.agg (planC a0).toArray), .val (.int .i64 a1), .val (.int .i64 (D.plan_Plan_Field a0 a1 0)), .val (.int .u64 x53), .val (.bool (x53 != 0)), .val (.bool (x53 != 0)), .val (.bool (x53 != 0)), .val (.pointer (some ⟨mg26.mb, 0, none⟩)), .val (.agg (planC a0).toArray), .val (.int .i64 a1), .val (.int .i64 (D.plan_Plan_Field a0 a1 1)), .val (.int .u64 x56), .val (.bool (x56 != 0)), .val (.bool (x56 != 0)), .val (.bool (x56 != 0)), .val (.pointer (some ⟨mg26.mb, 0, none⟩)), .val (.agg (planC a0).toArray), .val (.int .i64 a1), .val (.int .i64 (D.plan_Plan_Field a0 a1 2)), .val (.int .u64 x59), .val (.bool (x59 != 0)), .val (.bool (x59 != 0))] mixed r (by kernel_rfl) ?_ ?_
                · skip
                  refine eachF_cons r rfl (fun fr1 g w' hb' hd r' => ?_) ?_
                  · exact y_move r' (v := (.bool x34.2.2.1)) rfl ⟨Below.refl _ _, rfl⟩
                  refine eachF_cons r rfl (fun fr1 g w' hb' hd r' => ?_) ?_
                  · exact y_un r' (u := (.bool x34.2.2.1)) (v := (.bool (!x34.2.2.1))) (hd 0 rfl).1 rfl ⟨Below.refl _ _, rfl⟩
                  refine eachF_cons r rfl (fun fr1 g w' hb' hd r' => ?_) ?_
                  · exact y_move r' (v := (.bool (!x34.2.2.1))) (hd 1 rfl).1 ⟨Below.refl _ _, rfl⟩
                  refine eachF_want false r rfl rfl rfl (fun g w' hd => Eq.trans (show (g 2).v = .bool (!x34.2.2.1) from (hd 2 rfl).1) (congrArg Value.bool h48)) (fun fr1 g w' hb' hd r' => ?_) ?_
                  · exact y_move r' (v := (.pointer (some ⟨mg26.mb, 0, none⟩))) rfl ⟨Below.refl _ _, rfl⟩
                  refine eachF_want false r rfl rfl rfl (fun g w' hd => Eq.trans (show (g 2).v = .bool (!x34.2.2.1) from (hd 2 rfl).1) (congrArg Value.bool h48)) (fun fr1 g w' hb' hd r' => ?_) ?_
                  · exact y_load_agg r' (cs := (planC a0)) (n := 6) rfl ((hP.below (dr hb')).cell (i := 0) rfl) ta24 rfl ⟨Below.refl _ _, rfl⟩
                  refine eachF_want false r rfl rfl rfl (fun g w' hd => Eq.trans (show (g 2).v = .bool (!x34.2.2.1) from (hd 2 rfl).1) (congrArg Value.bool h48)) (fun fr1 g w' hb' hd r' => ?_) ?_
                  · exact y_move r' (v := (.int .i64 a1)) rfl ⟨Below.refl _ _, rfl⟩
                  refine eachF_want false r rfl rfl rfl (fun g w' hd => Eq.trans (show (g 2).v = .bool (!x34.2.2.1) from (hd 2 rfl).1) (congrArg Value.bool h48)) (fun fr1 g w' hb' hd r' => ?_) ?_
                  · exact y_call r' (args := [(.agg (planC a0).toArray), (.int .i64 a1)]) (lc (hd 4 rfl).1 (lc (hd 5 rfl).1 l0)) cl25 ((c_plan_Plan_State _ a0 a1).mono (by rintro _ w2 ⟨rfl, hb2⟩; exact ⟨_, rfl, hb2, rfl⟩))
                  refine eachF_want false r rfl rfl rfl (fun g w' hd => Eq.trans (show (g 2).v = .bool (!x34.2.2.1) from (hd 2 rfl).1) (congrArg Value.bool h48)) (fun fr1 g w' hb' hd r' => ?_) ?_
                  · exact y_call r' (args := [(.pointer (some ⟨mg26.mb, 0, none⟩)), (.int .i64 0), (.int .i64 (D.plan_Plan_State a0 a1))]) (lc (hd 3 rfl).1 (lc rfl (lc (hd 6 rfl).1 l0))) cl47 ((c_mem_Memory_Peek _ x34.2.2.2 ((hP.below (dr hb')).mem (i := 2) rfl) 0 (D.plan_Plan_State a0 a1) hx50).mono (by rintro _ w2 ⟨rfl, hb2⟩; exact ⟨_, rfl, hb2, rfl⟩))
                  refine eachF_want false r rfl rfl rfl (fun g w' hd => Eq.trans (show (g 2).v = .bool (!x34.2.2.1) from (hd 2 rfl).1) (congrArg Value.bool h48)) (fun fr1 g w' hb' hd r' => ?_) ?_
                  · exact y_load_agg r' (cs := (stateC (D.state_State_Freed a2 a0.gen))) (n := 3) rfl ((hP.below (dr hb')).cell (i := 3) rfl) ta126 rfl ⟨Below.refl _ _, rfl⟩
                  refine eachF_want false r rfl rfl rfl (fun g w' hd => Eq.trans (show (g 2).v = .bool (!x34.2.2.1) from (hd 2 rfl).1) (congrArg Value.bool h48)) (fun fr1 g w' hb' hd r' => ?_) ?_
                  · exact y_call r' (args := [(.agg (stateC (D.state_State_Freed a2 a0.gen)).toArray)]) (lc (hd 8 rfl).1 l0) cl74 ((c_state_State_Word _ (D.state_State_Freed a2 a0.gen)).mono (by rintro _ w2 ⟨rfl, hb2⟩; exact ⟨_, rfl, hb2, rfl⟩))
                  refine eachF_want false r rfl rfl rfl (fun g w' hd => Eq.trans (show (g 2).v = .bool (!x34.2.2.1) from (hd 2 rfl).1) (congrArg Value.bool h48)) (fun fr1 g w' hb' hd r' => ?_) ?_
                  · exact y_bin r' (u := (.int .u64 x50)) (u' := (.int .u64 (D.state_State_Word (D.state_State_Freed a2 a0.gen)))) (v := (.bool (x50 != (D.state_State_Word (D.state_State_Freed a2 a0.gen))))) (hd 7 rfl).1 (hd 9 rfl).1 rfl rfl ⟨Below.refl _ _, rfl⟩
                  refine eachF_cons r rfl (fun fr1 g w' hb' hd r' => ?_) ?_
                  · exact y_pick r' (b := false) (v := (.bool (x50 != (D.state_State_Word (D.state_State_Freed a2 a0.gen))))) (Eq.trans (show (g 2).v = .bool (!x34.2.2.1) from (hd 2 rfl).1) (congrArg Value.bool h48)) (hd 10 rfl).1 ⟨Below.refl _ _, rfl⟩
                  refine eachF_cons r rfl (fun fr1 g w' hb' hd r' => ?_) ?_
                  · exact y_move r' (v := (.bool (x50 != (D.state_State_Word (D.state_State_Freed a2 a0.gen))))) (hd 11 rfl).1 ⟨Below.refl _ _, rfl⟩
                  refine eachF_want false r rfl rfl rfl (fun g w' hd => Eq.trans (show (g 12).v = .bool (x50 != (D.state_State_Word (D.state_State_Freed a2 a0.gen))) from (hd 12 rfl).1) (congrArg Value.bool h51)) (fun fr1 g w' hb' hd r' => ?_) ?_
                  · exact y_move r' (v := (.pointer (some ⟨mg26.mb, 0, none⟩))) rfl ⟨Below.refl _ _, rfl⟩
                  refine eachF_want false r rfl rfl rfl (fun g w' hd => Eq.trans (show (g 12).v = .bool (x50 != (D.state_State_Word (D.state_State_Freed a2 a0.gen))) from (hd 12 rfl).1) (congrArg Value.bool h51)) (fun fr1 g w' hb' hd r' => ?_) ?_
                  · exact y_load_agg r' (cs := (planC a0)) (n := 6) rfl ((hP.below (dr hb')).cell (i := 0) rfl) ta24 rfl ⟨Below.refl _ _, rfl⟩
                  refine eachF_want false r rfl rfl rfl (fun g w' hd => Eq.trans (show (g 12).v = .bool (x50 != (D.state_State_Word (D.state_State_Freed a2 a0.gen))) from (hd 12 rfl).1) (congrArg Value.bool h51)) (fun fr1 g w' hb' hd r' => ?_) ?_
                  · exact y_move r' (v := (.int .i64 a1)) rfl ⟨Below.refl _ _, rfl⟩
                  refine eachF_want false r rfl rfl rfl (fun g w' hd => Eq.trans (show (g 12).v = .bool (x50 != (D.state_State_Word (D.state_State_Freed a2 a0.gen))) from (hd 12 rfl).1) (congrArg Value.bool h51)) (fun fr1 g w' hb' hd r' => ?_) ?_
                  · exact y_call r' (args := [(.agg (planC a0).toArray), (.int .i64 a1), (.int .i64 0)]) (lc (hd 14 rfl).1 (lc (hd 15 rfl).1 (lc rfl l0))) cl20 ((c_plan_Plan_Field _ a0 a1 0).mono (by rintro _ w2 ⟨rfl, hb2⟩; exact ⟨_, rfl, hb2, rfl⟩))
                  refine eachF_want false r rfl rfl rfl (fun g w' hd => Eq.trans (show (g 12).v = .bool (x50 != (D.state_State_Word (D.state_State_Freed a2 a0.gen))) from (hd 12 rfl).1) (congrArg Value.bool h51)) (fun fr1 g w' hb' hd r' => ?_) ?_
                  · exact y_call r' (args := [(.pointer (some ⟨mg26.mb, 0, none⟩)), (.int .i64 0), (.int .i64 (D.plan_Plan_Field a0 a1 0))]) (lc (hd 13 rfl).1 (lc rfl (lc (hd 16 rfl).1 l0))) cl47 ((c_mem_Memory_Peek _ x34.2.2.2 ((hP.below (dr hb')).mem (i := 2) rfl) 0 (D.plan_Plan_Field a0 a1 0) hx53).mono (by rintro _ w2 ⟨rfl, hb2⟩; exact ⟨_, rfl, hb2, rfl⟩))
                  refine eachF_want false r rfl rfl rfl (fun g w' hd => Eq.trans (show (g 12).v = .bool (x50 != (D.state_State_Word (D.state_State_Freed a2 a0.gen))) from (hd 12 rfl).1) (congrArg Value.bool h51)) (fun fr1 g w' hb' hd r' => ?_) ?_
                  · exact y_bin r' (u := (.int .u64 x53)) (u' := (.int .u64 0)) (v := (.bool (x53 != 0))) (hd 17 rfl).1 rfl rfl rfl ⟨Below.refl _ _, rfl⟩
                  refine eachF_cons r rfl (fun fr1 g w' hb' hd r' => ?_) ?_
                  · exact y_pick r' (b := false) (v := (.bool (x53 != 0))) (Eq.trans (show (g 12).v = .bool (x50 != (D.state_State_Word (D.state_State_Freed a2 a0.gen))) from (hd 12 rfl).1) (congrArg Value.bool h51)) (hd 18 rfl).1 ⟨Below.refl _ _, rfl⟩
                  refine eachF_cons r rfl (fun fr1 g w' hb' hd r' => ?_) ?_
                  · exact y_move r' (v := (.bool (x53 != 0))) (hd 19 rfl).1 ⟨Below.refl _ _, rfl⟩
                  refine eachF_want false r rfl rfl rfl (fun g w' hd => Eq.trans (show (g 20).v = .bool (x53 != 0) from (hd 20 rfl).1) (congrArg Value.bool h54)) (fun fr1 g w' hb' hd r' => ?_) ?_
                  · exact y_move r' (v := (.pointer (some ⟨mg26.mb, 0, none⟩))) rfl ⟨Below.refl _ _, rfl⟩
                  refine eachF_want false r rfl rfl rfl (fun g w' hd => Eq.trans (show (g 20).v = .bool (x53 != 0) from (hd 20 rfl).1) (congrArg Value.bool h54)) (fun fr1 g w' hb' hd r' => ?_) ?_
                  · exact y_load_agg r' (cs := (planC a0)) (n := 6) rfl ((hP.below (dr hb')).cell (i := 0) rfl) ta24 rfl ⟨Below.refl _ _, rfl⟩
                  refine eachF_want false r rfl rfl rfl (fun g w' hd => Eq.trans (show (g 20).v = .bool (x53 != 0) from (hd 20 rfl).1) (congrArg Value.bool h54)) (fun fr1 g w' hb' hd r' => ?_) ?_
                  · exact y_move r' (v := (.int .i64 a1)) rfl ⟨Below.refl _ _, rfl⟩
                  refine eachF_want false r rfl rfl rfl (fun g w' hd => Eq.trans (show (g 20).v = .bool (x53 != 0) from (hd 20 rfl).1) (congrArg Value.bool h54)) (fun fr1 g w' hb' hd r' => ?_) ?_
                  · exact y_call r' (args := [(.agg (planC a0).toArray), (.int .i64 a1), (.int .i64 1)]) (lc (hd 22 rfl).1 (lc (hd 23 rfl).1 (lc rfl l0))) cl20 ((c_plan_Plan_Field _ a0 a1 1).mono (by rintro _ w2 ⟨rfl, hb2⟩; exact ⟨_, rfl, hb2, rfl⟩))
                  refine eachF_want false r rfl rfl rfl (fun g w' hd => Eq.trans (show (g 20).v = .bool (x53 != 0) from (hd 20 rfl).1) (congrArg Value.bool h54)) (fun fr1 g w' hb' hd r' => ?_) ?_
                  · exact y_call r' (args := [(.pointer (some ⟨mg26.mb, 0, none⟩)), (.int .i64 0), (.int .i64 (D.plan_Plan_Field a0 a1 1))]) (lc (hd 21 rfl).1 (lc rfl (lc (hd 24 rfl).1 l0))) cl47 ((c_mem_Memory_Peek _ x34.2.2.2 ((hP.below (dr hb')).mem (i := 2) rfl) 0 (D.plan_Plan_Field a0 a1 1) hx56).mono (by rintro _ w2 ⟨rfl, hb2⟩; exact ⟨_, rfl, hb2, rfl⟩))
                  refine eachF_want false r rfl rfl rfl (fun g w' hd => Eq.trans (show (g 20).v = .bool (x53 != 0) from (hd 20 rfl).1) (congrArg Value.bool h54)) (fun fr1 g w' hb' hd r' => ?_) ?_
                  · exact y_bin r' (u := (.int .u64 x56)) (u' := (.int .u64 0)) (v := (.bool (x56 != 0))) (hd 25 rfl).1 rfl rfl rfl ⟨Below.refl _ _, rfl⟩
                  refine eachF_cons r rfl (fun fr1 g w' hb' hd r' => ?_) ?_
                  · exact y_pick r' (b := false) (v := (.bool (x56 != 0))) (Eq.trans (show (g 20).v = .bool (x53 != 0) from (hd 20 rfl).1) (congrArg Value.bool h54)) (hd 26 rfl).1 ⟨Below.refl _ _, rfl⟩
                  refine eachF_cons r rfl (fun fr1 g w' hb' hd r' => ?_) ?_
                  · exact y_move r' (v := (.bool (x56 != 0))) (hd 27 rfl).1 ⟨Below.refl _ _, rfl⟩
                  refine eachF_want false r rfl rfl rfl (fun g w' hd => Eq.trans (show (g 28).v = .bool (x56 != 0) from (hd 28 rfl).1) (congrArg Value.bool h57)) (fun fr1 g w' hb' hd r' => ?_) ?_
                  · exact y_move r' (v := (.pointer (some ⟨mg26.mb, 0, none⟩))) rfl ⟨Below.refl _ _, rfl⟩
                  refine eachF_want false r rfl rfl rfl (fun g w' hd => Eq.trans (show (g 28).v = .bool (x56 != 0) from (hd 28 rfl).1) (congrArg Value.bool h57)) (fun fr1 g w' hb' hd r' => ?_) ?_
                  · exact y_load_agg r' (cs := (planC a0)) (n := 6) rfl ((hP.below (dr hb')).cell (i := 0) rfl) ta24 rfl ⟨Below.refl _ _, rfl⟩
                  refine eachF_want false r rfl rfl rfl (fun g w' hd => Eq.trans (show (g 28).v = .bool (x56 != 0) from (hd 28 rfl).1) (congrArg Value.bool h57)) (fun fr1 g w' hb' hd r' => ?_) ?_
                  · exact y_move r' (v := (.int .i64 a1)) rfl ⟨Below.refl _ _, rfl⟩
                  refine eachF_want false r rfl rfl rfl (fun g w' hd => Eq.trans (show (g 28).v = .bool (x56 != 0) from (hd 28 rfl).1) (congrArg Value.bool h57)) (fun fr1 g w' hb' hd r' => ?_) ?_
                  · exact y_call r' (args := [(.agg (planC a0).toArray), (.int .i64 a1), (.int .i64 2)]) (lc (hd 30 rfl).1 (lc (hd 31 rfl).1 (lc rfl l0))) cl20 ((c_plan_Plan_Field _ a0 a1 2).mono (by rintro _ w2 ⟨rfl, hb2⟩; exact ⟨_, rfl, hb2, rfl⟩))
                  refine eachF_want false r rfl rfl rfl (fun g w' hd => Eq.trans (show (g 28).v = .bool (x56 != 0) from (hd 28 rfl).1) (congrArg Value.bool h57)) (fun fr1 g w' hb' hd r' => ?_) ?_
                  · exact y_call r' (args := [(.pointer (some ⟨mg26.mb, 0, none⟩)), (.int .i64 0), (.int .i64 (D.plan_Plan_Field a0 a1 2))]) (lc (hd 29 rfl).1 (lc rfl (lc (hd 32 rfl).1 l0))) cl47 ((c_mem_Memory_Peek _ x34.2.2.2 ((hP.below (dr hb')).mem (i := 2) rfl) 0 (D.plan_Plan_Field a0 a1 2) hx59).mono (by rintro _ w2 ⟨rfl, hb2⟩; exact ⟨_, rfl, hb2, rfl⟩))
                  refine eachF_want false r rfl rfl rfl (fun g w' hd => Eq.trans (show (g 28).v = .bool (x56 != 0) from (hd 28 rfl).1) (congrArg Value.bool h57)) (fun fr1 g w' hb' hd r' => ?_) ?_
                  · exact y_bin r' (u := (.int .u64 x59)) (u' := (.int .u64 0)) (v := (.bool (x59 != 0))) (hd 33 rfl).1 rfl rfl rfl ⟨Below.refl _ _, rfl⟩
                  refine eachF_cons r rfl (fun fr1 g w' hb' hd r' => ?_) ?_
                  · exact y_pick r' (b := false) (v := (.bool (x59 != 0))) (Eq.trans (show (g 28).v = .bool (x56 != 0) from (hd 28 rfl).1) (congrArg Value.bool h57)) (hd 34 rfl).1 ⟨Below.refl _ _, rfl⟩
                  exact eachF_nil
                · skip
                  intro fr gg w60 hb hΦ hap r
                  have g0 : (gg 0).v = (.bool x34.2.2.1) := (hΦ 0 rfl).1
                  have g1 : (gg 1).v = (.bool (!x34.2.2.1)) := (hΦ 1 rfl).1
                  have g2 : (gg 2).v = (.bool (!x34.2.2.1)) := (hΦ 2 rfl).1
                  have g3 : (gg 3).v = (.pointer (some ⟨mg26.mb, 0, none⟩)) := (hΦ 3 rfl).1
                  have g4 : (gg 4).v = (.agg (planC a0).toArray) := (hΦ 4 rfl).1
                  have g5 : (gg 5).v = (.int .i64 a1) := (hΦ 5 rfl).1
                  have g6 : (gg 6).v = (.int .i64 (D.plan_Plan_State a0 a1)) := (hΦ 6 rfl).1
                  have g7 : (gg 7).v = (.int .u64 x50) := (hΦ 7 rfl).1
                  have g8 : (gg 8).v = (.agg (stateC (D.state_State_Freed a2 a0.gen)).toArray) := (hΦ 8 rfl).1
                  have g9 : (gg 9).v = (.int .u64 (D.state_State_Word (D.state_State_Freed a2 a0.gen))) := (hΦ 9 rfl).1
                  have g10 : (gg 10).v = (.bool (x50 != (D.state_State_Word (D.state_State_Freed a2 a0.gen)))) := (hΦ 10 rfl).1
                  have g11 : (gg 11).v = (.bool (x50 != (D.state_State_Word (D.state_State_Freed a2 a0.gen)))) := (hΦ 11 rfl).1
                  have g12 : (gg 12).v = (.bool (x50 != (D.state_State_Word (D.state_State_Freed a2 a0.gen)))) := (hΦ 12 rfl).1
                  have g13 : (gg 13).v = (.pointer (some ⟨mg26.mb, 0, none⟩)) := (hΦ 13 rfl).1
                  have g14 : (gg 14).v = (.agg (planC a0).toArray) := (hΦ 14 rfl).1
                  have g15 : (gg 15).v = (.int .i64 a1) := (hΦ 15 rfl).1
                  have g16 : (gg 16).v = (.int .i64 (D.plan_Plan_Field a0 a1 0)) := (hΦ 16 rfl).1
                  have g17 : (gg 17).v = (.int .u64 x53) := (hΦ 17 rfl).1
                  have g18 : (gg 18).v = (.bool (x53 != 0)) := (hΦ 18 rfl).1
                  have g19 : (gg 19).v = (.bool (x53 != 0)) := (hΦ 19 rfl).1
                  have g20 : (gg 20).v = (.bool (x53 != 0)) := (hΦ 20 rfl).1
                  have g21 : (gg 21).v = (.pointer (some ⟨mg26.mb, 0, none⟩)) := (hΦ 21 rfl).1
                  have g22 : (gg 22).v = (.agg (planC a0).toArray) := (hΦ 22 rfl).1
                  have g23 : (gg 23).v = (.int .i64 a1) := (hΦ 23 rfl).1
                  have g24 : (gg 24).v = (.int .i64 (D.plan_Plan_Field a0 a1 1)) := (hΦ 24 rfl).1
                  have g25 : (gg 25).v = (.int .u64 x56) := (hΦ 25 rfl).1
                  have g26 : (gg 26).v = (.bool (x56 != 0)) := (hΦ 26 rfl).1
                  have g27 : (gg 27).v = (.bool (x56 != 0)) := (hΦ 27 rfl).1
                  have g28 : (gg 28).v = (.bool (x56 != 0)) := (hΦ 28 rfl).1
                  have g29 : (gg 29).v = (.pointer (some ⟨mg26.mb, 0, none⟩)) := (hΦ 29 rfl).1
                  have g30 : (gg 30).v = (.agg (planC a0).toArray) := (hΦ 30 rfl).1
                  have g31 : (gg 31).v = (.int .i64 a1) := (hΦ 31 rfl).1
                  have g32 : (gg 32).v = (.int .i64 (D.plan_Plan_Field a0 a1 2)) := (hΦ 32 rfl).1
                  have g33 : (gg 33).v = (.int .u64 x59) := (hΦ 33 rfl).1
                  have g34 : (gg 34).v = (.bool (x59 != 0)) := (hΦ 34 rfl).1
                  have g35 : (gg 35).v = (.bool (x59 != 0)) := (hΦ 35 rfl).1
                  have r := r.congr (sc g35 (sc g34 (sc g33 (sc g32 (sc g31 (sc g30 (sc g29 (sc g28 (sc g27 (sc g26 (sc g25 (sc g24 (sc g23 (sc g22 (sc g21 (sc g20 (sc g19 (sc g18 (sc g17 (sc g16 (sc g15 (sc g14 (sc g13 (sc g12 (sc g11 (sc g10 (sc g9 (sc g8 (sc g7 (sc g6 (sc g5 (sc g4 (sc g3 (sc g2 (sc g1 (sc g0 rfl))))))))))))))))))))))))))))))))))))
                  have hP : Post No [cellC b1 ((planC a0)).toArray 24, cellC b5 ((stateC a2)).toArray 126, memK mg26 x34.2.2.2, cellC b37 ((stateC (D.state_State_Freed a2 a0.gen))).toArray 126, rowK 3 1 i64 v45 x43] w0 w60 := hP.below hb
                  exact nxy47 (x59 != 0) () _ _ _ hD r (hs_cons rfl (hs_cons rfl (hs_cons rfl (hs_cons rfl (hs_cons rfl (hs_cons rfl (hs_cons rfl (hs_cons rfl (hs_cons rfl (hs_cons rfl (hs_cons rfl (hs_cons rfl (hs_cons rfl (hs_cons rfl hs_nil)))))))))))))) (hP.pick [0, 1, 2, 3, 4] rfl rfl)
      · skip
        rintro x61 γ62 fr w63 g r hP hD
        have hP : Post No [cellC b1 ((planC a0)).toArray 24, cellC b5 ((stateC a2)).toArray 126, memK mg26 x34.2.2.2, cellC b37 ((stateC (D.state_State_Freed a2 a0.gen))).toArray 126, rowK 3 1 i64 v45 x43] w0 w63 := hP
        refine wp_cond_split (t := x61) (r.ev rfl) (fun h64 => ?_) (fun h64 => ?_)
        · skip
          have hD := (cond_t h64).symm.trans hD
          refine wp_seq ?_
          refine wp_region_lit ?_
          refine seq_val (.bool false) r (fun R => y_assign r rfl) rfl fun fr r => ?_
          refine wpList_nil ?_
          refine wp_ret ?_
          have hv : false = res := Option.some.inj hD
          try dsimp only [Exit.then, Exit.inBlock]
          refine ret_tmp (fn := Try.f17) r (t := 6) rfl (v := (.bool false)) rfl ?_
          subst hv
          exact ⟨rfl, hP.chg.below⟩
        · skip
          have hD := (cond_f h64).symm.trans hD
          refine wp_skip ?_
          refine wp_seq ?_
          refine wp_seq ?_
          refine wp_region_lit ?_
          refine seq_val (.pointer (some ⟨b37, 1, none⟩)) r (fun R => y_fieldAddr r (o := 0) rfl fo126_1) rfl fun fr r => ?_
          refine seq_val (.int .i64 (D.state_State_Freed a2 a0.gen).mode) r (fun R => y_load_one r (v := (.int .i64 (D.state_State_Freed a2 a0.gen).mode)) rfl (hP.cell (i := 3) rfl) to3 rfl) rfl fun fr r => ?_
          refine seq_val (.bool (((D.state_State_Freed a2 a0.gen).mode) == 3)) r (fun R => y_bin r (u := (.int .i64 (D.state_State_Freed a2 a0.gen).mode)) (u' := (.int .i64 3)) rfl rfl rfl rfl) rfl fun fr r => ?_
          refine wpList_nil ?_
          refine wp_cond_split (t := (((D.state_State_Freed a2 a0.gen).mode) == 3)) (r.ev rfl) (fun h65 => ?_) (fun h65 => ?_)
          · skip
            have hD := (cond_t h65).symm.trans hD
            refine wp_seq ?_
            refine wp_joinG (N := 120) (Y := Bool) (G := Unit) (fun x γ => [(0, (.agg (planC a0).toArray)), (1, (.int .i64 a1)), (2, (.agg (stateC a2).toArray)), (3, (.pointer (some ⟨b1, 0, none⟩))), (5, (.pointer (some ⟨b5, 0, none⟩))), (34, (.bool x18)), (7, (.pointer (some ⟨mg26.mb, 0, none⟩))), (40, (.bool false)), (8, (.int .i64 x34.1)), (10, (.bool x34.2.2.1)), (11, (.pointer (some ⟨b37, 0, none⟩))), (12, v45), (94, (.bool x61)), (97, (.bool (((D.state_State_Freed a2 a0.gen).mode) == 3))), (6, (.bool x))]) (fun x γ w => Post No [cellC b1 ((planC a0)).toArray 24, cellC b5 ((stateC a2)).toArray 126, memK mg26 x34.2.2.2, cellC b37 ((stateC (D.state_State_Freed a2 a0.gen))).toArray 126, rowK 3 1 i64 v45 x43] w0 w) hD ?_ ?_
            · skip
              rintro y66 RPy66 nxy66 hD
              refine wp_region_lit ?_
              refine seq_val (.int .i64 x34.1) r (fun R => y_move r rfl) rfl fun fr r => ?_
              refine seq_val (.bool (x34.1 == (-1))) r (fun R => y_bin r (u := (.int .i64 x34.1)) (u' := (.int .i64 (-1))) rfl rfl rfl rfl) rfl fun fr r => ?_
              refine seq_val (.bool (x34.1 == (-1))) r (fun R => y_move r rfl) rfl fun fr r => ?_
              refine seq_split (x34.1 == (-1)) (fun h67 => ?_) (fun h67 => ?_)
              · skip
                have hD := (cond_t h67).symm.trans hD
                refine seq_want r rfl rfl rfl (congrArg Value.bool h67) ?_
                refine seq_val v45 r (fun R => y_move r rfl) rfl fun fr r => ?_
                refine seq_want r rfl rfl rfl (congrArg Value.bool h67) ?_
                refine seq_val (.int .i64 (x43.length : Int)) r (fun R => y_rowLen r (hP.row (i := 4) rfl).ro is36 rfl) rfl fun fr r => ?_
                refine seq_want r rfl rfl rfl (congrArg Value.bool h67) ?_
                refine seq_val (.bool ((x43.length : Int) == 0)) r (fun R => y_bin r (u := (.int .i64 (x43.length : Int))) (u' := (.int .i64 0)) rfl rfl rfl rfl) rfl fun fr r => ?_
                refine seq_val (.bool ((x43.length : Int) == 0)) r (fun R => y_pick r (b := true) (congrArg Value.bool h67) rfl) rfl fun fr r => ?_
                refine seq_val (.bool ((x43.length : Int) == 0)) r (fun R => y_assign r rfl) rfl fun fr r => ?_
                refine wpList_nil ?_
                exact nxy66 ((x43.length : Int) == 0) () _ _ _ hD r (hs_cons rfl (hs_cons rfl (hs_cons rfl (hs_cons rfl (hs_cons rfl (hs_cons rfl (hs_cons rfl (hs_cons rfl (hs_cons rfl (hs_cons rfl (hs_cons rfl (hs_cons rfl (hs_cons rfl (hs_cons rfl (hs_cons rfl hs_nil))))))))))))))) (hP.pick [0, 1, 2, 3, 4] rfl rfl)
              · skip
                have hD := (cond_f h67).symm.trans hD
                refine seq_skip r rfl rfl rfl (v := .bool false) (congrArg Value.bool h67) (by simp [boolOf]) fun fr r => ?_
                refine seq_skip r rfl rfl rfl (v := .bool false) (congrArg Value.bool h67) (by simp [boolOf]) fun fr r => ?_
                refine seq_skip r rfl rfl rfl (v := .bool false) (congrArg Value.bool h67) (by simp [boolOf]) fun fr r => ?_
                refine seq_val (.bool false) r (fun R => y_pick r (b := false) (congrArg Value.bool h67) rfl) rfl fun fr r => ?_
                refine seq_val (.bool false) r (fun R => y_assign r rfl) rfl fun fr r => ?_
                refine wpList_nil ?_
                exact nxy66 false () _ _ _ hD r (hs_cons rfl (hs_cons rfl (hs_cons rfl (hs_cons rfl (hs_cons rfl (hs_cons rfl (hs_cons rfl (hs_cons rfl (hs_cons rfl (hs_cons rfl (hs_cons rfl (hs_cons rfl (hs_cons rfl (hs_cons rfl (hs_cons rfl hs_nil))))))))))))))) (hP.pick [0, 1, 2, 3, 4] rfl rfl)
            · skip
              rintro x68 γ69 fr w70 g r hP hD
              have hP : Post No [cellC b1 ((planC a0)).toArray 24, cellC b5 ((stateC a2)).toArray 126, memK mg26 x34.2.2.2, cellC b37 ((stateC (D.state_State_Freed a2 a0.gen))).toArray 126, rowK 3 1 i64 v45 x43] w0 w70 := hP
              refine wp_ret ?_
              have hv : x68 = res := Option.some.inj hD
              try dsimp only [Exit.then, Exit.inBlock]
              refine ret_tmp (fn := Try.f17) r (t := 6) rfl (v := (.bool x68)) rfl ?_
              subst hv
              exact ⟨rfl, hP.chg.below⟩
          · skip
            have hD := (cond_f h65).symm.trans hD
            refine wp_skip ?_
            refine wp_seq ?_
            refine wp_joinG (N := 120) (Y := Bool) (G := Unit) (fun x γ => [(0, (.agg (planC a0).toArray)), (1, (.int .i64 a1)), (2, (.agg (stateC a2).toArray)), (3, (.pointer (some ⟨b1, 0, none⟩))), (5, (.pointer (some ⟨b5, 0, none⟩))), (34, (.bool x18)), (7, (.pointer (some ⟨mg26.mb, 0, none⟩))), (40, (.bool false)), (8, (.int .i64 x34.1)), (10, (.bool x34.2.2.1)), (11, (.pointer (some ⟨b37, 0, none⟩))), (12, v45), (94, (.bool x61)), (97, (.bool (((D.state_State_Freed a2 a0.gen).mode) == 3))), (6, (.bool x))]) (fun x γ w => Post No [cellC b1 ((planC a0)).toArray 24, cellC b5 ((stateC a2)).toArray 126, memK mg26 x34.2.2.2, cellC b37 ((stateC (D.state_State_Freed a2 a0.gen))).toArray 126, rowK 3 1 i64 v45 x43] w0 w) hD ?_ ?_
            · skip
              rintro y71 RPy71 nxy71 hD
              refine wp_region_lit ?_
              refine seq_val (.int .i64 x34.1) r (fun R => y_move r rfl) rfl fun fr r => ?_
              refine seq_val (.int .i64 a1) r (fun R => y_move r rfl) rfl fun fr r => ?_
              refine seq_val (.bool (x34.1 == a1)) r (fun R => y_bin r (u := (.int .i64 x34.1)) (u' := (.int .i64 a1)) rfl rfl rfl rfl) rfl fun fr r => ?_
              refine seq_val (.bool (x34.1 == a1)) r (fun R => y_move r rfl) rfl fun fr r => ?_
              refine seq_split (x34.1 == a1) (fun h72 => ?_) (fun h72 => ?_)
              · skip
                have hD := (cond_t h72).symm.trans hD
                refine seq_want r rfl rfl rfl (congrArg Value.bool h72) ?_
                refine seq_val v45 r (fun R => y_move r rfl) rfl fun fr r => ?_
                refine seq_want r rfl rfl rfl (congrArg Value.bool h72) ?_
                refine seq_val (.int .i64 (x43.length : Int)) r (fun R => y_rowLen r (hP.row (i := 4) rfl).ro is36 rfl) rfl fun fr r => ?_
                refine seq_want r rfl rfl rfl (congrArg Value.bool h72) ?_
                refine seq_val (.bool ((x43.length : Int) == 1)) r (fun R => y_bin r (u := (.int .i64 (x43.length : Int))) (u' := (.int .i64 1)) rfl rfl rfl rfl) rfl fun fr r => ?_
                refine seq_val (.bool ((x43.length : Int) == 1)) r (fun R => y_pick r (b := true) (congrArg Value.bool h72) rfl) rfl fun fr r => ?_
                refine seq_val (.bool ((x43.length : Int) == 1)) r (fun R => y_move r rfl) rfl fun fr r => ?_
                refine seq_split ((x43.length : Int) == 1) (fun h73 => ?_) (fun h73 => ?_)
                · skip
                  have hD := (cond_t h73).symm.trans hD
                  refine seq_want r rfl rfl rfl (congrArg Value.bool h73) ?_
                  refine seq_val v45 r (fun R => y_move r rfl) rfl fun fr r => ?_
                  refine seq_want r rfl rfl rfl (congrArg Value.bool h73) ?_
                  obtain ⟨x74, hx74, hD⟩ := bindD_elim hD
                  refine seq_val (.pointer (some ⟨rowB v45, rowO v45 + (0 : Int).toNat * 1, none⟩)) r (fun R => y_rowAddr r (hP.row (i := 4) rfl).ro hx74 sl36 rfl rfl) rfl fun fr r => ?_
                  refine seq_want r rfl rfl rfl (congrArg Value.bool h73) ?_
                  refine seq_val (.int .i64 x74) r (fun R => y_loadL_one r (u := (.int .i64 x74)) (RoAt.at_ (f := i64) (x := x74) (hP.row (i := 4) rfl).ro (fun _ => rfl) hx74) rfl to3) rfl fun fr r => ?_
                  refine seq_want r rfl rfl rfl (congrArg Value.bool h73) ?_
                  refine seq_val (.int .i64 a1) r (fun R => y_move r rfl) rfl fun fr r => ?_
                  refine seq_want r rfl rfl rfl (congrArg Value.bool h73) ?_
                  refine seq_val (.bool (x74 == a1)) r (fun R => y_bin r (u := (.int .i64 x74)) (u' := (.int .i64 a1)) rfl rfl rfl rfl) rfl fun fr r => ?_
                  refine seq_val (.bool (x74 == a1)) r (fun R => y_pick r (b := true) (congrArg Value.bool h73) rfl) rfl fun fr r => ?_
                  refine seq_val (.bool (x74 == a1)) r (fun R => y_assign r rfl) rfl fun fr r => ?_
                  refine wpList_nil ?_
                  exact nxy71 (x74 == a1) () _ _ _ hD r (hs_cons rfl (hs_cons rfl (hs_cons rfl (hs_cons rfl (hs_cons rfl (hs_cons rfl (hs_cons rfl (hs_cons rfl (hs_cons rfl (hs_cons rfl (hs_cons rfl (hs_cons rfl (hs_cons rfl (hs_cons rfl (hs_cons rfl hs_nil))))))))))))))) (hP.pick [0, 1, 2, 3, 4] rfl rfl)
                · skip
                  have hD := (cond_f h73).symm.trans hD
                  refine seq_skip r rfl rfl rfl (v := .bool false) (congrArg Value.bool h73) (by simp [boolOf]) fun fr r => ?_
                  refine seq_skip r rfl rfl rfl (v := .bool false) (congrArg Value.bool h73) (by simp [boolOf]) fun fr r => ?_
                  refine seq_skip r rfl rfl rfl (v := .bool false) (congrArg Value.bool h73) (by simp [boolOf]) fun fr r => ?_
                  refine seq_skip r rfl rfl rfl (v := .bool false) (congrArg Value.bool h73) (by simp [boolOf]) fun fr r => ?_
                  refine seq_skip r rfl rfl rfl (v := .bool false) (congrArg Value.bool h73) (by simp [boolOf]) fun fr r => ?_
                  refine seq_val (.bool false) r (fun R => y_pick r (b := false) (congrArg Value.bool h73) rfl) rfl fun fr r => ?_
                  refine seq_val (.bool false) r (fun R => y_assign r rfl) rfl fun fr r => ?_
                  refine wpList_nil ?_
                  exact nxy71 false () _ _ _ hD r (hs_cons rfl (hs_cons rfl (hs_cons rfl (hs_cons rfl (hs_cons rfl (hs_cons rfl (hs_cons rfl (hs_cons rfl (hs_cons rfl (hs_cons rfl (hs_cons rfl (hs_cons rfl (hs_cons rfl (hs_cons rfl (hs_cons rfl hs_nil))))))))))))))) (hP.pick [0, 1, 2, 3, 4] rfl rfl)
              · skip
                have hD := (cond_f h72).symm.trans hD
                refine seq_skip r rfl rfl rfl (v := .bool false) (congrArg Value.bool h72) (by simp [boolOf]) fun fr r => ?_
                refine seq_skip r rfl rfl rfl (v := .bool false) (congrArg Value.bool h72) (by simp [boolOf]) fun fr r => ?_
                refine seq_skip r rfl rfl rfl (v := .bool false) (congrArg Value.bool h72) (by simp [boolOf]) fun fr r => ?_
                refine seq_val (.bool false) r (fun R => y_pick r (b := false) (congrArg Value.bool h72) rfl) rfl fun fr r => ?_
                refine seq_val (.bool false) r (fun R => y_move r rfl) rfl fun fr r => ?_
                refine seq_skip r rfl rfl rfl (v := .bool false) (congrArg Value.bool (rfl : false = _)) (by simp [boolOf]) fun fr r => ?_
                refine seq_skip r rfl rfl rfl (v := .bool false) (congrArg Value.bool (rfl : false = _)) (by simp [boolOf]) fun fr r => ?_
                refine seq_skip r rfl rfl rfl (v := .bool false) (congrArg Value.bool (rfl : false = _)) (by simp [boolOf]) fun fr r => ?_
                refine seq_skip r rfl rfl rfl (v := .bool false) (congrArg Value.bool (rfl : false = _)) (by simp [boolOf]) fun fr r => ?_
                refine seq_skip r rfl rfl rfl (v := .bool false) (congrArg Value.bool (rfl : false = _)) (by simp [boolOf]) fun fr r => ?_
                refine seq_val (.bool false) r (fun R => y_pick r (b := false) (congrArg Value.bool (rfl : false = _)) rfl) rfl fun fr r => ?_
                refine seq_val (.bool false) r (fun R => y_assign r rfl) rfl fun fr r => ?_
                refine wpList_nil ?_
                exact nxy71 false () _ _ _ hD r (hs_cons rfl (hs_cons rfl (hs_cons rfl (hs_cons rfl (hs_cons rfl (hs_cons rfl (hs_cons rfl (hs_cons rfl (hs_cons rfl (hs_cons rfl (hs_cons rfl (hs_cons rfl (hs_cons rfl (hs_cons rfl (hs_cons rfl hs_nil))))))))))))))) (hP.pick [0, 1, 2, 3, 4] rfl rfl)
            · skip
              rintro x75 γ76 fr w77 g r hP hD
              have hP : Post No [cellC b1 ((planC a0)).toArray 24, cellC b5 ((stateC a2)).toArray 126, memK mg26 x34.2.2.2, cellC b37 ((stateC (D.state_State_Freed a2 a0.gen))).toArray 126, rowK 3 1 i64 v45 x43] w0 w77 := hP
              refine wp_ret ?_
              have hv : x75 = res := Option.some.inj hD
              try dsimp only [Exit.then, Exit.inBlock]
              refine ret_tmp (fn := Try.f17) r (t := 6) rfl (v := (.bool x75)) rfl ?_
              subst hv
              exact ⟨rfl, hP.chg.below⟩

end Go.Proofs.Ytphnnjiaiemkcaa.Wk
