/- Written by a program of ours (wip/gen.py): a law -/
import Derived.Test.YtphnnjiaiemkcaaRowP
set_option linter.unusedVariables false
namespace Go.Proofs.Ytphnnjiaiemkcaa.Wk
open Go.RowKit
theorem cl18 : callable Try.prog 18 = true := by kernel_rfl
theorem cl23 : callable Try.prog 23 = true := by kernel_rfl
theorem cl30 : callable Try.prog 30 = true := by kernel_rfl
theorem cl32 : callable Try.prog 32 = true := by kernel_rfl
theorem cl33 : callable Try.prog 33 = true := by kernel_rfl
theorem cl34 : callable Try.prog 34 = true := by kernel_rfl
theorem cl36 : callable Try.prog 36 = true := by kernel_rfl
theorem is36 : isSlice Try.prog 36 = true := by kernel_rfl
theorem ts3 : sized Try.prog 3 1 = true := by kernel_rfl
theorem ts35 : sized Try.prog 35 3 = true := by kernel_rfl
theorem tz35 : zeroOf Try.prog 35 = some (.agg (wordPC (⟨0, 0, 0⟩ : WordP)).toArray) := by kernel_rfl

def D.cubiclelaw06_PlanPlaces (fu : Nat) (a0 : Plan) (a1 : WordP) : Option (Bool) := (Option.bind (bif (!D.cubiclelaw06_awake) then (some true) else (bif (!(D.cubicleref06_Few a0)) then (some true) else (bif (decide (a1.sort < 0)) then (some true) else (some (decide (a1.sort > 8)))))) (fun (x15 : Bool) => (bif x15 then (some D.cubiclelaw06_awake) else (bif (!(D.cubicleref06_Formed a0)) then (Option.bind (bif (!(D.plan_Plan_Formed a0)) then (bif ((D.plan_Plan_Size a0) == 0) then (bif ((D.plan_Plan_Cells a0) == 0) then (bif ((D.cubiclelaw06_told a0 a1) == (-1)) then ((D.plan_Plan_Words fu a0 a1.a).bind (fun (x31 : List Int) => (some ((x31.length : Int) == 0)))) else (some false)) else (some false)) else (some false)) else (some false)) (fun (x35 : Bool) => (some x35))) else ((D.cubicleref06_Words fu a0).bind (fun (x38 : List WordP) => (Option.bind (bif (a1.sort == 0) then (some ({ a1 with a := 0 })) else (some a1)) (fun (x52 : WordP) => (Option.bind (bif (a1.sort == 0) then (some true) else (bif (a1.sort == 1) then (some true) else (bif (a1.sort == 4) then (some true) else (bif (a1.sort == 6) then (some true) else (some (a1.sort == 7)))))) (fun (x60 : Bool) => (Option.bind (bif x60 then (some ({ x52 with b := 0 })) else (some x52)) (fun (x67 : WordP) => (Option.bind (bif (D.plan_Plan_Formed a0) then (bif ((D.plan_Plan_Size a0) == (x38.length : Int)) then (bif ((D.plan_Plan_Cells a0) == (D.cubicleref06_Cells a0)) then ((D.cubicleref06_Place fu x38 x67).bind (fun (x74 : Int) => (some ((D.cubiclelaw06_told a0 a1) == x74)))) else (some false)) else (some false)) else (some false)) (fun (x79 : Bool) => (some x79)))))))))))))))

set_option maxRecDepth 20000 in
set_option maxHeartbeats 2000000 in
theorem c_cubiclelaw06_PlanPlaces {fu : Nat} (w0 : World) (a0 : Plan) (a1 : WordP) {res : Bool} (hD : D.cubiclelaw06_PlanPlaces fu a0 a1 = some res) :
    Calls Try.prog 7 #[.agg (planC a0).toArray, .agg (wordPC a1).toArray] w0 (PureRes (.bool res) w0) := by
  refine enter (l := [.agg (planC a0).toArray, .agg (wordPC a1).toArray]) Try.func7 rfl 111 rfl rfl fun fr r => ?_
  have hP : Post No [] w0 w0 := Post.nil w0
  unfold D.cubiclelaw06_PlanPlaces at hD
  refine wp_seq ?_
  refine wp_region_lit ?_
  refine seq_new (.cells ((planC a0)).toArray 24 (0, 0)) r (fun R => y_box r (v := (.agg (planC a0).toArray)) rfl) rfl fun fr b1 w2 n3 r => ?_
  have hP : Post No [cellC b1 ((planC a0)).toArray 24] w0 w2 := hP.new n3
  refine seq_new (.cells ((wordPC a1)).toArray 35 (0, 0)) r (fun R => y_box r (v := (.agg (wordPC a1).toArray)) rfl) rfl fun fr b5 w6 n7 r => ?_
  have hP : Post No [cellC b1 ((planC a0)).toArray 24, cellC b5 ((wordPC a1)).toArray 35] w0 w6 := hP.new n7
  refine seq_val (.bool false) r (fun R => y_assign r rfl) rfl fun fr r => ?_
  refine wpList_nil ?_
  refine wp_seq ?_
  refine wp_seq ?_
  refine wp_joinG (N := 111) (Y := Bool) (G := Unit) (fun x γ => [(0, (.agg (planC a0).toArray)), (1, (.agg (wordPC a1).toArray)), (2, (.pointer (some ⟨b1, 0, none⟩))), (3, (.pointer (some ⟨b5, 0, none⟩))), (4, (.bool false)), (23, (.bool x))]) (fun x γ w => Post No [cellC b1 ((planC a0)).toArray 24, cellC b5 ((wordPC a1)).toArray 35] w0 w) hD ?_ ?_
  · skip
    rintro y9 RPy9 nxy9 hD
    refine wp_region_lit ?_
    refine seq_call r (c_cubiclelaw06_awake w6 ) (fun R hc => y_call r rfl cl18 hc) rfl ?_
    rintro _ w10 ⟨rfl, hb⟩
    refine ⟨_, rfl, fun fr r => ?_⟩
    have hP : Post No [cellC b1 ((planC a0)).toArray 24, cellC b5 ((wordPC a1)).toArray 35] w0 w10 := hP.below hb
    refine seq_val (.bool (!D.cubiclelaw06_awake)) r (fun R => y_un r (u := (.bool D.cubiclelaw06_awake)) rfl rfl) rfl fun fr r => ?_
    refine seq_val (.bool (!D.cubiclelaw06_awake)) r (fun R => y_move r rfl) rfl fun fr r => ?_
    refine seq_split (!D.cubiclelaw06_awake) (fun h11 => ?_) (fun h11 => ?_)
    · skip
      have hD := (cond_t h11).symm.trans hD
      refine seq_skip r rfl rfl rfl (v := .bool true) (congrArg Value.bool h11) (by simp [boolOf]) fun fr r => ?_
      refine seq_skip r rfl rfl rfl (v := .bool true) (congrArg Value.bool h11) (by simp [boolOf]) fun fr r => ?_
      refine seq_skip r rfl rfl rfl (v := .bool true) (congrArg Value.bool h11) (by simp [boolOf]) fun fr r => ?_
      refine seq_val (.bool true) r (fun R => y_pick r (b := true) (congrArg Value.bool h11) rfl) rfl fun fr r => ?_
      refine seq_val (.bool true) r (fun R => y_move r rfl) rfl fun fr r => ?_
      refine seq_skip r rfl rfl rfl (v := .bool true) (congrArg Value.bool (rfl : true = _)) (by simp [boolOf]) fun fr r => ?_
      refine seq_skip r rfl rfl rfl (v := .bool true) (congrArg Value.bool (rfl : true = _)) (by simp [boolOf]) fun fr r => ?_
      refine seq_skip r rfl rfl rfl (v := .bool true) (congrArg Value.bool (rfl : true = _)) (by simp [boolOf]) fun fr r => ?_
      refine seq_val (.bool true) r (fun R => y_pick r (b := true) (congrArg Value.bool (rfl : true = _)) rfl) rfl fun fr r => ?_
      refine seq_val (.bool true) r (fun R => y_move r rfl) rfl fun fr r => ?_
      refine seq_skip r rfl rfl rfl (v := .bool true) (congrArg Value.bool (rfl : true = _)) (by simp [boolOf]) fun fr r => ?_
      refine seq_skip r rfl rfl rfl (v := .bool true) (congrArg Value.bool (rfl : true = _)) (by simp [boolOf]) fun fr r => ?_
      refine seq_skip r rfl rfl rfl (v := .bool true) (congrArg Value.bool (rfl : true = _)) (by simp [boolOf]) fun fr r => ?_
      refine seq_val (.bool true) r (fun R => y_pick r (b := true) (congrArg Value.bool (rfl : true = _)) rfl) rfl fun fr r => ?_
      refine wpList_nil ?_
      exact nxy9 true () _ _ _ hD r (hs_cons rfl (hs_cons rfl (hs_cons rfl (hs_cons rfl (hs_cons rfl (hs_cons rfl hs_nil)))))) (hP.pick [0, 1] rfl rfl)
    · skip
      have hD := (cond_f h11).symm.trans hD
      refine seq_want r rfl rfl rfl (congrArg Value.bool h11) ?_
      refine seq_val (.agg (planC a0).toArray) r (fun R => y_load_agg r (cs := (planC a0)) (n := 6) rfl (hP.cell (i := 0) rfl) ta24 rfl) rfl fun fr r => ?_
      refine seq_want r rfl rfl rfl (congrArg Value.bool h11) ?_
      refine seq_call r (c_cubicleref06_Few w10 a0) (fun R hc => y_call r rfl cl23 hc) rfl ?_
      rintro _ w12 ⟨rfl, hb⟩
      refine ⟨_, rfl, fun fr r => ?_⟩
      have hP : Post No [cellC b1 ((planC a0)).toArray 24, cellC b5 ((wordPC a1)).toArray 35] w0 w12 := hP.below hb
      refine seq_want r rfl rfl rfl (congrArg Value.bool h11) ?_
      refine seq_val (.bool (!(D.cubicleref06_Few a0))) r (fun R => y_un r (u := (.bool (D.cubicleref06_Few a0))) rfl rfl) rfl fun fr r => ?_
      refine seq_val (.bool (!(D.cubicleref06_Few a0))) r (fun R => y_pick r (b := false) (congrArg Value.bool h11) rfl) rfl fun fr r => ?_
      refine seq_val (.bool (!(D.cubicleref06_Few a0))) r (fun R => y_move r rfl) rfl fun fr r => ?_
      refine seq_split (!(D.cubicleref06_Few a0)) (fun h13 => ?_) (fun h13 => ?_)
      · skip
        have hD := (cond_t h13).symm.trans hD
        refine seq_skip r rfl rfl rfl (v := .bool true) (congrArg Value.bool h13) (by simp [boolOf]) fun fr r => ?_
        refine seq_skip r rfl rfl rfl (v := .bool true) (congrArg Value.bool h13) (by simp [boolOf]) fun fr r => ?_
        refine seq_skip r rfl rfl rfl (v := .bool true) (congrArg Value.bool h13) (by simp [boolOf]) fun fr r => ?_
        refine seq_val (.bool true) r (fun R => y_pick r (b := true) (congrArg Value.bool h13) rfl) rfl fun fr r => ?_
        refine seq_val (.bool true) r (fun R => y_move r rfl) rfl fun fr r => ?_
        refine seq_skip r rfl rfl rfl (v := .bool true) (congrArg Value.bool (rfl : true = _)) (by simp [boolOf]) fun fr r => ?_
        refine seq_skip r rfl rfl rfl (v := .bool true) (congrArg Value.bool (rfl : true = _)) (by simp [boolOf]) fun fr r => ?_
        refine seq_skip r rfl rfl rfl (v := .bool true) (congrArg Value.bool (rfl : true = _)) (by simp [boolOf]) fun fr r => ?_
        refine seq_val (.bool true) r (fun R => y_pick r (b := true) (congrArg Value.bool (rfl : true = _)) rfl) rfl fun fr r => ?_
        refine wpList_nil ?_
        exact nxy9 true () _ _ _ hD r (hs_cons rfl (hs_cons rfl (hs_cons rfl (hs_cons rfl (hs_cons rfl (hs_cons rfl hs_nil)))))) (hP.pick [0, 1] rfl rfl)
      · skip
        have hD := (cond_f h13).symm.trans hD
        refine seq_want r rfl rfl rfl (congrArg Value.bool h13) ?_
        refine seq_val (.pointer (some ⟨b5, 0, none⟩)) r (fun R => y_fieldAddr r (o := 0) rfl fo35_0) rfl fun fr r => ?_
        refine seq_want r rfl rfl rfl (congrArg Value.bool h13) ?_
        refine seq_val (.int .i64 a1.sort) r (fun R => y_load_one r (v := (.int .i64 a1.sort)) rfl (hP.cell (i := 1) rfl) to3 rfl) rfl fun fr r => ?_
        refine seq_want r rfl rfl rfl (congrArg Value.bool h13) ?_
        refine seq_val (.bool (decide (a1.sort < 0))) r (fun R => y_bin r (u := (.int .i64 a1.sort)) (u' := (.int .i64 0)) rfl rfl rfl rfl) rfl fun fr r => ?_
        refine seq_val (.bool (decide (a1.sort < 0))) r (fun R => y_pick r (b := false) (congrArg Value.bool h13) rfl) rfl fun fr r => ?_
        refine seq_val (.bool (decide (a1.sort < 0))) r (fun R => y_move r rfl) rfl fun fr r => ?_
        refine seq_split (decide (a1.sort < 0)) (fun h14 => ?_) (fun h14 => ?_)
        · skip
          have hD := (cond_t h14).symm.trans hD
          refine seq_skip r rfl rfl rfl (v := .bool true) (congrArg Value.bool h14) (by simp [boolOf]) fun fr r => ?_
          refine seq_skip r rfl rfl rfl (v := .bool true) (congrArg Value.bool h14) (by simp [boolOf]) fun fr r => ?_
          refine seq_skip r rfl rfl rfl (v := .bool true) (congrArg Value.bool h14) (by simp [boolOf]) fun fr r => ?_
          refine seq_val (.bool true) r (fun R => y_pick r (b := true) (congrArg Value.bool h14) rfl) rfl fun fr r => ?_
          refine wpList_nil ?_
          exact nxy9 true () _ _ _ hD r (hs_cons rfl (hs_cons rfl (hs_cons rfl (hs_cons rfl (hs_cons rfl (hs_cons rfl hs_nil)))))) (hP.pick [0, 1] rfl rfl)
        · skip
          have hD := (cond_f h14).symm.trans hD
          refine seq_want r rfl rfl rfl (congrArg Value.bool h14) ?_
          refine seq_val (.pointer (some ⟨b5, 0, none⟩)) r (fun R => y_fieldAddr r (o := 0) rfl fo35_0) rfl fun fr r => ?_
          refine seq_want r rfl rfl rfl (congrArg Value.bool h14) ?_
          refine seq_val (.int .i64 a1.sort) r (fun R => y_load_one r (v := (.int .i64 a1.sort)) rfl (hP.cell (i := 1) rfl) to3 rfl) rfl fun fr r => ?_
          refine seq_want r rfl rfl rfl (congrArg Value.bool h14) ?_
          refine seq_val (.bool (decide (a1.sort > 8))) r (fun R => y_bin r (u := (.int .i64 a1.sort)) (u' := (.int .i64 8)) rfl rfl rfl rfl) rfl fun fr r => ?_
          refine seq_val (.bool (decide (a1.sort > 8))) r (fun R => y_pick r (b := false) (congrArg Value.bool h14) rfl) rfl fun fr r => ?_
          refine wpList_nil ?_
          exact nxy9 (decide (a1.sort > 8)) () _ _ _ hD r (hs_cons rfl (hs_cons rfl (hs_cons rfl (hs_cons rfl (hs_cons rfl (hs_cons rfl hs_nil)))))) (hP.pick [0, 1] rfl rfl)
  · skip
    rintro x15 γ16 fr w17 g r hP hD
    have hP : Post No [cellC b1 ((planC a0)).toArray 24, cellC b5 ((wordPC a1)).toArray 35] w0 w17 := hP
    refine wp_cond_split (t := x15) (r.ev rfl) (fun h18 => ?_) (fun h18 => ?_)
    · skip
      have hD := (cond_t h18).symm.trans hD
      refine wp_seq ?_
      refine wp_region_lit ?_
      refine seq_call r (c_cubiclelaw06_awake w17 ) (fun R hc => y_call r rfl cl18 hc) rfl ?_
      rintro _ w19 ⟨rfl, hb⟩
      refine ⟨_, rfl, fun fr r => ?_⟩
      have hP : Post No [cellC b1 ((planC a0)).toArray 24, cellC b5 ((wordPC a1)).toArray 35] w0 w19 := hP.below hb
      refine seq_val (.bool D.cubiclelaw06_awake) r (fun R => y_assign r rfl) rfl fun fr r => ?_
      refine wpList_nil ?_
      refine wp_ret ?_
      have hv : D.cubiclelaw06_awake = res := Option.some.inj hD
      try dsimp only [Exit.then, Exit.inBlock]
      refine ret_tmp (fn := Try.f7) r (t := 4) rfl (v := (.bool D.cubiclelaw06_awake)) rfl ?_
      subst hv
      exact ⟨rfl, hP.chg.below⟩
    · skip
      have hD := (cond_f h18).symm.trans hD
      refine wp_skip ?_
      refine wp_seq ?_
      refine wp_seq ?_
      refine wp_region_lit ?_
      refine seq_val (.agg (planC a0).toArray) r (fun R => y_load_agg r (cs := (planC a0)) (n := 6) rfl (hP.cell (i := 0) rfl) ta24 rfl) rfl fun fr r => ?_
      refine seq_call r (c_cubicleref06_Formed w17 a0) (fun R hc => y_call r rfl cl24 hc) rfl ?_
      rintro _ w20 ⟨rfl, hb⟩
      refine ⟨_, rfl, fun fr r => ?_⟩
      have hP : Post No [cellC b1 ((planC a0)).toArray 24, cellC b5 ((wordPC a1)).toArray 35] w0 w20 := hP.below hb
      refine seq_val (.bool (!(D.cubicleref06_Formed a0))) r (fun R => y_un r (u := (.bool (D.cubicleref06_Formed a0))) rfl rfl) rfl fun fr r => ?_
      refine wpList_nil ?_
      refine wp_cond_split (t := (!(D.cubicleref06_Formed a0))) (r.ev rfl) (fun h21 => ?_) (fun h21 => ?_)
      · skip
        have hD := (cond_t h21).symm.trans hD
        refine wp_seq ?_
        refine wp_joinG (N := 111) (Y := Bool) (G := Unit) (fun x γ => [(0, (.agg (planC a0).toArray)), (1, (.agg (wordPC a1).toArray)), (2, (.pointer (some ⟨b1, 0, none⟩))), (3, (.pointer (some ⟨b5, 0, none⟩))), (23, (.bool x15)), (27, (.bool (!(D.cubicleref06_Formed a0)))), (4, (.bool x))]) (fun x γ w => Post No [cellC b1 ((planC a0)).toArray 24, cellC b5 ((wordPC a1)).toArray 35] w0 w) hD ?_ ?_
        · skip
          rintro y22 RPy22 nxy22 hD
          refine wp_region_lit ?_
          refine seq_val (.agg (planC a0).toArray) r (fun R => y_load_agg r (cs := (planC a0)) (n := 6) rfl (hP.cell (i := 0) rfl) ta24 rfl) rfl fun fr r => ?_
          refine seq_call r (c_plan_Plan_Formed w20 a0) (fun R hc => y_call r rfl cl19 hc) rfl ?_
          rintro _ w23 ⟨rfl, hb⟩
          refine ⟨_, rfl, fun fr r => ?_⟩
          have hP : Post No [cellC b1 ((planC a0)).toArray 24, cellC b5 ((wordPC a1)).toArray 35] w0 w23 := hP.below hb
          refine seq_val (.bool (!(D.plan_Plan_Formed a0))) r (fun R => y_un r (u := (.bool (D.plan_Plan_Formed a0))) rfl rfl) rfl fun fr r => ?_
          refine seq_val (.bool (!(D.plan_Plan_Formed a0))) r (fun R => y_move r rfl) rfl fun fr r => ?_
          refine seq_split (!(D.plan_Plan_Formed a0)) (fun h24 => ?_) (fun h24 => ?_)
          · skip
            have hD := (cond_t h24).symm.trans hD
            refine seq_want r rfl rfl rfl (congrArg Value.bool h24) ?_
            refine seq_val (.agg (planC a0).toArray) r (fun R => y_load_agg r (cs := (planC a0)) (n := 6) rfl (hP.cell (i := 0) rfl) ta24 rfl) rfl fun fr r => ?_
            refine seq_want r rfl rfl rfl (congrArg Value.bool h24) ?_
            refine seq_call r (c_plan_Plan_Size w23 a0) (fun R hc => y_call r rfl cl21 hc) rfl ?_
            rintro _ w25 ⟨rfl, hb⟩
            refine ⟨_, rfl, fun fr r => ?_⟩
            have hP : Post No [cellC b1 ((planC a0)).toArray 24, cellC b5 ((wordPC a1)).toArray 35] w0 w25 := hP.below hb
            refine seq_want r rfl rfl rfl (congrArg Value.bool h24) ?_
            refine seq_val (.bool ((D.plan_Plan_Size a0) == 0)) r (fun R => y_bin r (u := (.int .i64 (D.plan_Plan_Size a0))) (u' := (.int .i64 0)) rfl rfl rfl rfl) rfl fun fr r => ?_
            refine seq_val (.bool ((D.plan_Plan_Size a0) == 0)) r (fun R => y_pick r (b := true) (congrArg Value.bool h24) rfl) rfl fun fr r => ?_
            refine seq_val (.bool ((D.plan_Plan_Size a0) == 0)) r (fun R => y_move r rfl) rfl fun fr r => ?_
            refine seq_split ((D.plan_Plan_Size a0) == 0) (fun h26 => ?_) (fun h26 => ?_)
            · skip
              have hD := (cond_t h26).symm.trans hD
              refine seq_want r rfl rfl rfl (congrArg Value.bool h26) ?_
              refine seq_val (.agg (planC a0).toArray) r (fun R => y_load_agg r (cs := (planC a0)) (n := 6) rfl (hP.cell (i := 0) rfl) ta24 rfl) rfl fun fr r => ?_
              refine seq_want r rfl rfl rfl (congrArg Value.bool h26) ?_
              refine seq_call r (c_plan_Plan_Cells w25 a0) (fun R hc => y_call r rfl cl30 hc) rfl ?_
              rintro _ w27 ⟨rfl, hb⟩
              refine ⟨_, rfl, fun fr r => ?_⟩
              have hP : Post No [cellC b1 ((planC a0)).toArray 24, cellC b5 ((wordPC a1)).toArray 35] w0 w27 := hP.below hb
              refine seq_want r rfl rfl rfl (congrArg Value.bool h26) ?_
              refine seq_val (.bool ((D.plan_Plan_Cells a0) == 0)) r (fun R => y_bin r (u := (.int .i64 (D.plan_Plan_Cells a0))) (u' := (.int .i64 0)) rfl rfl rfl rfl) rfl fun fr r => ?_
              refine seq_val (.bool ((D.plan_Plan_Cells a0) == 0)) r (fun R => y_pick r (b := true) (congrArg Value.bool h26) rfl) rfl fun fr r => ?_
              refine seq_val (.bool ((D.plan_Plan_Cells a0) == 0)) r (fun R => y_move r rfl) rfl fun fr r => ?_
              refine seq_split ((D.plan_Plan_Cells a0) == 0) (fun h28 => ?_) (fun h28 => ?_)
              · skip
                have hD := (cond_t h28).symm.trans hD
                refine seq_want r rfl rfl rfl (congrArg Value.bool h28) ?_
                refine seq_val (.agg (planC a0).toArray) r (fun R => y_load_agg r (cs := (planC a0)) (n := 6) rfl (hP.cell (i := 0) rfl) ta24 rfl) rfl fun fr r => ?_
                refine seq_want r rfl rfl rfl (congrArg Value.bool h28) ?_
                refine seq_val (.agg (wordPC a1).toArray) r (fun R => y_load_agg r (cs := (wordPC a1)) (n := 3) rfl (hP.cell (i := 1) rfl) ta35 rfl) rfl fun fr r => ?_
                refine seq_want r rfl rfl rfl (congrArg Value.bool h28) ?_
                refine seq_call r (c_cubiclelaw06_told w27 a0 a1) (fun R hc => y_call r rfl cl33 hc) rfl ?_
                rintro _ w29 ⟨rfl, hb⟩
                refine ⟨_, rfl, fun fr r => ?_⟩
                have hP : Post No [cellC b1 ((planC a0)).toArray 24, cellC b5 ((wordPC a1)).toArray 35] w0 w29 := hP.below hb
                refine seq_want r rfl rfl rfl (congrArg Value.bool h28) ?_
                refine seq_val (.bool ((D.cubiclelaw06_told a0 a1) == (-1))) r (fun R => y_bin r (u := (.int .i64 (D.cubiclelaw06_told a0 a1))) (u' := (.int .i64 (-1))) rfl rfl rfl rfl) rfl fun fr r => ?_
                refine seq_val (.bool ((D.cubiclelaw06_told a0 a1) == (-1))) r (fun R => y_pick r (b := true) (congrArg Value.bool h28) rfl) rfl fun fr r => ?_
                refine seq_val (.bool ((D.cubiclelaw06_told a0 a1) == (-1))) r (fun R => y_move r rfl) rfl fun fr r => ?_
                refine seq_split ((D.cubiclelaw06_told a0 a1) == (-1)) (fun h30 => ?_) (fun h30 => ?_)
                · skip
                  have hD := (cond_t h30).symm.trans hD
                  refine seq_want r rfl rfl rfl (congrArg Value.bool h30) ?_
                  refine seq_val (.agg (planC a0).toArray) r (fun R => y_load_agg r (cs := (planC a0)) (n := 6) rfl (hP.cell (i := 0) rfl) ta24 rfl) rfl fun fr r => ?_
                  refine seq_want r rfl rfl rfl (congrArg Value.bool h30) ?_
                  refine seq_val (.pointer (some ⟨b5, 1, none⟩)) r (fun R => y_fieldAddr r (o := 0) rfl fo35_1) rfl fun fr r => ?_
                  refine seq_want r rfl rfl rfl (congrArg Value.bool h30) ?_
                  refine seq_val (.int .i64 a1.a) r (fun R => y_load_one r (v := (.int .i64 a1.a)) rfl (hP.cell (i := 1) rfl) to3 rfl) rfl fun fr r => ?_
                  refine seq_want r rfl rfl rfl (congrArg Value.bool h30) ?_
                  obtain ⟨x31, hx31, hD⟩ := bindD_elim hD
                  refine seq_call r (c_plan_Plan_Words w29 a0 a1.a hx31) (fun R hc => y_call r rfl cl34 hc) rfl ?_
                  rintro _ w32 ⟨v33, rfl, hq⟩
                  refine ⟨_, rfl, fun fr r => ?_⟩
                  have hP : Post No [cellC b1 ((planC a0)).toArray 24, cellC b5 ((wordPC a1)).toArray 35, rowK 3 1 i64 v33 x31] w0 w32 := hP.add hq
                  refine seq_want r rfl rfl rfl (congrArg Value.bool h30) ?_
                  refine seq_val (.int .i64 (x31.length : Int)) r (fun R => y_rowLen r (hP.row (i := 2) rfl) is36 rfl) rfl fun fr r => ?_
                  refine seq_want r rfl rfl rfl (congrArg Value.bool h30) ?_
                  refine seq_val (.bool ((x31.length : Int) == 0)) r (fun R => y_bin r (u := (.int .i64 (x31.length : Int))) (u' := (.int .i64 0)) rfl rfl rfl rfl) rfl fun fr r => ?_
                  refine seq_val (.bool ((x31.length : Int) == 0)) r (fun R => y_pick r (b := true) (congrArg Value.bool h30) rfl) rfl fun fr r => ?_
                  refine seq_val (.bool ((x31.length : Int) == 0)) r (fun R => y_assign r rfl) rfl fun fr r => ?_
                  refine wpList_nil ?_
                  exact nxy22 ((x31.length : Int) == 0) () _ _ _ hD r (hs_cons rfl (hs_cons rfl (hs_cons rfl (hs_cons rfl (hs_cons rfl (hs_cons rfl (hs_cons rfl hs_nil))))))) (hP.pick [0, 1] rfl rfl)
                · skip
                  have hD := (cond_f h30).symm.trans hD
                  refine seq_skip r rfl rfl rfl (v := .bool false) (congrArg Value.bool h30) (by simp [boolOf]) fun fr r => ?_
                  refine seq_skip r rfl rfl rfl (v := .bool false) (congrArg Value.bool h30) (by simp [boolOf]) fun fr r => ?_
                  refine seq_skip r rfl rfl rfl (v := .bool false) (congrArg Value.bool h30) (by simp [boolOf]) fun fr r => ?_
                  refine seq_skip r rfl rfl rfl (v := .bool false) (congrArg Value.bool h30) (by simp [boolOf]) fun fr r => ?_
                  refine seq_skip r rfl rfl rfl (v := .bool false) (congrArg Value.bool h30) (by simp [boolOf]) fun fr r => ?_
                  refine seq_skip r rfl rfl rfl (v := .bool false) (congrArg Value.bool h30) (by simp [boolOf]) fun fr r => ?_
                  refine seq_val (.bool false) r (fun R => y_pick r (b := false) (congrArg Value.bool h30) rfl) rfl fun fr r => ?_
                  refine seq_val (.bool false) r (fun R => y_assign r rfl) rfl fun fr r => ?_
                  refine wpList_nil ?_
                  exact nxy22 false () _ _ _ hD r (hs_cons rfl (hs_cons rfl (hs_cons rfl (hs_cons rfl (hs_cons rfl (hs_cons rfl (hs_cons rfl hs_nil))))))) (hP.pick [0, 1] rfl rfl)
              · skip
                have hD := (cond_f h28).symm.trans hD
                refine seq_skip r rfl rfl rfl (v := .bool false) (congrArg Value.bool h28) (by simp [boolOf]) fun fr r => ?_
                refine seq_skip r rfl rfl rfl (v := .bool false) (congrArg Value.bool h28) (by simp [boolOf]) fun fr r => ?_
                refine seq_skip r rfl rfl rfl (v := .bool false) (congrArg Value.bool h28) (by simp [boolOf]) fun fr r => ?_
                refine seq_skip r rfl rfl rfl (v := .bool false) (congrArg Value.bool h28) (by simp [boolOf]) fun fr r => ?_
                refine seq_val (.bool false) r (fun R => y_pick r (b := false) (congrArg Value.bool h28) rfl) rfl fun fr r => ?_
                refine seq_val (.bool false) r (fun R => y_move r rfl) rfl fun fr r => ?_
                refine seq_skip r rfl rfl rfl (v := .bool false) (congrArg Value.bool (rfl : false = _)) (by simp [boolOf]) fun fr r => ?_
                refine seq_skip r rfl rfl rfl (v := .bool false) (congrArg Value.bool (rfl : false = _)) (by simp [boolOf]) fun fr r => ?_
                refine seq_skip r rfl rfl rfl (v := .bool false) (congrArg Value.bool (rfl : false = _)) (by simp [boolOf]) fun fr r => ?_
                refine seq_skip r rfl rfl rfl (v := .bool false) (congrArg Value.bool (rfl : false = _)) (by simp [boolOf]) fun fr r => ?_
                refine seq_skip r rfl rfl rfl (v := .bool false) (congrArg Value.bool (rfl : false = _)) (by simp [boolOf]) fun fr r => ?_
                refine seq_skip r rfl rfl rfl (v := .bool false) (congrArg Value.bool (rfl : false = _)) (by simp [boolOf]) fun fr r => ?_
                refine seq_val (.bool false) r (fun R => y_pick r (b := false) (congrArg Value.bool (rfl : false = _)) rfl) rfl fun fr r => ?_
                refine seq_val (.bool false) r (fun R => y_assign r rfl) rfl fun fr r => ?_
                refine wpList_nil ?_
                exact nxy22 false () _ _ _ hD r (hs_cons rfl (hs_cons rfl (hs_cons rfl (hs_cons rfl (hs_cons rfl (hs_cons rfl (hs_cons rfl hs_nil))))))) (hP.pick [0, 1] rfl rfl)
            · skip
              have hD := (cond_f h26).symm.trans hD
              refine seq_skip r rfl rfl rfl (v := .bool false) (congrArg Value.bool h26) (by simp [boolOf]) fun fr r => ?_
              refine seq_skip r rfl rfl rfl (v := .bool false) (congrArg Value.bool h26) (by simp [boolOf]) fun fr r => ?_
              refine seq_skip r rfl rfl rfl (v := .bool false) (congrArg Value.bool h26) (by simp [boolOf]) fun fr r => ?_
              refine seq_val (.bool false) r (fun R => y_pick r (b := false) (congrArg Value.bool h26) rfl) rfl fun fr r => ?_
              refine seq_val (.bool false) r (fun R => y_move r rfl) rfl fun fr r => ?_
              refine seq_skip r rfl rfl rfl (v := .bool false) (congrArg Value.bool (rfl : false = _)) (by simp [boolOf]) fun fr r => ?_
              refine seq_skip r rfl rfl rfl (v := .bool false) (congrArg Value.bool (rfl : false = _)) (by simp [boolOf]) fun fr r => ?_
              refine seq_skip r rfl rfl rfl (v := .bool false) (congrArg Value.bool (rfl : false = _)) (by simp [boolOf]) fun fr r => ?_
              refine seq_skip r rfl rfl rfl (v := .bool false) (congrArg Value.bool (rfl : false = _)) (by simp [boolOf]) fun fr r => ?_
              refine seq_val (.bool false) r (fun R => y_pick r (b := false) (congrArg Value.bool (rfl : false = _)) rfl) rfl fun fr r => ?_
              refine seq_val (.bool false) r (fun R => y_move r rfl) rfl fun fr r => ?_
              refine seq_skip r rfl rfl rfl (v := .bool false) (congrArg Value.bool (rfl : false = _)) (by simp [boolOf]) fun fr r => ?_
              refine seq_skip r rfl rfl rfl (v := .bool false) (congrArg Value.bool (rfl : false = _)) (by simp [boolOf]) fun fr r => ?_
              refine seq_skip r rfl rfl rfl (v := .bool false) (congrArg Value.bool (rfl : false = _)) (by simp [boolOf]) fun fr r => ?_
              refine seq_skip r rfl rfl rfl (v := .bool false) (congrArg Value.bool (rfl : false = _)) (by simp [boolOf]) fun fr r => ?_
              refine seq_skip r rfl rfl rfl (v := .bool false) (congrArg Value.bool (rfl : false = _)) (by simp [boolOf]) fun fr r => ?_
              refine seq_skip r rfl rfl rfl (v := .bool false) (congrArg Value.bool (rfl : false = _)) (by simp [boolOf]) fun fr r => ?_
              refine seq_val (.bool false) r (fun R => y_pick r (b := false) (congrArg Value.bool (rfl : false = _)) rfl) rfl fun fr r => ?_
              refine seq_val (.bool false) r (fun R => y_assign r rfl) rfl fun fr r => ?_
              refine wpList_nil ?_
              exact nxy22 false () _ _ _ hD r (hs_cons rfl (hs_cons rfl (hs_cons rfl (hs_cons rfl (hs_cons rfl (hs_cons rfl (hs_cons rfl hs_nil))))))) (hP.pick [0, 1] rfl rfl)
          · skip
            have hD := (cond_f h24).symm.trans hD
            refine seq_skip r rfl rfl rfl (v := .bool false) (congrArg Value.bool h24) (by simp [boolOf]) fun fr r => ?_
            refine seq_skip r rfl rfl rfl (v := .bool false) (congrArg Value.bool h24) (by simp [boolOf]) fun fr r => ?_
            refine seq_skip r rfl rfl rfl (v := .bool false) (congrArg Value.bool h24) (by simp [boolOf]) fun fr r => ?_
            refine seq_val (.bool false) r (fun R => y_pick r (b := false) (congrArg Value.bool h24) rfl) rfl fun fr r => ?_
            refine seq_val (.bool false) r (fun R => y_move r rfl) rfl fun fr r => ?_
            refine seq_skip r rfl rfl rfl (v := .bool false) (congrArg Value.bool (rfl : false = _)) (by simp [boolOf]) fun fr r => ?_
            refine seq_skip r rfl rfl rfl (v := .bool false) (congrArg Value.bool (rfl : false = _)) (by simp [boolOf]) fun fr r => ?_
            refine seq_skip r rfl rfl rfl (v := .bool false) (congrArg Value.bool (rfl : false = _)) (by simp [boolOf]) fun fr r => ?_
            refine seq_val (.bool false) r (fun R => y_pick r (b := false) (congrArg Value.bool (rfl : false = _)) rfl) rfl fun fr r => ?_
            refine seq_val (.bool false) r (fun R => y_move r rfl) rfl fun fr r => ?_
            refine seq_skip r rfl rfl rfl (v := .bool false) (congrArg Value.bool (rfl : false = _)) (by simp [boolOf]) fun fr r => ?_
            refine seq_skip r rfl rfl rfl (v := .bool false) (congrArg Value.bool (rfl : false = _)) (by simp [boolOf]) fun fr r => ?_
            refine seq_skip r rfl rfl rfl (v := .bool false) (congrArg Value.bool (rfl : false = _)) (by simp [boolOf]) fun fr r => ?_
            refine seq_skip r rfl rfl rfl (v := .bool false) (congrArg Value.bool (rfl : false = _)) (by simp [boolOf]) fun fr r => ?_
            refine seq_val (.bool false) r (fun R => y_pick r (b := false) (congrArg Value.bool (rfl : false = _)) rfl) rfl fun fr r => ?_
            refine seq_val (.bool false) r (fun R => y_move r rfl) rfl fun fr r => ?_
            refine seq_skip r rfl rfl rfl (v := .bool false) (congrArg Value.bool (rfl : false = _)) (by simp [boolOf]) fun fr r => ?_
            refine seq_skip r rfl rfl rfl (v := .bool false) (congrArg Value.bool (rfl : false = _)) (by simp [boolOf]) fun fr r => ?_
            refine seq_skip r rfl rfl rfl (v := .bool false) (congrArg Value.bool (rfl : false = _)) (by simp [boolOf]) fun fr r => ?_
            refine seq_skip r rfl rfl rfl (v := .bool false) (congrArg Value.bool (rfl : false = _)) (by simp [boolOf]) fun fr r => ?_
            refine seq_skip r rfl rfl rfl (v := .bool false) (congrArg Value.bool (rfl : false = _)) (by simp [boolOf]) fun fr r => ?_
            refine seq_skip r rfl rfl rfl (v := .bool false) (congrArg Value.bool (rfl : false = _)) (by simp [boolOf]) fun fr r => ?_
            refine seq_val (.bool false) r (fun R => y_pick r (b := false) (congrArg Value.bool (rfl : false = _)) rfl) rfl fun fr r => ?_
            refine seq_val (.bool false) r (fun R => y_assign r rfl) rfl fun fr r => ?_
            refine wpList_nil ?_
            exact nxy22 false () _ _ _ hD r (hs_cons rfl (hs_cons rfl (hs_cons rfl (hs_cons rfl (hs_cons rfl (hs_cons rfl (hs_cons rfl hs_nil))))))) (hP.pick [0, 1] rfl rfl)
        · skip
          rintro x35 γ36 fr w37 g r hP hD
          have hP : Post No [cellC b1 ((planC a0)).toArray 24, cellC b5 ((wordPC a1)).toArray 35] w0 w37 := hP
          refine wp_ret ?_
          have hv : x35 = res := Option.some.inj hD
          try dsimp only [Exit.then, Exit.inBlock]
          refine ret_tmp (fn := Try.f7) r (t := 4) rfl (v := (.bool x35)) rfl ?_
          subst hv
          exact ⟨rfl, hP.chg.below⟩
      · skip
        have hD := (cond_f h21).symm.trans hD
        refine wp_skip ?_
        refine wp_seq ?_
        refine wp_region_lit ?_
        refine seq_val (.agg (planC a0).toArray) r (fun R => y_load_agg r (cs := (planC a0)) (n := 6) rfl (hP.cell (i := 0) rfl) ta24 rfl) rfl fun fr r => ?_
        obtain ⟨x38, hx38, hD⟩ := bindD_elim hD
        refine seq_call r (c_cubicleref06_Words w20 a0 hx38) (fun R hc => y_call r rfl cl32 hc) rfl ?_
        rintro _ w39 ⟨v40, rfl, hq⟩
        refine ⟨_, rfl, fun fr r => ?_⟩
        have hP : Post No [cellC b1 ((planC a0)).toArray 24, cellC b5 ((wordPC a1)).toArray 35, rowK 35 3 wordPC v40 x38] w0 w39 := hP.add hq
        refine seq_val v40 r (fun R => y_assign r rfl) rfl fun fr r => ?_
        refine wpList_nil ?_
        refine wp_seq ?_
        refine wp_region_lit ?_
        refine seq_val (.agg (wordPC a1).toArray) r (fun R => y_load_agg r (cs := (wordPC a1)) (n := 3) rfl (hP.cell (i := 1) rfl) ta35 rfl) rfl fun fr r => ?_
        refine seq_new (.cells ((wordPC (⟨0, 0, 0⟩ : WordP))).toArray 35 (0, 0)) r (fun R => y_alloc tz35) rfl fun fr b42 w43 n44 r => ?_
        have hP : Post No [cellC b1 ((planC a0)).toArray 24, cellC b5 ((wordPC a1)).toArray 35, rowK 35 3 wordPC v40 x38, cellC b42 ((wordPC (⟨0, 0, 0⟩ : WordP))).toArray 35] w0 w43 := hP.new n44
        refine seq_upd (.cells ((wordPC a1)).toArray 35 (0, 0)) r (fun R => y_store r (o := 0) (v := (.agg (wordPC a1).toArray)) rfl rfl (hP.cell (i := 3) rfl) ts35 (Nat.le_of_ble_eq_true rfl) rfl rfl) rfl fun fr w46 u47 r => ?_
        have hP : Post No [cellC b1 ((planC a0)).toArray 24, cellC b5 ((wordPC a1)).toArray 35, rowK 35 3 wordPC v40 x38, cellC b42 ((wordPC a1)).toArray 35] w0 w46 := hP.upd (i := 3) rfl u47
        refine wpList_nil ?_
        refine wp_seq ?_
        refine wp_seq ?_
        refine wp_region_lit ?_
        refine seq_val (.pointer (some ⟨b5, 0, none⟩)) r (fun R => y_fieldAddr r (o := 0) rfl fo35_0) rfl fun fr r => ?_
        refine seq_val (.int .i64 a1.sort) r (fun R => y_load_one r (v := (.int .i64 a1.sort)) rfl (hP.cell (i := 1) rfl) to3 rfl) rfl fun fr r => ?_
        refine seq_val (.bool (a1.sort == 0)) r (fun R => y_bin r (u := (.int .i64 a1.sort)) (u' := (.int .i64 0)) rfl rfl rfl rfl) rfl fun fr r => ?_
        refine wpList_nil ?_
        refine wp_joinG (N := 111) (Y := WordP) (G := Unit) (fun x γ => [(0, (.agg (planC a0).toArray)), (1, (.agg (wordPC a1).toArray)), (2, (.pointer (some ⟨b1, 0, none⟩))), (3, (.pointer (some ⟨b5, 0, none⟩))), (4, (.bool false)), (23, (.bool x15)), (27, (.bool (!(D.cubicleref06_Formed a0)))), (5, v40), (6, (.pointer (some ⟨b42, 0, none⟩))), (60, (.bool (a1.sort == 0)))]) (fun x γ w => Post No [cellC b1 ((planC a0)).toArray 24, cellC b5 ((wordPC a1)).toArray 35, rowK 35 3 wordPC v40 x38, cellC b42 ((wordPC x)).toArray 35] w0 w) hD ?_ ?_
        · skip
          rintro y48 RPy48 nxy48 hD
          refine wp_cond_split (t := (a1.sort == 0)) (r.ev rfl) (fun h49 => ?_) (fun h49 => ?_)
          · skip
            have hD := (cond_t h49).symm.trans hD
            refine wp_region_lit ?_
            refine seq_val (.pointer (some ⟨b42, 1, none⟩)) r (fun R => y_fieldAddr r (o := 0) rfl fo35_1) rfl fun fr r => ?_
            refine seq_upd (.cells ((wordPC ({ a1 with a := 0 }))).toArray 35 (0, 0)) r (fun R => y_store r (o := 1) (v := (.int .i64 0)) rfl rfl (hP.cell (i := 3) rfl) ts3 (Nat.le_of_ble_eq_true rfl) rfl rfl) rfl fun fr w50 u51 r => ?_
            have hP : Post No [cellC b1 ((planC a0)).toArray 24, cellC b5 ((wordPC a1)).toArray 35, rowK 35 3 wordPC v40 x38, cellC b42 ((wordPC ({ a1 with a := 0 }))).toArray 35] w0 w50 := hP.upd (i := 3) rfl u51
            refine wpList_nil ?_
            exact nxy48 ({ a1 with a := 0 }) () _ _ _ hD r (hs_cons rfl (hs_cons rfl (hs_cons rfl (hs_cons rfl (hs_cons rfl (hs_cons rfl (hs_cons rfl (hs_cons rfl (hs_cons rfl (hs_cons rfl hs_nil)))))))))) (hP.pick [0, 1, 2, 3] rfl rfl)
          · skip
            have hD := (cond_f h49).symm.trans hD
            refine wp_skip ?_
            exact nxy48 a1 () _ _ _ hD r (hs_cons rfl (hs_cons rfl (hs_cons rfl (hs_cons rfl (hs_cons rfl (hs_cons rfl (hs_cons rfl (hs_cons rfl (hs_cons rfl (hs_cons rfl hs_nil)))))))))) (hP.pick [0, 1, 2, 3] rfl rfl)
        · skip
          rintro x52 γ53 fr w54 g r hP hD
          have hP : Post No [cellC b1 ((planC a0)).toArray 24, cellC b5 ((wordPC a1)).toArray 35, rowK 35 3 wordPC v40 x38, cellC b42 ((wordPC x52)).toArray 35] w0 w54 := hP
          refine wp_seq ?_
          refine wp_seq ?_
          refine wp_joinG (N := 111) (Y := Bool) (G := Unit) (fun x γ => [(0, (.agg (planC a0).toArray)), (1, (.agg (wordPC a1).toArray)), (2, (.pointer (some ⟨b1, 0, none⟩))), (3, (.pointer (some ⟨b5, 0, none⟩))), (4, (.bool false)), (23, (.bool x15)), (27, (.bool (!(D.cubicleref06_Formed a0)))), (5, v40), (6, (.pointer (some ⟨b42, 0, none⟩))), (60, (.bool (a1.sort == 0))), (84, (.bool x))]) (fun x γ w => Post No [cellC b1 ((planC a0)).toArray 24, cellC b5 ((wordPC a1)).toArray 35, rowK 35 3 wordPC v40 x38, cellC b42 ((wordPC x52)).toArray 35] w0 w) hD ?_ ?_
          · skip
            rintro y55 RPy55 nxy55 hD
            refine wp_region_lit ?_
            refine seq_val (.pointer (some ⟨b5, 0, none⟩)) r (fun R => y_fieldAddr r (o := 0) rfl fo35_0) rfl fun fr r => ?_
            refine seq_val (.int .i64 a1.sort) r (fun R => y_load_one r (v := (.int .i64 a1.sort)) rfl (hP.cell (i := 1) rfl) to3 rfl) rfl fun fr r => ?_
            refine seq_val (.bool (a1.sort == 0)) r (fun R => y_bin r (u := (.int .i64 a1.sort)) (u' := (.int .i64 0)) rfl rfl rfl rfl) rfl fun fr r => ?_
            refine seq_val (.bool (a1.sort == 0)) r (fun R => y_move r rfl) rfl fun fr r => ?_
            refine seq_split (a1.sort == 0) (fun h56 => ?_) (fun h56 => ?_)
            · skip
              have hD := (cond_t h56).symm.trans hD
              refine seq_skip r rfl rfl rfl (v := .bool true) (congrArg Value.bool h56) (by simp [boolOf]) fun fr r => ?_
              refine seq_skip r rfl rfl rfl (v := .bool true) (congrArg Value.bool h56) (by simp [boolOf]) fun fr r => ?_
              refine seq_skip r rfl rfl rfl (v := .bool true) (congrArg Value.bool h56) (by simp [boolOf]) fun fr r => ?_
              refine seq_val (.bool true) r (fun R => y_pick r (b := true) (congrArg Value.bool h56) rfl) rfl fun fr r => ?_
              refine seq_val (.bool true) r (fun R => y_move r rfl) rfl fun fr r => ?_
              refine seq_skip r rfl rfl rfl (v := .bool true) (congrArg Value.bool (rfl : true = _)) (by simp [boolOf]) fun fr r => ?_
              refine seq_skip r rfl rfl rfl (v := .bool true) (congrArg Value.bool (rfl : true = _)) (by simp [boolOf]) fun fr r => ?_
              refine seq_skip r rfl rfl rfl (v := .bool true) (congrArg Value.bool (rfl : true = _)) (by simp [boolOf]) fun fr r => ?_
              refine seq_val (.bool true) r (fun R => y_pick r (b := true) (congrArg Value.bool (rfl : true = _)) rfl) rfl fun fr r => ?_
              refine seq_val (.bool true) r (fun R => y_move r rfl) rfl fun fr r => ?_
              refine seq_skip r rfl rfl rfl (v := .bool true) (congrArg Value.bool (rfl : true = _)) (by simp [boolOf]) fun fr r => ?_
              refine seq_skip r rfl rfl rfl (v := .bool true) (congrArg Value.bool (rfl : true = _)) (by simp [boolOf]) fun fr r => ?_
              refine seq_skip r rfl rfl rfl (v := .bool true) (congrArg Value.bool (rfl : true = _)) (by simp [boolOf]) fun fr r => ?_
              refine seq_val (.bool true) r (fun R => y_pick r (b := true) (congrArg Value.bool (rfl : true = _)) rfl) rfl fun fr r => ?_
              refine seq_val (.bool true) r (fun R => y_move r rfl) rfl fun fr r => ?_
              refine seq_skip r rfl rfl rfl (v := .bool true) (congrArg Value.bool (rfl : true = _)) (by simp [boolOf]) fun fr r => ?_
              refine seq_skip r rfl rfl rfl (v := .bool true) (congrArg Value.bool (rfl : true = _)) (by simp [boolOf]) fun fr r => ?_
              refine seq_skip r rfl rfl rfl (v := .bool true) (congrArg Value.bool (rfl : true = _)) (by simp [boolOf]) fun fr r => ?_
              refine seq_val (.bool true) r (fun R => y_pick r (b := true) (congrArg Value.bool (rfl : true = _)) rfl) rfl fun fr r => ?_
              refine wpList_nil ?_
              exact nxy55 true () _ _ _ hD r (hs_cons rfl (hs_cons rfl (hs_cons rfl (hs_cons rfl (hs_cons rfl (hs_cons rfl (hs_cons rfl (hs_cons rfl (hs_cons rfl (hs_cons rfl (hs_cons rfl hs_nil))))))))))) (hP.pick [0, 1, 2, 3] rfl rfl)
            · skip
              have hD := (cond_f h56).symm.trans hD
              refine seq_want r rfl rfl rfl (congrArg Value.bool h56) ?_
              refine seq_val (.pointer (some ⟨b5, 0, none⟩)) r (fun R => y_fieldAddr r (o := 0) rfl fo35_0) rfl fun fr r => ?_
              refine seq_want r rfl rfl rfl (congrArg Value.bool h56) ?_
              refine seq_val (.int .i64 a1.sort) r (fun R => y_load_one r (v := (.int .i64 a1.sort)) rfl (hP.cell (i := 1) rfl) to3 rfl) rfl fun fr r => ?_
              refine seq_want r rfl rfl rfl (congrArg Value.bool h56) ?_
              refine seq_val (.bool (a1.sort == 1)) r (fun R => y_bin r (u := (.int .i64 a1.sort)) (u' := (.int .i64 1)) rfl rfl rfl rfl) rfl fun fr r => ?_
              refine seq_val (.bool (a1.sort == 1)) r (fun R => y_pick r (b := false) (congrArg Value.bool h56) rfl) rfl fun fr r => ?_
              refine seq_val (.bool (a1.sort == 1)) r (fun R => y_move r rfl) rfl fun fr r => ?_
              refine seq_split (a1.sort == 1) (fun h57 => ?_) (fun h57 => ?_)
              · skip
                have hD := (cond_t h57).symm.trans hD
                refine seq_skip r rfl rfl rfl (v := .bool true) (congrArg Value.bool h57) (by simp [boolOf]) fun fr r => ?_
                refine seq_skip r rfl rfl rfl (v := .bool true) (congrArg Value.bool h57) (by simp [boolOf]) fun fr r => ?_
                refine seq_skip r rfl rfl rfl (v := .bool true) (congrArg Value.bool h57) (by simp [boolOf]) fun fr r => ?_
                refine seq_val (.bool true) r (fun R => y_pick r (b := true) (congrArg Value.bool h57) rfl) rfl fun fr r => ?_
                refine seq_val (.bool true) r (fun R => y_move r rfl) rfl fun fr r => ?_
                refine seq_skip r rfl rfl rfl (v := .bool true) (congrArg Value.bool (rfl : true = _)) (by simp [boolOf]) fun fr r => ?_
                refine seq_skip r rfl rfl rfl (v := .bool true) (congrArg Value.bool (rfl : true = _)) (by simp [boolOf]) fun fr r => ?_
                refine seq_skip r rfl rfl rfl (v := .bool true) (congrArg Value.bool (rfl : true = _)) (by simp [boolOf]) fun fr r => ?_
                refine seq_val (.bool true) r (fun R => y_pick r (b := true) (congrArg Value.bool (rfl : true = _)) rfl) rfl fun fr r => ?_
                refine seq_val (.bool true) r (fun R => y_move r rfl) rfl fun fr r => ?_
                refine seq_skip r rfl rfl rfl (v := .bool true) (congrArg Value.bool (rfl : true = _)) (by simp [boolOf]) fun fr r => ?_
                refine seq_skip r rfl rfl rfl (v := .bool true) (congrArg Value.bool (rfl : true = _)) (by simp [boolOf]) fun fr r => ?_
                refine seq_skip r rfl rfl rfl (v := .bool true) (congrArg Value.bool (rfl : true = _)) (by simp [boolOf]) fun fr r => ?_
                refine seq_val (.bool true) r (fun R => y_pick r (b := true) (congrArg Value.bool (rfl : true = _)) rfl) rfl fun fr r => ?_
                refine wpList_nil ?_
                exact nxy55 true () _ _ _ hD r (hs_cons rfl (hs_cons rfl (hs_cons rfl (hs_cons rfl (hs_cons rfl (hs_cons rfl (hs_cons rfl (hs_cons rfl (hs_cons rfl (hs_cons rfl (hs_cons rfl hs_nil))))))))))) (hP.pick [0, 1, 2, 3] rfl rfl)
              · skip
                have hD := (cond_f h57).symm.trans hD
                refine seq_want r rfl rfl rfl (congrArg Value.bool h57) ?_
                refine seq_val (.pointer (some ⟨b5, 0, none⟩)) r (fun R => y_fieldAddr r (o := 0) rfl fo35_0) rfl fun fr r => ?_
                refine seq_want r rfl rfl rfl (congrArg Value.bool h57) ?_
                refine seq_val (.int .i64 a1.sort) r (fun R => y_load_one r (v := (.int .i64 a1.sort)) rfl (hP.cell (i := 1) rfl) to3 rfl) rfl fun fr r => ?_
                refine seq_want r rfl rfl rfl (congrArg Value.bool h57) ?_
                refine seq_val (.bool (a1.sort == 4)) r (fun R => y_bin r (u := (.int .i64 a1.sort)) (u' := (.int .i64 4)) rfl rfl rfl rfl) rfl fun fr r => ?_
                refine seq_val (.bool (a1.sort == 4)) r (fun R => y_pick r (b := false) (congrArg Value.bool h57) rfl) rfl fun fr r => ?_
                refine seq_val (.bool (a1.sort == 4)) r (fun R => y_move r rfl) rfl fun fr r => ?_
                refine seq_split (a1.sort == 4) (fun h58 => ?_) (fun h58 => ?_)
                · skip
                  have hD := (cond_t h58).symm.trans hD
                  refine seq_skip r rfl rfl rfl (v := .bool true) (congrArg Value.bool h58) (by simp [boolOf]) fun fr r => ?_
                  refine seq_skip r rfl rfl rfl (v := .bool true) (congrArg Value.bool h58) (by simp [boolOf]) fun fr r => ?_
                  refine seq_skip r rfl rfl rfl (v := .bool true) (congrArg Value.bool h58) (by simp [boolOf]) fun fr r => ?_
                  refine seq_val (.bool true) r (fun R => y_pick r (b := true) (congrArg Value.bool h58) rfl) rfl fun fr r => ?_
                  refine seq_val (.bool true) r (fun R => y_move r rfl) rfl fun fr r => ?_
                  refine seq_skip r rfl rfl rfl (v := .bool true) (congrArg Value.bool (rfl : true = _)) (by simp [boolOf]) fun fr r => ?_
                  refine seq_skip r rfl rfl rfl (v := .bool true) (congrArg Value.bool (rfl : true = _)) (by simp [boolOf]) fun fr r => ?_
                  refine seq_skip r rfl rfl rfl (v := .bool true) (congrArg Value.bool (rfl : true = _)) (by simp [boolOf]) fun fr r => ?_
                  refine seq_val (.bool true) r (fun R => y_pick r (b := true) (congrArg Value.bool (rfl : true = _)) rfl) rfl fun fr r => ?_
                  refine wpList_nil ?_
                  exact nxy55 true () _ _ _ hD r (hs_cons rfl (hs_cons rfl (hs_cons rfl (hs_cons rfl (hs_cons rfl (hs_cons rfl (hs_cons rfl (hs_cons rfl (hs_cons rfl (hs_cons rfl (hs_cons rfl hs_nil))))))))))) (hP.pick [0, 1, 2, 3] rfl rfl)
                · skip
                  have hD := (cond_f h58).symm.trans hD
                  refine seq_want r rfl rfl rfl (congrArg Value.bool h58) ?_
                  refine seq_val (.pointer (some ⟨b5, 0, none⟩)) r (fun R => y_fieldAddr r (o := 0) rfl fo35_0) rfl fun fr r => ?_
                  refine seq_want r rfl rfl rfl (congrArg Value.bool h58) ?_
                  refine seq_val (.int .i64 a1.sort) r (fun R => y_load_one r (v := (.int .i64 a1.sort)) rfl (hP.cell (i := 1) rfl) to3 rfl) rfl fun fr r => ?_
                  refine seq_want r rfl rfl rfl (congrArg Value.bool h58) ?_
                  refine seq_val (.bool (a1.sort == 6)) r (fun R => y_bin r (u := (.int .i64 a1.sort)) (u' := (.int .i64 6)) rfl rfl rfl rfl) rfl fun fr r => ?_
                  refine seq_val (.bool (a1.sort == 6)) r (fun R => y_pick r (b := false) (congrArg Value.bool h58) rfl) rfl fun fr r => ?_
                  refine seq_val (.bool (a1.sort == 6)) r (fun R => y_move r rfl) rfl fun fr r => ?_
                  refine seq_split (a1.sort == 6) (fun h59 => ?_) (fun h59 => ?_)
                  · skip
                    have hD := (cond_t h59).symm.trans hD
                    refine seq_skip r rfl rfl rfl (v := .bool true) (congrArg Value.bool h59) (by simp [boolOf]) fun fr r => ?_
                    refine seq_skip r rfl rfl rfl (v := .bool true) (congrArg Value.bool h59) (by simp [boolOf]) fun fr r => ?_
                    refine seq_skip r rfl rfl rfl (v := .bool true) (congrArg Value.bool h59) (by simp [boolOf]) fun fr r => ?_
                    refine seq_val (.bool true) r (fun R => y_pick r (b := true) (congrArg Value.bool h59) rfl) rfl fun fr r => ?_
                    refine wpList_nil ?_
                    exact nxy55 true () _ _ _ hD r (hs_cons rfl (hs_cons rfl (hs_cons rfl (hs_cons rfl (hs_cons rfl (hs_cons rfl (hs_cons rfl (hs_cons rfl (hs_cons rfl (hs_cons rfl (hs_cons rfl hs_nil))))))))))) (hP.pick [0, 1, 2, 3] rfl rfl)
                  · skip
                    have hD := (cond_f h59).symm.trans hD
                    refine seq_want r rfl rfl rfl (congrArg Value.bool h59) ?_
                    refine seq_val (.pointer (some ⟨b5, 0, none⟩)) r (fun R => y_fieldAddr r (o := 0) rfl fo35_0) rfl fun fr r => ?_
                    refine seq_want r rfl rfl rfl (congrArg Value.bool h59) ?_
                    refine seq_val (.int .i64 a1.sort) r (fun R => y_load_one r (v := (.int .i64 a1.sort)) rfl (hP.cell (i := 1) rfl) to3 rfl) rfl fun fr r => ?_
                    refine seq_want r rfl rfl rfl (congrArg Value.bool h59) ?_
                    refine seq_val (.bool (a1.sort == 7)) r (fun R => y_bin r (u := (.int .i64 a1.sort)) (u' := (.int .i64 7)) rfl rfl rfl rfl) rfl fun fr r => ?_
                    refine seq_val (.bool (a1.sort == 7)) r (fun R => y_pick r (b := false) (congrArg Value.bool h59) rfl) rfl fun fr r => ?_
                    refine wpList_nil ?_
                    exact nxy55 (a1.sort == 7) () _ _ _ hD r (hs_cons rfl (hs_cons rfl (hs_cons rfl (hs_cons rfl (hs_cons rfl (hs_cons rfl (hs_cons rfl (hs_cons rfl (hs_cons rfl (hs_cons rfl (hs_cons rfl hs_nil))))))))))) (hP.pick [0, 1, 2, 3] rfl rfl)
          · skip
            rintro x60 γ61 fr w62 g r hP hD
            have hP : Post No [cellC b1 ((planC a0)).toArray 24, cellC b5 ((wordPC a1)).toArray 35, rowK 35 3 wordPC v40 x38, cellC b42 ((wordPC x52)).toArray 35] w0 w62 := hP
            refine wp_joinG (N := 111) (Y := WordP) (G := Unit) (fun x γ => [(0, (.agg (planC a0).toArray)), (1, (.agg (wordPC a1).toArray)), (2, (.pointer (some ⟨b1, 0, none⟩))), (3, (.pointer (some ⟨b5, 0, none⟩))), (4, (.bool false)), (23, (.bool x15)), (27, (.bool (!(D.cubicleref06_Formed a0)))), (5, v40), (6, (.pointer (some ⟨b42, 0, none⟩))), (60, (.bool (a1.sort == 0))), (84, (.bool x60))]) (fun x γ w => Post No [cellC b1 ((planC a0)).toArray 24, cellC b5 ((wordPC a1)).toArray 35, rowK 35 3 wordPC v40 x38, cellC b42 ((wordPC x)).toArray 35] w0 w) hD ?_ ?_
            · skip
              rintro y63 RPy63 nxy63 hD
              refine wp_cond_split (t := x60) (r.ev rfl) (fun h64 => ?_) (fun h64 => ?_)
              · skip
                have hD := (cond_t h64).symm.trans hD
                refine wp_region_lit ?_
                refine seq_val (.pointer (some ⟨b42, 2, none⟩)) r (fun R => y_fieldAddr r (o := 0) rfl fo35_2) rfl fun fr r => ?_
                refine seq_upd (.cells ((wordPC ({ x52 with b := 0 }))).toArray 35 (0, 0)) r (fun R => y_store r (o := 2) (v := (.int .i64 0)) rfl rfl (hP.cell (i := 3) rfl) ts3 (Nat.le_of_ble_eq_true rfl) rfl rfl) rfl fun fr w65 u66 r => ?_
                have hP : Post No [cellC b1 ((planC a0)).toArray 24, cellC b5 ((wordPC a1)).toArray 35, rowK 35 3 wordPC v40 x38, cellC b42 ((wordPC ({ x52 with b := 0 }))).toArray 35] w0 w65 := hP.upd (i := 3) rfl u66
                refine wpList_nil ?_
                exact nxy63 ({ x52 with b := 0 }) () _ _ _ hD r (hs_cons rfl (hs_cons rfl (hs_cons rfl (hs_cons rfl (hs_cons rfl (hs_cons rfl (hs_cons rfl (hs_cons rfl (hs_cons rfl (hs_cons rfl (hs_cons rfl hs_nil))))))))))) (hP.pick [0, 1, 2, 3] rfl rfl)
              · skip
                have hD := (cond_f h64).symm.trans hD
                refine wp_skip ?_
                exact nxy63 x52 () _ _ _ hD r (hs_cons rfl (hs_cons rfl (hs_cons rfl (hs_cons rfl (hs_cons rfl (hs_cons rfl (hs_cons rfl (hs_cons rfl (hs_cons rfl (hs_cons rfl (hs_cons rfl hs_nil))))))))))) (hP.pick [0, 1, 2, 3] rfl rfl)
            · skip
              rintro x67 γ68 fr w69 g r hP hD
              have hP : Post No [cellC b1 ((planC a0)).toArray 24, cellC b5 ((wordPC a1)).toArray 35, rowK 35 3 wordPC v40 x38, cellC b42 ((wordPC x67)).toArray 35] w0 w69 := hP
              refine wp_seq ?_
              refine wp_joinG (N := 111) (Y := Bool) (G := Unit) (fun x γ => [(0, (.agg (planC a0).toArray)), (1, (.agg (wordPC a1).toArray)), (2, (.pointer (some ⟨b1, 0, none⟩))), (3, (.pointer (some ⟨b5, 0, none⟩))), (23, (.bool x15)), (27, (.bool (!(D.cubicleref06_Formed a0)))), (5, v40), (6, (.pointer (some ⟨b42, 0, none⟩))), (60, (.bool (a1.sort == 0))), (84, (.bool x60)), (4, (.bool x))]) (fun x γ w => Post No [cellC b1 ((planC a0)).toArray 24, cellC b5 ((wordPC a1)).toArray 35, rowK 35 3 wordPC v40 x38, cellC b42 ((wordPC x67)).toArray 35] w0 w) hD ?_ ?_
              · skip
                rintro y70 RPy70 nxy70 hD
                refine seq_split (D.plan_Plan_Formed a0) (fun h71 => ?_) (fun h71 => ?_)
                · skip
                  have hD := (cond_t h71).symm.trans hD
                  refine seq_split ((D.plan_Plan_Size a0) == (x38.length : Int)) (fun h72 => ?_) (fun h72 => ?_)
                  · skip
                    have hD := (cond_t h72).symm.trans hD
                    refine seq_split ((D.plan_Plan_Cells a0) == (D.cubicleref06_Cells a0)) (fun h73 => ?_) (fun h73 => ?_)
                    · skip
                      have hD := (cond_t h73).symm.trans hD
                      obtain ⟨x74, hx74, hD⟩ := bindD_elim hD
                      refine wp_freeF [.val (.agg (planC a0).toArray), .val (.bool (D.plan_Plan_Formed a0)), .val (.bool (D.plan_Plan_Formed a0)), .val (.agg (planC a0).toArray), .val (.int .i64 (D.plan_Plan_Size a0)), .val v40, .val (.int .i64 (x38.length : Int)), .val (.bool ((D.plan_Plan_Size a0) == (x38.length : Int))), .val (.bool ((D.plan_Plan_Size a0) == (x38.length : Int))), .val (.bool ((D.plan_Plan_Size a0) == (x38.length : Int))), .val (.agg (planC a0).toArray), .val (.int .i64 (D.plan_Plan_Cells a0)), .val (.agg (planC a0).toArray), .val (.int .i64 (D.cubicleref06_Cells a0)), .val (.bool ((D.plan_Plan_Cells a0) == (D.cubicleref06_Cells a0))), .val (.bool ((D.plan_Plan_Cells a0) == (D.cubicleref06_Cells a0))), .val (.bool ((D.plan_Plan_Cells a0) == (D.cubicleref06_Cells a0))), .val (.agg (planC a0).toArray), .val (.agg (wordPC a1).toArray), .val (.int .i64 (D.cubiclelaw06_told a0 a1)), .val v40, .val (.agg (wordPC x67).toArray), .val (.int .i64 x74), .val (.bool ((D.cubiclelaw06_told a0 a1) == x74)), .val (.bool ((D.cubiclelaw06_told a0 a1) == x74)), .val (.bool ((D.cubiclelaw06_told a0 a1) == x74))] mixed r (by kernel_rfl) ?_ ?_
                      · skip
                        refine eachF_cons r rfl (fun fr1 g w' hb' hd r' => ?_) ?_
                        · exact y_load_agg r' (cs := (planC a0)) (n := 6) rfl ((hP.below (dr hb')).cell (i := 0) rfl) ta24 rfl ⟨Below.refl _ _, rfl⟩
                        refine eachF_cons r rfl (fun fr1 g w' hb' hd r' => ?_) ?_
                        · exact y_call r' (args := [(.agg (planC a0).toArray)]) (lc (hd 0 rfl).1 l0) cl19 ((c_plan_Plan_Formed _ a0).mono (by rintro _ w2 ⟨rfl, hb2⟩; exact ⟨_, rfl, hb2, rfl⟩))
                        refine eachF_cons r rfl (fun fr1 g w' hb' hd r' => ?_) ?_
                        · exact y_move r' (v := (.bool (D.plan_Plan_Formed a0))) (hd 1 rfl).1 ⟨Below.refl _ _, rfl⟩
                        refine eachF_want true r rfl rfl rfl (fun g w' hd => Eq.trans (show (g 2).v = .bool (D.plan_Plan_Formed a0) from (hd 2 rfl).1) (congrArg Value.bool h71)) (fun fr1 g w' hb' hd r' => ?_) ?_
                        · exact y_load_agg r' (cs := (planC a0)) (n := 6) rfl ((hP.below (dr hb')).cell (i := 0) rfl) ta24 rfl ⟨Below.refl _ _, rfl⟩
                        refine eachF_want true r rfl rfl rfl (fun g w' hd => Eq.trans (show (g 2).v = .bool (D.plan_Plan_Formed a0) from (hd 2 rfl).1) (congrArg Value.bool h71)) (fun fr1 g w' hb' hd r' => ?_) ?_
                        · exact y_call r' (args := [(.agg (planC a0).toArray)]) (lc (hd 3 rfl).1 l0) cl21 ((c_plan_Plan_Size _ a0).mono (by rintro _ w2 ⟨rfl, hb2⟩; exact ⟨_, rfl, hb2, rfl⟩))
                        refine eachF_want true r rfl rfl rfl (fun g w' hd => Eq.trans (show (g 2).v = .bool (D.plan_Plan_Formed a0) from (hd 2 rfl).1) (congrArg Value.bool h71)) (fun fr1 g w' hb' hd r' => ?_) ?_
                        · exact y_move r' (v := v40) rfl ⟨Below.refl _ _, rfl⟩
                        refine eachF_want true r rfl rfl rfl (fun g w' hd => Eq.trans (show (g 2).v = .bool (D.plan_Plan_Formed a0) from (hd 2 rfl).1) (congrArg Value.bool h71)) (fun fr1 g w' hb' hd r' => ?_) ?_
                        · exact y_rowLen r' ((hP.below (dr hb')).row (i := 2) rfl) is31 (hd 5 rfl).1 ⟨Below.refl _ _, rfl⟩
                        refine eachF_want true r rfl rfl rfl (fun g w' hd => Eq.trans (show (g 2).v = .bool (D.plan_Plan_Formed a0) from (hd 2 rfl).1) (congrArg Value.bool h71)) (fun fr1 g w' hb' hd r' => ?_) ?_
                        · exact y_bin r' (u := (.int .i64 (D.plan_Plan_Size a0))) (u' := (.int .i64 (x38.length : Int))) (v := (.bool ((D.plan_Plan_Size a0) == (x38.length : Int)))) (hd 4 rfl).1 (hd 6 rfl).1 rfl rfl ⟨Below.refl _ _, rfl⟩
                        refine eachF_cons r rfl (fun fr1 g w' hb' hd r' => ?_) ?_
                        · exact y_pick r' (b := true) (v := (.bool ((D.plan_Plan_Size a0) == (x38.length : Int)))) (Eq.trans (show (g 2).v = .bool (D.plan_Plan_Formed a0) from (hd 2 rfl).1) (congrArg Value.bool h71)) (hd 7 rfl).1 ⟨Below.refl _ _, rfl⟩
                        refine eachF_cons r rfl (fun fr1 g w' hb' hd r' => ?_) ?_
                        · exact y_move r' (v := (.bool ((D.plan_Plan_Size a0) == (x38.length : Int)))) (hd 8 rfl).1 ⟨Below.refl _ _, rfl⟩
                        refine eachF_want true r rfl rfl rfl (fun g w' hd => Eq.trans (show (g 9).v = .bool ((D.plan_Plan_Size a0) == (x38.length : Int)) from (hd 9 rfl).1) (congrArg Value.bool h72)) (fun fr1 g w' hb' hd r' => ?_) ?_
                        · exact y_load_agg r' (cs := (planC a0)) (n := 6) rfl ((hP.below (dr hb')).cell (i := 0) rfl) ta24 rfl ⟨Below.refl _ _, rfl⟩
                        refine eachF_want true r rfl rfl rfl (fun g w' hd => Eq.trans (show (g 9).v = .bool ((D.plan_Plan_Size a0) == (x38.length : Int)) from (hd 9 rfl).1) (congrArg Value.bool h72)) (fun fr1 g w' hb' hd r' => ?_) ?_
                        · exact y_call r' (args := [(.agg (planC a0).toArray)]) (lc (hd 10 rfl).1 l0) cl30 ((c_plan_Plan_Cells _ a0).mono (by rintro _ w2 ⟨rfl, hb2⟩; exact ⟨_, rfl, hb2, rfl⟩))
                        refine eachF_want true r rfl rfl rfl (fun g w' hd => Eq.trans (show (g 9).v = .bool ((D.plan_Plan_Size a0) == (x38.length : Int)) from (hd 9 rfl).1) (congrArg Value.bool h72)) (fun fr1 g w' hb' hd r' => ?_) ?_
                        · exact y_load_agg r' (cs := (planC a0)) (n := 6) rfl ((hP.below (dr hb')).cell (i := 0) rfl) ta24 rfl ⟨Below.refl _ _, rfl⟩
                        refine eachF_want true r rfl rfl rfl (fun g w' hd => Eq.trans (show (g 9).v = .bool ((D.plan_Plan_Size a0) == (x38.length : Int)) from (hd 9 rfl).1) (congrArg Value.bool h72)) (fun fr1 g w' hb' hd r' => ?_) ?_
                        · exact y_call r' (args := [(.agg (planC a0).toArray)]) (lc (hd 12 rfl).1 l0) cl35 ((c_cubicleref06_Cells _ a0).mono (by rintro _ w2 ⟨rfl, hb2⟩; exact ⟨_, rfl, hb2, rfl⟩))
                        refine eachF_want true r rfl rfl rfl (fun g w' hd => Eq.trans (show (g 9).v = .bool ((D.plan_Plan_Size a0) == (x38.length : Int)) from (hd 9 rfl).1) (congrArg Value.bool h72)) (fun fr1 g w' hb' hd r' => ?_) ?_
                        · exact y_bin r' (u := (.int .i64 (D.plan_Plan_Cells a0))) (u' := (.int .i64 (D.cubicleref06_Cells a0))) (v := (.bool ((D.plan_Plan_Cells a0) == (D.cubicleref06_Cells a0)))) (hd 11 rfl).1 (hd 13 rfl).1 rfl rfl ⟨Below.refl _ _, rfl⟩
                        refine eachF_cons r rfl (fun fr1 g w' hb' hd r' => ?_) ?_
                        · exact y_pick r' (b := true) (v := (.bool ((D.plan_Plan_Cells a0) == (D.cubicleref06_Cells a0)))) (Eq.trans (show (g 9).v = .bool ((D.plan_Plan_Size a0) == (x38.length : Int)) from (hd 9 rfl).1) (congrArg Value.bool h72)) (hd 14 rfl).1 ⟨Below.refl _ _, rfl⟩
                        refine eachF_cons r rfl (fun fr1 g w' hb' hd r' => ?_) ?_
                        · exact y_move r' (v := (.bool ((D.plan_Plan_Cells a0) == (D.cubicleref06_Cells a0)))) (hd 15 rfl).1 ⟨Below.refl _ _, rfl⟩
                        refine eachF_want true r rfl rfl rfl (fun g w' hd => Eq.trans (show (g 16).v = .bool ((D.plan_Plan_Cells a0) == (D.cubicleref06_Cells a0)) from (hd 16 rfl).1) (congrArg Value.bool h73)) (fun fr1 g w' hb' hd r' => ?_) ?_
                        · exact y_load_agg r' (cs := (planC a0)) (n := 6) rfl ((hP.below (dr hb')).cell (i := 0) rfl) ta24 rfl ⟨Below.refl _ _, rfl⟩
                        refine eachF_want true r rfl rfl rfl (fun g w' hd => Eq.trans (show (g 16).v = .bool ((D.plan_Plan_Cells a0) == (D.cubicleref06_Cells a0)) from (hd 16 rfl).1) (congrArg Value.bool h73)) (fun fr1 g w' hb' hd r' => ?_) ?_
                        · exact y_load_agg r' (cs := (wordPC a1)) (n := 3) rfl ((hP.below (dr hb')).cell (i := 1) rfl) ta35 rfl ⟨Below.refl _ _, rfl⟩
                        refine eachF_want true r rfl rfl rfl (fun g w' hd => Eq.trans (show (g 16).v = .bool ((D.plan_Plan_Cells a0) == (D.cubicleref06_Cells a0)) from (hd 16 rfl).1) (congrArg Value.bool h73)) (fun fr1 g w' hb' hd r' => ?_) ?_
                        · exact y_call r' (args := [(.agg (planC a0).toArray), (.agg (wordPC a1).toArray)]) (lc (hd 17 rfl).1 (lc (hd 18 rfl).1 l0)) cl33 ((c_cubiclelaw06_told _ a0 a1).mono (by rintro _ w2 ⟨rfl, hb2⟩; exact ⟨_, rfl, hb2, rfl⟩))
                        refine eachF_want true r rfl rfl rfl (fun g w' hd => Eq.trans (show (g 16).v = .bool ((D.plan_Plan_Cells a0) == (D.cubicleref06_Cells a0)) from (hd 16 rfl).1) (congrArg Value.bool h73)) (fun fr1 g w' hb' hd r' => ?_) ?_
                        · exact y_move r' (v := v40) rfl ⟨Below.refl _ _, rfl⟩
                        refine eachF_want true r rfl rfl rfl (fun g w' hd => Eq.trans (show (g 16).v = .bool ((D.plan_Plan_Cells a0) == (D.cubicleref06_Cells a0)) from (hd 16 rfl).1) (congrArg Value.bool h73)) (fun fr1 g w' hb' hd r' => ?_) ?_
                        · exact y_load_agg r' (cs := (wordPC x67)) (n := 3) rfl ((hP.below (dr hb')).cell (i := 3) rfl) ta35 rfl ⟨Below.refl _ _, rfl⟩
                        refine eachF_want true r rfl rfl rfl (fun g w' hd => Eq.trans (show (g 16).v = .bool ((D.plan_Plan_Cells a0) == (D.cubicleref06_Cells a0)) from (hd 16 rfl).1) (congrArg Value.bool h73)) (fun fr1 g w' hb' hd r' => ?_) ?_
                        · exact y_call r' (args := [v40, (.agg (wordPC x67).toArray)]) (lc (hd 20 rfl).1 (lc (hd 21 rfl).1 l0)) cl36 ((c_cubicleref06_Place _ x38 ((hP.below (dr hb')).row (i := 2) rfl) x67 hx74).mono (by rintro _ w2 ⟨rfl, hb2⟩; exact ⟨_, rfl, hb2, rfl⟩))
                        refine eachF_want true r rfl rfl rfl (fun g w' hd => Eq.trans (show (g 16).v = .bool ((D.plan_Plan_Cells a0) == (D.cubicleref06_Cells a0)) from (hd 16 rfl).1) (congrArg Value.bool h73)) (fun fr1 g w' hb' hd r' => ?_) ?_
                        · exact y_bin r' (u := (.int .i64 (D.cubiclelaw06_told a0 a1))) (u' := (.int .i64 x74)) (v := (.bool ((D.cubiclelaw06_told a0 a1) == x74))) (hd 19 rfl).1 (hd 22 rfl).1 rfl rfl ⟨Below.refl _ _, rfl⟩
                        refine eachF_cons r rfl (fun fr1 g w' hb' hd r' => ?_) ?_
                        · exact y_pick r' (b := true) (v := (.bool ((D.cubiclelaw06_told a0 a1) == x74))) (Eq.trans (show (g 16).v = .bool ((D.plan_Plan_Cells a0) == (D.cubicleref06_Cells a0)) from (hd 16 rfl).1) (congrArg Value.bool h73)) (hd 23 rfl).1 ⟨Below.refl _ _, rfl⟩
                        refine eachF_cons r rfl (fun fr1 g w' hb' hd r' => ?_) ?_
                        · exact y_assign r' (v := (.bool ((D.cubiclelaw06_told a0 a1) == x74))) (hd 24 rfl).1 ⟨Below.refl _ _, rfl⟩
                        exact eachF_nil
                      · skip
                        intro fr gg w75 hb hΦ hap r
                        have g0 : (gg 0).v = (.agg (planC a0).toArray) := (hΦ 0 rfl).1
                        have g1 : (gg 1).v = (.bool (D.plan_Plan_Formed a0)) := (hΦ 1 rfl).1
                        have g2 : (gg 2).v = (.bool (D.plan_Plan_Formed a0)) := (hΦ 2 rfl).1
                        have g3 : (gg 3).v = (.agg (planC a0).toArray) := (hΦ 3 rfl).1
                        have g4 : (gg 4).v = (.int .i64 (D.plan_Plan_Size a0)) := (hΦ 4 rfl).1
                        have g5 : (gg 5).v = v40 := (hΦ 5 rfl).1
                        have g6 : (gg 6).v = (.int .i64 (x38.length : Int)) := (hΦ 6 rfl).1
                        have g7 : (gg 7).v = (.bool ((D.plan_Plan_Size a0) == (x38.length : Int))) := (hΦ 7 rfl).1
                        have g8 : (gg 8).v = (.bool ((D.plan_Plan_Size a0) == (x38.length : Int))) := (hΦ 8 rfl).1
                        have g9 : (gg 9).v = (.bool ((D.plan_Plan_Size a0) == (x38.length : Int))) := (hΦ 9 rfl).1
                        have g10 : (gg 10).v = (.agg (planC a0).toArray) := (hΦ 10 rfl).1
                        have g11 : (gg 11).v = (.int .i64 (D.plan_Plan_Cells a0)) := (hΦ 11 rfl).1
                        have g12 : (gg 12).v = (.agg (planC a0).toArray) := (hΦ 12 rfl).1
                        have g13 : (gg 13).v = (.int .i64 (D.cubicleref06_Cells a0)) := (hΦ 13 rfl).1
                        have g14 : (gg 14).v = (.bool ((D.plan_Plan_Cells a0) == (D.cubicleref06_Cells a0))) := (hΦ 14 rfl).1
                        have g15 : (gg 15).v = (.bool ((D.plan_Plan_Cells a0) == (D.cubicleref06_Cells a0))) := (hΦ 15 rfl).1
                        have g16 : (gg 16).v = (.bool ((D.plan_Plan_Cells a0) == (D.cubicleref06_Cells a0))) := (hΦ 16 rfl).1
                        have g17 : (gg 17).v = (.agg (planC a0).toArray) := (hΦ 17 rfl).1
                        have g18 : (gg 18).v = (.agg (wordPC a1).toArray) := (hΦ 18 rfl).1
                        have g19 : (gg 19).v = (.int .i64 (D.cubiclelaw06_told a0 a1)) := (hΦ 19 rfl).1
                        have g20 : (gg 20).v = v40 := (hΦ 20 rfl).1
                        have g21 : (gg 21).v = (.agg (wordPC x67).toArray) := (hΦ 21 rfl).1
                        have g22 : (gg 22).v = (.int .i64 x74) := (hΦ 22 rfl).1
                        have g23 : (gg 23).v = (.bool ((D.cubiclelaw06_told a0 a1) == x74)) := (hΦ 23 rfl).1
                        have g24 : (gg 24).v = (.bool ((D.cubiclelaw06_told a0 a1) == x74)) := (hΦ 24 rfl).1
                        have g25 : (gg 25).v = (.bool ((D.cubiclelaw06_told a0 a1) == x74)) := (hΦ 25 rfl).1
                        have r := r.congr (sc g25 (sc g24 (sc g23 (sc g22 (sc g21 (sc g20 (sc g19 (sc g18 (sc g17 (sc g16 (sc g15 (sc g14 (sc g13 (sc g12 (sc g11 (sc g10 (sc g9 (sc g8 (sc g7 (sc g6 (sc g5 (sc g4 (sc g3 (sc g2 (sc g1 (sc g0 rfl))))))))))))))))))))))))))
                        have hP : Post No [cellC b1 ((planC a0)).toArray 24, cellC b5 ((wordPC a1)).toArray 35, rowK 35 3 wordPC v40 x38, cellC b42 ((wordPC x67)).toArray 35] w0 w75 := hP.below hb
                        exact nxy70 ((D.cubiclelaw06_told a0 a1) == x74) () _ _ _ hD r (hs_cons rfl (hs_cons rfl (hs_cons rfl (hs_cons rfl (hs_cons rfl (hs_cons rfl (hs_cons rfl (hs_cons rfl (hs_cons rfl (hs_cons rfl (hs_cons rfl hs_nil))))))))))) (hP.pick [0, 1, 2, 3] rfl rfl)
                    · skip
                      have hD := (cond_f h73).symm.trans hD
                      refine wp_freeF [.val (.agg (planC a0).toArray), .val (.bool (D.plan_Plan_Formed a0)), .val (.bool (D.plan_Plan_Formed a0)), .val (.agg (planC a0).toArray), .val (.int .i64 (D.plan_Plan_Size a0)), .val v40, .val (.int .i64 (x38.length : Int)), .val (.bool ((D.plan_Plan_Size a0) == (x38.length : Int))), .val (.bool ((D.plan_Plan_Size a0) == (x38.length : Int))), .val (.bool ((D.plan_Plan_Size a0) == (x38.length : Int))), .val (.agg (planC a0).toArray), .val (.int .i64 (D.plan_Plan_Cells a0)), .val (.agg (planC a0).toArray), .val (.int .i64 (D.cubicleref06_Cells a0)), .val (.bool ((D.plan_Plan_Cells a0) == (D.cubicleref06_Cells a0))), .val (.bool ((D.plan_Plan_Cells a0) == (D.cubicleref06_Cells a0))), .val (.bool ((D.plan_Plan_Cells a0) == (D.cubicleref06_Cells a0))), .val undef, .val undef, .val undef, .val undef, .val undef, .val undef, .val undef, .val (.bool false), .val (.bool false)] mixed r (by kernel_rfl) ?_ ?_
                      · skip
                        refine eachF_cons r rfl (fun fr1 g w' hb' hd r' => ?_) ?_
                        · exact y_load_agg r' (cs := (planC a0)) (n := 6) rfl ((hP.below (dr hb')).cell (i := 0) rfl) ta24 rfl ⟨Below.refl _ _, rfl⟩
                        refine eachF_cons r rfl (fun fr1 g w' hb' hd r' => ?_) ?_
                        · exact y_call r' (args := [(.agg (planC a0).toArray)]) (lc (hd 0 rfl).1 l0) cl19 ((c_plan_Plan_Formed _ a0).mono (by rintro _ w2 ⟨rfl, hb2⟩; exact ⟨_, rfl, hb2, rfl⟩))
                        refine eachF_cons r rfl (fun fr1 g w' hb' hd r' => ?_) ?_
                        · exact y_move r' (v := (.bool (D.plan_Plan_Formed a0))) (hd 1 rfl).1 ⟨Below.refl _ _, rfl⟩
                        refine eachF_want true r rfl rfl rfl (fun g w' hd => Eq.trans (show (g 2).v = .bool (D.plan_Plan_Formed a0) from (hd 2 rfl).1) (congrArg Value.bool h71)) (fun fr1 g w' hb' hd r' => ?_) ?_
                        · exact y_load_agg r' (cs := (planC a0)) (n := 6) rfl ((hP.below (dr hb')).cell (i := 0) rfl) ta24 rfl ⟨Below.refl _ _, rfl⟩
                        refine eachF_want true r rfl rfl rfl (fun g w' hd => Eq.trans (show (g 2).v = .bool (D.plan_Plan_Formed a0) from (hd 2 rfl).1) (congrArg Value.bool h71)) (fun fr1 g w' hb' hd r' => ?_) ?_
                        · exact y_call r' (args := [(.agg (planC a0).toArray)]) (lc (hd 3 rfl).1 l0) cl21 ((c_plan_Plan_Size _ a0).mono (by rintro _ w2 ⟨rfl, hb2⟩; exact ⟨_, rfl, hb2, rfl⟩))
                        refine eachF_want true r rfl rfl rfl (fun g w' hd => Eq.trans (show (g 2).v = .bool (D.plan_Plan_Formed a0) from (hd 2 rfl).1) (congrArg Value.bool h71)) (fun fr1 g w' hb' hd r' => ?_) ?_
                        · exact y_move r' (v := v40) rfl ⟨Below.refl _ _, rfl⟩
                        refine eachF_want true r rfl rfl rfl (fun g w' hd => Eq.trans (show (g 2).v = .bool (D.plan_Plan_Formed a0) from (hd 2 rfl).1) (congrArg Value.bool h71)) (fun fr1 g w' hb' hd r' => ?_) ?_
                        · exact y_rowLen r' ((hP.below (dr hb')).row (i := 2) rfl) is31 (hd 5 rfl).1 ⟨Below.refl _ _, rfl⟩
                        refine eachF_want true r rfl rfl rfl (fun g w' hd => Eq.trans (show (g 2).v = .bool (D.plan_Plan_Formed a0) from (hd 2 rfl).1) (congrArg Value.bool h71)) (fun fr1 g w' hb' hd r' => ?_) ?_
                        · exact y_bin r' (u := (.int .i64 (D.plan_Plan_Size a0))) (u' := (.int .i64 (x38.length : Int))) (v := (.bool ((D.plan_Plan_Size a0) == (x38.length : Int)))) (hd 4 rfl).1 (hd 6 rfl).1 rfl rfl ⟨Below.refl _ _, rfl⟩
                        refine eachF_cons r rfl (fun fr1 g w' hb' hd r' => ?_) ?_
                        · exact y_pick r' (b := true) (v := (.bool ((D.plan_Plan_Size a0) == (x38.length : Int)))) (Eq.trans (show (g 2).v = .bool (D.plan_Plan_Formed a0) from (hd 2 rfl).1) (congrArg Value.bool h71)) (hd 7 rfl).1 ⟨Below.refl _ _, rfl⟩
                        refine eachF_cons r rfl (fun fr1 g w' hb' hd r' => ?_) ?_
                        · exact y_move r' (v := (.bool ((D.plan_Plan_Size a0) == (x38.length : Int)))) (hd 8 rfl).1 ⟨Below.refl _ _, rfl⟩
                        refine eachF_want true r rfl rfl rfl (fun g w' hd => Eq.trans (show (g 9).v = .bool ((D.plan_Plan_Size a0) == (x38.length : Int)) from (hd 9 rfl).1) (congrArg Value.bool h72)) (fun fr1 g w' hb' hd r' => ?_) ?_
                        · exact y_load_agg r' (cs := (planC a0)) (n := 6) rfl ((hP.below (dr hb')).cell (i := 0) rfl) ta24 rfl ⟨Below.refl _ _, rfl⟩
                        refine eachF_want true r rfl rfl rfl (fun g w' hd => Eq.trans (show (g 9).v = .bool ((D.plan_Plan_Size a0) == (x38.length : Int)) from (hd 9 rfl).1) (congrArg Value.bool h72)) (fun fr1 g w' hb' hd r' => ?_) ?_
                        · exact y_call r' (args := [(.agg (planC a0).toArray)]) (lc (hd 10 rfl).1 l0) cl30 ((c_plan_Plan_Cells _ a0).mono (by rintro _ w2 ⟨rfl, hb2⟩; exact ⟨_, rfl, hb2, rfl⟩))
                        refine eachF_want true r rfl rfl rfl (fun g w' hd => Eq.trans (show (g 9).v = .bool ((D.plan_Plan_Size a0) == (x38.length : Int)) from (hd 9 rfl).1) (congrArg Value.bool h72)) (fun fr1 g w' hb' hd r' => ?_) ?_
                        · exact y_load_agg r' (cs := (planC a0)) (n := 6) rfl ((hP.below (dr hb')).cell (i := 0) rfl) ta24 rfl ⟨Below.refl _ _, rfl⟩
                        refine eachF_want true r rfl rfl rfl (fun g w' hd => Eq.trans (show (g 9).v = .bool ((D.plan_Plan_Size a0) == (x38.length : Int)) from (hd 9 rfl).1) (congrArg Value.bool h72)) (fun fr1 g w' hb' hd r' => ?_) ?_
                        · exact y_call r' (args := [(.agg (planC a0).toArray)]) (lc (hd 12 rfl).1 l0) cl35 ((c_cubicleref06_Cells _ a0).mono (by rintro _ w2 ⟨rfl, hb2⟩; exact ⟨_, rfl, hb2, rfl⟩))
                        refine eachF_want true r rfl rfl rfl (fun g w' hd => Eq.trans (show (g 9).v = .bool ((D.plan_Plan_Size a0) == (x38.length : Int)) from (hd 9 rfl).1) (congrArg Value.bool h72)) (fun fr1 g w' hb' hd r' => ?_) ?_
                        · exact y_bin r' (u := (.int .i64 (D.plan_Plan_Cells a0))) (u' := (.int .i64 (D.cubicleref06_Cells a0))) (v := (.bool ((D.plan_Plan_Cells a0) == (D.cubicleref06_Cells a0)))) (hd 11 rfl).1 (hd 13 rfl).1 rfl rfl ⟨Below.refl _ _, rfl⟩
                        refine eachF_cons r rfl (fun fr1 g w' hb' hd r' => ?_) ?_
                        · exact y_pick r' (b := true) (v := (.bool ((D.plan_Plan_Cells a0) == (D.cubicleref06_Cells a0)))) (Eq.trans (show (g 9).v = .bool ((D.plan_Plan_Size a0) == (x38.length : Int)) from (hd 9 rfl).1) (congrArg Value.bool h72)) (hd 14 rfl).1 ⟨Below.refl _ _, rfl⟩
                        refine eachF_cons r rfl (fun fr1 g w' hb' hd r' => ?_) ?_
                        · exact y_move r' (v := (.bool ((D.plan_Plan_Cells a0) == (D.cubicleref06_Cells a0)))) (hd 15 rfl).1 ⟨Below.refl _ _, rfl⟩
                        refine eachF_skip true (.bool false) r rfl rfl rfl (fun g w' hd => Eq.trans (show (g 16).v = .bool ((D.plan_Plan_Cells a0) == (D.cubicleref06_Cells a0)) from (hd 16 rfl).1) (congrArg Value.bool h73)) (by simp [boolOf]) (fun _ _ => ⟨Below.refl _ _, rfl⟩) ?_
                        refine eachF_skip true (.bool false) r rfl rfl rfl (fun g w' hd => Eq.trans (show (g 16).v = .bool ((D.plan_Plan_Cells a0) == (D.cubicleref06_Cells a0)) from (hd 16 rfl).1) (congrArg Value.bool h73)) (by simp [boolOf]) (fun _ _ => ⟨Below.refl _ _, rfl⟩) ?_
                        refine eachF_skip true (.bool false) r rfl rfl rfl (fun g w' hd => Eq.trans (show (g 16).v = .bool ((D.plan_Plan_Cells a0) == (D.cubicleref06_Cells a0)) from (hd 16 rfl).1) (congrArg Value.bool h73)) (by simp [boolOf]) (fun _ _ => ⟨Below.refl _ _, rfl⟩) ?_
                        refine eachF_skip true (.bool false) r rfl rfl rfl (fun g w' hd => Eq.trans (show (g 16).v = .bool ((D.plan_Plan_Cells a0) == (D.cubicleref06_Cells a0)) from (hd 16 rfl).1) (congrArg Value.bool h73)) (by simp [boolOf]) (fun _ _ => ⟨Below.refl _ _, rfl⟩) ?_
                        refine eachF_skip true (.bool false) r rfl rfl rfl (fun g w' hd => Eq.trans (show (g 16).v = .bool ((D.plan_Plan_Cells a0) == (D.cubicleref06_Cells a0)) from (hd 16 rfl).1) (congrArg Value.bool h73)) (by simp [boolOf]) (fun _ _ => ⟨Below.refl _ _, rfl⟩) ?_
                        refine eachF_skip true (.bool false) r rfl rfl rfl (fun g w' hd => Eq.trans (show (g 16).v = .bool ((D.plan_Plan_Cells a0) == (D.cubicleref06_Cells a0)) from (hd 16 rfl).1) (congrArg Value.bool h73)) (by simp [boolOf]) (fun _ _ => ⟨Below.refl _ _, rfl⟩) ?_
                        refine eachF_skip true (.bool false) r rfl rfl rfl (fun g w' hd => Eq.trans (show (g 16).v = .bool ((D.plan_Plan_Cells a0) == (D.cubicleref06_Cells a0)) from (hd 16 rfl).1) (congrArg Value.bool h73)) (by simp [boolOf]) (fun _ _ => ⟨Below.refl _ _, rfl⟩) ?_
                        refine eachF_cons r rfl (fun fr1 g w' hb' hd r' => ?_) ?_
                        · exact y_pick r' (b := false) (v := (.bool false)) (Eq.trans (show (g 16).v = .bool ((D.plan_Plan_Cells a0) == (D.cubicleref06_Cells a0)) from (hd 16 rfl).1) (congrArg Value.bool h73)) rfl ⟨Below.refl _ _, rfl⟩
                        refine eachF_cons r rfl (fun fr1 g w' hb' hd r' => ?_) ?_
                        · exact y_assign r' (v := (.bool false)) (hd 24 rfl).1 ⟨Below.refl _ _, rfl⟩
                        exact eachF_nil
                      · skip
                        intro fr gg w76 hb hΦ hap r
                        have g0 : (gg 0).v = (.agg (planC a0).toArray) := (hΦ 0 rfl).1
                        have g1 : (gg 1).v = (.bool (D.plan_Plan_Formed a0)) := (hΦ 1 rfl).1
                        have g2 : (gg 2).v = (.bool (D.plan_Plan_Formed a0)) := (hΦ 2 rfl).1
                        have g3 : (gg 3).v = (.agg (planC a0).toArray) := (hΦ 3 rfl).1
                        have g4 : (gg 4).v = (.int .i64 (D.plan_Plan_Size a0)) := (hΦ 4 rfl).1
                        have g5 : (gg 5).v = v40 := (hΦ 5 rfl).1
                        have g6 : (gg 6).v = (.int .i64 (x38.length : Int)) := (hΦ 6 rfl).1
                        have g7 : (gg 7).v = (.bool ((D.plan_Plan_Size a0) == (x38.length : Int))) := (hΦ 7 rfl).1
                        have g8 : (gg 8).v = (.bool ((D.plan_Plan_Size a0) == (x38.length : Int))) := (hΦ 8 rfl).1
                        have g9 : (gg 9).v = (.bool ((D.plan_Plan_Size a0) == (x38.length : Int))) := (hΦ 9 rfl).1
                        have g10 : (gg 10).v = (.agg (planC a0).toArray) := (hΦ 10 rfl).1
                        have g11 : (gg 11).v = (.int .i64 (D.plan_Plan_Cells a0)) := (hΦ 11 rfl).1
                        have g12 : (gg 12).v = (.agg (planC a0).toArray) := (hΦ 12 rfl).1
                        have g13 : (gg 13).v = (.int .i64 (D.cubicleref06_Cells a0)) := (hΦ 13 rfl).1
                        have g14 : (gg 14).v = (.bool ((D.plan_Plan_Cells a0) == (D.cubicleref06_Cells a0))) := (hΦ 14 rfl).1
                        have g15 : (gg 15).v = (.bool ((D.plan_Plan_Cells a0) == (D.cubicleref06_Cells a0))) := (hΦ 15 rfl).1
                        have g16 : (gg 16).v = (.bool ((D.plan_Plan_Cells a0) == (D.cubicleref06_Cells a0))) := (hΦ 16 rfl).1
                        have g17 : (gg 17).v = undef := (hΦ 17 rfl).1
                        have g18 : (gg 18).v = undef := (hΦ 18 rfl).1
                        have g19 : (gg 19).v = undef := (hΦ 19 rfl).1
                        have g20 : (gg 20).v = undef := (hΦ 20 rfl).1
                        have g21 : (gg 21).v = undef := (hΦ 21 rfl).1
                        have g22 : (gg 22).v = undef := (hΦ 22 rfl).1
                        have g23 : (gg 23).v = undef := (hΦ 23 rfl).1
                        have g24 : (gg 24).v = (.bool false) := (hΦ 24 rfl).1
                        have g25 : (gg 25).v = (.bool false) := (hΦ 25 rfl).1
                        have r := r.congr (sc g25 (sc g24 (sc g23 (sc g22 (sc g21 (sc g20 (sc g19 (sc g18 (sc g17 (sc g16 (sc g15 (sc g14 (sc g13 (sc g12 (sc g11 (sc g10 (sc g9 (sc g8 (sc g7 (sc g6 (sc g5 (sc g4 (sc g3 (sc g2 (sc g1 (sc g0 rfl))))))))))))))))))))))))))
                        have hP : Post No [cellC b1 ((planC a0)).toArray 24, cellC b5 ((wordPC a1)).toArray 35, rowK 35 3 wordPC v40 x38, cellC b42 ((wordPC x67)).toArray 35] w0 w76 := hP.below hb
                        exact nxy70 false () _ _ _ hD r (hs_cons rfl (hs_cons rfl (hs_cons rfl (hs_cons rfl (hs_cons rfl (hs_cons rfl (hs_cons rfl (hs_cons rfl (hs_cons rfl (hs_cons rfl (hs_cons rfl hs_nil))))))))))) (hP.pick [0, 1, 2, 3] rfl rfl)
                  · skip
                    have hD := (cond_f h72).symm.trans hD
                    refine wp_freeF [.val (.agg (planC a0).toArray), .val (.bool (D.plan_Plan_Formed a0)), .val (.bool (D.plan_Plan_Formed a0)), .val (.agg (planC a0).toArray), .val (.int .i64 (D.plan_Plan_Size a0)), .val v40, .val (.int .i64 (x38.length : Int)), .val (.bool ((D.plan_Plan_Size a0) == (x38.length : Int))), .val (.bool ((D.plan_Plan_Size a0) == (x38.length : Int))), .val (.bool ((D.plan_Plan_Size a0) == (x38.length : Int))), .val undef, .val undef, .val undef, .val undef, .val undef, .val (.bool false), .val (.bool false), .val undef, .val undef, .val undef, .val undef, .val undef, .val undef, .val undef, .val (.bool false), .val (.bool false)] mixed r (by kernel_rfl) ?_ ?_
                    · skip
                      refine eachF_cons r rfl (fun fr1 g w' hb' hd r' => ?_) ?_
                      · exact y_load_agg r' (cs := (planC a0)) (n := 6) rfl ((hP.below (dr hb')).cell (i := 0) rfl) ta24 rfl ⟨Below.refl _ _, rfl⟩
                      refine eachF_cons r rfl (fun fr1 g w' hb' hd r' => ?_) ?_
                      · exact y_call r' (args := [(.agg (planC a0).toArray)]) (lc (hd 0 rfl).1 l0) cl19 ((c_plan_Plan_Formed _ a0).mono (by rintro _ w2 ⟨rfl, hb2⟩; exact ⟨_, rfl, hb2, rfl⟩))
                      refine eachF_cons r rfl (fun fr1 g w' hb' hd r' => ?_) ?_
                      · exact y_move r' (v := (.bool (D.plan_Plan_Formed a0))) (hd 1 rfl).1 ⟨Below.refl _ _, rfl⟩
                      refine eachF_want true r rfl rfl rfl (fun g w' hd => Eq.trans (show (g 2).v = .bool (D.plan_Plan_Formed a0) from (hd 2 rfl).1) (congrArg Value.bool h71)) (fun fr1 g w' hb' hd r' => ?_) ?_
                      · exact y_load_agg r' (cs := (planC a0)) (n := 6) rfl ((hP.below (dr hb')).cell (i := 0) rfl) ta24 rfl ⟨Below.refl _ _, rfl⟩
                      refine eachF_want true r rfl rfl rfl (fun g w' hd => Eq.trans (show (g 2).v = .bool (D.plan_Plan_Formed a0) from (hd 2 rfl).1) (congrArg Value.bool h71)) (fun fr1 g w' hb' hd r' => ?_) ?_
                      · exact y_call r' (args := [(.agg (planC a0).toArray)]) (lc (hd 3 rfl).1 l0) cl21 ((c_plan_Plan_Size _ a0).mono (by rintro _ w2 ⟨rfl, hb2⟩; exact ⟨_, rfl, hb2, rfl⟩))
                      refine eachF_want true r rfl rfl rfl (fun g w' hd => Eq.trans (show (g 2).v = .bool (D.plan_Plan_Formed a0) from (hd 2 rfl).1) (congrArg Value.bool h71)) (fun fr1 g w' hb' hd r' => ?_) ?_
                      · exact y_move r' (v := v40) rfl ⟨Below.refl _ _, rfl⟩
                      refine eachF_want true r rfl rfl rfl (fun g w' hd => Eq.trans (show (g 2).v = .bool (D.plan_Plan_Formed a0) from (hd 2 rfl).1) (congrArg Value.bool h71)) (fun fr1 g w' hb' hd r' => ?_) ?_
                      · exact y_rowLen r' ((hP.below (dr hb')).row (i := 2) rfl) is31 (hd 5 rfl).1 ⟨Below.refl _ _, rfl⟩
                      refine eachF_want true r rfl rfl rfl (fun g w' hd => Eq.trans (show (g 2).v = .bool (D.plan_Plan_Formed a0) from (hd 2 rfl).1) (congrArg Value.bool h71)) (fun fr1 g w' hb' hd r' => ?_) ?_
                      · exact y_bin r' (u := (.int .i64 (D.plan_Plan_Size a0))) (u' := (.int .i64 (x38.length : Int))) (v := (.bool ((D.plan_Plan_Size a0) == (x38.length : Int)))) (hd 4 rfl).1 (hd 6 rfl).1 rfl rfl ⟨Below.refl _ _, rfl⟩
                      refine eachF_cons r rfl (fun fr1 g w' hb' hd r' => ?_) ?_
                      · exact y_pick r' (b := true) (v := (.bool ((D.plan_Plan_Size a0) == (x38.length : Int)))) (Eq.trans (show (g 2).v = .bool (D.plan_Plan_Formed a0) from (hd 2 rfl).1) (congrArg Value.bool h71)) (hd 7 rfl).1 ⟨Below.refl _ _, rfl⟩
                      refine eachF_cons r rfl (fun fr1 g w' hb' hd r' => ?_) ?_
                      · exact y_move r' (v := (.bool ((D.plan_Plan_Size a0) == (x38.length : Int)))) (hd 8 rfl).1 ⟨Below.refl _ _, rfl⟩
                      refine eachF_skip true (.bool false) r rfl rfl rfl (fun g w' hd => Eq.trans (show (g 9).v = .bool ((D.plan_Plan_Size a0) == (x38.length : Int)) from (hd 9 rfl).1) (congrArg Value.bool h72)) (by simp [boolOf]) (fun _ _ => ⟨Below.refl _ _, rfl⟩) ?_
                      refine eachF_skip true (.bool false) r rfl rfl rfl (fun g w' hd => Eq.trans (show (g 9).v = .bool ((D.plan_Plan_Size a0) == (x38.length : Int)) from (hd 9 rfl).1) (congrArg Value.bool h72)) (by simp [boolOf]) (fun _ _ => ⟨Below.refl _ _, rfl⟩) ?_
                      refine eachF_skip true (.bool false) r rfl rfl rfl (fun g w' hd => Eq.trans (show (g 9).v = .bool ((D.plan_Plan_Size a0) == (x38.length : Int)) from (hd 9 rfl).1) (congrArg Value.bool h72)) (by simp [boolOf]) (fun _ _ => ⟨Below.refl _ _, rfl⟩) ?_
                      refine eachF_skip true (.bool false) r rfl rfl rfl (fun g w' hd => Eq.trans (show (g 9).v = .bool ((D.plan_Plan_Size a0) == (x38.length : Int)) from (hd 9 rfl).1) (congrArg Value.bool h72)) (by simp [boolOf]) (fun _ _ => ⟨Below.refl _ _, rfl⟩) ?_
                      refine eachF_skip true (.bool false) r rfl rfl rfl (fun g w' hd => Eq.trans (show (g 9).v = .bool ((D.plan_Plan_Size a0) == (x38.length : Int)) from (hd 9 rfl).1) (congrArg Value.bool h72)) (by simp [boolOf]) (fun _ _ => ⟨Below.refl _ _, rfl⟩) ?_
                      refine eachF_cons r rfl (fun fr1 g w' hb' hd r' => ?_) ?_
                      · exact y_pick r' (b := false) (v := (.bool false)) (Eq.trans (show (g 9).v = .bool ((D.plan_Plan_Size a0) == (x38.length : Int)) from (hd 9 rfl).1) (congrArg Value.bool h72)) rfl ⟨Below.refl _ _, rfl⟩
                      refine eachF_cons r rfl (fun fr1 g w' hb' hd r' => ?_) ?_
                      · exact y_move r' (v := (.bool false)) (hd 15 rfl).1 ⟨Below.refl _ _, rfl⟩
                      refine eachF_skip true (.bool false) r rfl rfl rfl (fun g w' hd => Eq.trans (show (g 16).v = .bool false from (hd 16 rfl).1) (congrArg Value.bool (rfl : false = _))) (by simp [boolOf]) (fun _ _ => ⟨Below.refl _ _, rfl⟩) ?_
                      refine eachF_skip true (.bool false) r rfl rfl rfl (fun g w' hd => Eq.trans (show (g 16).v = .bool false from (hd 16 rfl).1) (congrArg Value.bool (rfl : false = _))) (by simp [boolOf]) (fun _ _ => ⟨Below.refl _ _, rfl⟩) ?_
                      refine eachF_skip true (.bool false) r rfl rfl rfl (fun g w' hd => Eq.trans (show (g 16).v = .bool false from (hd 16 rfl).1) (congrArg Value.bool (rfl : false = _))) (by simp [boolOf]) (fun _ _ => ⟨Below.refl _ _, rfl⟩) ?_
                      refine eachF_skip true (.bool false) r rfl rfl rfl (fun g w' hd => Eq.trans (show (g 16).v = .bool false from (hd 16 rfl).1) (congrArg Value.bool (rfl : false = _))) (by simp [boolOf]) (fun _ _ => ⟨Below.refl _ _, rfl⟩) ?_
                      refine eachF_skip true (.bool false) r rfl rfl rfl (fun g w' hd => Eq.trans (show (g 16).v = .bool false from (hd 16 rfl).1) (congrArg Value.bool (rfl : false = _))) (by simp [boolOf]) (fun _ _ => ⟨Below.refl _ _, rfl⟩) ?_
                      refine eachF_skip true (.bool false) r rfl rfl rfl (fun g w' hd => Eq.trans (show (g 16).v = .bool false from (hd 16 rfl).1) (congrArg Value.bool (rfl : false = _))) (by simp [boolOf]) (fun _ _ => ⟨Below.refl _ _, rfl⟩) ?_
                      refine eachF_skip true (.bool false) r rfl rfl rfl (fun g w' hd => Eq.trans (show (g 16).v = .bool false from (hd 16 rfl).1) (congrArg Value.bool (rfl : false = _))) (by simp [boolOf]) (fun _ _ => ⟨Below.refl _ _, rfl⟩) ?_
                      refine eachF_cons r rfl (fun fr1 g w' hb' hd r' => ?_) ?_
                      · exact y_pick r' (b := false) (v := (.bool false)) (Eq.trans (show (g 16).v = .bool false from (hd 16 rfl).1) (congrArg Value.bool (rfl : false = _))) rfl ⟨Below.refl _ _, rfl⟩
                      refine eachF_cons r rfl (fun fr1 g w' hb' hd r' => ?_) ?_
                      · exact y_assign r' (v := (.bool false)) (hd 24 rfl).1 ⟨Below.refl _ _, rfl⟩
                      exact eachF_nil
                    · skip
                      intro fr gg w77 hb hΦ hap r
                      have g0 : (gg 0).v = (.agg (planC a0).toArray) := (hΦ 0 rfl).1
                      have g1 : (gg 1).v = (.bool (D.plan_Plan_Formed a0)) := (hΦ 1 rfl).1
                      have g2 : (gg 2).v = (.bool (D.plan_Plan_Formed a0)) := (hΦ 2 rfl).1
                      have g3 : (gg 3).v = (.agg (planC a0).toArray) := (hΦ 3 rfl).1
                      have g4 : (gg 4).v = (.int .i64 (D.plan_Plan_Size a0)) := (hΦ 4 rfl).1
                      have g5 : (gg 5).v = v40 := (hΦ 5 rfl).1
                      have g6 : (gg 6).v = (.int .i64 (x38.length : Int)) := (hΦ 6 rfl).1
                      have g7 : (gg 7).v = (.bool ((D.plan_Plan_Size a0) == (x38.length : Int))) := (hΦ 7 rfl).1
                      have g8 : (gg 8).v = (.bool ((D.plan_Plan_Size a0) == (x38.length : Int))) := (hΦ 8 rfl).1
                      have g9 : (gg 9).v = (.bool ((D.plan_Plan_Size a0) == (x38.length : Int))) := (hΦ 9 rfl).1
                      have g10 : (gg 10).v = undef := (hΦ 10 rfl).1
                      have g11 : (gg 11).v = undef := (hΦ 11 rfl).1
                      have g12 : (gg 12).v = undef := (hΦ 12 rfl).1
                      have g13 : (gg 13).v = undef := (hΦ 13 rfl).1
                      have g14 : (gg 14).v = undef := (hΦ 14 rfl).1
                      have g15 : (gg 15).v = (.bool false) := (hΦ 15 rfl).1
                      have g16 : (gg 16).v = (.bool false) := (hΦ 16 rfl).1
                      have g17 : (gg 17).v = undef := (hΦ 17 rfl).1
                      have g18 : (gg 18).v = undef := (hΦ 18 rfl).1
                      have g19 : (gg 19).v = undef := (hΦ 19 rfl).1
                      have g20 : (gg 20).v = undef := (hΦ 20 rfl).1
                      have g21 : (gg 21).v = undef := (hΦ 21 rfl).1
                      have g22 : (gg 22).v = undef := (hΦ 22 rfl).1
                      have g23 : (gg 23).v = undef := (hΦ 23 rfl).1
                      have g24 : (gg 24).v = (.bool false) := (hΦ 24 rfl).1
                      have g25 : (gg 25).v = (.bool false) := (hΦ 25 rfl).1
                      have r := r.congr (sc g25 (sc g24 (sc g23 (sc g22 (sc g21 (sc g20 (sc g19 (sc g18 (sc g17 (sc g16 (sc g15 (sc g14 (sc g13 (sc g12 (sc g11 (sc g10 (sc g9 (sc g8 (sc g7 (sc g6 (sc g5 (sc g4 (sc g3 (sc g2 (sc g1 (sc g0 rfl))))))))))))))))))))))))))
                      have hP : Post No [cellC b1 ((planC a0)).toArray 24, cellC b5 ((wordPC a1)).toArray 35, rowK 35 3 wordPC v40 x38, cellC b42 ((wordPC x67)).toArray 35] w0 w77 := hP.below hb
                      exact nxy70 false () _ _ _ hD r (hs_cons rfl (hs_cons rfl (hs_cons rfl (hs_cons rfl (hs_cons rfl (hs_cons rfl (hs_cons rfl (hs_cons rfl (hs_cons rfl (hs_cons rfl (hs_cons rfl hs_nil))))))))))) (hP.pick [0, 1, 2, 3] rfl rfl)
                · skip
                  have hD := (cond_f h71).symm.trans hD
                  refine wp_freeF [.val (.agg (planC a0).toArray), .val (.bool (D.plan_Plan_Formed a0)), .val (.bool (D.plan_Plan_Formed a0)), .val undef, .val undef, .val undef, .val undef, .val undef, .val (.bool false), .val (.bool false), .val undef, .val undef, .val undef, .val undef, .val undef, .val (.bool false), .val (.bool false), .val undef, .val undef, .val undef, .val undef, .val undef, .val undef, .val undef, .val (.bool false), .val (.bool false)] mixed r (by kernel_rfl) ?_ ?_
                  · skip
                    refine eachF_cons r rfl (fun fr1 g w' hb' hd r' => ?_) ?_
                    · exact y_load_agg r' (cs := (planC a0)) (n := 6) rfl ((hP.below (dr hb')).cell (i := 0) rfl) ta24 rfl ⟨Below.refl _ _, rfl⟩
                    refine eachF_cons r rfl (fun fr1 g w' hb' hd r' => ?_) ?_
                    · exact y_call r' (args := [(.agg (planC a0).toArray)]) (lc (hd 0 rfl).1 l0) cl19 ((c_plan_Plan_Formed _ a0).mono (by rintro _ w2 ⟨rfl, hb2⟩; exact ⟨_, rfl, hb2, rfl⟩))
                    refine eachF_cons r rfl (fun fr1 g w' hb' hd r' => ?_) ?_
                    · exact y_move r' (v := (.bool (D.plan_Plan_Formed a0))) (hd 1 rfl).1 ⟨Below.refl _ _, rfl⟩
                    refine eachF_skip true (.bool false) r rfl rfl rfl (fun g w' hd => Eq.trans (show (g 2).v = .bool (D.plan_Plan_Formed a0) from (hd 2 rfl).1) (congrArg Value.bool h71)) (by simp [boolOf]) (fun _ _ => ⟨Below.refl _ _, rfl⟩) ?_
                    refine eachF_skip true (.bool false) r rfl rfl rfl (fun g w' hd => Eq.trans (show (g 2).v = .bool (D.plan_Plan_Formed a0) from (hd 2 rfl).1) (congrArg Value.bool h71)) (by simp [boolOf]) (fun _ _ => ⟨Below.refl _ _, rfl⟩) ?_
                    refine eachF_skip true (.bool false) r rfl rfl rfl (fun g w' hd => Eq.trans (show (g 2).v = .bool (D.plan_Plan_Formed a0) from (hd 2 rfl).1) (congrArg Value.bool h71)) (by simp [boolOf]) (fun _ _ => ⟨Below.refl _ _, rfl⟩) ?_
                    refine eachF_skip true (.bool false) r rfl rfl rfl (fun g w' hd => Eq.trans (show (g 2).v = .bool (D.plan_Plan_Formed a0) from (hd 2 rfl).1) (congrArg Value.bool h71)) (by simp [boolOf]) (fun _ _ => ⟨Below.refl _ _, rfl⟩) ?_
                    refine eachF_skip true (.bool false) r rfl rfl rfl (fun g w' hd => Eq.trans (show (g 2).v = .bool (D.plan_Plan_Formed a0) from (hd 2 rfl).1) (congrArg Value.bool h71)) (by simp [boolOf]) (fun _ _ => ⟨Below.refl _ _, rfl⟩) ?_
                    refine eachF_cons r rfl (fun fr1 g w' hb' hd r' => ?_) ?_
                    · exact y_pick r' (b := false) (v := (.bool false)) (Eq.trans (show (g 2).v = .bool (D.plan_Plan_Formed a0) from (hd 2 rfl).1) (congrArg Value.bool h71)) rfl ⟨Below.refl _ _, rfl⟩
                    refine eachF_cons r rfl (fun fr1 g w' hb' hd r' => ?_) ?_
                    · exact y_move r' (v := (.bool false)) (hd 8 rfl).1 ⟨Below.refl _ _, rfl⟩
                    refine eachF_skip true (.bool false) r rfl rfl rfl (fun g w' hd => Eq.trans (show (g 9).v = .bool false from (hd 9 rfl).1) (congrArg Value.bool (rfl : false = _))) (by simp [boolOf]) (fun _ _ => ⟨Below.refl _ _, rfl⟩) ?_
                    refine eachF_skip true (.bool false) r rfl rfl rfl (fun g w' hd => Eq.trans (show (g 9).v = .bool false from (hd 9 rfl).1) (congrArg Value.bool (rfl : false = _))) (by simp [boolOf]) (fun _ _ => ⟨Below.refl _ _, rfl⟩) ?_
                    refine eachF_skip true (.bool false) r rfl rfl rfl (fun g w' hd => Eq.trans (show (g 9).v = .bool false from (hd 9 rfl).1) (congrArg Value.bool (rfl : false = _))) (by simp [boolOf]) (fun _ _ => ⟨Below.refl _ _, rfl⟩) ?_
                    refine eachF_skip true (.bool false) r rfl rfl rfl (fun g w' hd => Eq.trans (show (g 9).v = .bool false from (hd 9 rfl).1) (congrArg Value.bool (rfl : false = _))) (by simp [boolOf]) (fun _ _ => ⟨Below.refl _ _, rfl⟩) ?_
                    refine eachF_skip true (.bool false) r rfl rfl rfl (fun g w' hd => Eq.trans (show (g 9).v = .bool false from (hd 9 rfl).1) (congrArg Value.bool (rfl : false = _))) (by simp [boolOf]) (fun _ _ => ⟨Below.refl _ _, rfl⟩) ?_
                    refine eachF_cons r rfl (fun fr1 g w' hb' hd r' => ?_) ?_
                    · exact y_pick r' (b := false) (v := (.bool false)) (Eq.trans (show (g 9).v = .bool false from (hd 9 rfl).1) (congrArg Value.bool (rfl : false = _))) rfl ⟨Below.refl _ _, rfl⟩
                    refine eachF_cons r rfl (fun fr1 g w' hb' hd r' => ?_) ?_
                    · exact y_move r' (v := (.bool false)) (hd 15 rfl).1 ⟨Below.refl _ _, rfl⟩
                    refine eachF_skip true (.bool false) r rfl rfl rfl (fun g w' hd => Eq.trans (show (g 16).v = .bool false from (hd 16 rfl).1) (congrArg Value.bool (rfl : false = _))) (by simp [boolOf]) (fun _ _ => ⟨Below.refl _ _, rfl⟩) ?_
                    refine eachF_skip true (.bool false) r rfl rfl rfl (fun g w' hd => Eq.trans (show (g 16).v = .bool false from (hd 16 rfl).1) (congrArg Value.bool (rfl : false = _))) (by simp [boolOf]) (fun _ _ => ⟨Below.refl _ _, rfl⟩) ?_
                    refine eachF_skip true (.bool false) r rfl rfl rfl (fun g w' hd => Eq.trans (show (g 16).v = .bool false from (hd 16 rfl).1) (congrArg Value.bool (rfl : false = _))) (by simp [boolOf]) (fun _ _ => ⟨Below.refl _ _, rfl⟩) ?_
                    refine eachF_skip true (.bool false) r rfl rfl rfl (fun g w' hd => Eq.trans (show (g 16).v = .bool false from (hd 16 rfl).1) (congrArg Value.bool (rfl : false = _))) (by simp [boolOf]) (fun _ _ => ⟨Below.refl _ _, rfl⟩) ?_
                    refine eachF_skip true (.bool false) r rfl rfl rfl (fun g w' hd => Eq.trans (show (g 16).v = .bool false from (hd 16 rfl).1) (congrArg Value.bool (rfl : false = _))) (by simp [boolOf]) (fun _ _ => ⟨Below.refl _ _, rfl⟩) ?_
                    refine eachF_skip true (.bool false) r rfl rfl rfl (fun g w' hd => Eq.trans (show (g 16).v = .bool false from (hd 16 rfl).1) (congrArg Value.bool (rfl : false = _))) (by simp [boolOf]) (fun _ _ => ⟨Below.refl _ _, rfl⟩) ?_
                    refine eachF_skip true (.bool false) r rfl rfl rfl (fun g w' hd => Eq.trans (show (g 16).v = .bool false from (hd 16 rfl).1) (congrArg Value.bool (rfl : false = _))) (by simp [boolOf]) (fun _ _ => ⟨Below.refl _ _, rfl⟩) ?_
                    refine eachF_cons r rfl (fun fr1 g w' hb' hd r' => ?_) ?_
                    · exact y_pick r' (b := false) (v := (.bool false)) (Eq.trans (show (g 16).v = .bool false from (hd 16 rfl).1) (congrArg Value.bool (rfl : false = _))) rfl ⟨Below.refl _ _, rfl⟩
                    refine eachF_cons r rfl (fun fr1 g w' hb' hd r' => ?_) ?_
                    · exact y_assign r' (v := (.bool false)) (hd 24 rfl).1 ⟨Below.refl _ _, rfl⟩
                    exact eachF_nil
                  · skip
                    intro fr gg w78 hb hΦ hap r
                    have g0 : (gg 0).v = (.agg (planC a0).toArray) := (hΦ 0 rfl).1
                    have g1 : (gg 1).v = (.bool (D.plan_Plan_Formed a0)) := (hΦ 1 rfl).1
                    have g2 : (gg 2).v = (.bool (D.plan_Plan_Formed a0)) := (hΦ 2 rfl).1
                    have g3 : (gg 3).v = undef := (hΦ 3 rfl).1
                    have g4 : (gg 4).v = undef := (hΦ 4 rfl).1
                    have g5 : (gg 5).v = undef := (hΦ 5 rfl).1
                    have g6 : (gg 6).v = undef := (hΦ 6 rfl).1
                    have g7 : (gg 7).v = undef := (hΦ 7 rfl).1
                    have g8 : (gg 8).v = (.bool false) := (hΦ 8 rfl).1
                    have g9 : (gg 9).v = (.bool false) := (hΦ 9 rfl).1
                    have g10 : (gg 10).v = undef := (hΦ 10 rfl).1
                    have g11 : (gg 11).v = undef := (hΦ 11 rfl).1
                    have g12 : (gg 12).v = undef := (hΦ 12 rfl).1
                    have g13 : (gg 13).v = undef := (hΦ 13 rfl).1
                    have g14 : (gg 14).v = undef := (hΦ 14 rfl).1
                    have g15 : (gg 15).v = (.bool false) := (hΦ 15 rfl).1
                    have g16 : (gg 16).v = (.bool false) := (hΦ 16 rfl).1
                    have g17 : (gg 17).v = undef := (hΦ 17 rfl).1
                    have g18 : (gg 18).v = undef := (hΦ 18 rfl).1
                    have g19 : (gg 19).v = undef := (hΦ 19 rfl).1
                    have g20 : (gg 20).v = undef := (hΦ 20 rfl).1
                    have g21 : (gg 21).v = undef := (hΦ 21 rfl).1
                    have g22 : (gg 22).v = undef := (hΦ 22 rfl).1
                    have g23 : (gg 23).v = undef := (hΦ 23 rfl).1
                    have g24 : (gg 24).v = (.bool false) := (hΦ 24 rfl).1
                    have g25 : (gg 25).v = (.bool false) := (hΦ 25 rfl).1
                    have r := r.congr (sc g25 (sc g24 (sc g23 (sc g22 (sc g21 (sc g20 (sc g19 (sc g18 (sc g17 (sc g16 (sc g15 (sc g14 (sc g13 (sc g12 (sc g11 (sc g10 (sc g9 (sc g8 (sc g7 (sc g6 (sc g5 (sc g4 (sc g3 (sc g2 (sc g1 (sc g0 rfl))))))))))))))))))))))))))
                    have hP : Post No [cellC b1 ((planC a0)).toArray 24, cellC b5 ((wordPC a1)).toArray 35, rowK 35 3 wordPC v40 x38, cellC b42 ((wordPC x67)).toArray 35] w0 w78 := hP.below hb
                    exact nxy70 false () _ _ _ hD r (hs_cons rfl (hs_cons rfl (hs_cons rfl (hs_cons rfl (hs_cons rfl (hs_cons rfl (hs_cons rfl (hs_cons rfl (hs_cons rfl (hs_cons rfl (hs_cons rfl hs_nil))))))))))) (hP.pick [0, 1, 2, 3] rfl rfl)
              · skip
                rintro x79 γ80 fr w81 g r hP hD
                have hP : Post No [cellC b1 ((planC a0)).toArray 24, cellC b5 ((wordPC a1)).toArray 35, rowK 35 3 wordPC v40 x38, cellC b42 ((wordPC x67)).toArray 35] w0 w81 := hP
                refine wp_ret ?_
                have hv : x79 = res := Option.some.inj hD
                try dsimp only [Exit.then, Exit.inBlock]
                refine ret_tmp (fn := Try.f7) r (t := 4) rfl (v := (.bool x79)) rfl ?_
                subst hv
                exact ⟨rfl, hP.chg.below⟩

end Go.Proofs.Ytphnnjiaiemkcaa.Wk
