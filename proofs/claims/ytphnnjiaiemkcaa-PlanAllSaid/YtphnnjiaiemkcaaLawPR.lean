/- Written by a program of ours (wip/gen.py): a law -/
import Derived.Test.YtphnnjiaiemkcaaPlans
set_option linter.unusedVariables false
namespace Go.Proofs.Ytphnnjiaiemkcaa.Wk
open Go.RowKit
theorem cl18 : callable Try.prog 18 = true := by kernel_rfl
theorem cl20 : callable Try.prog 20 = true := by kernel_rfl
theorem cl23 : callable Try.prog 23 = true := by kernel_rfl
theorem cl26 : callable Try.prog 26 = true := by kernel_rfl
theorem cl27 : callable Try.prog 27 = true := by kernel_rfl
theorem cl28 : callable Try.prog 28 = true := by kernel_rfl
theorem cl29 : callable Try.prog 29 = true := by kernel_rfl

def D.cubiclelaw06_PlanRises (fu : Nat) (a0 : Plan) : Option (Bool) := (bif (!D.cubiclelaw06_awake) then (some D.cubiclelaw06_awake) else (bif (!(D.cubicleref06_Few a0)) then (some D.cubiclelaw06_awake) else (bif (!(D.cubicleref06_Formed a0)) then (some D.cubiclelaw06_awake) else (loopThen (fun (x13 : Bool × Int) => (bif (decide (x13.2 < a0.nodes)) then (bif ((D.plan_Plan_Next a0 x13.2) != (IntKind.i64.wrap ((D.plan_Plan_State a0 x13.2) + 1))) then (some (Lp.ret false)) else (bif ((D.plan_Plan_Field a0 x13.2 0) != (IntKind.i64.wrap ((D.plan_Plan_State a0 x13.2) + 2))) then (some (Lp.ret false)) else (bif ((D.plan_Plan_Field a0 x13.2 2) != (IntKind.i64.wrap ((D.plan_Plan_State a0 x13.2) + 4))) then (some (Lp.ret false)) else (bif (decide (x13.2 > 0)) then (bif ((D.plan_Plan_State a0 x13.2) != (IntKind.i64.wrap ((D.plan_Plan_State a0 (IntKind.i64.wrap (x13.2 - 1))) + 5))) then (some (Lp.ret false)) else (some (Lp.next (x13.1, (IntKind.i64.wrap (x13.2 + 1)))))) else (some (Lp.next (x13.1, (IntKind.i64.wrap (x13.2 + 1))))))))) else (some (Lp.brk (x13.1, x13.2))))) fu (false, 0) (fun (x27 : Bool × Int) => (loopThen (fun (x29 : Bool × Int) => (bif (decide (x29.2 < a0.threads)) then (bif ((D.plan_Plan_Hazard a0 x29.2 1) != (IntKind.i64.wrap ((D.plan_Plan_Hazard a0 x29.2 0) + 1))) then (some (Lp.ret false)) else (bif ((D.plan_Plan_Retired a0 x29.2 0) != (IntKind.i64.wrap ((D.plan_Plan_Count a0 x29.2) + 1))) then (some (Lp.ret false)) else (bif ((D.plan_Plan_Retired a0 x29.2 (IntKind.i64.wrap (a0.retire - 1))) != (IntKind.i64.wrap ((D.plan_Plan_Count a0 x29.2) + a0.retire))) then (some (Lp.ret false)) else (some (Lp.next (x29.1, (IntKind.i64.wrap (x29.2 + 1)))))))) else (some (Lp.brk (x29.1, x29.2))))) fu (x27.1, 0) (fun (x39 : Bool × Int) => (some ((D.plan_Plan_State a0 0) == (IntKind.i64.wrap ((IntKind.i64.wrap ((D.plan_Plan_Count a0 (IntKind.i64.wrap (a0.threads - 1))) + a0.retire)) + 1)))))))))))

set_option maxRecDepth 20000 in
set_option maxHeartbeats 1000000 in
theorem c_cubiclelaw06_PlanRises {fu : Nat} (w0 : World) 
    (a0 : Plan) {res : Bool} (hD : D.cubiclelaw06_PlanRises fu a0 = some res) :
    Calls Try.prog 4 #[.agg (planC a0).toArray] w0 (PureRes (.bool res) w0) := by
  refine enter (l := [.agg (planC a0).toArray]) Try.func4 rfl 114 rfl rfl fun fr r => ?_
  have hB := Below.refl w0.heap.size w0
  unfold D.cubiclelaw06_PlanRises at hD
  refine wp_seq ?_
  refine wp_region_lit ?_
  refine seq_new (.cells ((planC a0)).toArray 24 (0, 0)) r (fun R => y_box r (v := (.agg (planC a0).toArray)) rfl) rfl fun fr b1 w2 n3 r => ?_
  have e_b1 := n3.eq
  have z_w2 := n3.size
  have h_b1 := n3.at_
  have hB := hB.trans (n3.below.mono hB.size)
  have zB := hB.size
  refine seq_val (.bool false) r (fun R => y_assign r rfl) rfl fun fr r => ?_
  refine wpList_nil ?_
  refine wp_seq ?_
  refine wp_seq ?_
  refine wp_region_lit ?_
  refine seq_call r (c_cubiclelaw06_awake w2 ) (fun R hc => y_call r rfl cl18 hc) rfl ?_
  rintro _ w4 ⟨rfl, hb⟩
  refine ⟨_, rfl, fun fr r => ?_⟩
  have z_w4 := hb.size
  have h_b1 := keep hb h_b1
  have hB := hB.trans (hb.mono hB.size)
  have zB := hB.size
  refine seq_val (.bool (!D.cubiclelaw06_awake)) r (fun R => y_un r (u := (.bool D.cubiclelaw06_awake)) rfl rfl) rfl fun fr r => ?_
  refine seq_val (.bool (!D.cubiclelaw06_awake)) r (fun R => y_move r rfl) rfl fun fr r => ?_
  refine seq_split (!D.cubiclelaw06_awake) (fun h5 => ?_) (fun h5 => ?_)
  · skip
    have hD := (cond_t h5).symm.trans hD
    refine seq_skip r rfl rfl rfl (v := .bool true) (congrArg Value.bool h5) (by simp [boolOf]) fun fr r => ?_
    refine seq_skip r rfl rfl rfl (v := .bool true) (congrArg Value.bool h5) (by simp [boolOf]) fun fr r => ?_
    refine seq_skip r rfl rfl rfl (v := .bool true) (congrArg Value.bool h5) (by simp [boolOf]) fun fr r => ?_
    refine seq_val (.bool true) r (fun R => y_pick r (b := true) (congrArg Value.bool h5) rfl) rfl fun fr r => ?_
    refine seq_val (.bool true) r (fun R => y_move r rfl) rfl fun fr r => ?_
    refine seq_skip r rfl rfl rfl (v := .bool true) (congrArg Value.bool (rfl : true = _)) (by simp [boolOf]) fun fr r => ?_
    refine seq_skip r rfl rfl rfl (v := .bool true) (congrArg Value.bool (rfl : true = _)) (by simp [boolOf]) fun fr r => ?_
    refine seq_skip r rfl rfl rfl (v := .bool true) (congrArg Value.bool (rfl : true = _)) (by simp [boolOf]) fun fr r => ?_
    refine seq_val (.bool true) r (fun R => y_pick r (b := true) (congrArg Value.bool (rfl : true = _)) rfl) rfl fun fr r => ?_
    refine wpList_nil ?_
    refine wp_cond_split (t := true) (r.ev rfl) (fun _ => ?_) (fun h => absurd ((rfl : true = _).symm.trans h) (by decide))
    refine wp_seq ?_
    refine wp_region_lit ?_
    refine seq_call r (c_cubiclelaw06_awake w4 ) (fun R hc => y_call r rfl cl18 hc) rfl ?_
    rintro _ w6 ⟨rfl, hb⟩
    refine ⟨_, rfl, fun fr r => ?_⟩
    have z_w6 := hb.size
    have h_b1 := keep hb h_b1
    have hB := hB.trans (hb.mono hB.size)
    have zB := hB.size
    refine seq_val (.bool D.cubiclelaw06_awake) r (fun R => y_assign r rfl) rfl fun fr r => ?_
    refine wpList_nil ?_
    refine wp_ret ?_
    have hv : D.cubiclelaw06_awake = res := Option.some.inj hD
    refine ret_tmp r rfl (v := (.bool D.cubiclelaw06_awake)) rfl ?_
    subst hv
    exact ⟨rfl, hB⟩
  · skip
    have hD := (cond_f h5).symm.trans hD
    refine seq_want r rfl rfl rfl (congrArg Value.bool h5) ?_
    refine seq_val (.agg (planC a0).toArray) r (fun R => y_load_agg r (cs := (planC a0)) (n := 6) rfl h_b1 ta24 rfl) rfl fun fr r => ?_
    refine seq_want r rfl rfl rfl (congrArg Value.bool h5) ?_
    refine seq_call r (c_cubicleref06_Few w4 a0) (fun R hc => y_call r rfl cl23 hc) rfl ?_
    rintro _ w7 ⟨rfl, hb⟩
    refine ⟨_, rfl, fun fr r => ?_⟩
    have z_w7 := hb.size
    have h_b1 := keep hb h_b1
    have hB := hB.trans (hb.mono hB.size)
    have zB := hB.size
    refine seq_want r rfl rfl rfl (congrArg Value.bool h5) ?_
    refine seq_val (.bool (!(D.cubicleref06_Few a0))) r (fun R => y_un r (u := (.bool (D.cubicleref06_Few a0))) rfl rfl) rfl fun fr r => ?_
    refine seq_val (.bool (!(D.cubicleref06_Few a0))) r (fun R => y_pick r (b := false) (congrArg Value.bool h5) rfl) rfl fun fr r => ?_
    refine seq_val (.bool (!(D.cubicleref06_Few a0))) r (fun R => y_move r rfl) rfl fun fr r => ?_
    refine seq_split (!(D.cubicleref06_Few a0)) (fun h8 => ?_) (fun h8 => ?_)
    · skip
      have hD := (cond_t h8).symm.trans hD
      refine seq_skip r rfl rfl rfl (v := .bool true) (congrArg Value.bool h8) (by simp [boolOf]) fun fr r => ?_
      refine seq_skip r rfl rfl rfl (v := .bool true) (congrArg Value.bool h8) (by simp [boolOf]) fun fr r => ?_
      refine seq_skip r rfl rfl rfl (v := .bool true) (congrArg Value.bool h8) (by simp [boolOf]) fun fr r => ?_
      refine seq_val (.bool true) r (fun R => y_pick r (b := true) (congrArg Value.bool h8) rfl) rfl fun fr r => ?_
      refine wpList_nil ?_
      refine wp_cond_split (t := true) (r.ev rfl) (fun _ => ?_) (fun h => absurd ((rfl : true = _).symm.trans h) (by decide))
      refine wp_seq ?_
      refine wp_region_lit ?_
      refine seq_call r (c_cubiclelaw06_awake w7 ) (fun R hc => y_call r rfl cl18 hc) rfl ?_
      rintro _ w9 ⟨rfl, hb⟩
      refine ⟨_, rfl, fun fr r => ?_⟩
      have z_w9 := hb.size
      have h_b1 := keep hb h_b1
      have hB := hB.trans (hb.mono hB.size)
      have zB := hB.size
      refine seq_val (.bool D.cubiclelaw06_awake) r (fun R => y_assign r rfl) rfl fun fr r => ?_
      refine wpList_nil ?_
      refine wp_ret ?_
      have hv : D.cubiclelaw06_awake = res := Option.some.inj hD
      refine ret_tmp r rfl (v := (.bool D.cubiclelaw06_awake)) rfl ?_
      subst hv
      exact ⟨rfl, hB⟩
    · skip
      have hD := (cond_f h8).symm.trans hD
      refine seq_want r rfl rfl rfl (congrArg Value.bool h8) ?_
      refine seq_val (.agg (planC a0).toArray) r (fun R => y_load_agg r (cs := (planC a0)) (n := 6) rfl h_b1 ta24 rfl) rfl fun fr r => ?_
      refine seq_want r rfl rfl rfl (congrArg Value.bool h8) ?_
      refine seq_call r (c_cubicleref06_Formed w7 a0) (fun R hc => y_call r rfl cl24 hc) rfl ?_
      rintro _ w10 ⟨rfl, hb⟩
      refine ⟨_, rfl, fun fr r => ?_⟩
      have z_w10 := hb.size
      have h_b1 := keep hb h_b1
      have hB := hB.trans (hb.mono hB.size)
      have zB := hB.size
      refine seq_want r rfl rfl rfl (congrArg Value.bool h8) ?_
      refine seq_val (.bool (!(D.cubicleref06_Formed a0))) r (fun R => y_un r (u := (.bool (D.cubicleref06_Formed a0))) rfl rfl) rfl fun fr r => ?_
      refine seq_val (.bool (!(D.cubicleref06_Formed a0))) r (fun R => y_pick r (b := false) (congrArg Value.bool h8) rfl) rfl fun fr r => ?_
      refine wpList_nil ?_
      refine wp_cond_split (t := (!(D.cubicleref06_Formed a0))) (r.ev rfl) (fun h11 => ?_) (fun h11 => ?_)
      · skip
        have hD := (cond_t h11).symm.trans hD
        refine wp_seq ?_
        refine wp_region_lit ?_
        refine seq_call r (c_cubiclelaw06_awake w10 ) (fun R hc => y_call r rfl cl18 hc) rfl ?_
        rintro _ w12 ⟨rfl, hb⟩
        refine ⟨_, rfl, fun fr r => ?_⟩
        have z_w12 := hb.size
        have h_b1 := keep hb h_b1
        have hB := hB.trans (hb.mono hB.size)
        have zB := hB.size
        refine seq_val (.bool D.cubiclelaw06_awake) r (fun R => y_assign r rfl) rfl fun fr r => ?_
        refine wpList_nil ?_
        refine wp_ret ?_
        have hv : D.cubiclelaw06_awake = res := Option.some.inj hD
        refine ret_tmp r rfl (v := (.bool D.cubiclelaw06_awake)) rfl ?_
        subst hv
        exact ⟨rfl, hB⟩
      · skip
        have hD := (cond_f h11).symm.trans hD
        refine wp_skip ?_
        refine wp_seq ?_
        refine wp_seq ?_
        refine wp_region_lit ?_
        refine seq_val (.int .i64 0) r (fun R => y_assign r rfl) rfl fun fr r => ?_
        refine wpList_nil ?_
        refine wp_loopD (X := Bool × Int) (x0 := (false, 0)) (fun x => [(0, (.agg (planC a0).toArray)), (1, (.pointer (some ⟨b1, 0, none⟩))), (2, (.bool x.1)), (3, (.int .i64 x.2))]) (fun x w => Below w0.heap.size w0 w ∧ w10.heap.size ≤ w.heap.size ∧ w.heap[b1]? = some (.cells ((planC a0)).toArray 24 (0, 0))) r (hs_cons rfl (hs_cons rfl (hs_cons rfl (hs_cons rfl hs_nil)))) ⟨hB, Nat.le_refl _, h_b1⟩ hD ?_ ?_
        · skip
          rintro x13 fr w15 g y14 RPy14 nxy14 bky14 rty14 r ⟨hB, z_w15, h_b1⟩ hD
          have zB := hB.size
          refine wp_seq ?_
          refine wp_seq ?_
          refine wp_region_lit ?_
          refine seq_val (.int .i64 x13.2) r (fun R => y_move r rfl) rfl fun fr r => ?_
          refine seq_val (.pointer (some ⟨b1, 0, none⟩)) r (fun R => y_fieldAddr r (o := 0) rfl fo24_0) rfl fun fr r => ?_
          refine seq_val (.int .i64 a0.nodes) r (fun R => y_load_one r (v := (.int .i64 a0.nodes)) rfl h_b1 to3 rfl) rfl fun fr r => ?_
          refine seq_val (.bool (decide (x13.2 < a0.nodes))) r (fun R => y_bin r (u := (.int .i64 x13.2)) (u' := (.int .i64 a0.nodes)) rfl rfl rfl rfl) rfl fun fr r => ?_
          refine wpList_nil ?_
          refine wp_cond_split (t := (decide (x13.2 < a0.nodes))) (r.ev rfl) (fun h16 => ?_) (fun h16 => ?_)
          · skip
            have hD := (cond_t h16).symm.trans hD
            refine wp_skip ?_
            refine wp_seq ?_
            refine wp_block ?_
            refine wp_seq ?_
            refine wp_region_lit ?_
            refine seq_val (.agg (planC a0).toArray) r (fun R => y_load_agg r (cs := (planC a0)) (n := 6) rfl h_b1 ta24 rfl) rfl fun fr r => ?_
            refine seq_val (.int .i64 x13.2) r (fun R => y_move r rfl) rfl fun fr r => ?_
            refine seq_call r (c_plan_Plan_State w15 a0 x13.2) (fun R hc => y_call r rfl cl25 hc) rfl ?_
            rintro _ w17 ⟨rfl, hb⟩
            refine ⟨_, rfl, fun fr r => ?_⟩
            have z_w17 := hb.size
            have h_b1 := keep hb h_b1
            have hB := hB.trans (hb.mono hB.size)
            have zB := hB.size
            refine seq_val (.int .i64 (D.plan_Plan_State a0 x13.2)) r (fun R => y_assign r rfl) rfl fun fr r => ?_
            refine wpList_nil ?_
            refine wp_seq ?_
            refine wp_region_lit ?_
            refine seq_val (.agg (planC a0).toArray) r (fun R => y_load_agg r (cs := (planC a0)) (n := 6) rfl h_b1 ta24 rfl) rfl fun fr r => ?_
            refine seq_val (.int .i64 x13.2) r (fun R => y_move r rfl) rfl fun fr r => ?_
            refine seq_call r (c_plan_Plan_Next w17 a0 x13.2) (fun R hc => y_call r rfl cl26 hc) rfl ?_
            rintro _ w18 ⟨rfl, hb⟩
            refine ⟨_, rfl, fun fr r => ?_⟩
            have z_w18 := hb.size
            have h_b1 := keep hb h_b1
            have hB := hB.trans (hb.mono hB.size)
            have zB := hB.size
            refine seq_val (.int .i64 (D.plan_Plan_State a0 x13.2)) r (fun R => y_move r rfl) rfl fun fr r => ?_
            refine seq_val (.int .i64 (IntKind.i64.wrap ((D.plan_Plan_State a0 x13.2) + 1))) r (fun R => y_bin r (u := (.int .i64 (D.plan_Plan_State a0 x13.2))) (u' := (.int .i64 1)) rfl rfl rfl rfl) rfl fun fr r => ?_
            refine seq_val (.bool ((D.plan_Plan_Next a0 x13.2) != (IntKind.i64.wrap ((D.plan_Plan_State a0 x13.2) + 1)))) r (fun R => y_bin r (u := (.int .i64 (D.plan_Plan_Next a0 x13.2))) (u' := (.int .i64 (IntKind.i64.wrap ((D.plan_Plan_State a0 x13.2) + 1)))) rfl rfl rfl rfl) rfl fun fr r => ?_
            refine seq_val (.bool ((D.plan_Plan_Next a0 x13.2) != (IntKind.i64.wrap ((D.plan_Plan_State a0 x13.2) + 1)))) r (fun R => y_move r rfl) rfl fun fr r => ?_
            refine seq_split ((D.plan_Plan_Next a0 x13.2) != (IntKind.i64.wrap ((D.plan_Plan_State a0 x13.2) + 1))) (fun h19 => ?_) (fun h19 => ?_)
            · skip
              have hD := (cond_t h19).symm.trans hD
              refine seq_skip r rfl rfl rfl (v := .bool true) (congrArg Value.bool h19) (by simp [boolOf]) fun fr r => ?_
              refine seq_skip r rfl rfl rfl (v := .bool true) (congrArg Value.bool h19) (by simp [boolOf]) fun fr r => ?_
              refine seq_skip r rfl rfl rfl (v := .bool true) (congrArg Value.bool h19) (by simp [boolOf]) fun fr r => ?_
              refine seq_skip r rfl rfl rfl (v := .bool true) (congrArg Value.bool h19) (by simp [boolOf]) fun fr r => ?_
              refine seq_skip r rfl rfl rfl (v := .bool true) (congrArg Value.bool h19) (by simp [boolOf]) fun fr r => ?_
              refine seq_skip r rfl rfl rfl (v := .bool true) (congrArg Value.bool h19) (by simp [boolOf]) fun fr r => ?_
              refine seq_val (.bool true) r (fun R => y_pick r (b := true) (congrArg Value.bool h19) rfl) rfl fun fr r => ?_
              refine seq_val (.bool true) r (fun R => y_move r rfl) rfl fun fr r => ?_
              refine seq_skip r rfl rfl rfl (v := .bool true) (congrArg Value.bool (rfl : true = _)) (by simp [boolOf]) fun fr r => ?_
              refine seq_skip r rfl rfl rfl (v := .bool true) (congrArg Value.bool (rfl : true = _)) (by simp [boolOf]) fun fr r => ?_
              refine seq_skip r rfl rfl rfl (v := .bool true) (congrArg Value.bool (rfl : true = _)) (by simp [boolOf]) fun fr r => ?_
              refine seq_skip r rfl rfl rfl (v := .bool true) (congrArg Value.bool (rfl : true = _)) (by simp [boolOf]) fun fr r => ?_
              refine seq_skip r rfl rfl rfl (v := .bool true) (congrArg Value.bool (rfl : true = _)) (by simp [boolOf]) fun fr r => ?_
              refine seq_skip r rfl rfl rfl (v := .bool true) (congrArg Value.bool (rfl : true = _)) (by simp [boolOf]) fun fr r => ?_
              refine seq_val (.bool true) r (fun R => y_pick r (b := true) (congrArg Value.bool (rfl : true = _)) rfl) rfl fun fr r => ?_
              refine seq_val (.bool true) r (fun R => y_move r rfl) rfl fun fr r => ?_
              refine seq_skip r rfl rfl rfl (v := .bool true) (congrArg Value.bool (rfl : true = _)) (by simp [boolOf]) fun fr r => ?_
              refine seq_skip r rfl rfl rfl (v := .bool true) (congrArg Value.bool (rfl : true = _)) (by simp [boolOf]) fun fr r => ?_
              refine seq_skip r rfl rfl rfl (v := .bool true) (congrArg Value.bool (rfl : true = _)) (by simp [boolOf]) fun fr r => ?_
              refine seq_skip r rfl rfl rfl (v := undef) rfl (by simp [boolOf, undef]) fun fr r => ?_
              refine seq_skip r rfl rfl rfl (v := undef) rfl (by simp [boolOf, undef]) fun fr r => ?_
              refine seq_skip r rfl rfl rfl (v := undef) rfl (by simp [boolOf, undef]) fun fr r => ?_
              refine seq_skip r rfl rfl rfl (v := undef) rfl (by simp [boolOf, undef]) fun fr r => ?_
              refine seq_skip r rfl rfl rfl (v := undef) rfl (by simp [boolOf, undef]) fun fr r => ?_
              refine seq_skip r rfl rfl rfl (v := undef) rfl (by simp [boolOf, undef]) fun fr r => ?_
              refine seq_skip r rfl rfl rfl (v := undef) rfl (by simp [boolOf, undef]) fun fr r => ?_
              refine seq_skip r rfl rfl rfl (v := .bool true) (congrArg Value.bool (rfl : true = _)) (by simp [boolOf]) fun fr r => ?_
              refine seq_val (.bool true) r (fun R => y_pick r (b := true) (congrArg Value.bool (rfl : true = _)) rfl) rfl fun fr r => ?_
              refine wpList_nil ?_
              refine wp_cond_split (t := true) (r.ev rfl) (fun _ => ?_) (fun h => absurd ((rfl : true = _).symm.trans h) (by decide))
              refine wp_seq ?_
              refine wp_region_lit ?_
              refine seq_val (.bool false) r (fun R => y_assign r rfl) rfl fun fr r => ?_
              refine wpList_nil ?_
              refine wp_ret ?_
              refine rty14 false _ _ hD fun hD => ?_
              have hv : false = res := Option.some.inj hD
              refine ret_tmp r rfl (v := (.bool false)) rfl ?_
              subst hv
              exact ⟨rfl, hB⟩
            · skip
              have hD := (cond_f h19).symm.trans hD
              refine seq_want r rfl rfl rfl (congrArg Value.bool h19) ?_
              refine seq_val (.agg (planC a0).toArray) r (fun R => y_load_agg r (cs := (planC a0)) (n := 6) rfl h_b1 ta24 rfl) rfl fun fr r => ?_
              refine seq_want r rfl rfl rfl (congrArg Value.bool h19) ?_
              refine seq_val (.int .i64 x13.2) r (fun R => y_move r rfl) rfl fun fr r => ?_
              refine seq_want r rfl rfl rfl (congrArg Value.bool h19) ?_
              refine seq_call r (c_plan_Plan_Field w18 a0 x13.2 0) (fun R hc => y_call r rfl cl20 hc) rfl ?_
              rintro _ w20 ⟨rfl, hb⟩
              refine ⟨_, rfl, fun fr r => ?_⟩
              have z_w20 := hb.size
              have h_b1 := keep hb h_b1
              have hB := hB.trans (hb.mono hB.size)
              have zB := hB.size
              refine seq_want r rfl rfl rfl (congrArg Value.bool h19) ?_
              refine seq_val (.int .i64 (D.plan_Plan_State a0 x13.2)) r (fun R => y_move r rfl) rfl fun fr r => ?_
              refine seq_want r rfl rfl rfl (congrArg Value.bool h19) ?_
              refine seq_val (.int .i64 (IntKind.i64.wrap ((D.plan_Plan_State a0 x13.2) + 2))) r (fun R => y_bin r (u := (.int .i64 (D.plan_Plan_State a0 x13.2))) (u' := (.int .i64 2)) rfl rfl rfl rfl) rfl fun fr r => ?_
              refine seq_want r rfl rfl rfl (congrArg Value.bool h19) ?_
              refine seq_val (.bool ((D.plan_Plan_Field a0 x13.2 0) != (IntKind.i64.wrap ((D.plan_Plan_State a0 x13.2) + 2)))) r (fun R => y_bin r (u := (.int .i64 (D.plan_Plan_Field a0 x13.2 0))) (u' := (.int .i64 (IntKind.i64.wrap ((D.plan_Plan_State a0 x13.2) + 2)))) rfl rfl rfl rfl) rfl fun fr r => ?_
              refine seq_val (.bool ((D.plan_Plan_Field a0 x13.2 0) != (IntKind.i64.wrap ((D.plan_Plan_State a0 x13.2) + 2)))) r (fun R => y_pick r (b := false) (congrArg Value.bool h19) rfl) rfl fun fr r => ?_
              refine seq_val (.bool ((D.plan_Plan_Field a0 x13.2 0) != (IntKind.i64.wrap ((D.plan_Plan_State a0 x13.2) + 2)))) r (fun R => y_move r rfl) rfl fun fr r => ?_
              refine seq_split ((D.plan_Plan_Field a0 x13.2 0) != (IntKind.i64.wrap ((D.plan_Plan_State a0 x13.2) + 2))) (fun h21 => ?_) (fun h21 => ?_)
              · skip
                have hD := (cond_t h21).symm.trans hD
                refine seq_skip r rfl rfl rfl (v := .bool true) (congrArg Value.bool h21) (by simp [boolOf]) fun fr r => ?_
                refine seq_skip r rfl rfl rfl (v := .bool true) (congrArg Value.bool h21) (by simp [boolOf]) fun fr r => ?_
                refine seq_skip r rfl rfl rfl (v := .bool true) (congrArg Value.bool h21) (by simp [boolOf]) fun fr r => ?_
                refine seq_skip r rfl rfl rfl (v := .bool true) (congrArg Value.bool h21) (by simp [boolOf]) fun fr r => ?_
                refine seq_skip r rfl rfl rfl (v := .bool true) (congrArg Value.bool h21) (by simp [boolOf]) fun fr r => ?_
                refine seq_skip r rfl rfl rfl (v := .bool true) (congrArg Value.bool h21) (by simp [boolOf]) fun fr r => ?_
                refine seq_val (.bool true) r (fun R => y_pick r (b := true) (congrArg Value.bool h21) rfl) rfl fun fr r => ?_
                refine seq_val (.bool true) r (fun R => y_move r rfl) rfl fun fr r => ?_
                refine seq_skip r rfl rfl rfl (v := .bool true) (congrArg Value.bool (rfl : true = _)) (by simp [boolOf]) fun fr r => ?_
                refine seq_skip r rfl rfl rfl (v := .bool true) (congrArg Value.bool (rfl : true = _)) (by simp [boolOf]) fun fr r => ?_
                refine seq_skip r rfl rfl rfl (v := .bool true) (congrArg Value.bool (rfl : true = _)) (by simp [boolOf]) fun fr r => ?_
                refine seq_skip r rfl rfl rfl (v := undef) rfl (by simp [boolOf, undef]) fun fr r => ?_
                refine seq_skip r rfl rfl rfl (v := undef) rfl (by simp [boolOf, undef]) fun fr r => ?_
                refine seq_skip r rfl rfl rfl (v := undef) rfl (by simp [boolOf, undef]) fun fr r => ?_
                refine seq_skip r rfl rfl rfl (v := undef) rfl (by simp [boolOf, undef]) fun fr r => ?_
                refine seq_skip r rfl rfl rfl (v := undef) rfl (by simp [boolOf, undef]) fun fr r => ?_
                refine seq_skip r rfl rfl rfl (v := undef) rfl (by simp [boolOf, undef]) fun fr r => ?_
                refine seq_skip r rfl rfl rfl (v := undef) rfl (by simp [boolOf, undef]) fun fr r => ?_
                refine seq_skip r rfl rfl rfl (v := .bool true) (congrArg Value.bool (rfl : true = _)) (by simp [boolOf]) fun fr r => ?_
                refine seq_val (.bool true) r (fun R => y_pick r (b := true) (congrArg Value.bool (rfl : true = _)) rfl) rfl fun fr r => ?_
                refine wpList_nil ?_
                refine wp_cond_split (t := true) (r.ev rfl) (fun _ => ?_) (fun h => absurd ((rfl : true = _).symm.trans h) (by decide))
                refine wp_seq ?_
                refine wp_region_lit ?_
                refine seq_val (.bool false) r (fun R => y_assign r rfl) rfl fun fr r => ?_
                refine wpList_nil ?_
                refine wp_ret ?_
                refine rty14 false _ _ hD fun hD => ?_
                have hv : false = res := Option.some.inj hD
                refine ret_tmp r rfl (v := (.bool false)) rfl ?_
                subst hv
                exact ⟨rfl, hB⟩
              · skip
                have hD := (cond_f h21).symm.trans hD
                refine seq_want r rfl rfl rfl (congrArg Value.bool h21) ?_
                refine seq_val (.agg (planC a0).toArray) r (fun R => y_load_agg r (cs := (planC a0)) (n := 6) rfl h_b1 ta24 rfl) rfl fun fr r => ?_
                refine seq_want r rfl rfl rfl (congrArg Value.bool h21) ?_
                refine seq_val (.int .i64 x13.2) r (fun R => y_move r rfl) rfl fun fr r => ?_
                refine seq_want r rfl rfl rfl (congrArg Value.bool h21) ?_
                refine seq_call r (c_plan_Plan_Field w20 a0 x13.2 2) (fun R hc => y_call r rfl cl20 hc) rfl ?_
                rintro _ w22 ⟨rfl, hb⟩
                refine ⟨_, rfl, fun fr r => ?_⟩
                have z_w22 := hb.size
                have h_b1 := keep hb h_b1
                have hB := hB.trans (hb.mono hB.size)
                have zB := hB.size
                refine seq_want r rfl rfl rfl (congrArg Value.bool h21) ?_
                refine seq_val (.int .i64 (D.plan_Plan_State a0 x13.2)) r (fun R => y_move r rfl) rfl fun fr r => ?_
                refine seq_want r rfl rfl rfl (congrArg Value.bool h21) ?_
                refine seq_val (.int .i64 (IntKind.i64.wrap ((D.plan_Plan_State a0 x13.2) + 4))) r (fun R => y_bin r (u := (.int .i64 (D.plan_Plan_State a0 x13.2))) (u' := (.int .i64 4)) rfl rfl rfl rfl) rfl fun fr r => ?_
                refine seq_want r rfl rfl rfl (congrArg Value.bool h21) ?_
                refine seq_val (.bool ((D.plan_Plan_Field a0 x13.2 2) != (IntKind.i64.wrap ((D.plan_Plan_State a0 x13.2) + 4)))) r (fun R => y_bin r (u := (.int .i64 (D.plan_Plan_Field a0 x13.2 2))) (u' := (.int .i64 (IntKind.i64.wrap ((D.plan_Plan_State a0 x13.2) + 4)))) rfl rfl rfl rfl) rfl fun fr r => ?_
                refine seq_val (.bool ((D.plan_Plan_Field a0 x13.2 2) != (IntKind.i64.wrap ((D.plan_Plan_State a0 x13.2) + 4)))) r (fun R => y_pick r (b := false) (congrArg Value.bool h21) rfl) rfl fun fr r => ?_
                refine seq_val (.bool ((D.plan_Plan_Field a0 x13.2 2) != (IntKind.i64.wrap ((D.plan_Plan_State a0 x13.2) + 4)))) r (fun R => y_move r rfl) rfl fun fr r => ?_
                refine seq_split ((D.plan_Plan_Field a0 x13.2 2) != (IntKind.i64.wrap ((D.plan_Plan_State a0 x13.2) + 4))) (fun h23 => ?_) (fun h23 => ?_)
                · skip
                  have hD := (cond_t h23).symm.trans hD
                  refine seq_skip r rfl rfl rfl (v := .bool true) (congrArg Value.bool h23) (by simp [boolOf]) fun fr r => ?_
                  refine seq_skip r rfl rfl rfl (v := .bool true) (congrArg Value.bool h23) (by simp [boolOf]) fun fr r => ?_
                  refine seq_skip r rfl rfl rfl (v := .bool true) (congrArg Value.bool h23) (by simp [boolOf]) fun fr r => ?_
                  refine seq_skip r rfl rfl rfl (v := undef) rfl (by simp [boolOf, undef]) fun fr r => ?_
                  refine seq_skip r rfl rfl rfl (v := undef) rfl (by simp [boolOf, undef]) fun fr r => ?_
                  refine seq_skip r rfl rfl rfl (v := undef) rfl (by simp [boolOf, undef]) fun fr r => ?_
                  refine seq_skip r rfl rfl rfl (v := undef) rfl (by simp [boolOf, undef]) fun fr r => ?_
                  refine seq_skip r rfl rfl rfl (v := undef) rfl (by simp [boolOf, undef]) fun fr r => ?_
                  refine seq_skip r rfl rfl rfl (v := undef) rfl (by simp [boolOf, undef]) fun fr r => ?_
                  refine seq_skip r rfl rfl rfl (v := undef) rfl (by simp [boolOf, undef]) fun fr r => ?_
                  refine seq_skip r rfl rfl rfl (v := .bool true) (congrArg Value.bool h23) (by simp [boolOf]) fun fr r => ?_
                  refine seq_val (.bool true) r (fun R => y_pick r (b := true) (congrArg Value.bool h23) rfl) rfl fun fr r => ?_
                  refine wpList_nil ?_
                  refine wp_cond_split (t := true) (r.ev rfl) (fun _ => ?_) (fun h => absurd ((rfl : true = _).symm.trans h) (by decide))
                  refine wp_seq ?_
                  refine wp_region_lit ?_
                  refine seq_val (.bool false) r (fun R => y_assign r rfl) rfl fun fr r => ?_
                  refine wpList_nil ?_
                  refine wp_ret ?_
                  refine rty14 false _ _ hD fun hD => ?_
                  have hv : false = res := Option.some.inj hD
                  refine ret_tmp r rfl (v := (.bool false)) rfl ?_
                  subst hv
                  exact ⟨rfl, hB⟩
                · skip
                  have hD := (cond_f h23).symm.trans hD
                  refine seq_want r rfl rfl rfl (congrArg Value.bool h23) ?_
                  refine seq_val (.int .i64 x13.2) r (fun R => y_move r rfl) rfl fun fr r => ?_
                  refine seq_want r rfl rfl rfl (congrArg Value.bool h23) ?_
                  refine seq_val (.bool (decide (x13.2 > 0))) r (fun R => y_bin r (u := (.int .i64 x13.2)) (u' := (.int .i64 0)) rfl rfl rfl rfl) rfl fun fr r => ?_
                  refine seq_want r rfl rfl rfl (congrArg Value.bool h23) ?_
                  refine seq_val (.bool (decide (x13.2 > 0))) r (fun R => y_move r rfl) rfl fun fr r => ?_
                  refine seq_split (decide (x13.2 > 0)) (fun h24 => ?_) (fun h24 => ?_)
                  · skip
                    have hD := (cond_t h24).symm.trans hD
                    refine seq_want r rfl rfl rfl (congrArg Value.bool h24) ?_
                    refine seq_val (.int .i64 (D.plan_Plan_State a0 x13.2)) r (fun R => y_move r rfl) rfl fun fr r => ?_
                    refine seq_want r rfl rfl rfl (congrArg Value.bool h24) ?_
                    refine seq_val (.agg (planC a0).toArray) r (fun R => y_load_agg r (cs := (planC a0)) (n := 6) rfl h_b1 ta24 rfl) rfl fun fr r => ?_
                    refine seq_want r rfl rfl rfl (congrArg Value.bool h24) ?_
                    refine seq_val (.int .i64 x13.2) r (fun R => y_move r rfl) rfl fun fr r => ?_
                    refine seq_want r rfl rfl rfl (congrArg Value.bool h24) ?_
                    refine seq_val (.int .i64 (IntKind.i64.wrap (x13.2 - 1))) r (fun R => y_bin r (u := (.int .i64 x13.2)) (u' := (.int .i64 1)) rfl rfl rfl rfl) rfl fun fr r => ?_
                    refine seq_want r rfl rfl rfl (congrArg Value.bool h24) ?_
                    refine seq_call r (c_plan_Plan_State w22 a0 (IntKind.i64.wrap (x13.2 - 1))) (fun R hc => y_call r rfl cl25 hc) rfl ?_
                    rintro _ w25 ⟨rfl, hb⟩
                    refine ⟨_, rfl, fun fr r => ?_⟩
                    have z_w25 := hb.size
                    have h_b1 := keep hb h_b1
                    have hB := hB.trans (hb.mono hB.size)
                    have zB := hB.size
                    refine seq_want r rfl rfl rfl (congrArg Value.bool h24) ?_
                    refine seq_val (.int .i64 (IntKind.i64.wrap ((D.plan_Plan_State a0 (IntKind.i64.wrap (x13.2 - 1))) + 5))) r (fun R => y_bin r (u := (.int .i64 (D.plan_Plan_State a0 (IntKind.i64.wrap (x13.2 - 1))))) (u' := (.int .i64 5)) rfl rfl rfl rfl) rfl fun fr r => ?_
                    refine seq_want r rfl rfl rfl (congrArg Value.bool h24) ?_
                    refine seq_val (.bool ((D.plan_Plan_State a0 x13.2) != (IntKind.i64.wrap ((D.plan_Plan_State a0 (IntKind.i64.wrap (x13.2 - 1))) + 5)))) r (fun R => y_bin r (u := (.int .i64 (D.plan_Plan_State a0 x13.2))) (u' := (.int .i64 (IntKind.i64.wrap ((D.plan_Plan_State a0 (IntKind.i64.wrap (x13.2 - 1))) + 5)))) rfl rfl rfl rfl) rfl fun fr r => ?_
                    refine seq_want r rfl rfl rfl (congrArg Value.bool h23) ?_
                    refine seq_val (.bool ((D.plan_Plan_State a0 x13.2) != (IntKind.i64.wrap ((D.plan_Plan_State a0 (IntKind.i64.wrap (x13.2 - 1))) + 5)))) r (fun R => y_pick r (b := true) (congrArg Value.bool h24) rfl) rfl fun fr r => ?_
                    refine seq_val (.bool ((D.plan_Plan_State a0 x13.2) != (IntKind.i64.wrap ((D.plan_Plan_State a0 (IntKind.i64.wrap (x13.2 - 1))) + 5)))) r (fun R => y_pick r (b := false) (congrArg Value.bool h23) rfl) rfl fun fr r => ?_
                    refine wpList_nil ?_
                    refine wp_cond_split (t := ((D.plan_Plan_State a0 x13.2) != (IntKind.i64.wrap ((D.plan_Plan_State a0 (IntKind.i64.wrap (x13.2 - 1))) + 5)))) (r.ev rfl) (fun h26 => ?_) (fun h26 => ?_)
                    · skip
                      have hD := (cond_t h26).symm.trans hD
                      refine wp_seq ?_
                      refine wp_region_lit ?_
                      refine seq_val (.bool false) r (fun R => y_assign r rfl) rfl fun fr r => ?_
                      refine wpList_nil ?_
                      refine wp_ret ?_
                      refine rty14 false _ _ hD fun hD => ?_
                      have hv : false = res := Option.some.inj hD
                      refine ret_tmp r rfl (v := (.bool false)) rfl ?_
                      subst hv
                      exact ⟨rfl, hB⟩
                    · skip
                      have hD := (cond_f h26).symm.trans hD
                      refine wp_skip ?_
                      refine wp_region_lit ?_
                      refine seq_val (.int .i64 x13.2) r (fun R => y_move r rfl) rfl fun fr r => ?_
                      refine seq_val (.int .i64 (IntKind.i64.wrap (x13.2 + 1))) r (fun R => y_bin r (u := (.int .i64 x13.2)) (u' := (.int .i64 1)) rfl rfl rfl rfl) rfl fun fr r => ?_
                      refine seq_val (.int .i64 (IntKind.i64.wrap (x13.2 + 1))) r (fun R => y_assign r rfl) rfl fun fr r => ?_
                      refine wpList_nil ?_
                      exact nxy14 (x13.1, (IntKind.i64.wrap (x13.2 + 1))) _ _ _ hD r (hs_cons rfl (hs_cons rfl (hs_cons rfl (hs_cons rfl hs_nil)))) ⟨hB, (by omega), h_b1⟩
                  · skip
                    have hD := (cond_f h24).symm.trans hD
                    refine seq_skip r rfl rfl rfl (v := .bool false) (congrArg Value.bool h24) (by simp [boolOf]) fun fr r => ?_
                    refine seq_skip r rfl rfl rfl (v := .bool false) (congrArg Value.bool h24) (by simp [boolOf]) fun fr r => ?_
                    refine seq_skip r rfl rfl rfl (v := .bool false) (congrArg Value.bool h24) (by simp [boolOf]) fun fr r => ?_
                    refine seq_skip r rfl rfl rfl (v := .bool false) (congrArg Value.bool h24) (by simp [boolOf]) fun fr r => ?_
                    refine seq_skip r rfl rfl rfl (v := .bool false) (congrArg Value.bool h24) (by simp [boolOf]) fun fr r => ?_
                    refine seq_skip r rfl rfl rfl (v := .bool false) (congrArg Value.bool h24) (by simp [boolOf]) fun fr r => ?_
                    refine seq_skip r rfl rfl rfl (v := .bool false) (congrArg Value.bool h24) (by simp [boolOf]) fun fr r => ?_
                    refine seq_want r rfl rfl rfl (congrArg Value.bool h23) ?_
                    refine seq_val (.bool false) r (fun R => y_pick r (b := false) (congrArg Value.bool h24) rfl) rfl fun fr r => ?_
                    refine seq_val (.bool false) r (fun R => y_pick r (b := false) (congrArg Value.bool h23) rfl) rfl fun fr r => ?_
                    refine wpList_nil ?_
                    refine wp_cond_split (t := false) (r.ev rfl) (fun h => absurd ((rfl : false = _).symm.trans h) (by decide)) (fun _ => ?_)
                    refine wp_skip ?_
                    refine wp_region_lit ?_
                    refine seq_val (.int .i64 x13.2) r (fun R => y_move r rfl) rfl fun fr r => ?_
                    refine seq_val (.int .i64 (IntKind.i64.wrap (x13.2 + 1))) r (fun R => y_bin r (u := (.int .i64 x13.2)) (u' := (.int .i64 1)) rfl rfl rfl rfl) rfl fun fr r => ?_
                    refine seq_val (.int .i64 (IntKind.i64.wrap (x13.2 + 1))) r (fun R => y_assign r rfl) rfl fun fr r => ?_
                    refine wpList_nil ?_
                    exact nxy14 (x13.1, (IntKind.i64.wrap (x13.2 + 1))) _ _ _ hD r (hs_cons rfl (hs_cons rfl (hs_cons rfl (hs_cons rfl hs_nil)))) ⟨hB, (by omega), h_b1⟩
          · skip
            have hD := (cond_f h16).symm.trans hD
            refine wp_exit ?_
            exact bky14 (x13.1, x13.2) _ _ _ hD r (hs_cons rfl (hs_cons rfl (hs_cons rfl (hs_cons rfl hs_nil)))) ⟨hB, (by omega), h_b1⟩
        · skip
          rintro x27 fr w28 g r ⟨hB, z_w28, h_b1⟩ hD
          have zB := hB.size
          refine wp_seq ?_
          refine wp_seq ?_
          refine wp_region_lit ?_
          refine seq_val (.int .i64 0) r (fun R => y_assign r rfl) rfl fun fr r => ?_
          refine wpList_nil ?_
          refine wp_loopD (X := Bool × Int) (x0 := (x27.1, 0)) (fun x => [(0, (.agg (planC a0).toArray)), (1, (.pointer (some ⟨b1, 0, none⟩))), (3, (.int .i64 x27.2)), (2, (.bool x.1)), (5, (.int .i64 x.2))]) (fun x w => Below w0.heap.size w0 w ∧ w28.heap.size ≤ w.heap.size ∧ w.heap[b1]? = some (.cells ((planC a0)).toArray 24 (0, 0))) r (hs_cons rfl (hs_cons rfl (hs_cons rfl (hs_cons rfl (hs_cons rfl hs_nil))))) ⟨hB, Nat.le_refl _, h_b1⟩ hD ?_ ?_
          · skip
            rintro x29 fr w31 g y30 RPy30 nxy30 bky30 rty30 r ⟨hB, z_w31, h_b1⟩ hD
            have zB := hB.size
            refine wp_seq ?_
            refine wp_seq ?_
            refine wp_region_lit ?_
            refine seq_val (.int .i64 x29.2) r (fun R => y_move r rfl) rfl fun fr r => ?_
            refine seq_val (.pointer (some ⟨b1, 1, none⟩)) r (fun R => y_fieldAddr r (o := 0) rfl fo24_1) rfl fun fr r => ?_
            refine seq_val (.int .i64 a0.threads) r (fun R => y_load_one r (v := (.int .i64 a0.threads)) rfl h_b1 to3 rfl) rfl fun fr r => ?_
            refine seq_val (.bool (decide (x29.2 < a0.threads))) r (fun R => y_bin r (u := (.int .i64 x29.2)) (u' := (.int .i64 a0.threads)) rfl rfl rfl rfl) rfl fun fr r => ?_
            refine wpList_nil ?_
            refine wp_cond_split (t := (decide (x29.2 < a0.threads))) (r.ev rfl) (fun h32 => ?_) (fun h32 => ?_)
            · skip
              have hD := (cond_t h32).symm.trans hD
              refine wp_skip ?_
              refine wp_seq ?_
              refine wp_block ?_
              refine wp_seq ?_
              refine seq_split ((D.plan_Plan_Hazard a0 x29.2 1) != (IntKind.i64.wrap ((D.plan_Plan_Hazard a0 x29.2 0) + 1))) (fun h33 => ?_) (fun h33 => ?_)
              · skip
                have hD := (cond_t h33).symm.trans hD
                refine wp_drawnF 32 [.val (.agg (planC a0).toArray), .val (.int .i64 x29.2), .val (.int .i64 (D.plan_Plan_Hazard a0 x29.2 1)), .val (.agg (planC a0).toArray), .val (.int .i64 x29.2), .val (.int .i64 (D.plan_Plan_Hazard a0 x29.2 0)), .val (.int .i64 (IntKind.i64.wrap ((D.plan_Plan_Hazard a0 x29.2 0) + 1))), .val (.bool ((D.plan_Plan_Hazard a0 x29.2 1) != (IntKind.i64.wrap ((D.plan_Plan_Hazard a0 x29.2 0) + 1)))), .val (.bool ((D.plan_Plan_Hazard a0 x29.2 1) != (IntKind.i64.wrap ((D.plan_Plan_Hazard a0 x29.2 0) + 1)))), .val undef, .val undef, .val undef, .val undef, .val undef, .val undef, .val undef, .val undef, .val (.bool true), .val (.bool true), .val undef, .val undef, .val undef, .val undef, .val undef, .val undef, .val undef, .val undef, .val undef, .val undef, .val undef, .val undef, .val undef] mixed r (by kernel_rfl) (within_cons (by exact trivial) (within_cons (by exact trivial) (within_cons (by exact trivial) (within_cons (by exact trivial) (within_cons (by exact trivial) (within_cons (by exact trivial) (within_cons (by exact trivial) (within_cons (by exact trivial) (within_cons (by exact trivial) (within_cons (by exact trivial) (within_cons (by exact trivial) (within_cons (by exact trivial) (within_cons (by exact trivial) (within_cons (by exact trivial) (within_cons (by exact trivial) (within_cons (by exact trivial) (within_cons (by exact trivial) (within_cons (by exact trivial) (within_cons (by exact trivial) (within_cons (by exact trivial) (within_cons (by exact trivial) (within_cons (by exact trivial) (within_cons (by exact trivial) (within_cons (by exact trivial) (within_cons (by exact trivial) (within_cons (by exact trivial) (within_cons (by exact trivial) (within_cons (by exact trivial) (within_cons (by exact trivial) (within_cons (by exact trivial) (within_cons (by exact trivial) (within_cons (by exact trivial) within_nil)))))))))))))))))))))))))))))))) ?_ ?_
                · skip
                  refine each_consF r rfl (fun fr1 u w' hb' hd r' => ?_) ?_
                  · exact y_load_agg r' (cs := (planC a0)) (n := 6) rfl (keep hb' h_b1) ta24 rfl ⟨Below.refl _ _, rfl⟩
                  refine each_consF r rfl (fun fr1 u w' hb' hd r' => ?_) ?_
                  · exact y_move r' (v := (.int .i64 x29.2)) rfl ⟨Below.refl _ _, rfl⟩
                  refine each_consF r rfl (fun fr1 u w' hb' hd r' => ?_) ?_
                  · obtain ⟨d0, d1, _⟩ := hd; exact y_call r' (args := [(.agg (planC a0).toArray), (.int .i64 x29.2), (.int .i64 1)]) (lc d0 (lc d1 (lc rfl l0))) cl27 ((c_plan_Plan_Hazard _ a0 x29.2 1).mono (by rintro _ w2 ⟨rfl, hb2⟩; exact ⟨_, rfl, hb2, rfl⟩))
                  refine each_consF r rfl (fun fr1 u w' hb' hd r' => ?_) ?_
                  · exact y_load_agg r' (cs := (planC a0)) (n := 6) rfl (keep hb' h_b1) ta24 rfl ⟨Below.refl _ _, rfl⟩
                  refine each_consF r rfl (fun fr1 u w' hb' hd r' => ?_) ?_
                  · exact y_move r' (v := (.int .i64 x29.2)) rfl ⟨Below.refl _ _, rfl⟩
                  refine each_consF r rfl (fun fr1 u w' hb' hd r' => ?_) ?_
                  · obtain ⟨d0, d1, d2, _⟩ := hd; exact y_call r' (args := [(.agg (planC a0).toArray), (.int .i64 x29.2), (.int .i64 0)]) (lc d0 (lc d1 (lc rfl l0))) cl27 ((c_plan_Plan_Hazard _ a0 x29.2 0).mono (by rintro _ w2 ⟨rfl, hb2⟩; exact ⟨_, rfl, hb2, rfl⟩))
                  refine each_consF r rfl (fun fr1 u w' hb' hd r' => ?_) ?_
                  · obtain ⟨d0, _⟩ := hd; exact y_bin r' (u := (.int .i64 (D.plan_Plan_Hazard a0 x29.2 0))) (u' := (.int .i64 1)) (v := (.int .i64 (IntKind.i64.wrap ((D.plan_Plan_Hazard a0 x29.2 0) + 1)))) d0 rfl rfl rfl ⟨Below.refl _ _, rfl⟩
                  refine each_consF r rfl (fun fr1 u w' hb' hd r' => ?_) ?_
                  · obtain ⟨d0, d1, _⟩ := hd; exact y_bin r' (u := (.int .i64 (D.plan_Plan_Hazard a0 x29.2 1))) (u' := (.int .i64 (IntKind.i64.wrap ((D.plan_Plan_Hazard a0 x29.2 0) + 1)))) (v := (.bool ((D.plan_Plan_Hazard a0 x29.2 1) != (IntKind.i64.wrap ((D.plan_Plan_Hazard a0 x29.2 0) + 1))))) d0 d1 rfl rfl ⟨Below.refl _ _, rfl⟩
                  refine each_consF r rfl (fun fr1 u w' hb' hd r' => ?_) ?_
                  · obtain ⟨d0, d1, _⟩ := hd; exact y_move r' (v := (.bool ((D.plan_Plan_Hazard a0 x29.2 1) != (IntKind.i64.wrap ((D.plan_Plan_Hazard a0 x29.2 0) + 1))))) d0 ⟨Below.refl _ _, rfl⟩
                  refine each_consS false (.bool true) r rfl rfl rfl (fun u w' hd => by obtain ⟨d0, _⟩ := hd; exact Eq.trans (show u 8 = .bool ((D.plan_Plan_Hazard a0 x29.2 1) != (IntKind.i64.wrap ((D.plan_Plan_Hazard a0 x29.2 0) + 1))) from d0) (congrArg Value.bool h33)) (by simp [boolOf]) (fun _ => rfl) ?_
                  refine each_consS false (.bool true) r rfl rfl rfl (fun u w' hd => by obtain ⟨d0, _⟩ := hd; exact Eq.trans (show u 8 = .bool ((D.plan_Plan_Hazard a0 x29.2 1) != (IntKind.i64.wrap ((D.plan_Plan_Hazard a0 x29.2 0) + 1))) from d0) (congrArg Value.bool h33)) (by simp [boolOf]) (fun _ => rfl) ?_
                  refine each_consS false (.bool true) r rfl rfl rfl (fun u w' hd => by obtain ⟨d0, d1, d2, d3, _⟩ := hd; exact Eq.trans (show u 8 = .bool ((D.plan_Plan_Hazard a0 x29.2 1) != (IntKind.i64.wrap ((D.plan_Plan_Hazard a0 x29.2 0) + 1))) from d2) (congrArg Value.bool h33)) (by simp [boolOf]) (fun _ => rfl) ?_
                  refine each_consS false (.bool true) r rfl rfl rfl (fun u w' hd => by obtain ⟨d0, _⟩ := hd; exact Eq.trans (show u 8 = .bool ((D.plan_Plan_Hazard a0 x29.2 1) != (IntKind.i64.wrap ((D.plan_Plan_Hazard a0 x29.2 0) + 1))) from d0) (congrArg Value.bool h33)) (by simp [boolOf]) (fun _ => rfl) ?_
                  refine each_consS false (.bool true) r rfl rfl rfl (fun u w' hd => by obtain ⟨d0, _⟩ := hd; exact Eq.trans (show u 8 = .bool ((D.plan_Plan_Hazard a0 x29.2 1) != (IntKind.i64.wrap ((D.plan_Plan_Hazard a0 x29.2 0) + 1))) from d0) (congrArg Value.bool h33)) (by simp [boolOf]) (fun _ => rfl) ?_
                  refine each_consS false (.bool true) r rfl rfl rfl (fun u w' hd => by obtain ⟨d0, d1, d2, d3, _⟩ := hd; exact Eq.trans (show u 8 = .bool ((D.plan_Plan_Hazard a0 x29.2 1) != (IntKind.i64.wrap ((D.plan_Plan_Hazard a0 x29.2 0) + 1))) from d3) (congrArg Value.bool h33)) (by simp [boolOf]) (fun _ => rfl) ?_
                  refine each_consS false (.bool true) r rfl rfl rfl (fun u w' hd => by obtain ⟨d0, d1, _⟩ := hd; exact Eq.trans (show u 8 = .bool ((D.plan_Plan_Hazard a0 x29.2 1) != (IntKind.i64.wrap ((D.plan_Plan_Hazard a0 x29.2 0) + 1))) from d1) (congrArg Value.bool h33)) (by simp [boolOf]) (fun _ => rfl) ?_
                  refine each_consS false (.bool true) r rfl rfl rfl (fun u w' hd => by obtain ⟨d0, d1, d2, _⟩ := hd; exact Eq.trans (show u 8 = .bool ((D.plan_Plan_Hazard a0 x29.2 1) != (IntKind.i64.wrap ((D.plan_Plan_Hazard a0 x29.2 0) + 1))) from d2) (congrArg Value.bool h33)) (by simp [boolOf]) (fun _ => rfl) ?_
                  refine each_consF r rfl (fun fr1 u w' hb' hd r' => ?_) ?_
                  · obtain ⟨d0, d1, _⟩ := hd; exact y_pick r' (b := true) (v := (.bool true)) (Eq.trans (show u 8 = .bool ((D.plan_Plan_Hazard a0 x29.2 1) != (IntKind.i64.wrap ((D.plan_Plan_Hazard a0 x29.2 0) + 1))) from d0) (congrArg Value.bool h33)) rfl ⟨Below.refl _ _, rfl⟩
                  refine each_consF r rfl (fun fr1 u w' hb' hd r' => ?_) ?_
                  · obtain ⟨d0, d1, _⟩ := hd; exact y_move r' (v := (.bool true)) d0 ⟨Below.refl _ _, rfl⟩
                  refine each_consS false (.bool true) r rfl rfl rfl (fun u w' hd => by obtain ⟨d0, _⟩ := hd; exact Eq.trans (show u 18 = .bool true from d0) (congrArg Value.bool (rfl : true = _))) (by simp [boolOf]) (fun _ => rfl) ?_
                  refine each_consS false (.bool true) r rfl rfl rfl (fun u w' hd => by obtain ⟨d0, _⟩ := hd; exact Eq.trans (show u 18 = .bool true from d0) (congrArg Value.bool (rfl : true = _))) (by simp [boolOf]) (fun _ => rfl) ?_
                  refine each_consS false (.bool true) r rfl rfl rfl (fun u w' hd => by obtain ⟨d0, _⟩ := hd; exact Eq.trans (show u 18 = .bool true from d0) (congrArg Value.bool (rfl : true = _))) (by simp [boolOf]) (fun _ => rfl) ?_
                  refine each_consS false (.bool true) r rfl rfl rfl (fun u w' hd => by obtain ⟨d0, d1, _⟩ := hd; exact Eq.trans (show u 18 = .bool true from d1) (congrArg Value.bool (rfl : true = _))) (by simp [boolOf]) (fun _ => rfl) ?_
                  refine each_consS false (.bool true) r rfl rfl rfl (fun u w' hd => by obtain ⟨d0, d1, _⟩ := hd; exact Eq.trans (show u 18 = .bool true from d1) (congrArg Value.bool (rfl : true = _))) (by simp [boolOf]) (fun _ => rfl) ?_
                  refine each_consS false (.bool true) r rfl rfl rfl (fun u w' hd => by obtain ⟨d0, d1, d2, d3, d4, _⟩ := hd; exact Eq.trans (show u 18 = .bool true from d3) (congrArg Value.bool (rfl : true = _))) (by simp [boolOf]) (fun _ => rfl) ?_
                  refine each_consS false (.bool true) r rfl rfl rfl (fun u w' hd => by obtain ⟨d0, _⟩ := hd; exact Eq.trans (show u 18 = .bool true from d0) (congrArg Value.bool (rfl : true = _))) (by simp [boolOf]) (fun _ => rfl) ?_
                  refine each_consS false (.bool true) r rfl rfl rfl (fun u w' hd => by obtain ⟨d0, _⟩ := hd; exact Eq.trans (show u 18 = .bool true from d0) (congrArg Value.bool (rfl : true = _))) (by simp [boolOf]) (fun _ => rfl) ?_
                  refine each_consS false (.bool true) r rfl rfl rfl (fun u w' hd => by obtain ⟨d0, d1, d2, d3, _⟩ := hd; exact Eq.trans (show u 18 = .bool true from d3) (congrArg Value.bool (rfl : true = _))) (by simp [boolOf]) (fun _ => rfl) ?_
                  refine each_consS false (.bool true) r rfl rfl rfl (fun u w' hd => by obtain ⟨d0, _⟩ := hd; exact Eq.trans (show u 18 = .bool true from d0) (congrArg Value.bool (rfl : true = _))) (by simp [boolOf]) (fun _ => rfl) ?_
                  refine each_consS false (.bool true) r rfl rfl rfl (fun u w' hd => by obtain ⟨d0, d1, _⟩ := hd; exact Eq.trans (show u 18 = .bool true from d1) (congrArg Value.bool (rfl : true = _))) (by simp [boolOf]) (fun _ => rfl) ?_
                  refine each_consS false (.bool true) r rfl rfl rfl (fun u w' hd => by obtain ⟨d0, d1, d2, _⟩ := hd; exact Eq.trans (show u 18 = .bool true from d2) (congrArg Value.bool (rfl : true = _))) (by simp [boolOf]) (fun _ => rfl) ?_
                  refine each_consS false (.bool true) r rfl rfl rfl (fun u w' hd => by obtain ⟨d0, d1, d2, _⟩ := hd; exact Eq.trans (show u 18 = .bool true from d2) (congrArg Value.bool (rfl : true = _))) (by simp [boolOf]) (fun _ => rfl) ?_
                  exact each_nil
                · skip
                  intro fr u w34 hb hΦ hne r
                  have g0 : u 0 = (.agg (planC a0).toArray) := hΦ 0 (by decide)
                  have g1 : u 1 = (.int .i64 x29.2) := hΦ 1 (by decide)
                  have g2 : u 2 = (.int .i64 (D.plan_Plan_Hazard a0 x29.2 1)) := hΦ 2 (by decide)
                  have g3 : u 3 = (.agg (planC a0).toArray) := hΦ 3 (by decide)
                  have g4 : u 4 = (.int .i64 x29.2) := hΦ 4 (by decide)
                  have g5 : u 5 = (.int .i64 (D.plan_Plan_Hazard a0 x29.2 0)) := hΦ 5 (by decide)
                  have g6 : u 6 = (.int .i64 (IntKind.i64.wrap ((D.plan_Plan_Hazard a0 x29.2 0) + 1))) := hΦ 6 (by decide)
                  have g7 : u 7 = (.bool ((D.plan_Plan_Hazard a0 x29.2 1) != (IntKind.i64.wrap ((D.plan_Plan_Hazard a0 x29.2 0) + 1)))) := hΦ 7 (by decide)
                  have g8 : u 8 = (.bool ((D.plan_Plan_Hazard a0 x29.2 1) != (IntKind.i64.wrap ((D.plan_Plan_Hazard a0 x29.2 0) + 1)))) := hΦ 8 (by decide)
                  have g9 : u 9 = undef := hΦ 9 (by decide)
                  have g10 : u 10 = undef := hΦ 10 (by decide)
                  have g11 : u 11 = undef := hΦ 11 (by decide)
                  have g12 : u 12 = undef := hΦ 12 (by decide)
                  have g13 : u 13 = undef := hΦ 13 (by decide)
                  have g14 : u 14 = undef := hΦ 14 (by decide)
                  have g15 : u 15 = undef := hΦ 15 (by decide)
                  have g16 : u 16 = undef := hΦ 16 (by decide)
                  have g17 : u 17 = (.bool true) := hΦ 17 (by decide)
                  have g18 : u 18 = (.bool true) := hΦ 18 (by decide)
                  have g19 : u 19 = undef := hΦ 19 (by decide)
                  have g20 : u 20 = undef := hΦ 20 (by decide)
                  have g21 : u 21 = undef := hΦ 21 (by decide)
                  have g22 : u 22 = undef := hΦ 22 (by decide)
                  have g23 : u 23 = undef := hΦ 23 (by decide)
                  have g24 : u 24 = undef := hΦ 24 (by decide)
                  have g25 : u 25 = undef := hΦ 25 (by decide)
                  have g26 : u 26 = undef := hΦ 26 (by decide)
                  have g27 : u 27 = undef := hΦ 27 (by decide)
                  have g28 : u 28 = undef := hΦ 28 (by decide)
                  have g29 : u 29 = undef := hΦ 29 (by decide)
                  have g30 : u 30 = undef := hΦ 30 (by decide)
                  have g31 : u 31 = undef := hΦ 31 (by decide)
                  have r := r.congr (sc g31 (sc g30 (sc g29 (sc g28 (sc g27 (sc g26 (sc g25 (sc g24 (sc g23 (sc g22 (sc g21 (sc g20 (sc g19 (sc g18 (sc g17 (sc g16 (sc g15 (sc g14 (sc g13 (sc g12 (sc g11 (sc g10 (sc g9 (sc g8 (sc g7 (sc g6 (sc g5 (sc g4 (sc g3 (sc g2 (sc g1 (sc g0 rfl))))))))))))))))))))))))))))))))
                  have z_w34 := hb.size
                  have h_b1 := keep hb h_b1
                  have hB := hB.trans (hb.mono hB.size)
                  have zB := hB.size
                  refine seq_val (.bool true) r (fun R => y_pick r (b := true) (congrArg Value.bool (rfl : true = _)) rfl) rfl fun fr r => ?_
                  refine wpList_nil ?_
                  refine wp_cond_split (t := true) (r.ev rfl) (fun _ => ?_) (fun h => absurd ((rfl : true = _).symm.trans h) (by decide))
                  refine wp_seq ?_
                  refine wp_region_lit ?_
                  refine seq_val (.bool false) r (fun R => y_assign r rfl) rfl fun fr r => ?_
                  refine wpList_nil ?_
                  refine wp_ret ?_
                  refine rty30 false _ _ hD fun hD => ?_
                  have hv : false = res := Option.some.inj hD
                  refine ret_tmp r rfl (v := (.bool false)) rfl ?_
                  subst hv
                  exact ⟨rfl, hB⟩
              · skip
                have hD := (cond_f h33).symm.trans hD
                refine seq_split ((D.plan_Plan_Retired a0 x29.2 0) != (IntKind.i64.wrap ((D.plan_Plan_Count a0 x29.2) + 1))) (fun h35 => ?_) (fun h35 => ?_)
                · skip
                  have hD := (cond_t h35).symm.trans hD
                  refine wp_drawnF 32 [.val (.agg (planC a0).toArray), .val (.int .i64 x29.2), .val (.int .i64 (D.plan_Plan_Hazard a0 x29.2 1)), .val (.agg (planC a0).toArray), .val (.int .i64 x29.2), .val (.int .i64 (D.plan_Plan_Hazard a0 x29.2 0)), .val (.int .i64 (IntKind.i64.wrap ((D.plan_Plan_Hazard a0 x29.2 0) + 1))), .val (.bool ((D.plan_Plan_Hazard a0 x29.2 1) != (IntKind.i64.wrap ((D.plan_Plan_Hazard a0 x29.2 0) + 1)))), .val (.bool ((D.plan_Plan_Hazard a0 x29.2 1) != (IntKind.i64.wrap ((D.plan_Plan_Hazard a0 x29.2 0) + 1)))), .val (.agg (planC a0).toArray), .val (.int .i64 x29.2), .val (.int .i64 (D.plan_Plan_Retired a0 x29.2 0)), .val (.agg (planC a0).toArray), .val (.int .i64 x29.2), .val (.int .i64 (D.plan_Plan_Count a0 x29.2)), .val (.int .i64 (IntKind.i64.wrap ((D.plan_Plan_Count a0 x29.2) + 1))), .val (.bool ((D.plan_Plan_Retired a0 x29.2 0) != (IntKind.i64.wrap ((D.plan_Plan_Count a0 x29.2) + 1)))), .val (.bool ((D.plan_Plan_Retired a0 x29.2 0) != (IntKind.i64.wrap ((D.plan_Plan_Count a0 x29.2) + 1)))), .val (.bool ((D.plan_Plan_Retired a0 x29.2 0) != (IntKind.i64.wrap ((D.plan_Plan_Count a0 x29.2) + 1)))), .val undef, .val undef, .val undef, .val undef, .val undef, .val undef, .val undef, .val undef, .val undef, .val undef, .val undef, .val undef, .val undef] mixed r (by kernel_rfl) (within_cons (by exact trivial) (within_cons (by exact trivial) (within_cons (by exact trivial) (within_cons (by exact trivial) (within_cons (by exact trivial) (within_cons (by exact trivial) (within_cons (by exact trivial) (within_cons (by exact trivial) (within_cons (by exact trivial) (within_cons (by exact trivial) (within_cons (by exact trivial) (within_cons (by exact trivial) (within_cons (by exact trivial) (within_cons (by exact trivial) (within_cons (by exact trivial) (within_cons (by exact trivial) (within_cons (by exact trivial) (within_cons (by exact trivial) (within_cons (by exact trivial) (within_cons (by exact trivial) (within_cons (by exact trivial) (within_cons (by exact trivial) (within_cons (by exact trivial) (within_cons (by exact trivial) (within_cons (by exact trivial) (within_cons (by exact trivial) (within_cons (by exact trivial) (within_cons (by exact trivial) (within_cons (by exact trivial) (within_cons (by exact trivial) (within_cons (by exact trivial) (within_cons (by exact trivial) within_nil)))))))))))))))))))))))))))))))) ?_ ?_
                  · skip
                    refine each_consF r rfl (fun fr1 u w' hb' hd r' => ?_) ?_
                    · exact y_load_agg r' (cs := (planC a0)) (n := 6) rfl (keep hb' h_b1) ta24 rfl ⟨Below.refl _ _, rfl⟩
                    refine each_consF r rfl (fun fr1 u w' hb' hd r' => ?_) ?_
                    · exact y_move r' (v := (.int .i64 x29.2)) rfl ⟨Below.refl _ _, rfl⟩
                    refine each_consF r rfl (fun fr1 u w' hb' hd r' => ?_) ?_
                    · obtain ⟨d0, d1, _⟩ := hd; exact y_call r' (args := [(.agg (planC a0).toArray), (.int .i64 x29.2), (.int .i64 1)]) (lc d0 (lc d1 (lc rfl l0))) cl27 ((c_plan_Plan_Hazard _ a0 x29.2 1).mono (by rintro _ w2 ⟨rfl, hb2⟩; exact ⟨_, rfl, hb2, rfl⟩))
                    refine each_consF r rfl (fun fr1 u w' hb' hd r' => ?_) ?_
                    · exact y_load_agg r' (cs := (planC a0)) (n := 6) rfl (keep hb' h_b1) ta24 rfl ⟨Below.refl _ _, rfl⟩
                    refine each_consF r rfl (fun fr1 u w' hb' hd r' => ?_) ?_
                    · exact y_move r' (v := (.int .i64 x29.2)) rfl ⟨Below.refl _ _, rfl⟩
                    refine each_consF r rfl (fun fr1 u w' hb' hd r' => ?_) ?_
                    · obtain ⟨d0, d1, d2, _⟩ := hd; exact y_call r' (args := [(.agg (planC a0).toArray), (.int .i64 x29.2), (.int .i64 0)]) (lc d0 (lc d1 (lc rfl l0))) cl27 ((c_plan_Plan_Hazard _ a0 x29.2 0).mono (by rintro _ w2 ⟨rfl, hb2⟩; exact ⟨_, rfl, hb2, rfl⟩))
                    refine each_consF r rfl (fun fr1 u w' hb' hd r' => ?_) ?_
                    · obtain ⟨d0, _⟩ := hd; exact y_bin r' (u := (.int .i64 (D.plan_Plan_Hazard a0 x29.2 0))) (u' := (.int .i64 1)) (v := (.int .i64 (IntKind.i64.wrap ((D.plan_Plan_Hazard a0 x29.2 0) + 1)))) d0 rfl rfl rfl ⟨Below.refl _ _, rfl⟩
                    refine each_consF r rfl (fun fr1 u w' hb' hd r' => ?_) ?_
                    · obtain ⟨d0, d1, _⟩ := hd; exact y_bin r' (u := (.int .i64 (D.plan_Plan_Hazard a0 x29.2 1))) (u' := (.int .i64 (IntKind.i64.wrap ((D.plan_Plan_Hazard a0 x29.2 0) + 1)))) (v := (.bool ((D.plan_Plan_Hazard a0 x29.2 1) != (IntKind.i64.wrap ((D.plan_Plan_Hazard a0 x29.2 0) + 1))))) d0 d1 rfl rfl ⟨Below.refl _ _, rfl⟩
                    refine each_consF r rfl (fun fr1 u w' hb' hd r' => ?_) ?_
                    · obtain ⟨d0, d1, _⟩ := hd; exact y_move r' (v := (.bool ((D.plan_Plan_Hazard a0 x29.2 1) != (IntKind.i64.wrap ((D.plan_Plan_Hazard a0 x29.2 0) + 1))))) d0 ⟨Below.refl _ _, rfl⟩
                    refine each_consW false r rfl rfl rfl (fun u w' hd => by obtain ⟨d0, _⟩ := hd; exact Eq.trans (show u 8 = .bool ((D.plan_Plan_Hazard a0 x29.2 1) != (IntKind.i64.wrap ((D.plan_Plan_Hazard a0 x29.2 0) + 1))) from d0) (congrArg Value.bool h33)) (fun fr1 u w' hb' hd r' => ?_) ?_
                    · obtain ⟨d0, _⟩ := hd; exact y_load_agg r' (cs := (planC a0)) (n := 6) rfl (keep hb' h_b1) ta24 rfl ⟨Below.refl _ _, rfl⟩
                    refine each_consW false r rfl rfl rfl (fun u w' hd => by obtain ⟨d0, _⟩ := hd; exact Eq.trans (show u 8 = .bool ((D.plan_Plan_Hazard a0 x29.2 1) != (IntKind.i64.wrap ((D.plan_Plan_Hazard a0 x29.2 0) + 1))) from d0) (congrArg Value.bool h33)) (fun fr1 u w' hb' hd r' => ?_) ?_
                    · obtain ⟨d0, _⟩ := hd; exact y_move r' (v := (.int .i64 x29.2)) rfl ⟨Below.refl _ _, rfl⟩
                    refine each_consW false r rfl rfl rfl (fun u w' hd => by obtain ⟨d0, d1, d2, d3, _⟩ := hd; exact Eq.trans (show u 8 = .bool ((D.plan_Plan_Hazard a0 x29.2 1) != (IntKind.i64.wrap ((D.plan_Plan_Hazard a0 x29.2 0) + 1))) from d2) (congrArg Value.bool h33)) (fun fr1 u w' hb' hd r' => ?_) ?_
                    · obtain ⟨d0, d1, d2, d3, _⟩ := hd; exact y_call r' (args := [(.agg (planC a0).toArray), (.int .i64 x29.2), (.int .i64 0)]) (lc d0 (lc d1 (lc rfl l0))) cl28 ((c_plan_Plan_Retired _ a0 x29.2 0).mono (by rintro _ w2 ⟨rfl, hb2⟩; exact ⟨_, rfl, hb2, rfl⟩))
                    refine each_consW false r rfl rfl rfl (fun u w' hd => by obtain ⟨d0, _⟩ := hd; exact Eq.trans (show u 8 = .bool ((D.plan_Plan_Hazard a0 x29.2 1) != (IntKind.i64.wrap ((D.plan_Plan_Hazard a0 x29.2 0) + 1))) from d0) (congrArg Value.bool h33)) (fun fr1 u w' hb' hd r' => ?_) ?_
                    · obtain ⟨d0, _⟩ := hd; exact y_load_agg r' (cs := (planC a0)) (n := 6) rfl (keep hb' h_b1) ta24 rfl ⟨Below.refl _ _, rfl⟩
                    refine each_consW false r rfl rfl rfl (fun u w' hd => by obtain ⟨d0, _⟩ := hd; exact Eq.trans (show u 8 = .bool ((D.plan_Plan_Hazard a0 x29.2 1) != (IntKind.i64.wrap ((D.plan_Plan_Hazard a0 x29.2 0) + 1))) from d0) (congrArg Value.bool h33)) (fun fr1 u w' hb' hd r' => ?_) ?_
                    · obtain ⟨d0, _⟩ := hd; exact y_move r' (v := (.int .i64 x29.2)) rfl ⟨Below.refl _ _, rfl⟩
                    refine each_consW false r rfl rfl rfl (fun u w' hd => by obtain ⟨d0, d1, d2, d3, _⟩ := hd; exact Eq.trans (show u 8 = .bool ((D.plan_Plan_Hazard a0 x29.2 1) != (IntKind.i64.wrap ((D.plan_Plan_Hazard a0 x29.2 0) + 1))) from d3) (congrArg Value.bool h33)) (fun fr1 u w' hb' hd r' => ?_) ?_
                    · obtain ⟨d0, d1, d2, d3, _⟩ := hd; exact y_call r' (args := [(.agg (planC a0).toArray), (.int .i64 x29.2)]) (lc d0 (lc d1 l0)) cl29 ((c_plan_Plan_Count _ a0 x29.2).mono (by rintro _ w2 ⟨rfl, hb2⟩; exact ⟨_, rfl, hb2, rfl⟩))
                    refine each_consW false r rfl rfl rfl (fun u w' hd => by obtain ⟨d0, d1, _⟩ := hd; exact Eq.trans (show u 8 = .bool ((D.plan_Plan_Hazard a0 x29.2 1) != (IntKind.i64.wrap ((D.plan_Plan_Hazard a0 x29.2 0) + 1))) from d1) (congrArg Value.bool h33)) (fun fr1 u w' hb' hd r' => ?_) ?_
                    · obtain ⟨d0, d1, _⟩ := hd; exact y_bin r' (u := (.int .i64 (D.plan_Plan_Count a0 x29.2))) (u' := (.int .i64 1)) (v := (.int .i64 (IntKind.i64.wrap ((D.plan_Plan_Count a0 x29.2) + 1)))) d0 rfl rfl rfl ⟨Below.refl _ _, rfl⟩
                    refine each_consW false r rfl rfl rfl (fun u w' hd => by obtain ⟨d0, d1, d2, _⟩ := hd; exact Eq.trans (show u 8 = .bool ((D.plan_Plan_Hazard a0 x29.2 1) != (IntKind.i64.wrap ((D.plan_Plan_Hazard a0 x29.2 0) + 1))) from d2) (congrArg Value.bool h33)) (fun fr1 u w' hb' hd r' => ?_) ?_
                    · obtain ⟨d0, d1, d2, _⟩ := hd; exact y_bin r' (u := (.int .i64 (D.plan_Plan_Retired a0 x29.2 0))) (u' := (.int .i64 (IntKind.i64.wrap ((D.plan_Plan_Count a0 x29.2) + 1)))) (v := (.bool ((D.plan_Plan_Retired a0 x29.2 0) != (IntKind.i64.wrap ((D.plan_Plan_Count a0 x29.2) + 1))))) d0 d1 rfl rfl ⟨Below.refl _ _, rfl⟩
                    refine each_consF r rfl (fun fr1 u w' hb' hd r' => ?_) ?_
                    · obtain ⟨d0, d1, _⟩ := hd; exact y_pick r' (b := false) (v := (.bool ((D.plan_Plan_Retired a0 x29.2 0) != (IntKind.i64.wrap ((D.plan_Plan_Count a0 x29.2) + 1))))) (Eq.trans (show u 8 = .bool ((D.plan_Plan_Hazard a0 x29.2 1) != (IntKind.i64.wrap ((D.plan_Plan_Hazard a0 x29.2 0) + 1))) from d0) (congrArg Value.bool h33)) d1 ⟨Below.refl _ _, rfl⟩
                    refine each_consF r rfl (fun fr1 u w' hb' hd r' => ?_) ?_
                    · obtain ⟨d0, d1, _⟩ := hd; exact y_move r' (v := (.bool ((D.plan_Plan_Retired a0 x29.2 0) != (IntKind.i64.wrap ((D.plan_Plan_Count a0 x29.2) + 1))))) d0 ⟨Below.refl _ _, rfl⟩
                    refine each_consS false (.bool true) r rfl rfl rfl (fun u w' hd => by obtain ⟨d0, _⟩ := hd; exact Eq.trans (show u 18 = .bool ((D.plan_Plan_Retired a0 x29.2 0) != (IntKind.i64.wrap ((D.plan_Plan_Count a0 x29.2) + 1))) from d0) (congrArg Value.bool h35)) (by simp [boolOf]) (fun _ => rfl) ?_
                    refine each_consS false (.bool true) r rfl rfl rfl (fun u w' hd => by obtain ⟨d0, _⟩ := hd; exact Eq.trans (show u 18 = .bool ((D.plan_Plan_Retired a0 x29.2 0) != (IntKind.i64.wrap ((D.plan_Plan_Count a0 x29.2) + 1))) from d0) (congrArg Value.bool h35)) (by simp [boolOf]) (fun _ => rfl) ?_
                    refine each_consS false (.bool true) r rfl rfl rfl (fun u w' hd => by obtain ⟨d0, _⟩ := hd; exact Eq.trans (show u 18 = .bool ((D.plan_Plan_Retired a0 x29.2 0) != (IntKind.i64.wrap ((D.plan_Plan_Count a0 x29.2) + 1))) from d0) (congrArg Value.bool h35)) (by simp [boolOf]) (fun _ => rfl) ?_
                    refine each_consS false (.bool true) r rfl rfl rfl (fun u w' hd => by obtain ⟨d0, d1, _⟩ := hd; exact Eq.trans (show u 18 = .bool ((D.plan_Plan_Retired a0 x29.2 0) != (IntKind.i64.wrap ((D.plan_Plan_Count a0 x29.2) + 1))) from d1) (congrArg Value.bool h35)) (by simp [boolOf]) (fun _ => rfl) ?_
                    refine each_consS false (.bool true) r rfl rfl rfl (fun u w' hd => by obtain ⟨d0, d1, _⟩ := hd; exact Eq.trans (show u 18 = .bool ((D.plan_Plan_Retired a0 x29.2 0) != (IntKind.i64.wrap ((D.plan_Plan_Count a0 x29.2) + 1))) from d1) (congrArg Value.bool h35)) (by simp [boolOf]) (fun _ => rfl) ?_
                    refine each_consS false (.bool true) r rfl rfl rfl (fun u w' hd => by obtain ⟨d0, d1, d2, d3, d4, _⟩ := hd; exact Eq.trans (show u 18 = .bool ((D.plan_Plan_Retired a0 x29.2 0) != (IntKind.i64.wrap ((D.plan_Plan_Count a0 x29.2) + 1))) from d3) (congrArg Value.bool h35)) (by simp [boolOf]) (fun _ => rfl) ?_
                    refine each_consS false (.bool true) r rfl rfl rfl (fun u w' hd => by obtain ⟨d0, _⟩ := hd; exact Eq.trans (show u 18 = .bool ((D.plan_Plan_Retired a0 x29.2 0) != (IntKind.i64.wrap ((D.plan_Plan_Count a0 x29.2) + 1))) from d0) (congrArg Value.bool h35)) (by simp [boolOf]) (fun _ => rfl) ?_
                    refine each_consS false (.bool true) r rfl rfl rfl (fun u w' hd => by obtain ⟨d0, _⟩ := hd; exact Eq.trans (show u 18 = .bool ((D.plan_Plan_Retired a0 x29.2 0) != (IntKind.i64.wrap ((D.plan_Plan_Count a0 x29.2) + 1))) from d0) (congrArg Value.bool h35)) (by simp [boolOf]) (fun _ => rfl) ?_
                    refine each_consS false (.bool true) r rfl rfl rfl (fun u w' hd => by obtain ⟨d0, d1, d2, d3, _⟩ := hd; exact Eq.trans (show u 18 = .bool ((D.plan_Plan_Retired a0 x29.2 0) != (IntKind.i64.wrap ((D.plan_Plan_Count a0 x29.2) + 1))) from d3) (congrArg Value.bool h35)) (by simp [boolOf]) (fun _ => rfl) ?_
                    refine each_consS false (.bool true) r rfl rfl rfl (fun u w' hd => by obtain ⟨d0, _⟩ := hd; exact Eq.trans (show u 18 = .bool ((D.plan_Plan_Retired a0 x29.2 0) != (IntKind.i64.wrap ((D.plan_Plan_Count a0 x29.2) + 1))) from d0) (congrArg Value.bool h35)) (by simp [boolOf]) (fun _ => rfl) ?_
                    refine each_consS false (.bool true) r rfl rfl rfl (fun u w' hd => by obtain ⟨d0, d1, _⟩ := hd; exact Eq.trans (show u 18 = .bool ((D.plan_Plan_Retired a0 x29.2 0) != (IntKind.i64.wrap ((D.plan_Plan_Count a0 x29.2) + 1))) from d1) (congrArg Value.bool h35)) (by simp [boolOf]) (fun _ => rfl) ?_
                    refine each_consS false (.bool true) r rfl rfl rfl (fun u w' hd => by obtain ⟨d0, d1, d2, _⟩ := hd; exact Eq.trans (show u 18 = .bool ((D.plan_Plan_Retired a0 x29.2 0) != (IntKind.i64.wrap ((D.plan_Plan_Count a0 x29.2) + 1))) from d2) (congrArg Value.bool h35)) (by simp [boolOf]) (fun _ => rfl) ?_
                    refine each_consS false (.bool true) r rfl rfl rfl (fun u w' hd => by obtain ⟨d0, d1, d2, _⟩ := hd; exact Eq.trans (show u 18 = .bool ((D.plan_Plan_Retired a0 x29.2 0) != (IntKind.i64.wrap ((D.plan_Plan_Count a0 x29.2) + 1))) from d2) (congrArg Value.bool h35)) (by simp [boolOf]) (fun _ => rfl) ?_
                    exact each_nil
                  · skip
                    intro fr u w36 hb hΦ hne r
                    have g0 : u 0 = (.agg (planC a0).toArray) := hΦ 0 (by decide)
                    have g1 : u 1 = (.int .i64 x29.2) := hΦ 1 (by decide)
                    have g2 : u 2 = (.int .i64 (D.plan_Plan_Hazard a0 x29.2 1)) := hΦ 2 (by decide)
                    have g3 : u 3 = (.agg (planC a0).toArray) := hΦ 3 (by decide)
                    have g4 : u 4 = (.int .i64 x29.2) := hΦ 4 (by decide)
                    have g5 : u 5 = (.int .i64 (D.plan_Plan_Hazard a0 x29.2 0)) := hΦ 5 (by decide)
                    have g6 : u 6 = (.int .i64 (IntKind.i64.wrap ((D.plan_Plan_Hazard a0 x29.2 0) + 1))) := hΦ 6 (by decide)
                    have g7 : u 7 = (.bool ((D.plan_Plan_Hazard a0 x29.2 1) != (IntKind.i64.wrap ((D.plan_Plan_Hazard a0 x29.2 0) + 1)))) := hΦ 7 (by decide)
                    have g8 : u 8 = (.bool ((D.plan_Plan_Hazard a0 x29.2 1) != (IntKind.i64.wrap ((D.plan_Plan_Hazard a0 x29.2 0) + 1)))) := hΦ 8 (by decide)
                    have g9 : u 9 = (.agg (planC a0).toArray) := hΦ 9 (by decide)
                    have g10 : u 10 = (.int .i64 x29.2) := hΦ 10 (by decide)
                    have g11 : u 11 = (.int .i64 (D.plan_Plan_Retired a0 x29.2 0)) := hΦ 11 (by decide)
                    have g12 : u 12 = (.agg (planC a0).toArray) := hΦ 12 (by decide)
                    have g13 : u 13 = (.int .i64 x29.2) := hΦ 13 (by decide)
                    have g14 : u 14 = (.int .i64 (D.plan_Plan_Count a0 x29.2)) := hΦ 14 (by decide)
                    have g15 : u 15 = (.int .i64 (IntKind.i64.wrap ((D.plan_Plan_Count a0 x29.2) + 1))) := hΦ 15 (by decide)
                    have g16 : u 16 = (.bool ((D.plan_Plan_Retired a0 x29.2 0) != (IntKind.i64.wrap ((D.plan_Plan_Count a0 x29.2) + 1)))) := hΦ 16 (by decide)
                    have g17 : u 17 = (.bool ((D.plan_Plan_Retired a0 x29.2 0) != (IntKind.i64.wrap ((D.plan_Plan_Count a0 x29.2) + 1)))) := hΦ 17 (by decide)
                    have g18 : u 18 = (.bool ((D.plan_Plan_Retired a0 x29.2 0) != (IntKind.i64.wrap ((D.plan_Plan_Count a0 x29.2) + 1)))) := hΦ 18 (by decide)
                    have g19 : u 19 = undef := hΦ 19 (by decide)
                    have g20 : u 20 = undef := hΦ 20 (by decide)
                    have g21 : u 21 = undef := hΦ 21 (by decide)
                    have g22 : u 22 = undef := hΦ 22 (by decide)
                    have g23 : u 23 = undef := hΦ 23 (by decide)
                    have g24 : u 24 = undef := hΦ 24 (by decide)
                    have g25 : u 25 = undef := hΦ 25 (by decide)
                    have g26 : u 26 = undef := hΦ 26 (by decide)
                    have g27 : u 27 = undef := hΦ 27 (by decide)
                    have g28 : u 28 = undef := hΦ 28 (by decide)
                    have g29 : u 29 = undef := hΦ 29 (by decide)
                    have g30 : u 30 = undef := hΦ 30 (by decide)
                    have g31 : u 31 = undef := hΦ 31 (by decide)
                    have r := r.congr (sc g31 (sc g30 (sc g29 (sc g28 (sc g27 (sc g26 (sc g25 (sc g24 (sc g23 (sc g22 (sc g21 (sc g20 (sc g19 (sc g18 (sc g17 (sc g16 (sc g15 (sc g14 (sc g13 (sc g12 (sc g11 (sc g10 (sc g9 (sc g8 (sc g7 (sc g6 (sc g5 (sc g4 (sc g3 (sc g2 (sc g1 (sc g0 rfl))))))))))))))))))))))))))))))))
                    have z_w36 := hb.size
                    have h_b1 := keep hb h_b1
                    have hB := hB.trans (hb.mono hB.size)
                    have zB := hB.size
                    refine seq_val (.bool true) r (fun R => y_pick r (b := true) (congrArg Value.bool h35) rfl) rfl fun fr r => ?_
                    refine wpList_nil ?_
                    refine wp_cond_split (t := true) (r.ev rfl) (fun _ => ?_) (fun h => absurd ((rfl : true = _).symm.trans h) (by decide))
                    refine wp_seq ?_
                    refine wp_region_lit ?_
                    refine seq_val (.bool false) r (fun R => y_assign r rfl) rfl fun fr r => ?_
                    refine wpList_nil ?_
                    refine wp_ret ?_
                    refine rty30 false _ _ hD fun hD => ?_
                    have hv : false = res := Option.some.inj hD
                    refine ret_tmp r rfl (v := (.bool false)) rfl ?_
                    subst hv
                    exact ⟨rfl, hB⟩
                · skip
                  have hD := (cond_f h35).symm.trans hD
                  refine wp_drawnF 32 [.val (.agg (planC a0).toArray), .val (.int .i64 x29.2), .val (.int .i64 (D.plan_Plan_Hazard a0 x29.2 1)), .val (.agg (planC a0).toArray), .val (.int .i64 x29.2), .val (.int .i64 (D.plan_Plan_Hazard a0 x29.2 0)), .val (.int .i64 (IntKind.i64.wrap ((D.plan_Plan_Hazard a0 x29.2 0) + 1))), .val (.bool ((D.plan_Plan_Hazard a0 x29.2 1) != (IntKind.i64.wrap ((D.plan_Plan_Hazard a0 x29.2 0) + 1)))), .val (.bool ((D.plan_Plan_Hazard a0 x29.2 1) != (IntKind.i64.wrap ((D.plan_Plan_Hazard a0 x29.2 0) + 1)))), .val (.agg (planC a0).toArray), .val (.int .i64 x29.2), .val (.int .i64 (D.plan_Plan_Retired a0 x29.2 0)), .val (.agg (planC a0).toArray), .val (.int .i64 x29.2), .val (.int .i64 (D.plan_Plan_Count a0 x29.2)), .val (.int .i64 (IntKind.i64.wrap ((D.plan_Plan_Count a0 x29.2) + 1))), .val (.bool ((D.plan_Plan_Retired a0 x29.2 0) != (IntKind.i64.wrap ((D.plan_Plan_Count a0 x29.2) + 1)))), .val (.bool ((D.plan_Plan_Retired a0 x29.2 0) != (IntKind.i64.wrap ((D.plan_Plan_Count a0 x29.2) + 1)))), .val (.bool ((D.plan_Plan_Retired a0 x29.2 0) != (IntKind.i64.wrap ((D.plan_Plan_Count a0 x29.2) + 1)))), .val (.agg (planC a0).toArray), .val (.int .i64 x29.2), .val (.pointer (some ⟨b1, 2, none⟩)), .val (.int .i64 a0.retire), .val (.int .i64 (IntKind.i64.wrap (a0.retire - 1))), .val (.int .i64 (D.plan_Plan_Retired a0 x29.2 (IntKind.i64.wrap (a0.retire - 1)))), .val (.agg (planC a0).toArray), .val (.int .i64 x29.2), .val (.int .i64 (D.plan_Plan_Count a0 x29.2)), .val (.pointer (some ⟨b1, 2, none⟩)), .val (.int .i64 a0.retire), .val (.int .i64 (IntKind.i64.wrap ((D.plan_Plan_Count a0 x29.2) + a0.retire))), .val (.bool ((D.plan_Plan_Retired a0 x29.2 (IntKind.i64.wrap (a0.retire - 1))) != (IntKind.i64.wrap ((D.plan_Plan_Count a0 x29.2) + a0.retire))))] mixed r (by kernel_rfl) (within_cons (by exact trivial) (within_cons (by exact trivial) (within_cons (by exact trivial) (within_cons (by exact trivial) (within_cons (by exact trivial) (within_cons (by exact trivial) (within_cons (by exact trivial) (within_cons (by exact trivial) (within_cons (by exact trivial) (within_cons (by exact trivial) (within_cons (by exact trivial) (within_cons (by exact trivial) (within_cons (by exact trivial) (within_cons (by exact trivial) (within_cons (by exact trivial) (within_cons (by exact trivial) (within_cons (by exact trivial) (within_cons (by exact trivial) (within_cons (by exact trivial) (within_cons (by exact trivial) (within_cons (by exact trivial) (within_cons (by exact trivial) (within_cons (by exact trivial) (within_cons (by exact trivial) (within_cons (by exact trivial) (within_cons (by exact trivial) (within_cons (by exact trivial) (within_cons (by exact trivial) (within_cons (by exact trivial) (within_cons (by exact trivial) (within_cons (by exact trivial) (within_cons (by exact trivial) within_nil)))))))))))))))))))))))))))))))) ?_ ?_
                  · skip
                    refine each_consF r rfl (fun fr1 u w' hb' hd r' => ?_) ?_
                    · exact y_load_agg r' (cs := (planC a0)) (n := 6) rfl (keep hb' h_b1) ta24 rfl ⟨Below.refl _ _, rfl⟩
                    refine each_consF r rfl (fun fr1 u w' hb' hd r' => ?_) ?_
                    · exact y_move r' (v := (.int .i64 x29.2)) rfl ⟨Below.refl _ _, rfl⟩
                    refine each_consF r rfl (fun fr1 u w' hb' hd r' => ?_) ?_
                    · obtain ⟨d0, d1, _⟩ := hd; exact y_call r' (args := [(.agg (planC a0).toArray), (.int .i64 x29.2), (.int .i64 1)]) (lc d0 (lc d1 (lc rfl l0))) cl27 ((c_plan_Plan_Hazard _ a0 x29.2 1).mono (by rintro _ w2 ⟨rfl, hb2⟩; exact ⟨_, rfl, hb2, rfl⟩))
                    refine each_consF r rfl (fun fr1 u w' hb' hd r' => ?_) ?_
                    · exact y_load_agg r' (cs := (planC a0)) (n := 6) rfl (keep hb' h_b1) ta24 rfl ⟨Below.refl _ _, rfl⟩
                    refine each_consF r rfl (fun fr1 u w' hb' hd r' => ?_) ?_
                    · exact y_move r' (v := (.int .i64 x29.2)) rfl ⟨Below.refl _ _, rfl⟩
                    refine each_consF r rfl (fun fr1 u w' hb' hd r' => ?_) ?_
                    · obtain ⟨d0, d1, d2, _⟩ := hd; exact y_call r' (args := [(.agg (planC a0).toArray), (.int .i64 x29.2), (.int .i64 0)]) (lc d0 (lc d1 (lc rfl l0))) cl27 ((c_plan_Plan_Hazard _ a0 x29.2 0).mono (by rintro _ w2 ⟨rfl, hb2⟩; exact ⟨_, rfl, hb2, rfl⟩))
                    refine each_consF r rfl (fun fr1 u w' hb' hd r' => ?_) ?_
                    · obtain ⟨d0, _⟩ := hd; exact y_bin r' (u := (.int .i64 (D.plan_Plan_Hazard a0 x29.2 0))) (u' := (.int .i64 1)) (v := (.int .i64 (IntKind.i64.wrap ((D.plan_Plan_Hazard a0 x29.2 0) + 1)))) d0 rfl rfl rfl ⟨Below.refl _ _, rfl⟩
                    refine each_consF r rfl (fun fr1 u w' hb' hd r' => ?_) ?_
                    · obtain ⟨d0, d1, _⟩ := hd; exact y_bin r' (u := (.int .i64 (D.plan_Plan_Hazard a0 x29.2 1))) (u' := (.int .i64 (IntKind.i64.wrap ((D.plan_Plan_Hazard a0 x29.2 0) + 1)))) (v := (.bool ((D.plan_Plan_Hazard a0 x29.2 1) != (IntKind.i64.wrap ((D.plan_Plan_Hazard a0 x29.2 0) + 1))))) d0 d1 rfl rfl ⟨Below.refl _ _, rfl⟩
                    refine each_consF r rfl (fun fr1 u w' hb' hd r' => ?_) ?_
                    · obtain ⟨d0, d1, _⟩ := hd; exact y_move r' (v := (.bool ((D.plan_Plan_Hazard a0 x29.2 1) != (IntKind.i64.wrap ((D.plan_Plan_Hazard a0 x29.2 0) + 1))))) d0 ⟨Below.refl _ _, rfl⟩
                    refine each_consW false r rfl rfl rfl (fun u w' hd => by obtain ⟨d0, _⟩ := hd; exact Eq.trans (show u 8 = .bool ((D.plan_Plan_Hazard a0 x29.2 1) != (IntKind.i64.wrap ((D.plan_Plan_Hazard a0 x29.2 0) + 1))) from d0) (congrArg Value.bool h33)) (fun fr1 u w' hb' hd r' => ?_) ?_
                    · obtain ⟨d0, _⟩ := hd; exact y_load_agg r' (cs := (planC a0)) (n := 6) rfl (keep hb' h_b1) ta24 rfl ⟨Below.refl _ _, rfl⟩
                    refine each_consW false r rfl rfl rfl (fun u w' hd => by obtain ⟨d0, _⟩ := hd; exact Eq.trans (show u 8 = .bool ((D.plan_Plan_Hazard a0 x29.2 1) != (IntKind.i64.wrap ((D.plan_Plan_Hazard a0 x29.2 0) + 1))) from d0) (congrArg Value.bool h33)) (fun fr1 u w' hb' hd r' => ?_) ?_
                    · obtain ⟨d0, _⟩ := hd; exact y_move r' (v := (.int .i64 x29.2)) rfl ⟨Below.refl _ _, rfl⟩
                    refine each_consW false r rfl rfl rfl (fun u w' hd => by obtain ⟨d0, d1, d2, d3, _⟩ := hd; exact Eq.trans (show u 8 = .bool ((D.plan_Plan_Hazard a0 x29.2 1) != (IntKind.i64.wrap ((D.plan_Plan_Hazard a0 x29.2 0) + 1))) from d2) (congrArg Value.bool h33)) (fun fr1 u w' hb' hd r' => ?_) ?_
                    · obtain ⟨d0, d1, d2, d3, _⟩ := hd; exact y_call r' (args := [(.agg (planC a0).toArray), (.int .i64 x29.2), (.int .i64 0)]) (lc d0 (lc d1 (lc rfl l0))) cl28 ((c_plan_Plan_Retired _ a0 x29.2 0).mono (by rintro _ w2 ⟨rfl, hb2⟩; exact ⟨_, rfl, hb2, rfl⟩))
                    refine each_consW false r rfl rfl rfl (fun u w' hd => by obtain ⟨d0, _⟩ := hd; exact Eq.trans (show u 8 = .bool ((D.plan_Plan_Hazard a0 x29.2 1) != (IntKind.i64.wrap ((D.plan_Plan_Hazard a0 x29.2 0) + 1))) from d0) (congrArg Value.bool h33)) (fun fr1 u w' hb' hd r' => ?_) ?_
                    · obtain ⟨d0, _⟩ := hd; exact y_load_agg r' (cs := (planC a0)) (n := 6) rfl (keep hb' h_b1) ta24 rfl ⟨Below.refl _ _, rfl⟩
                    refine each_consW false r rfl rfl rfl (fun u w' hd => by obtain ⟨d0, _⟩ := hd; exact Eq.trans (show u 8 = .bool ((D.plan_Plan_Hazard a0 x29.2 1) != (IntKind.i64.wrap ((D.plan_Plan_Hazard a0 x29.2 0) + 1))) from d0) (congrArg Value.bool h33)) (fun fr1 u w' hb' hd r' => ?_) ?_
                    · obtain ⟨d0, _⟩ := hd; exact y_move r' (v := (.int .i64 x29.2)) rfl ⟨Below.refl _ _, rfl⟩
                    refine each_consW false r rfl rfl rfl (fun u w' hd => by obtain ⟨d0, d1, d2, d3, _⟩ := hd; exact Eq.trans (show u 8 = .bool ((D.plan_Plan_Hazard a0 x29.2 1) != (IntKind.i64.wrap ((D.plan_Plan_Hazard a0 x29.2 0) + 1))) from d3) (congrArg Value.bool h33)) (fun fr1 u w' hb' hd r' => ?_) ?_
                    · obtain ⟨d0, d1, d2, d3, _⟩ := hd; exact y_call r' (args := [(.agg (planC a0).toArray), (.int .i64 x29.2)]) (lc d0 (lc d1 l0)) cl29 ((c_plan_Plan_Count _ a0 x29.2).mono (by rintro _ w2 ⟨rfl, hb2⟩; exact ⟨_, rfl, hb2, rfl⟩))
                    refine each_consW false r rfl rfl rfl (fun u w' hd => by obtain ⟨d0, d1, _⟩ := hd; exact Eq.trans (show u 8 = .bool ((D.plan_Plan_Hazard a0 x29.2 1) != (IntKind.i64.wrap ((D.plan_Plan_Hazard a0 x29.2 0) + 1))) from d1) (congrArg Value.bool h33)) (fun fr1 u w' hb' hd r' => ?_) ?_
                    · obtain ⟨d0, d1, _⟩ := hd; exact y_bin r' (u := (.int .i64 (D.plan_Plan_Count a0 x29.2))) (u' := (.int .i64 1)) (v := (.int .i64 (IntKind.i64.wrap ((D.plan_Plan_Count a0 x29.2) + 1)))) d0 rfl rfl rfl ⟨Below.refl _ _, rfl⟩
                    refine each_consW false r rfl rfl rfl (fun u w' hd => by obtain ⟨d0, d1, d2, _⟩ := hd; exact Eq.trans (show u 8 = .bool ((D.plan_Plan_Hazard a0 x29.2 1) != (IntKind.i64.wrap ((D.plan_Plan_Hazard a0 x29.2 0) + 1))) from d2) (congrArg Value.bool h33)) (fun fr1 u w' hb' hd r' => ?_) ?_
                    · obtain ⟨d0, d1, d2, _⟩ := hd; exact y_bin r' (u := (.int .i64 (D.plan_Plan_Retired a0 x29.2 0))) (u' := (.int .i64 (IntKind.i64.wrap ((D.plan_Plan_Count a0 x29.2) + 1)))) (v := (.bool ((D.plan_Plan_Retired a0 x29.2 0) != (IntKind.i64.wrap ((D.plan_Plan_Count a0 x29.2) + 1))))) d0 d1 rfl rfl ⟨Below.refl _ _, rfl⟩
                    refine each_consF r rfl (fun fr1 u w' hb' hd r' => ?_) ?_
                    · obtain ⟨d0, d1, _⟩ := hd; exact y_pick r' (b := false) (v := (.bool ((D.plan_Plan_Retired a0 x29.2 0) != (IntKind.i64.wrap ((D.plan_Plan_Count a0 x29.2) + 1))))) (Eq.trans (show u 8 = .bool ((D.plan_Plan_Hazard a0 x29.2 1) != (IntKind.i64.wrap ((D.plan_Plan_Hazard a0 x29.2 0) + 1))) from d0) (congrArg Value.bool h33)) d1 ⟨Below.refl _ _, rfl⟩
                    refine each_consF r rfl (fun fr1 u w' hb' hd r' => ?_) ?_
                    · obtain ⟨d0, d1, _⟩ := hd; exact y_move r' (v := (.bool ((D.plan_Plan_Retired a0 x29.2 0) != (IntKind.i64.wrap ((D.plan_Plan_Count a0 x29.2) + 1))))) d0 ⟨Below.refl _ _, rfl⟩
                    refine each_consW false r rfl rfl rfl (fun u w' hd => by obtain ⟨d0, _⟩ := hd; exact Eq.trans (show u 18 = .bool ((D.plan_Plan_Retired a0 x29.2 0) != (IntKind.i64.wrap ((D.plan_Plan_Count a0 x29.2) + 1))) from d0) (congrArg Value.bool h35)) (fun fr1 u w' hb' hd r' => ?_) ?_
                    · obtain ⟨d0, _⟩ := hd; exact y_load_agg r' (cs := (planC a0)) (n := 6) rfl (keep hb' h_b1) ta24 rfl ⟨Below.refl _ _, rfl⟩
                    refine each_consW false r rfl rfl rfl (fun u w' hd => by obtain ⟨d0, _⟩ := hd; exact Eq.trans (show u 18 = .bool ((D.plan_Plan_Retired a0 x29.2 0) != (IntKind.i64.wrap ((D.plan_Plan_Count a0 x29.2) + 1))) from d0) (congrArg Value.bool h35)) (fun fr1 u w' hb' hd r' => ?_) ?_
                    · obtain ⟨d0, _⟩ := hd; exact y_move r' (v := (.int .i64 x29.2)) rfl ⟨Below.refl _ _, rfl⟩
                    refine each_consW false r rfl rfl rfl (fun u w' hd => by obtain ⟨d0, _⟩ := hd; exact Eq.trans (show u 18 = .bool ((D.plan_Plan_Retired a0 x29.2 0) != (IntKind.i64.wrap ((D.plan_Plan_Count a0 x29.2) + 1))) from d0) (congrArg Value.bool h35)) (fun fr1 u w' hb' hd r' => ?_) ?_
                    · obtain ⟨d0, _⟩ := hd; exact y_fieldAddr r' (b := b1) (o := 0) (k := 2) rfl fo24_2 ⟨Below.refl _ _, rfl⟩
                    refine each_consW false r rfl rfl rfl (fun u w' hd => by obtain ⟨d0, d1, _⟩ := hd; exact Eq.trans (show u 18 = .bool ((D.plan_Plan_Retired a0 x29.2 0) != (IntKind.i64.wrap ((D.plan_Plan_Count a0 x29.2) + 1))) from d1) (congrArg Value.bool h35)) (fun fr1 u w' hb' hd r' => ?_) ?_
                    · obtain ⟨d0, d1, _⟩ := hd; exact y_load_one r' (v := (.int .i64 a0.retire)) d0 (keep hb' h_b1) to3 rfl ⟨Below.refl _ _, rfl⟩
                    refine each_consW false r rfl rfl rfl (fun u w' hd => by obtain ⟨d0, d1, _⟩ := hd; exact Eq.trans (show u 18 = .bool ((D.plan_Plan_Retired a0 x29.2 0) != (IntKind.i64.wrap ((D.plan_Plan_Count a0 x29.2) + 1))) from d1) (congrArg Value.bool h35)) (fun fr1 u w' hb' hd r' => ?_) ?_
                    · obtain ⟨d0, d1, _⟩ := hd; exact y_bin r' (u := (.int .i64 a0.retire)) (u' := (.int .i64 1)) (v := (.int .i64 (IntKind.i64.wrap (a0.retire - 1)))) d0 rfl rfl rfl ⟨Below.refl _ _, rfl⟩
                    refine each_consW false r rfl rfl rfl (fun u w' hd => by obtain ⟨d0, d1, d2, d3, d4, _⟩ := hd; exact Eq.trans (show u 18 = .bool ((D.plan_Plan_Retired a0 x29.2 0) != (IntKind.i64.wrap ((D.plan_Plan_Count a0 x29.2) + 1))) from d3) (congrArg Value.bool h35)) (fun fr1 u w' hb' hd r' => ?_) ?_
                    · obtain ⟨d0, d1, d2, d3, d4, _⟩ := hd; exact y_call r' (args := [(.agg (planC a0).toArray), (.int .i64 x29.2), (.int .i64 (IntKind.i64.wrap (a0.retire - 1)))]) (lc d0 (lc d1 (lc d2 l0))) cl28 ((c_plan_Plan_Retired _ a0 x29.2 (IntKind.i64.wrap (a0.retire - 1))).mono (by rintro _ w2 ⟨rfl, hb2⟩; exact ⟨_, rfl, hb2, rfl⟩))
                    refine each_consW false r rfl rfl rfl (fun u w' hd => by obtain ⟨d0, _⟩ := hd; exact Eq.trans (show u 18 = .bool ((D.plan_Plan_Retired a0 x29.2 0) != (IntKind.i64.wrap ((D.plan_Plan_Count a0 x29.2) + 1))) from d0) (congrArg Value.bool h35)) (fun fr1 u w' hb' hd r' => ?_) ?_
                    · obtain ⟨d0, _⟩ := hd; exact y_load_agg r' (cs := (planC a0)) (n := 6) rfl (keep hb' h_b1) ta24 rfl ⟨Below.refl _ _, rfl⟩
                    refine each_consW false r rfl rfl rfl (fun u w' hd => by obtain ⟨d0, _⟩ := hd; exact Eq.trans (show u 18 = .bool ((D.plan_Plan_Retired a0 x29.2 0) != (IntKind.i64.wrap ((D.plan_Plan_Count a0 x29.2) + 1))) from d0) (congrArg Value.bool h35)) (fun fr1 u w' hb' hd r' => ?_) ?_
                    · obtain ⟨d0, _⟩ := hd; exact y_move r' (v := (.int .i64 x29.2)) rfl ⟨Below.refl _ _, rfl⟩
                    refine each_consW false r rfl rfl rfl (fun u w' hd => by obtain ⟨d0, d1, d2, d3, _⟩ := hd; exact Eq.trans (show u 18 = .bool ((D.plan_Plan_Retired a0 x29.2 0) != (IntKind.i64.wrap ((D.plan_Plan_Count a0 x29.2) + 1))) from d3) (congrArg Value.bool h35)) (fun fr1 u w' hb' hd r' => ?_) ?_
                    · obtain ⟨d0, d1, d2, d3, _⟩ := hd; exact y_call r' (args := [(.agg (planC a0).toArray), (.int .i64 x29.2)]) (lc d0 (lc d1 l0)) cl29 ((c_plan_Plan_Count _ a0 x29.2).mono (by rintro _ w2 ⟨rfl, hb2⟩; exact ⟨_, rfl, hb2, rfl⟩))
                    refine each_consW false r rfl rfl rfl (fun u w' hd => by obtain ⟨d0, _⟩ := hd; exact Eq.trans (show u 18 = .bool ((D.plan_Plan_Retired a0 x29.2 0) != (IntKind.i64.wrap ((D.plan_Plan_Count a0 x29.2) + 1))) from d0) (congrArg Value.bool h35)) (fun fr1 u w' hb' hd r' => ?_) ?_
                    · obtain ⟨d0, _⟩ := hd; exact y_fieldAddr r' (b := b1) (o := 0) (k := 2) rfl fo24_2 ⟨Below.refl _ _, rfl⟩
                    refine each_consW false r rfl rfl rfl (fun u w' hd => by obtain ⟨d0, d1, _⟩ := hd; exact Eq.trans (show u 18 = .bool ((D.plan_Plan_Retired a0 x29.2 0) != (IntKind.i64.wrap ((D.plan_Plan_Count a0 x29.2) + 1))) from d1) (congrArg Value.bool h35)) (fun fr1 u w' hb' hd r' => ?_) ?_
                    · obtain ⟨d0, d1, _⟩ := hd; exact y_load_one r' (v := (.int .i64 a0.retire)) d0 (keep hb' h_b1) to3 rfl ⟨Below.refl _ _, rfl⟩
                    refine each_consW false r rfl rfl rfl (fun u w' hd => by obtain ⟨d0, d1, d2, _⟩ := hd; exact Eq.trans (show u 18 = .bool ((D.plan_Plan_Retired a0 x29.2 0) != (IntKind.i64.wrap ((D.plan_Plan_Count a0 x29.2) + 1))) from d2) (congrArg Value.bool h35)) (fun fr1 u w' hb' hd r' => ?_) ?_
                    · obtain ⟨d0, d1, d2, _⟩ := hd; exact y_bin r' (u := (.int .i64 (D.plan_Plan_Count a0 x29.2))) (u' := (.int .i64 a0.retire)) (v := (.int .i64 (IntKind.i64.wrap ((D.plan_Plan_Count a0 x29.2) + a0.retire)))) d0 d1 rfl rfl ⟨Below.refl _ _, rfl⟩
                    refine each_consW false r rfl rfl rfl (fun u w' hd => by obtain ⟨d0, d1, d2, _⟩ := hd; exact Eq.trans (show u 18 = .bool ((D.plan_Plan_Retired a0 x29.2 0) != (IntKind.i64.wrap ((D.plan_Plan_Count a0 x29.2) + 1))) from d2) (congrArg Value.bool h35)) (fun fr1 u w' hb' hd r' => ?_) ?_
                    · obtain ⟨d0, d1, d2, _⟩ := hd; exact y_bin r' (u := (.int .i64 (D.plan_Plan_Retired a0 x29.2 (IntKind.i64.wrap (a0.retire - 1))))) (u' := (.int .i64 (IntKind.i64.wrap ((D.plan_Plan_Count a0 x29.2) + a0.retire)))) (v := (.bool ((D.plan_Plan_Retired a0 x29.2 (IntKind.i64.wrap (a0.retire - 1))) != (IntKind.i64.wrap ((D.plan_Plan_Count a0 x29.2) + a0.retire))))) d0 d1 rfl rfl ⟨Below.refl _ _, rfl⟩
                    exact each_nil
                  · skip
                    intro fr u w37 hb hΦ hne r
                    have g0 : u 0 = (.agg (planC a0).toArray) := hΦ 0 (by decide)
                    have g1 : u 1 = (.int .i64 x29.2) := hΦ 1 (by decide)
                    have g2 : u 2 = (.int .i64 (D.plan_Plan_Hazard a0 x29.2 1)) := hΦ 2 (by decide)
                    have g3 : u 3 = (.agg (planC a0).toArray) := hΦ 3 (by decide)
                    have g4 : u 4 = (.int .i64 x29.2) := hΦ 4 (by decide)
                    have g5 : u 5 = (.int .i64 (D.plan_Plan_Hazard a0 x29.2 0)) := hΦ 5 (by decide)
                    have g6 : u 6 = (.int .i64 (IntKind.i64.wrap ((D.plan_Plan_Hazard a0 x29.2 0) + 1))) := hΦ 6 (by decide)
                    have g7 : u 7 = (.bool ((D.plan_Plan_Hazard a0 x29.2 1) != (IntKind.i64.wrap ((D.plan_Plan_Hazard a0 x29.2 0) + 1)))) := hΦ 7 (by decide)
                    have g8 : u 8 = (.bool ((D.plan_Plan_Hazard a0 x29.2 1) != (IntKind.i64.wrap ((D.plan_Plan_Hazard a0 x29.2 0) + 1)))) := hΦ 8 (by decide)
                    have g9 : u 9 = (.agg (planC a0).toArray) := hΦ 9 (by decide)
                    have g10 : u 10 = (.int .i64 x29.2) := hΦ 10 (by decide)
                    have g11 : u 11 = (.int .i64 (D.plan_Plan_Retired a0 x29.2 0)) := hΦ 11 (by decide)
                    have g12 : u 12 = (.agg (planC a0).toArray) := hΦ 12 (by decide)
                    have g13 : u 13 = (.int .i64 x29.2) := hΦ 13 (by decide)
                    have g14 : u 14 = (.int .i64 (D.plan_Plan_Count a0 x29.2)) := hΦ 14 (by decide)
                    have g15 : u 15 = (.int .i64 (IntKind.i64.wrap ((D.plan_Plan_Count a0 x29.2) + 1))) := hΦ 15 (by decide)
                    have g16 : u 16 = (.bool ((D.plan_Plan_Retired a0 x29.2 0) != (IntKind.i64.wrap ((D.plan_Plan_Count a0 x29.2) + 1)))) := hΦ 16 (by decide)
                    have g17 : u 17 = (.bool ((D.plan_Plan_Retired a0 x29.2 0) != (IntKind.i64.wrap ((D.plan_Plan_Count a0 x29.2) + 1)))) := hΦ 17 (by decide)
                    have g18 : u 18 = (.bool ((D.plan_Plan_Retired a0 x29.2 0) != (IntKind.i64.wrap ((D.plan_Plan_Count a0 x29.2) + 1)))) := hΦ 18 (by decide)
                    have g19 : u 19 = (.agg (planC a0).toArray) := hΦ 19 (by decide)
                    have g20 : u 20 = (.int .i64 x29.2) := hΦ 20 (by decide)
                    have g21 : u 21 = (.pointer (some ⟨b1, 2, none⟩)) := hΦ 21 (by decide)
                    have g22 : u 22 = (.int .i64 a0.retire) := hΦ 22 (by decide)
                    have g23 : u 23 = (.int .i64 (IntKind.i64.wrap (a0.retire - 1))) := hΦ 23 (by decide)
                    have g24 : u 24 = (.int .i64 (D.plan_Plan_Retired a0 x29.2 (IntKind.i64.wrap (a0.retire - 1)))) := hΦ 24 (by decide)
                    have g25 : u 25 = (.agg (planC a0).toArray) := hΦ 25 (by decide)
                    have g26 : u 26 = (.int .i64 x29.2) := hΦ 26 (by decide)
                    have g27 : u 27 = (.int .i64 (D.plan_Plan_Count a0 x29.2)) := hΦ 27 (by decide)
                    have g28 : u 28 = (.pointer (some ⟨b1, 2, none⟩)) := hΦ 28 (by decide)
                    have g29 : u 29 = (.int .i64 a0.retire) := hΦ 29 (by decide)
                    have g30 : u 30 = (.int .i64 (IntKind.i64.wrap ((D.plan_Plan_Count a0 x29.2) + a0.retire))) := hΦ 30 (by decide)
                    have g31 : u 31 = (.bool ((D.plan_Plan_Retired a0 x29.2 (IntKind.i64.wrap (a0.retire - 1))) != (IntKind.i64.wrap ((D.plan_Plan_Count a0 x29.2) + a0.retire)))) := hΦ 31 (by decide)
                    have r := r.congr (sc g31 (sc g30 (sc g29 (sc g28 (sc g27 (sc g26 (sc g25 (sc g24 (sc g23 (sc g22 (sc g21 (sc g20 (sc g19 (sc g18 (sc g17 (sc g16 (sc g15 (sc g14 (sc g13 (sc g12 (sc g11 (sc g10 (sc g9 (sc g8 (sc g7 (sc g6 (sc g5 (sc g4 (sc g3 (sc g2 (sc g1 (sc g0 rfl))))))))))))))))))))))))))))))))
                    have z_w37 := hb.size
                    have h_b1 := keep hb h_b1
                    have hB := hB.trans (hb.mono hB.size)
                    have zB := hB.size
                    refine seq_val (.bool ((D.plan_Plan_Retired a0 x29.2 (IntKind.i64.wrap (a0.retire - 1))) != (IntKind.i64.wrap ((D.plan_Plan_Count a0 x29.2) + a0.retire)))) r (fun R => y_pick r (b := false) (congrArg Value.bool h35) rfl) rfl fun fr r => ?_
                    refine wpList_nil ?_
                    refine wp_cond_split (t := ((D.plan_Plan_Retired a0 x29.2 (IntKind.i64.wrap (a0.retire - 1))) != (IntKind.i64.wrap ((D.plan_Plan_Count a0 x29.2) + a0.retire)))) (r.ev rfl) (fun h38 => ?_) (fun h38 => ?_)
                    · skip
                      have hD := (cond_t h38).symm.trans hD
                      refine wp_seq ?_
                      refine wp_region_lit ?_
                      refine seq_val (.bool false) r (fun R => y_assign r rfl) rfl fun fr r => ?_
                      refine wpList_nil ?_
                      refine wp_ret ?_
                      refine rty30 false _ _ hD fun hD => ?_
                      have hv : false = res := Option.some.inj hD
                      refine ret_tmp r rfl (v := (.bool false)) rfl ?_
                      subst hv
                      exact ⟨rfl, hB⟩
                    · skip
                      have hD := (cond_f h38).symm.trans hD
                      refine wp_skip ?_
                      refine wp_region_lit ?_
                      refine seq_val (.int .i64 x29.2) r (fun R => y_move r rfl) rfl fun fr r => ?_
                      refine seq_val (.int .i64 (IntKind.i64.wrap (x29.2 + 1))) r (fun R => y_bin r (u := (.int .i64 x29.2)) (u' := (.int .i64 1)) rfl rfl rfl rfl) rfl fun fr r => ?_
                      refine seq_val (.int .i64 (IntKind.i64.wrap (x29.2 + 1))) r (fun R => y_assign r rfl) rfl fun fr r => ?_
                      refine wpList_nil ?_
                      exact nxy30 (x29.1, (IntKind.i64.wrap (x29.2 + 1))) _ _ _ hD r (hs_cons rfl (hs_cons rfl (hs_cons rfl (hs_cons rfl (hs_cons rfl hs_nil))))) ⟨hB, (by omega), h_b1⟩
            · skip
              have hD := (cond_f h32).symm.trans hD
              refine wp_exit ?_
              exact bky30 (x29.1, x29.2) _ _ _ hD r (hs_cons rfl (hs_cons rfl (hs_cons rfl (hs_cons rfl (hs_cons rfl hs_nil))))) ⟨hB, (by omega), h_b1⟩
          · skip
            rintro x39 fr w40 g r ⟨hB, z_w40, h_b1⟩ hD
            have zB := hB.size
            refine wp_seq ?_
            refine wp_drawnF 12 [.val (.agg (planC a0).toArray), .val (.int .i64 (D.plan_Plan_State a0 0)), .val (.agg (planC a0).toArray), .val (.pointer (some ⟨b1, 1, none⟩)), .val (.int .i64 a0.threads), .val (.int .i64 (IntKind.i64.wrap (a0.threads - 1))), .val (.int .i64 (D.plan_Plan_Count a0 (IntKind.i64.wrap (a0.threads - 1)))), .val (.pointer (some ⟨b1, 2, none⟩)), .val (.int .i64 a0.retire), .val (.int .i64 (IntKind.i64.wrap ((D.plan_Plan_Count a0 (IntKind.i64.wrap (a0.threads - 1))) + a0.retire))), .val (.int .i64 (IntKind.i64.wrap ((IntKind.i64.wrap ((D.plan_Plan_Count a0 (IntKind.i64.wrap (a0.threads - 1))) + a0.retire)) + 1))), .val (.bool ((D.plan_Plan_State a0 0) == (IntKind.i64.wrap ((IntKind.i64.wrap ((D.plan_Plan_Count a0 (IntKind.i64.wrap (a0.threads - 1))) + a0.retire)) + 1))))] mixed r (by kernel_rfl) (within_cons (by exact trivial) (within_cons (by exact trivial) (within_cons (by exact trivial) (within_cons (by exact trivial) (within_cons (by exact trivial) (within_cons (by exact trivial) (within_cons (by exact trivial) (within_cons (by exact trivial) (within_cons (by exact trivial) (within_cons (by exact trivial) (within_cons (by exact trivial) (within_cons (by exact trivial) within_nil)))))))))))) ?_ ?_
            · skip
              refine each_consF r rfl (fun fr1 u w' hb' hd r' => ?_) ?_
              · exact y_load_agg r' (cs := (planC a0)) (n := 6) rfl (keep hb' h_b1) ta24 rfl ⟨Below.refl _ _, rfl⟩
              refine each_consF r rfl (fun fr1 u w' hb' hd r' => ?_) ?_
              · obtain ⟨d0, _⟩ := hd; exact y_call r' (args := [(.agg (planC a0).toArray), (.int .i64 0)]) (lc d0 (lc rfl l0)) cl25 ((c_plan_Plan_State _ a0 0).mono (by rintro _ w2 ⟨rfl, hb2⟩; exact ⟨_, rfl, hb2, rfl⟩))
              refine each_consF r rfl (fun fr1 u w' hb' hd r' => ?_) ?_
              · exact y_load_agg r' (cs := (planC a0)) (n := 6) rfl (keep hb' h_b1) ta24 rfl ⟨Below.refl _ _, rfl⟩
              refine each_consF r rfl (fun fr1 u w' hb' hd r' => ?_) ?_
              · exact y_fieldAddr r' (b := b1) (o := 0) (k := 1) rfl fo24_1 ⟨Below.refl _ _, rfl⟩
              refine each_consF r rfl (fun fr1 u w' hb' hd r' => ?_) ?_
              · obtain ⟨d0, _⟩ := hd; exact y_load_one r' (v := (.int .i64 a0.threads)) d0 (keep hb' h_b1) to3 rfl ⟨Below.refl _ _, rfl⟩
              refine each_consF r rfl (fun fr1 u w' hb' hd r' => ?_) ?_
              · obtain ⟨d0, _⟩ := hd; exact y_bin r' (u := (.int .i64 a0.threads)) (u' := (.int .i64 1)) (v := (.int .i64 (IntKind.i64.wrap (a0.threads - 1)))) d0 rfl rfl rfl ⟨Below.refl _ _, rfl⟩
              refine each_consF r rfl (fun fr1 u w' hb' hd r' => ?_) ?_
              · obtain ⟨d0, d1, d2, _⟩ := hd; exact y_call r' (args := [(.agg (planC a0).toArray), (.int .i64 (IntKind.i64.wrap (a0.threads - 1)))]) (lc d0 (lc d1 l0)) cl29 ((c_plan_Plan_Count _ a0 (IntKind.i64.wrap (a0.threads - 1))).mono (by rintro _ w2 ⟨rfl, hb2⟩; exact ⟨_, rfl, hb2, rfl⟩))
              refine each_consF r rfl (fun fr1 u w' hb' hd r' => ?_) ?_
              · exact y_fieldAddr r' (b := b1) (o := 0) (k := 2) rfl fo24_2 ⟨Below.refl _ _, rfl⟩
              refine each_consF r rfl (fun fr1 u w' hb' hd r' => ?_) ?_
              · obtain ⟨d0, _⟩ := hd; exact y_load_one r' (v := (.int .i64 a0.retire)) d0 (keep hb' h_b1) to3 rfl ⟨Below.refl _ _, rfl⟩
              refine each_consF r rfl (fun fr1 u w' hb' hd r' => ?_) ?_
              · obtain ⟨d0, d1, _⟩ := hd; exact y_bin r' (u := (.int .i64 (D.plan_Plan_Count a0 (IntKind.i64.wrap (a0.threads - 1))))) (u' := (.int .i64 a0.retire)) (v := (.int .i64 (IntKind.i64.wrap ((D.plan_Plan_Count a0 (IntKind.i64.wrap (a0.threads - 1))) + a0.retire)))) d0 d1 rfl rfl ⟨Below.refl _ _, rfl⟩
              refine each_consF r rfl (fun fr1 u w' hb' hd r' => ?_) ?_
              · obtain ⟨d0, _⟩ := hd; exact y_bin r' (u := (.int .i64 (IntKind.i64.wrap ((D.plan_Plan_Count a0 (IntKind.i64.wrap (a0.threads - 1))) + a0.retire)))) (u' := (.int .i64 1)) (v := (.int .i64 (IntKind.i64.wrap ((IntKind.i64.wrap ((D.plan_Plan_Count a0 (IntKind.i64.wrap (a0.threads - 1))) + a0.retire)) + 1)))) d0 rfl rfl rfl ⟨Below.refl _ _, rfl⟩
              refine each_consF r rfl (fun fr1 u w' hb' hd r' => ?_) ?_
              · obtain ⟨d0, d1, _⟩ := hd; exact y_bin r' (u := (.int .i64 (D.plan_Plan_State a0 0))) (u' := (.int .i64 (IntKind.i64.wrap ((IntKind.i64.wrap ((D.plan_Plan_Count a0 (IntKind.i64.wrap (a0.threads - 1))) + a0.retire)) + 1)))) (v := (.bool ((D.plan_Plan_State a0 0) == (IntKind.i64.wrap ((IntKind.i64.wrap ((D.plan_Plan_Count a0 (IntKind.i64.wrap (a0.threads - 1))) + a0.retire)) + 1))))) d0 d1 rfl rfl ⟨Below.refl _ _, rfl⟩
              exact each_nil
            · skip
              intro fr u w41 hb hΦ hne r
              have g0 : u 0 = (.agg (planC a0).toArray) := hΦ 0 (by decide)
              have g1 : u 1 = (.int .i64 (D.plan_Plan_State a0 0)) := hΦ 1 (by decide)
              have g2 : u 2 = (.agg (planC a0).toArray) := hΦ 2 (by decide)
              have g3 : u 3 = (.pointer (some ⟨b1, 1, none⟩)) := hΦ 3 (by decide)
              have g4 : u 4 = (.int .i64 a0.threads) := hΦ 4 (by decide)
              have g5 : u 5 = (.int .i64 (IntKind.i64.wrap (a0.threads - 1))) := hΦ 5 (by decide)
              have g6 : u 6 = (.int .i64 (D.plan_Plan_Count a0 (IntKind.i64.wrap (a0.threads - 1)))) := hΦ 6 (by decide)
              have g7 : u 7 = (.pointer (some ⟨b1, 2, none⟩)) := hΦ 7 (by decide)
              have g8 : u 8 = (.int .i64 a0.retire) := hΦ 8 (by decide)
              have g9 : u 9 = (.int .i64 (IntKind.i64.wrap ((D.plan_Plan_Count a0 (IntKind.i64.wrap (a0.threads - 1))) + a0.retire))) := hΦ 9 (by decide)
              have g10 : u 10 = (.int .i64 (IntKind.i64.wrap ((IntKind.i64.wrap ((D.plan_Plan_Count a0 (IntKind.i64.wrap (a0.threads - 1))) + a0.retire)) + 1))) := hΦ 10 (by decide)
              have g11 : u 11 = (.bool ((D.plan_Plan_State a0 0) == (IntKind.i64.wrap ((IntKind.i64.wrap ((D.plan_Plan_Count a0 (IntKind.i64.wrap (a0.threads - 1))) + a0.retire)) + 1)))) := hΦ 11 (by decide)
              have r := r.congr (sc g11 (sc g10 (sc g9 (sc g8 (sc g7 (sc g6 (sc g5 (sc g4 (sc g3 (sc g2 (sc g1 (sc g0 rfl))))))))))))
              have z_w41 := hb.size
              have h_b1 := keep hb h_b1
              have hB := hB.trans (hb.mono hB.size)
              have zB := hB.size
              refine seq_val (.bool ((D.plan_Plan_State a0 0) == (IntKind.i64.wrap ((IntKind.i64.wrap ((D.plan_Plan_Count a0 (IntKind.i64.wrap (a0.threads - 1))) + a0.retire)) + 1)))) r (fun R => y_assign r rfl) rfl fun fr r => ?_
              refine wpList_nil ?_
              refine wp_ret ?_
              have hv : ((D.plan_Plan_State a0 0) == (IntKind.i64.wrap ((IntKind.i64.wrap ((D.plan_Plan_Count a0 (IntKind.i64.wrap (a0.threads - 1))) + a0.retire)) + 1))) = res := Option.some.inj hD
              refine ret_tmp r rfl (v := (.bool ((D.plan_Plan_State a0 0) == (IntKind.i64.wrap ((IntKind.i64.wrap ((D.plan_Plan_Count a0 (IntKind.i64.wrap (a0.threads - 1))) + a0.retire)) + 1))))) rfl ?_
              subst hv
              exact ⟨rfl, hB⟩

end Go.Proofs.Ytphnnjiaiemkcaa.Wk
