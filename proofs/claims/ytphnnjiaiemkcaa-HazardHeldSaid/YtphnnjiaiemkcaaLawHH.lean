/- Written by a program of ours (wip/gen.py): a law -/
import Derived.Test.YtphnnjiaiemkcaaLaids
set_option linter.unusedVariables false
namespace Go.Proofs.Ytphnnjiaiemkcaa.Wk
open Go.RowKit
theorem cl37 : callable Try.prog 37 = true := by kernel_rfl
theorem cl38 : callable Try.prog 38 = true := by kernel_rfl
theorem cl45 : callable Try.prog 45 = true := by kernel_rfl
theorem cl46 : callable Try.prog 46 = true := by kernel_rfl
theorem cl47 : callable Try.prog 47 = true := by kernel_rfl
theorem fo70_0 : fieldOff Try.prog 70 0 0 = true := by kernel_rfl
theorem fo70_1 : fieldOff Try.prog 70 1 1 = true := by kernel_rfl
theorem fo70_2 : fieldOff Try.prog 70 2 2 = true := by kernel_rfl
theorem is67 : isSlice Try.prog 67 = true := by kernel_rfl
theorem sl67 : sliceTy Try.prog 67 3 = true := by kernel_rfl
theorem sz1_49 : sized Try.prog 49 1 = true := by kernel_rfl

def D.cubiclelaw10_HazardHeld (fu : Nat) (a0 : Plan) (a1 : List Put) (a2 : Int) : Option (Bool) := (Option.bind ((D.cubiclelaw10_awake fu ).bind (fun (x6 : Bool) => (bif (!x6) then (some true) else (bif (decide ((a1.length : Int) > 30)) then (some true) else (bif (!(D.cubiclelaw10_fits a0 0 0 a2)) then (some true) else (some (decide (a2 < 0)))))))) (fun (x12 : Bool) => (bif x12 then ((D.cubiclelaw10_awake fu ).bind (fun (x16 : Bool) => (some x16))) else ((D.cubiclelaw09_Laid fu a0).bind (fun (x18 : Mem) => ((makeD (0 : Int) (IntKind.i64.wrap (3 * a0.threads))).bind (fun (x22 : List Int) => (loopThen (fun (x27 : Bool × List Int × Int × Mem) => (bif (decide (x27.2.2.1 < (a1.length : Int))) then ((getI a1 x27.2.2.1).bind (fun (x32 : Put) => ((getI a1 x27.2.2.1).bind (fun (x33 : Put) => ((getI a1 x27.2.2.1).bind (fun (x34 : Put) => (bif (!(D.cubiclelaw10_fits a0 x32.thread x33.slot x34.n)) then (some (Lp.next (x27.1, x27.2.1, (IntKind.i64.wrap (x27.2.2.1 + 1)), x27.2.2.2))) else ((getI a1 x27.2.2.1).bind (fun (x37 : Put) => ((getI a1 x27.2.2.1).bind (fun (x38 : Put) => ((getI a1 x27.2.2.1).bind (fun (x39 : Put) => ((D.mem_Memory_Cap fu x27.2.2.2 0).bind (fun (x41 : Cap) => ((D.prog_Run_None fu (fu, (D.hazard_Set a0 x37.thread x38.slot x39.n)) x27.2.2.2 x41 9).bind (fun (x42 : Unit × Int × Bool × Mem) => ((getI a1 x27.2.2.1).bind (fun (x45 : Put) => ((getI a1 x27.2.2.1).bind (fun (x46 : Put) => ((getI a1 x27.2.2.1).bind (fun (x47 : Put) => ((getI x27.2.1 (IntKind.i64.wrap ((IntKind.i64.wrap (3 * x45.thread)) + x46.slot))).bind (fun (x48 : Int) => (Option.bind (bif (x42.2.1 != 1) then (some true) else (some (!x42.2.2.1))) (fun (x54 : Bool) => (bif x54 then (some (Lp.ret false)) else (some (Lp.next (x27.1, (x27.2.1.set (IntKind.i64.wrap ((IntKind.i64.wrap (3 * x45.thread)) + x46.slot)).toNat (IntKind.u64.wrap (IntKind.i64.wrap (x47.n + 1)))), (IntKind.i64.wrap (x27.2.2.1 + 1)), x42.2.2.2))))))))))))))))))))))))))))))) else (some (Lp.brk (x27.1, x27.2.1, x27.2.2.1, x27.2.2.2))))) fu (false, x22, 0, x18) (fun (x58 : Bool × List Int × Int × Mem) => ((D.mem_Memory_Cap fu x58.2.2.2 0).bind (fun (x65 : Cap) => ((D.prog_Run_bool fu (fu, (D.hazard_Held (fu + 1) a0 a2)) x58.2.2.2 x65 200).bind (fun (x67 : Bool × Int × Bool × Mem) => ((D.cubicleref10_Held fu x58.2.1 a2).bind (fun (x69 : Bool × Int) => ((D.mem_Memory_Cap fu x67.2.2.2 0).bind (fun (x75 : Cap) => ((D.prog_Run_None fu (fu, (D.hazard_Clear (fu + 1) a0 (IntKind.i64.wrap (a0.threads - 1)))) x67.2.2.2 x75 9).bind (fun (x77 : Unit × Int × Bool × Mem) => (Option.bind (bif (x67.1 != x69.1) then (some true) else (bif (x67.2.1 != x69.2) then (some true) else (bif (!x67.2.2.1) then (some true) else (bif (x77.2.1 != 3) then (some true) else (some (!x77.2.2.1)))))) (fun (x90 : Bool) => (bif x90 then (some false) else (loopThen (fun (x94 : Bool × Int) => (bif (decide (x94.2 < a0.threads)) then (loopThen (fun (x99 : Bool × Int) => (bif (decide (x99.2 < 3)) then ((D.mem_Memory_Peek fu x77.2.2.2 0 (D.plan_Plan_Hazard a0 x94.2 x99.2)).bind (fun (x105 : Int) => (Option.bind (bif (x94.2 == (IntKind.i64.wrap (a0.threads - 1))) then (bif (x105 != 0) then (some true) else (bif (decide (x94.2 < (IntKind.i64.wrap (a0.threads - 1)))) then ((getI x58.2.1 (IntKind.i64.wrap ((IntKind.i64.wrap (3 * x94.2)) + x99.2))).bind (fun (x111 : Int) => (some (x105 != x111)))) else (some false))) else (bif (decide (x94.2 < (IntKind.i64.wrap (a0.threads - 1)))) then ((getI x58.2.1 (IntKind.i64.wrap ((IntKind.i64.wrap (3 * x94.2)) + x99.2))).bind (fun (x113 : Int) => (some (x105 != x113)))) else (some false))) (fun (x114 : Bool) => (bif x114 then (some (Lp.ret (Lp.ret false))) else (some (Lp.next (x99.1, (IntKind.i64.wrap (x99.2 + 1)))))))))) else (some (Lp.brk (x99.1, x99.2))))) fu (x94.1, 0) (fun (x118 : Bool × Int) => (some (Lp.next (x118.1, (IntKind.i64.wrap (x94.2 + 1))))))) else (some (Lp.brk (x94.1, x94.2))))) fu (x58.1, 0) (fun (x121 : Bool × Int) => (some true)))))))))))))))))))))))))

set_option maxRecDepth 20000 in
set_option maxHeartbeats 2000000 in
theorem c_cubiclelaw10_HazardHeld {fu : Nat} (w0 : World) (a0 : Plan) {a1_v : Value} (a1 : List Put) (a1_h : RoAt 70 3 putC a1_v a1 w0) (a2 : Int) {res : Bool} (hD : D.cubiclelaw10_HazardHeld fu a0 a1 a2 = some res) :
    Calls Try.prog 9 #[.agg (planC a0).toArray, a1_v, .int .i64 a2] w0 (PureRes (.bool res) w0) := by
  refine enter (l := [.agg (planC a0).toArray, a1_v, .int .i64 a2]) Try.func9 rfl 219 rfl rfl fun fr r => ?_
  have hP : Post No [] w0 w0 := Post.nil w0
  have hP : Post No [roK 70 3 putC a1_v a1] w0 w0 := hP.addRo norw_nil a1_h rfl a1_h.lt
  unfold D.cubiclelaw10_HazardHeld at hD
  refine wp_seq ?_
  refine wp_region_lit ?_
  refine seq_new (.cells ((planC a0)).toArray 24 (0, 0)) r (fun R => y_box r (v := (.agg (planC a0).toArray)) rfl) rfl fun fr b1 w2 n3 r => ?_
  have hP : Post No [roK 70 3 putC a1_v a1, cellC b1 ((planC a0)).toArray 24] w0 w2 := hP.new n3
  refine seq_val (.bool false) r (fun R => y_assign r rfl) rfl fun fr r => ?_
  refine wpList_nil ?_
  refine wp_seq ?_
  refine wp_seq ?_
  refine wp_joinG (N := 219) (Y := Bool) (G := Unit) (fun x γ => [(0, (.agg (planC a0).toArray)), (1, a1_v), (2, (.int .i64 a2)), (3, (.pointer (some ⟨b1, 0, none⟩))), (6, (.bool false)), (40, (.bool x))]) (fun x γ w => Post No [roK 70 3 putC a1_v a1, cellC b1 ((planC a0)).toArray 24] w0 w) hD ?_ ?_
  · skip
    rintro y5 RPy5 nxy5 hD
    refine wp_region_lit ?_
    obtain ⟨x6, hx6, hD⟩ := bindD_elim hD
    refine seq_call r (c_cubiclelaw10_awake w2  hx6) (fun R hc => y_call r rfl cl37 hc) rfl ?_
    rintro _ w7 ⟨rfl, hb⟩
    refine ⟨_, rfl, fun fr r => ?_⟩
    have hP : Post No [roK 70 3 putC a1_v a1, cellC b1 ((planC a0)).toArray 24] w0 w7 := hP.below hb
    refine seq_val (.bool (!x6)) r (fun R => y_un r (u := (.bool x6)) rfl rfl) rfl fun fr r => ?_
    refine seq_val (.bool (!x6)) r (fun R => y_move r rfl) rfl fun fr r => ?_
    refine seq_split (!x6) (fun h8 => ?_) (fun h8 => ?_)
    · skip
      have hD := (cond_t h8).symm.trans hD
      refine seq_skip r rfl rfl rfl (v := .bool true) (congrArg Value.bool h8) (by simp [boolOf]) fun fr r => ?_
      refine seq_skip r rfl rfl rfl (v := .bool true) (congrArg Value.bool h8) (by simp [boolOf]) fun fr r => ?_
      refine seq_skip r rfl rfl rfl (v := .bool true) (congrArg Value.bool h8) (by simp [boolOf]) fun fr r => ?_
      refine seq_val (.bool true) r (fun R => y_pick r (b := true) (congrArg Value.bool h8) rfl) rfl fun fr r => ?_
      refine seq_val (.bool true) r (fun R => y_move r rfl) rfl fun fr r => ?_
      refine seq_skip r rfl rfl rfl (v := .bool true) (congrArg Value.bool (rfl : true = _)) (by simp [boolOf]) fun fr r => ?_
      refine seq_skip r rfl rfl rfl (v := .bool true) (congrArg Value.bool (rfl : true = _)) (by simp [boolOf]) fun fr r => ?_
      refine seq_skip r rfl rfl rfl (v := .bool true) (congrArg Value.bool (rfl : true = _)) (by simp [boolOf]) fun fr r => ?_
      refine seq_skip r rfl rfl rfl (v := .bool true) (congrArg Value.bool (rfl : true = _)) (by simp [boolOf]) fun fr r => ?_
      refine seq_val (.bool true) r (fun R => y_pick r (b := true) (congrArg Value.bool (rfl : true = _)) rfl) rfl fun fr r => ?_
      refine seq_val (.bool true) r (fun R => y_move r rfl) rfl fun fr r => ?_
      refine seq_skip r rfl rfl rfl (v := .bool true) (congrArg Value.bool (rfl : true = _)) (by simp [boolOf]) fun fr r => ?_
      refine seq_skip r rfl rfl rfl (v := .bool true) (congrArg Value.bool (rfl : true = _)) (by simp [boolOf]) fun fr r => ?_
      refine seq_val (.bool true) r (fun R => y_pick r (b := true) (congrArg Value.bool (rfl : true = _)) rfl) rfl fun fr r => ?_
      refine wpList_nil ?_
      exact nxy5 true () _ _ _ hD r (hs_cons rfl (hs_cons rfl (hs_cons rfl (hs_cons rfl (hs_cons rfl (hs_cons rfl hs_nil)))))) (hP.pick [0, 1] rfl rfl)
    · skip
      have hD := (cond_f h8).symm.trans hD
      refine seq_want r rfl rfl rfl (congrArg Value.bool h8) ?_
      refine seq_val a1_v r (fun R => y_move r rfl) rfl fun fr r => ?_
      refine seq_want r rfl rfl rfl (congrArg Value.bool h8) ?_
      refine seq_val (.int .i64 (a1.length : Int)) r (fun R => y_rowLen r (hP.ro (i := 0) rfl) is67 rfl) rfl fun fr r => ?_
      refine seq_want r rfl rfl rfl (congrArg Value.bool h8) ?_
      refine seq_val (.bool (decide ((a1.length : Int) > 30))) r (fun R => y_bin r (u := (.int .i64 (a1.length : Int))) (u' := (.int .i64 30)) rfl rfl rfl rfl) rfl fun fr r => ?_
      refine seq_val (.bool (decide ((a1.length : Int) > 30))) r (fun R => y_pick r (b := false) (congrArg Value.bool h8) rfl) rfl fun fr r => ?_
      refine seq_val (.bool (decide ((a1.length : Int) > 30))) r (fun R => y_move r rfl) rfl fun fr r => ?_
      refine seq_split (decide ((a1.length : Int) > 30)) (fun h9 => ?_) (fun h9 => ?_)
      · skip
        have hD := (cond_t h9).symm.trans hD
        refine seq_skip r rfl rfl rfl (v := .bool true) (congrArg Value.bool h9) (by simp [boolOf]) fun fr r => ?_
        refine seq_skip r rfl rfl rfl (v := .bool true) (congrArg Value.bool h9) (by simp [boolOf]) fun fr r => ?_
        refine seq_skip r rfl rfl rfl (v := .bool true) (congrArg Value.bool h9) (by simp [boolOf]) fun fr r => ?_
        refine seq_skip r rfl rfl rfl (v := .bool true) (congrArg Value.bool h9) (by simp [boolOf]) fun fr r => ?_
        refine seq_val (.bool true) r (fun R => y_pick r (b := true) (congrArg Value.bool h9) rfl) rfl fun fr r => ?_
        refine seq_val (.bool true) r (fun R => y_move r rfl) rfl fun fr r => ?_
        refine seq_skip r rfl rfl rfl (v := .bool true) (congrArg Value.bool (rfl : true = _)) (by simp [boolOf]) fun fr r => ?_
        refine seq_skip r rfl rfl rfl (v := .bool true) (congrArg Value.bool (rfl : true = _)) (by simp [boolOf]) fun fr r => ?_
        refine seq_val (.bool true) r (fun R => y_pick r (b := true) (congrArg Value.bool (rfl : true = _)) rfl) rfl fun fr r => ?_
        refine wpList_nil ?_
        exact nxy5 true () _ _ _ hD r (hs_cons rfl (hs_cons rfl (hs_cons rfl (hs_cons rfl (hs_cons rfl (hs_cons rfl hs_nil)))))) (hP.pick [0, 1] rfl rfl)
      · skip
        have hD := (cond_f h9).symm.trans hD
        refine seq_want r rfl rfl rfl (congrArg Value.bool h9) ?_
        refine seq_val (.agg (planC a0).toArray) r (fun R => y_load_agg r (cs := (planC a0)) (n := 6) rfl (hP.cell (i := 1) rfl) ta24 rfl) rfl fun fr r => ?_
        refine seq_want r rfl rfl rfl (congrArg Value.bool h9) ?_
        refine seq_val (.int .i64 a2) r (fun R => y_move r rfl) rfl fun fr r => ?_
        refine seq_want r rfl rfl rfl (congrArg Value.bool h9) ?_
        refine seq_call r (c_cubiclelaw10_fits w7 a0 0 0 a2) (fun R hc => y_call r rfl cl38 hc) rfl ?_
        rintro _ w10 ⟨rfl, hb⟩
        refine ⟨_, rfl, fun fr r => ?_⟩
        have hP : Post No [roK 70 3 putC a1_v a1, cellC b1 ((planC a0)).toArray 24] w0 w10 := hP.below hb
        refine seq_want r rfl rfl rfl (congrArg Value.bool h9) ?_
        refine seq_val (.bool (!(D.cubiclelaw10_fits a0 0 0 a2))) r (fun R => y_un r (u := (.bool (D.cubiclelaw10_fits a0 0 0 a2))) rfl rfl) rfl fun fr r => ?_
        refine seq_val (.bool (!(D.cubiclelaw10_fits a0 0 0 a2))) r (fun R => y_pick r (b := false) (congrArg Value.bool h9) rfl) rfl fun fr r => ?_
        refine seq_val (.bool (!(D.cubiclelaw10_fits a0 0 0 a2))) r (fun R => y_move r rfl) rfl fun fr r => ?_
        refine seq_split (!(D.cubiclelaw10_fits a0 0 0 a2)) (fun h11 => ?_) (fun h11 => ?_)
        · skip
          have hD := (cond_t h11).symm.trans hD
          refine seq_skip r rfl rfl rfl (v := .bool true) (congrArg Value.bool h11) (by simp [boolOf]) fun fr r => ?_
          refine seq_skip r rfl rfl rfl (v := .bool true) (congrArg Value.bool h11) (by simp [boolOf]) fun fr r => ?_
          refine seq_val (.bool true) r (fun R => y_pick r (b := true) (congrArg Value.bool h11) rfl) rfl fun fr r => ?_
          refine wpList_nil ?_
          exact nxy5 true () _ _ _ hD r (hs_cons rfl (hs_cons rfl (hs_cons rfl (hs_cons rfl (hs_cons rfl (hs_cons rfl hs_nil)))))) (hP.pick [0, 1] rfl rfl)
        · skip
          have hD := (cond_f h11).symm.trans hD
          refine seq_want r rfl rfl rfl (congrArg Value.bool h11) ?_
          refine seq_val (.int .i64 a2) r (fun R => y_move r rfl) rfl fun fr r => ?_
          refine seq_want r rfl rfl rfl (congrArg Value.bool h11) ?_
          refine seq_val (.bool (decide (a2 < 0))) r (fun R => y_bin r (u := (.int .i64 a2)) (u' := (.int .i64 0)) rfl rfl rfl rfl) rfl fun fr r => ?_
          refine seq_val (.bool (decide (a2 < 0))) r (fun R => y_pick r (b := false) (congrArg Value.bool h11) rfl) rfl fun fr r => ?_
          refine wpList_nil ?_
          exact nxy5 (decide (a2 < 0)) () _ _ _ hD r (hs_cons rfl (hs_cons rfl (hs_cons rfl (hs_cons rfl (hs_cons rfl (hs_cons rfl hs_nil)))))) (hP.pick [0, 1] rfl rfl)
  · skip
    rintro x12 γ13 fr w14 g r hP hD
    have hP : Post No [roK 70 3 putC a1_v a1, cellC b1 ((planC a0)).toArray 24] w0 w14 := hP
    refine wp_cond_split (t := x12) (r.ev rfl) (fun h15 => ?_) (fun h15 => ?_)
    · skip
      have hD := (cond_t h15).symm.trans hD
      refine wp_seq ?_
      refine wp_region_lit ?_
      obtain ⟨x16, hx16, hD⟩ := bindD_elim hD
      refine seq_call r (c_cubiclelaw10_awake w14  hx16) (fun R hc => y_call r rfl cl37 hc) rfl ?_
      rintro _ w17 ⟨rfl, hb⟩
      refine ⟨_, rfl, fun fr r => ?_⟩
      have hP : Post No [roK 70 3 putC a1_v a1, cellC b1 ((planC a0)).toArray 24] w0 w17 := hP.below hb
      refine seq_val (.bool x16) r (fun R => y_assign r rfl) rfl fun fr r => ?_
      refine wpList_nil ?_
      refine wp_ret ?_
      have hv : x16 = res := Option.some.inj hD
      try dsimp only [Exit.then, Exit.inBlock]
      refine ret_tmp (fn := Try.f9) r (t := 6) rfl (v := (.bool x16)) rfl ?_
      subst hv
      exact ⟨rfl, hP.chg.below⟩
    · skip
      have hD := (cond_f h15).symm.trans hD
      refine wp_skip ?_
      refine wp_seq ?_
      refine wp_region_lit ?_
      refine seq_val (.agg (planC a0).toArray) r (fun R => y_load_agg r (cs := (planC a0)) (n := 6) rfl (hP.cell (i := 1) rfl) ta24 rfl) rfl fun fr r => ?_
      obtain ⟨x18, hx18, hD⟩ := bindD_elim hD
      refine seq_call r (c_cubiclelaw09_Laid w14 a0 hx18) (fun R hc => y_call r rfl cl39 hc) rfl ?_
      rintro _ w19 ⟨mg20, rfl, hq⟩
      refine ⟨_, rfl, fun fr r => ?_⟩
      have hP : Post No [roK 70 3 putC a1_v a1, cellC b1 ((planC a0)).toArray 24, memK mg20 x18] w0 w19 := hP.add hq
      refine seq_val (.pointer (some ⟨mg20.mb, 0, none⟩)) r (fun R => y_assign r rfl) rfl fun fr r => ?_
      refine wpList_nil ?_
      refine wp_seq ?_
      refine wp_region_lit ?_
      refine seq_val (.pointer (some ⟨b1, 1, none⟩)) r (fun R => y_fieldAddr r (o := 0) rfl fo24_1) rfl fun fr r => ?_
      refine seq_val (.int .i64 a0.threads) r (fun R => y_load_one r (v := (.int .i64 a0.threads)) rfl (hP.cell (i := 1) rfl) to3 rfl) rfl fun fr r => ?_
      refine seq_val (.int .i64 (IntKind.i64.wrap (3 * a0.threads))) r (fun R => y_bin r (u := (.int .i64 3)) (u' := (.int .i64 a0.threads)) rfl rfl rfl rfl) rfl fun fr r => ?_
      obtain ⟨x22, hx22, hD⟩ := bindD_elim hD
      refine seq_newS (.cells ((x22).flatMap u64).toArray 49 (0, 0)) ((IntKind.i64.wrap (3 * a0.threads)).toNat) r (fun R => y_makeRow (f := u64) r rt68 tz49 rfl rfl rfl rfl hx22) rfl fun fr b23 w24 n25 r => ?_
      have hP : Post No [roK 70 3 putC a1_v a1, cellC b1 ((planC a0)).toArray 24, memK mg20 x18, rowK 49 1 u64 (.slice (some ⟨b23, 0, none⟩) ((IntKind.i64.wrap (3 * a0.threads)).toNat) ((IntKind.i64.wrap (3 * a0.threads)).toNat)) x22] w0 w24 := hP.newRow n25 (fun _ => rfl) (makeD_len hx22)
      refine seq_val (.slice (some ⟨b23, 0, none⟩) ((IntKind.i64.wrap (3 * a0.threads)).toNat) ((IntKind.i64.wrap (3 * a0.threads)).toNat)) r (fun R => y_assign r rfl) rfl fun fr r => ?_
      refine wpList_nil ?_
      refine wp_seq ?_
      refine wp_seq ?_
      refine wp_region_lit ?_
      refine seq_val (.pointer (some ⟨mg20.mb, 0, none⟩)) r (fun R => y_move r rfl) rfl fun fr r => ?_
      refine seq_val (.bool false) r (fun R => y_bin r (u := (.pointer (some ⟨mg20.mb, 0, none⟩))) (u' := (.pointer none)) (v := (.bool false)) rfl rfl rfl rfl) rfl fun fr r => ?_
      refine wpList_nil ?_
      refine wp_cond_split (t := false) (r.ev rfl) (fun h => absurd ((rfl : false = _).symm.trans h) (by decide)) (fun _ => ?_)
      refine wp_skip ?_
      refine wp_seq ?_
      refine wp_seq ?_
      refine wp_region_lit ?_
      refine seq_val (.int .i64 0) r (fun R => y_assign r rfl) rfl fun fr r => ?_
      refine wpList_nil ?_
      refine wp_loopG (X := Bool × List Int × Int × Mem) (G := Value) (x0 := (false, x22, 0, x18)) (fun x γ => [(0, (.agg (planC a0).toArray)), (1, a1_v), (2, (.int .i64 a2)), (3, (.pointer (some ⟨b1, 0, none⟩))), (40, (.bool x12)), (7, (.pointer (some ⟨mg20.mb, 0, none⟩))), (49, (.bool false)), (6, (.bool x.1)), (8, γ), (9, (.int .i64 x.2.2.1))]) (fun x γ w => Post No [roK 70 3 putC a1_v a1, cellC b1 ((planC a0)).toArray 24, memK mg20 x.2.2.2, rowK 49 1 u64 γ x.2.1] w0 w) (.slice (some ⟨b23, 0, none⟩) ((IntKind.i64.wrap (3 * a0.threads)).toNat) ((IntKind.i64.wrap (3 * a0.threads)).toNat)) r (hs_cons rfl (hs_cons rfl (hs_cons rfl (hs_cons rfl (hs_cons rfl (hs_cons rfl (hs_cons rfl (hs_cons rfl (hs_cons rfl (hs_cons rfl hs_nil)))))))))) hP hD ?_ ?_
      · skip
        rintro x27 γ28 fr w30 g y29 RPy29 nxy29 bky29 rty29 r hP hD
        have hP : Post No [roK 70 3 putC a1_v a1, cellC b1 ((planC a0)).toArray 24, memK mg20 x27.2.2.2, rowK 49 1 u64 γ28 x27.2.1] w0 w30 := hP
        refine wp_seq ?_
        refine wp_seq ?_
        refine wp_region_lit ?_
        refine seq_val (.int .i64 x27.2.2.1) r (fun R => y_move r rfl) rfl fun fr r => ?_
        refine seq_val a1_v r (fun R => y_move r rfl) rfl fun fr r => ?_
        refine seq_val (.int .i64 (a1.length : Int)) r (fun R => y_rowLen r (hP.ro (i := 0) rfl) is67 rfl) rfl fun fr r => ?_
        refine seq_val (.bool (decide (x27.2.2.1 < (a1.length : Int)))) r (fun R => y_bin r (u := (.int .i64 x27.2.2.1)) (u' := (.int .i64 (a1.length : Int))) rfl rfl rfl rfl) rfl fun fr r => ?_
        refine wpList_nil ?_
        refine wp_cond_split (t := (decide (x27.2.2.1 < (a1.length : Int)))) (r.ev rfl) (fun h31 => ?_) (fun h31 => ?_)
        · skip
          have hD := (cond_t h31).symm.trans hD
          refine wp_skip ?_
          refine wp_seq ?_
          refine wp_block ?_
          refine wp_seq ?_
          refine wp_seq ?_
          obtain ⟨x32, hx32, hD⟩ := bindD_elim hD
          obtain ⟨x33, hx33, hD⟩ := bindD_elim hD
          obtain ⟨x34, hx34, hD⟩ := bindD_elim hD
          refine wp_freeF [.val (.agg (planC a0).toArray), .val a1_v, .val (.int .i64 x27.2.2.1), .val (.pointer (some ⟨rowB a1_v, rowO a1_v + x27.2.2.1.toNat * 3, none⟩)), .val (.pointer (some ⟨rowB a1_v, rowO a1_v + x27.2.2.1.toNat * 3 + 0, none⟩)), .val (.int .i64 x32.thread), .val a1_v, .val (.int .i64 x27.2.2.1), .val (.pointer (some ⟨rowB a1_v, rowO a1_v + x27.2.2.1.toNat * 3, none⟩)), .val (.pointer (some ⟨rowB a1_v, rowO a1_v + x27.2.2.1.toNat * 3 + 1, none⟩)), .val (.int .i64 x33.slot), .val a1_v, .val (.int .i64 x27.2.2.1), .val (.pointer (some ⟨rowB a1_v, rowO a1_v + x27.2.2.1.toNat * 3, none⟩)), .val (.pointer (some ⟨rowB a1_v, rowO a1_v + x27.2.2.1.toNat * 3 + 2, none⟩)), .val (.int .i64 x34.n), .val (.bool (D.cubiclelaw10_fits a0 x32.thread x33.slot x34.n)), .val (.bool (!(D.cubiclelaw10_fits a0 x32.thread x33.slot x34.n)))] mixed r (by kernel_rfl) ?_ ?_
          · skip
            refine eachF_cons r rfl (fun fr1 g w' hb' hd r' => ?_) ?_
            · exact y_load_agg r' (cs := (planC a0)) (n := 6) rfl ((hP.below (dr hb')).cell (i := 1) rfl) ta24 rfl ⟨Below.refl _ _, rfl⟩
            refine eachF_cons r rfl (fun fr1 g w' hb' hd r' => ?_) ?_
            · exact y_move r' (v := a1_v) rfl ⟨Below.refl _ _, rfl⟩
            refine eachF_cons r rfl (fun fr1 g w' hb' hd r' => ?_) ?_
            · exact y_move r' (v := (.int .i64 x27.2.2.1)) rfl ⟨Below.refl _ _, rfl⟩
            refine eachF_cons r rfl (fun fr1 g w' hb' hd r' => ?_) ?_
            · exact y_rowAddr r' ((hP.below (dr hb')).ro (i := 0) rfl) hx32 sl67 (hd 1 rfl).1 (hd 2 rfl).1 ⟨Below.refl _ _, rfl⟩
            refine eachF_cons r rfl (fun fr1 g w' hb' hd r' => ?_) ?_
            · exact y_fieldAddr r' (b := rowB a1_v) (o := rowO a1_v + x27.2.2.1.toNat * 3) (k := 0) (hd 3 rfl).1 fo70_0 ⟨Below.refl _ _, rfl⟩
            refine eachF_cons r rfl (fun fr1 g w' hb' hd r' => ?_) ?_
            · exact y_loadL_one r' (u := (.int .i64 x32.thread)) ((RoAt.at_ (f := putC) (x := x32) ((hP.below (dr hb')).ro (i := 0) rfl) (fun _ => rfl) hx32).part 0 1) (hd 4 rfl).1 to3 ⟨Below.refl _ _, rfl⟩
            refine eachF_cons r rfl (fun fr1 g w' hb' hd r' => ?_) ?_
            · exact y_move r' (v := a1_v) rfl ⟨Below.refl _ _, rfl⟩
            refine eachF_cons r rfl (fun fr1 g w' hb' hd r' => ?_) ?_
            · exact y_move r' (v := (.int .i64 x27.2.2.1)) rfl ⟨Below.refl _ _, rfl⟩
            refine eachF_cons r rfl (fun fr1 g w' hb' hd r' => ?_) ?_
            · exact y_rowAddr r' ((hP.below (dr hb')).ro (i := 0) rfl) hx33 sl67 (hd 6 rfl).1 (hd 7 rfl).1 ⟨Below.refl _ _, rfl⟩
            refine eachF_cons r rfl (fun fr1 g w' hb' hd r' => ?_) ?_
            · exact y_fieldAddr r' (b := rowB a1_v) (o := rowO a1_v + x27.2.2.1.toNat * 3) (k := 1) (hd 8 rfl).1 fo70_1 ⟨Below.refl _ _, rfl⟩
            refine eachF_cons r rfl (fun fr1 g w' hb' hd r' => ?_) ?_
            · exact y_loadL_one r' (u := (.int .i64 x33.slot)) ((RoAt.at_ (f := putC) (x := x33) ((hP.below (dr hb')).ro (i := 0) rfl) (fun _ => rfl) hx33).part 1 1) (hd 9 rfl).1 to3 ⟨Below.refl _ _, rfl⟩
            refine eachF_cons r rfl (fun fr1 g w' hb' hd r' => ?_) ?_
            · exact y_move r' (v := a1_v) rfl ⟨Below.refl _ _, rfl⟩
            refine eachF_cons r rfl (fun fr1 g w' hb' hd r' => ?_) ?_
            · exact y_move r' (v := (.int .i64 x27.2.2.1)) rfl ⟨Below.refl _ _, rfl⟩
            refine eachF_cons r rfl (fun fr1 g w' hb' hd r' => ?_) ?_
            · exact y_rowAddr r' ((hP.below (dr hb')).ro (i := 0) rfl) hx34 sl67 (hd 11 rfl).1 (hd 12 rfl).1 ⟨Below.refl _ _, rfl⟩
            refine eachF_cons r rfl (fun fr1 g w' hb' hd r' => ?_) ?_
            · exact y_fieldAddr r' (b := rowB a1_v) (o := rowO a1_v + x27.2.2.1.toNat * 3) (k := 2) (hd 13 rfl).1 fo70_2 ⟨Below.refl _ _, rfl⟩
            refine eachF_cons r rfl (fun fr1 g w' hb' hd r' => ?_) ?_
            · exact y_loadL_one r' (u := (.int .i64 x34.n)) ((RoAt.at_ (f := putC) (x := x34) ((hP.below (dr hb')).ro (i := 0) rfl) (fun _ => rfl) hx34).part 2 1) (hd 14 rfl).1 to3 ⟨Below.refl _ _, rfl⟩
            refine eachF_cons r rfl (fun fr1 g w' hb' hd r' => ?_) ?_
            · exact y_call r' (args := [(.agg (planC a0).toArray), (.int .i64 x32.thread), (.int .i64 x33.slot), (.int .i64 x34.n)]) (lc (hd 0 rfl).1 (lc (hd 5 rfl).1 (lc (hd 10 rfl).1 (lc (hd 15 rfl).1 l0)))) cl38 ((c_cubiclelaw10_fits _ a0 x32.thread x33.slot x34.n).mono (by rintro _ w2 ⟨rfl, hb2⟩; exact ⟨_, rfl, hb2, rfl⟩))
            refine eachF_cons r rfl (fun fr1 g w' hb' hd r' => ?_) ?_
            · exact y_un r' (u := (.bool (D.cubiclelaw10_fits a0 x32.thread x33.slot x34.n))) (v := (.bool (!(D.cubiclelaw10_fits a0 x32.thread x33.slot x34.n)))) (hd 16 rfl).1 rfl ⟨Below.refl _ _, rfl⟩
            exact eachF_nil
          · skip
            intro fr gg w35 hb hΦ hap r
            have g0 : (gg 0).v = (.agg (planC a0).toArray) := (hΦ 0 rfl).1
            have g1 : (gg 1).v = a1_v := (hΦ 1 rfl).1
            have g2 : (gg 2).v = (.int .i64 x27.2.2.1) := (hΦ 2 rfl).1
            have g3 : (gg 3).v = (.pointer (some ⟨rowB a1_v, rowO a1_v + x27.2.2.1.toNat * 3, none⟩)) := (hΦ 3 rfl).1
            have g4 : (gg 4).v = (.pointer (some ⟨rowB a1_v, rowO a1_v + x27.2.2.1.toNat * 3 + 0, none⟩)) := (hΦ 4 rfl).1
            have g5 : (gg 5).v = (.int .i64 x32.thread) := (hΦ 5 rfl).1
            have g6 : (gg 6).v = a1_v := (hΦ 6 rfl).1
            have g7 : (gg 7).v = (.int .i64 x27.2.2.1) := (hΦ 7 rfl).1
            have g8 : (gg 8).v = (.pointer (some ⟨rowB a1_v, rowO a1_v + x27.2.2.1.toNat * 3, none⟩)) := (hΦ 8 rfl).1
            have g9 : (gg 9).v = (.pointer (some ⟨rowB a1_v, rowO a1_v + x27.2.2.1.toNat * 3 + 1, none⟩)) := (hΦ 9 rfl).1
            have g10 : (gg 10).v = (.int .i64 x33.slot) := (hΦ 10 rfl).1
            have g11 : (gg 11).v = a1_v := (hΦ 11 rfl).1
            have g12 : (gg 12).v = (.int .i64 x27.2.2.1) := (hΦ 12 rfl).1
            have g13 : (gg 13).v = (.pointer (some ⟨rowB a1_v, rowO a1_v + x27.2.2.1.toNat * 3, none⟩)) := (hΦ 13 rfl).1
            have g14 : (gg 14).v = (.pointer (some ⟨rowB a1_v, rowO a1_v + x27.2.2.1.toNat * 3 + 2, none⟩)) := (hΦ 14 rfl).1
            have g15 : (gg 15).v = (.int .i64 x34.n) := (hΦ 15 rfl).1
            have g16 : (gg 16).v = (.bool (D.cubiclelaw10_fits a0 x32.thread x33.slot x34.n)) := (hΦ 16 rfl).1
            have g17 : (gg 17).v = (.bool (!(D.cubiclelaw10_fits a0 x32.thread x33.slot x34.n))) := (hΦ 17 rfl).1
            have r := r.congr (sc g17 (sc g16 (sc g15 (sc g14 (sc g13 (sc g12 (sc g11 (sc g10 (sc g9 (sc g8 (sc g7 (sc g6 (sc g5 (sc g4 (sc g3 (sc g2 (sc g1 (sc g0 rfl))))))))))))))))))
            have hP : Post No [roK 70 3 putC a1_v a1, cellC b1 ((planC a0)).toArray 24, memK mg20 x27.2.2.2, rowK 49 1 u64 γ28 x27.2.1] w0 w35 := hP.below hb
            refine wp_cond_split (t := (!(D.cubiclelaw10_fits a0 x32.thread x33.slot x34.n))) (r.ev rfl) (fun h36 => ?_) (fun h36 => ?_)
            · skip
              have hD := (cond_t h36).symm.trans hD
              refine wp_exit ?_
              refine wp_region_lit ?_
              refine seq_val (.int .i64 x27.2.2.1) r (fun R => y_move r rfl) rfl fun fr r => ?_
              refine seq_val (.int .i64 (IntKind.i64.wrap (x27.2.2.1 + 1))) r (fun R => y_bin r (u := (.int .i64 x27.2.2.1)) (u' := (.int .i64 1)) rfl rfl rfl rfl) rfl fun fr r => ?_
              refine seq_val (.int .i64 (IntKind.i64.wrap (x27.2.2.1 + 1))) r (fun R => y_assign r rfl) rfl fun fr r => ?_
              refine wpList_nil ?_
              exact nxy29 (x27.1, x27.2.1, (IntKind.i64.wrap (x27.2.2.1 + 1)), x27.2.2.2) γ28 _ _ _ hD r (hs_cons rfl (hs_cons rfl (hs_cons rfl (hs_cons rfl (hs_cons rfl (hs_cons rfl (hs_cons rfl (hs_cons rfl (hs_cons rfl (hs_cons rfl hs_nil)))))))))) (hP.pick [0, 1, 2, 3] rfl rfl)
            · skip
              have hD := (cond_f h36).symm.trans hD
              refine wp_skip ?_
              refine wp_seq ?_
              obtain ⟨x37, hx37, hD⟩ := bindD_elim hD
              obtain ⟨x38, hx38, hD⟩ := bindD_elim hD
              obtain ⟨x39, hx39, hD⟩ := bindD_elim hD
              obtain ⟨x41, hx41, hD⟩ := bindD_elim hD
              obtain ⟨x42, hx42, hD⟩ := bindD_elim hD
              refine wp_freeE mg20.bs [.val (.agg (planC a0).toArray), .val a1_v, .val (.int .i64 x27.2.2.1), .val (.pointer (some ⟨rowB a1_v, rowO a1_v + x27.2.2.1.toNat * 3, none⟩)), .val (.pointer (some ⟨rowB a1_v, rowO a1_v + x27.2.2.1.toNat * 3 + 0, none⟩)), .val (.int .i64 x37.thread), .val a1_v, .val (.int .i64 x27.2.2.1), .val (.pointer (some ⟨rowB a1_v, rowO a1_v + x27.2.2.1.toNat * 3, none⟩)), .val (.pointer (some ⟨rowB a1_v, rowO a1_v + x27.2.2.1.toNat * 3 + 1, none⟩)), .val (.int .i64 x38.slot), .val a1_v, .val (.int .i64 x27.2.2.1), .val (.pointer (some ⟨rowB a1_v, rowO a1_v + x27.2.2.1.toNat * 3, none⟩)), .val (.pointer (some ⟨rowB a1_v, rowO a1_v + x27.2.2.1.toNat * 3 + 2, none⟩)), .val (.int .i64 x39.n), .pred (PrP Try.prog encNone (fu, (D.hazard_Set a0 x37.thread x38.slot x39.n))) (PrP.st _), .val (.pointer (some ⟨mg20.mb, 0, none⟩)), .val (.pointer (some ⟨mg20.mb, 0, none⟩)), .val (.agg (capC x41).toArray), .eff (EffP w35.heap.size (memK mg20 x42.2.2.2) (fun _ : Unit => (.tuple #[(.agg #[]), (.int .i64 x42.2.1), (.bool x42.2.2.1)])) (fun _ : Unit => [])) (EffP.st _ _ _ _), .val (.tuple #[(.agg #[]), (.int .i64 x42.2.1), (.bool x42.2.2.1)]), .val (.agg #[]), .val (.int .i64 x42.2.1), .val (.bool x42.2.2.1), .cell 46 0, .stored 25 #[] 46 0 rfl, .val (.int .i64 x42.2.1), .val (.bool x42.2.2.1)] mixed r (fun b hb => hP.sep.lt (i := 2) rfl (.inl hb)) (by kernel_rfl) ?_ ?_
              · skip
                refine eachE_late r rfl (fun fr1 g w' hk' hd r' => ?_) ?_
                · exact y_load_agg r' (cs := (planC a0)) (n := 6) rfl (hP.cellK (j := 2) rfl (drK hk') (i := 1) rfl rfl) ta24 rfl ⟨Below.refl _ _, rfl⟩
                refine eachE_late r rfl (fun fr1 g w' hk' hd r' => ?_) ?_
                · exact y_move r' (v := a1_v) rfl ⟨Below.refl _ _, rfl⟩
                refine eachE_late r rfl (fun fr1 g w' hk' hd r' => ?_) ?_
                · exact y_move r' (v := (.int .i64 x27.2.2.1)) rfl ⟨Below.refl _ _, rfl⟩
                refine eachE_late r rfl (fun fr1 g w' hk' hd r' => ?_) ?_
                · exact y_rowAddr r' (show RoAt 0 _ _ _ _ _ from hP.okK (j := 2) rfl (drK hk') (i := 0) rfl rfl) hx37 sl67 (hd 1 rfl).1 (hd 2 rfl).1 ⟨Below.refl _ _, rfl⟩
                refine eachE_late r rfl (fun fr1 g w' hk' hd r' => ?_) ?_
                · exact y_fieldAddr r' (b := rowB a1_v) (o := rowO a1_v + x27.2.2.1.toNat * 3) (k := 0) (hd 3 rfl).1 fo70_0 ⟨Below.refl _ _, rfl⟩
                refine eachE_late r rfl (fun fr1 g w' hk' hd r' => ?_) ?_
                · exact y_loadL_one r' (u := (.int .i64 x37.thread)) ((RoAt.at_ (f := putC) (x := x37) (show RoAt 0 _ _ _ _ _ from hP.okK (j := 2) rfl (drK hk') (i := 0) rfl rfl) (fun _ => rfl) hx37).part 0 1) (hd 4 rfl).1 to3 ⟨Below.refl _ _, rfl⟩
                refine eachE_late r rfl (fun fr1 g w' hk' hd r' => ?_) ?_
                · exact y_move r' (v := a1_v) rfl ⟨Below.refl _ _, rfl⟩
                refine eachE_late r rfl (fun fr1 g w' hk' hd r' => ?_) ?_
                · exact y_move r' (v := (.int .i64 x27.2.2.1)) rfl ⟨Below.refl _ _, rfl⟩
                refine eachE_late r rfl (fun fr1 g w' hk' hd r' => ?_) ?_
                · exact y_rowAddr r' (show RoAt 0 _ _ _ _ _ from hP.okK (j := 2) rfl (drK hk') (i := 0) rfl rfl) hx38 sl67 (hd 6 rfl).1 (hd 7 rfl).1 ⟨Below.refl _ _, rfl⟩
                refine eachE_late r rfl (fun fr1 g w' hk' hd r' => ?_) ?_
                · exact y_fieldAddr r' (b := rowB a1_v) (o := rowO a1_v + x27.2.2.1.toNat * 3) (k := 1) (hd 8 rfl).1 fo70_1 ⟨Below.refl _ _, rfl⟩
                refine eachE_late r rfl (fun fr1 g w' hk' hd r' => ?_) ?_
                · exact y_loadL_one r' (u := (.int .i64 x38.slot)) ((RoAt.at_ (f := putC) (x := x38) (show RoAt 0 _ _ _ _ _ from hP.okK (j := 2) rfl (drK hk') (i := 0) rfl rfl) (fun _ => rfl) hx38).part 1 1) (hd 9 rfl).1 to3 ⟨Below.refl _ _, rfl⟩
                refine eachE_late r rfl (fun fr1 g w' hk' hd r' => ?_) ?_
                · exact y_move r' (v := a1_v) rfl ⟨Below.refl _ _, rfl⟩
                refine eachE_late r rfl (fun fr1 g w' hk' hd r' => ?_) ?_
                · exact y_move r' (v := (.int .i64 x27.2.2.1)) rfl ⟨Below.refl _ _, rfl⟩
                refine eachE_late r rfl (fun fr1 g w' hk' hd r' => ?_) ?_
                · exact y_rowAddr r' (show RoAt 0 _ _ _ _ _ from hP.okK (j := 2) rfl (drK hk') (i := 0) rfl rfl) hx39 sl67 (hd 11 rfl).1 (hd 12 rfl).1 ⟨Below.refl _ _, rfl⟩
                refine eachE_late r rfl (fun fr1 g w' hk' hd r' => ?_) ?_
                · exact y_fieldAddr r' (b := rowB a1_v) (o := rowO a1_v + x27.2.2.1.toNat * 3) (k := 2) (hd 13 rfl).1 fo70_2 ⟨Below.refl _ _, rfl⟩
                refine eachE_late r rfl (fun fr1 g w' hk' hd r' => ?_) ?_
                · exact y_loadL_one r' (u := (.int .i64 x39.n)) ((RoAt.at_ (f := putC) (x := x39) (show RoAt 0 _ _ _ _ _ from hP.okK (j := 2) rfl (drK hk') (i := 0) rfl rfl) (fun _ => rfl) hx39).part 2 1) (hd 14 rfl).1 to3 ⟨Below.refl _ _, rfl⟩
                refine eachE_early r rfl (by kernel_rfl) (fun fr1 g w' hb' hd r' => ?_) ?_
                · exact y_call r' (args := [(.agg (planC a0).toArray), (.int .i64 x37.thread), (.int .i64 x38.slot), (.int .i64 x39.n)]) (lc (hd 0 rfl).1 (lc (hd 5 rfl).1 (lc (hd 10 rfl).1 (lc (hd 15 rfl).1 l0)))) cl41 ((c_hazard_Set (F := No) (n := fu) (fun _ h => h.elim) a0 x37.thread x38.slot x39.n).mono (by rintro _ w2 ⟨y, rfl, hb2, hr2⟩; exact ⟨_, rfl, hb2, fresh_prog hr2⟩))
                refine eachE_early r rfl (by kernel_rfl) (fun fr1 g w' hb' hd r' => ?_) ?_
                · exact y_move r' (v := (.pointer (some ⟨mg20.mb, 0, none⟩))) rfl ⟨Below.refl _ _, rfl⟩
                refine eachE_late r rfl (fun fr1 g w' hk' hd r' => ?_) ?_
                · exact y_move r' (v := (.pointer (some ⟨mg20.mb, 0, none⟩))) rfl ⟨Below.refl _ _, rfl⟩
                refine eachE_early r rfl (by kernel_rfl) (fun fr1 g w' hb' hd r' => ?_) ?_
                · exact y_call r' (args := [(.pointer (some ⟨mg20.mb, 0, none⟩)), (.int .i64 0)]) (lc (hd 18 rfl).1 (lc rfl l0)) cl42 ((c_mem_Memory_Cap _ x27.2.2.2 ((hP.below (dr hb')).mem (i := 2) rfl) 0 hx41).mono (by rintro _ w2 ⟨rfl, hb2⟩; exact ⟨_, rfl, hb2, rfl⟩))
                refine eachE_early r rfl (by kernel_rfl) (fun fr1 g w' hb' hd r' => ?_) ?_
                · exact y_call r' (args := [(g 16).v, (.pointer (some ⟨mg20.mb, 0, none⟩)), (.agg (capC x41).toArray), (.int .i64 9)]) (lc rfl (lc (hd 17 rfl).1 (lc (hd 19 rfl).1 (lc rfl l0)))) cl40 ((c_prog_Run_None _ (fu, (D.hazard_Set a0 x37.thread x38.slot x39.n)) x27.2.2.2 x41 9 (Sep.beside (hd 16 rfl).1 ((hP.below (dr hb')).sep.pk [2] rfl rfl) (fun c hc b hb => by rcases List.mem_singleton.1 hc with rfl; exact hP.sep.lt (i := 2) rfl hb) (hd 16 rfl).2.1) hx42).mono (by rintro _ w2 ⟨rfl, hq⟩; exact ⟨_, rfl, hq.chg.kept, EffP.of () hq rfl (fun b hb => hP.sep.lt (i := 2) rfl hb)⟩))
                refine eachE_late r rfl (fun fr1 g w' hk' hd r' => ?_) ?_
                · exact y_move r' (v := (.tuple #[(.agg #[]), (.int .i64 x42.2.1), (.bool x42.2.2.1)])) (EffP.val (hd 20 rfl).1) ⟨Below.refl _ _, rfl⟩
                refine eachE_late r rfl (fun fr1 g w' hk' hd r' => ?_) ?_
                · exact y_extract r' (vs := #[(.agg #[]), (.int .i64 x42.2.1), (.bool x42.2.2.1)]) (hd 21 rfl).1 rfl ⟨Below.refl _ _, rfl⟩
                refine eachE_late r rfl (fun fr1 g w' hk' hd r' => ?_) ?_
                · exact y_extract r' (vs := #[(.agg #[]), (.int .i64 x42.2.1), (.bool x42.2.2.1)]) (hd 21 rfl).1 rfl ⟨Below.refl _ _, rfl⟩
                refine eachE_late r rfl (fun fr1 g w' hk' hd r' => ?_) ?_
                · exact y_extract r' (vs := #[(.agg #[]), (.int .i64 x42.2.1), (.bool x42.2.2.1)]) (hd 21 rfl).1 rfl ⟨Below.refl _ _, rfl⟩
                refine eachE_late r rfl (fun fr1 g w' hk' hd r' => ?_) ?_
                · exact y_alloc tz46 (fun b w2 n2 => ⟨n2.below, b, rfl, n2.eq, _, n2.at_, rfl⟩)
                refine eachE_late r rfl (fun fr1 g w' hk' hd r' => ?_) ?_
                · obtain ⟨hp, _, c, hc, hn⟩ := (hd 25 rfl).1; exact y_store r' (o := 0) (c := c) (v := (.agg #[])) hp (hd 22 rfl).1 hc ts46 (by rw [hn]; exact Nat.le_of_ble_eq_true rfl) rfl (over2_full (hn.trans rfl)) (fun w2 u2 => ⟨u2, rfl⟩)
                refine eachE_late r rfl (fun fr1 g w' hk' hd r' => ?_) ?_
                · exact y_assign r' (v := (.int .i64 x42.2.1)) (hd 23 rfl).1 ⟨Below.refl _ _, rfl⟩
                refine eachE_late r rfl (fun fr1 g w' hk' hd r' => ?_) ?_
                · exact y_assign r' (v := (.bool x42.2.2.1)) (hd 24 rfl).1 ⟨Below.refl _ _, rfl⟩
                exact eachF_nil
              · skip
                intro fr gg w44 hb hΦ hap r
                have g0 : (gg 0).v = (.agg (planC a0).toArray) := (hΦ 0 rfl).1
                have g1 : (gg 1).v = a1_v := (hΦ 1 rfl).1
                have g2 : (gg 2).v = (.int .i64 x27.2.2.1) := (hΦ 2 rfl).1
                have g3 : (gg 3).v = (.pointer (some ⟨rowB a1_v, rowO a1_v + x27.2.2.1.toNat * 3, none⟩)) := (hΦ 3 rfl).1
                have g4 : (gg 4).v = (.pointer (some ⟨rowB a1_v, rowO a1_v + x27.2.2.1.toNat * 3 + 0, none⟩)) := (hΦ 4 rfl).1
                have g5 : (gg 5).v = (.int .i64 x37.thread) := (hΦ 5 rfl).1
                have g6 : (gg 6).v = a1_v := (hΦ 6 rfl).1
                have g7 : (gg 7).v = (.int .i64 x27.2.2.1) := (hΦ 7 rfl).1
                have g8 : (gg 8).v = (.pointer (some ⟨rowB a1_v, rowO a1_v + x27.2.2.1.toNat * 3, none⟩)) := (hΦ 8 rfl).1
                have g9 : (gg 9).v = (.pointer (some ⟨rowB a1_v, rowO a1_v + x27.2.2.1.toNat * 3 + 1, none⟩)) := (hΦ 9 rfl).1
                have g10 : (gg 10).v = (.int .i64 x38.slot) := (hΦ 10 rfl).1
                have g11 : (gg 11).v = a1_v := (hΦ 11 rfl).1
                have g12 : (gg 12).v = (.int .i64 x27.2.2.1) := (hΦ 12 rfl).1
                have g13 : (gg 13).v = (.pointer (some ⟨rowB a1_v, rowO a1_v + x27.2.2.1.toNat * 3, none⟩)) := (hΦ 13 rfl).1
                have g14 : (gg 14).v = (.pointer (some ⟨rowB a1_v, rowO a1_v + x27.2.2.1.toNat * 3 + 2, none⟩)) := (hΦ 14 rfl).1
                have g15 : (gg 15).v = (.int .i64 x39.n) := (hΦ 15 rfl).1
                obtain ⟨v40, hv16⟩ : ∃ v, v = (gg 16).v := ⟨_, rfl⟩
                have g16 : (gg 16).v = v40 := hv16.symm
                have hs16 : Fresh [progK Try.prog encNone (fu, (D.hazard_Set a0 x37.thread x38.slot x39.n)) v40 (rg (gg 16).lo (gg 16).hi)] (gg 16).lo (gg 16).hi w44 := by subst hv16; exact (hΦ 16 rfl).1
                have g17 : (gg 17).v = (.pointer (some ⟨mg20.mb, 0, none⟩)) := (hΦ 17 rfl).1
                have g18 : (gg 18).v = (.pointer (some ⟨mg20.mb, 0, none⟩)) := (hΦ 18 rfl).1
                have g19 : (gg 19).v = (.agg (capC x41).toArray) := (hΦ 19 rfl).1
                obtain ⟨⟨⟩, g20, hcE, _, hs20⟩ := (hΦ 20 rfl).1
                have g21 : (gg 21).v = (.tuple #[(.agg #[]), (.int .i64 x42.2.1), (.bool x42.2.2.1)]) := (hΦ 21 rfl).1
                have g22 : (gg 22).v = (.agg #[]) := (hΦ 22 rfl).1
                have g23 : (gg 23).v = (.int .i64 x42.2.1) := (hΦ 23 rfl).1
                have g24 : (gg 24).v = (.bool x42.2.2.1) := (hΦ 24 rfl).1
                obtain ⟨b43, ee_b43⟩ : ∃ b, b = (gg 25).lo := ⟨_, rfl⟩
                have g25 : (gg 25).v = (.pointer (some ⟨b43, 0, none⟩)) := by rw [ee_b43]; exact (hΦ 25 rfl).1.1
                have h_b43 : w44.heap[b43]? = some (.cells #[] 46 (0, 0)) := by rw [ee_b43]; exact (hΦ 26 rfl).1.2
                have hs25 : Fresh [cellC b43 #[] 46] (gg 25).lo (gg 25).hi w44 := by subst ee_b43; exact Fresh.cell (hΦ 25 rfl).1.2.1 h_b43
                have g27 : (gg 27).v = (.int .i64 x42.2.1) := (hΦ 27 rfl).1
                have g28 : (gg 28).v = (.bool x42.2.2.1) := (hΦ 28 rfl).1
                have r := r.congr (sc g28 (sc g27 (sc g25 (sc g24 (sc g23 (sc g22 (sc g21 (sc g20 (sc g19 (sc g18 (sc g17 (sc g16 (sc g15 (sc g14 (sc g13 (sc g12 (sc g11 (sc g10 (sc g9 (sc g8 (sc g7 (sc g6 (sc g5 (sc g4 (sc g3 (sc g2 (sc g1 (sc g0 rfl))))))))))))))))))))))))))))
                have hP : Post No [roK 70 3 putC a1_v a1, cellC b1 ((planC a0)).toArray 24, memK mg20 x42.2.2.2, rowK 49 1 u64 γ28 x27.2.1, progK Try.prog encNone (fu, (D.hazard_Set a0 x37.thread x38.slot x39.n)) v40 (rg (gg 16).lo (gg 16).hi), cellC b43 #[] 46] w0 w44 := hP.effL (i := 2) (l := [([progK Try.prog encNone (fu, (D.hazard_Set a0 x37.thread x38.slot x39.n)) v40 (rg (gg 16).lo (gg 16).hi)], (gg 16).lo, (gg 16).hi), ([cellC b43 #[] 46], (gg 25).lo, (gg 25).hi)]) rfl hb hcE rfl rfl ⟨hs16, (hΦ 16 rfl).2.1, (disj_cons (hap 16 25 rfl) disj_nil), ⟨hs25, (hΦ 25 rfl).2.1, disj_nil, trivial⟩⟩
                refine wp_seq ?_
                obtain ⟨x45, hx45, hD⟩ := bindD_elim hD
                obtain ⟨x46, hx46, hD⟩ := bindD_elim hD
                obtain ⟨x47, hx47, hD⟩ := bindD_elim hD
                obtain ⟨x48, hx48, hD⟩ := bindD_elim hD
                refine wp_drawnF 21 [.val γ28, .val a1_v, .val (.int .i64 x27.2.2.1), .val (.pointer (some ⟨rowB a1_v, rowO a1_v + x27.2.2.1.toNat * 3, none⟩)), .val (.pointer (some ⟨rowB a1_v, rowO a1_v + x27.2.2.1.toNat * 3 + 0, none⟩)), .val (.int .i64 x45.thread), .val (.int .i64 (IntKind.i64.wrap (3 * x45.thread))), .val a1_v, .val (.int .i64 x27.2.2.1), .val (.pointer (some ⟨rowB a1_v, rowO a1_v + x27.2.2.1.toNat * 3, none⟩)), .val (.pointer (some ⟨rowB a1_v, rowO a1_v + x27.2.2.1.toNat * 3 + 1, none⟩)), .val (.int .i64 x46.slot), .val (.int .i64 (IntKind.i64.wrap ((IntKind.i64.wrap (3 * x45.thread)) + x46.slot))), .val a1_v, .val (.int .i64 x27.2.2.1), .val (.pointer (some ⟨rowB a1_v, rowO a1_v + x27.2.2.1.toNat * 3, none⟩)), .val (.pointer (some ⟨rowB a1_v, rowO a1_v + x27.2.2.1.toNat * 3 + 2, none⟩)), .val (.int .i64 x47.n), .val (.int .i64 (IntKind.i64.wrap (x47.n + 1))), .val (.int .u64 (IntKind.u64.wrap (IntKind.i64.wrap (x47.n + 1)))), .val (.pointer (some ⟨rowB γ28, rowO γ28 + (IntKind.i64.wrap ((IntKind.i64.wrap (3 * x45.thread)) + x46.slot)).toNat * 1, none⟩))] mixed r (by kernel_rfl) (within_cons (by exact trivial) (within_cons (by exact trivial) (within_cons (by exact trivial) (within_cons (by exact trivial) (within_cons (by exact trivial) (within_cons (by exact trivial) (within_cons (by exact trivial) (within_cons (by exact trivial) (within_cons (by exact trivial) (within_cons (by exact trivial) (within_cons (by exact trivial) (within_cons (by exact trivial) (within_cons (by exact trivial) (within_cons (by exact trivial) (within_cons (by exact trivial) (within_cons (by exact trivial) (within_cons (by exact trivial) (within_cons (by exact trivial) (within_cons (by exact trivial) (within_cons (by exact trivial) (within_cons (by exact trivial) within_nil))))))))))))))))))))) ?_ ?_
                · skip
                  refine each_consF r rfl (fun fr1 u w' hb' hd r' => ?_) ?_
                  · exact y_move r' (v := γ28) rfl ⟨Below.refl _ _, rfl⟩
                  refine each_consF r rfl (fun fr1 u w' hb' hd r' => ?_) ?_
                  · exact y_move r' (v := a1_v) rfl ⟨Below.refl _ _, rfl⟩
                  refine each_consF r rfl (fun fr1 u w' hb' hd r' => ?_) ?_
                  · exact y_move r' (v := (.int .i64 x27.2.2.1)) rfl ⟨Below.refl _ _, rfl⟩
                  refine each_consF r rfl (fun fr1 u w' hb' hd r' => ?_) ?_
                  · obtain ⟨d0, d1, _⟩ := hd; exact y_rowAddr r' ((hP.below (dr hb')).ro (i := 0) rfl) hx45 sl67 d0 d1 ⟨Below.refl _ _, rfl⟩
                  refine each_consF r rfl (fun fr1 u w' hb' hd r' => ?_) ?_
                  · obtain ⟨d0, _⟩ := hd; exact y_fieldAddr r' (b := rowB a1_v) (o := rowO a1_v + x27.2.2.1.toNat * 3) (k := 0) d0 fo70_0 ⟨Below.refl _ _, rfl⟩
                  refine each_consF r rfl (fun fr1 u w' hb' hd r' => ?_) ?_
                  · obtain ⟨d0, _⟩ := hd; exact y_loadL_one r' (u := (.int .i64 x45.thread)) ((RoAt.at_ (f := putC) (x := x45) ((hP.below (dr hb')).ro (i := 0) rfl) (fun _ => rfl) hx45).part 0 1) d0 to3 ⟨Below.refl _ _, rfl⟩
                  refine each_consF r rfl (fun fr1 u w' hb' hd r' => ?_) ?_
                  · obtain ⟨d0, _⟩ := hd; exact y_bin r' (u := (.int .i64 3)) (u' := (.int .i64 x45.thread)) (v := (.int .i64 (IntKind.i64.wrap (3 * x45.thread)))) rfl d0 rfl rfl ⟨Below.refl _ _, rfl⟩
                  refine each_consF r rfl (fun fr1 u w' hb' hd r' => ?_) ?_
                  · exact y_move r' (v := a1_v) rfl ⟨Below.refl _ _, rfl⟩
                  refine each_consF r rfl (fun fr1 u w' hb' hd r' => ?_) ?_
                  · exact y_move r' (v := (.int .i64 x27.2.2.1)) rfl ⟨Below.refl _ _, rfl⟩
                  refine each_consF r rfl (fun fr1 u w' hb' hd r' => ?_) ?_
                  · obtain ⟨d0, d1, _⟩ := hd; exact y_rowAddr r' ((hP.below (dr hb')).ro (i := 0) rfl) hx46 sl67 d0 d1 ⟨Below.refl _ _, rfl⟩
                  refine each_consF r rfl (fun fr1 u w' hb' hd r' => ?_) ?_
                  · obtain ⟨d0, _⟩ := hd; exact y_fieldAddr r' (b := rowB a1_v) (o := rowO a1_v + x27.2.2.1.toNat * 3) (k := 1) d0 fo70_1 ⟨Below.refl _ _, rfl⟩
                  refine each_consF r rfl (fun fr1 u w' hb' hd r' => ?_) ?_
                  · obtain ⟨d0, _⟩ := hd; exact y_loadL_one r' (u := (.int .i64 x46.slot)) ((RoAt.at_ (f := putC) (x := x46) ((hP.below (dr hb')).ro (i := 0) rfl) (fun _ => rfl) hx46).part 1 1) d0 to3 ⟨Below.refl _ _, rfl⟩
                  refine each_consF r rfl (fun fr1 u w' hb' hd r' => ?_) ?_
                  · obtain ⟨d0, d1, _⟩ := hd; exact y_bin r' (u := (.int .i64 (IntKind.i64.wrap (3 * x45.thread)))) (u' := (.int .i64 x46.slot)) (v := (.int .i64 (IntKind.i64.wrap ((IntKind.i64.wrap (3 * x45.thread)) + x46.slot)))) d0 d1 rfl rfl ⟨Below.refl _ _, rfl⟩
                  refine each_consF r rfl (fun fr1 u w' hb' hd r' => ?_) ?_
                  · exact y_move r' (v := a1_v) rfl ⟨Below.refl _ _, rfl⟩
                  refine each_consF r rfl (fun fr1 u w' hb' hd r' => ?_) ?_
                  · exact y_move r' (v := (.int .i64 x27.2.2.1)) rfl ⟨Below.refl _ _, rfl⟩
                  refine each_consF r rfl (fun fr1 u w' hb' hd r' => ?_) ?_
                  · obtain ⟨d0, d1, _⟩ := hd; exact y_rowAddr r' ((hP.below (dr hb')).ro (i := 0) rfl) hx47 sl67 d0 d1 ⟨Below.refl _ _, rfl⟩
                  refine each_consF r rfl (fun fr1 u w' hb' hd r' => ?_) ?_
                  · obtain ⟨d0, _⟩ := hd; exact y_fieldAddr r' (b := rowB a1_v) (o := rowO a1_v + x27.2.2.1.toNat * 3) (k := 2) d0 fo70_2 ⟨Below.refl _ _, rfl⟩
                  refine each_consF r rfl (fun fr1 u w' hb' hd r' => ?_) ?_
                  · obtain ⟨d0, _⟩ := hd; exact y_loadL_one r' (u := (.int .i64 x47.n)) ((RoAt.at_ (f := putC) (x := x47) ((hP.below (dr hb')).ro (i := 0) rfl) (fun _ => rfl) hx47).part 2 1) d0 to3 ⟨Below.refl _ _, rfl⟩
                  refine each_consF r rfl (fun fr1 u w' hb' hd r' => ?_) ?_
                  · obtain ⟨d0, _⟩ := hd; exact y_bin r' (u := (.int .i64 x47.n)) (u' := (.int .i64 1)) (v := (.int .i64 (IntKind.i64.wrap (x47.n + 1)))) d0 rfl rfl rfl ⟨Below.refl _ _, rfl⟩
                  refine each_consF r rfl (fun fr1 u w' hb' hd r' => ?_) ?_
                  · obtain ⟨d0, _⟩ := hd; exact y_convert r' (n := (IntKind.i64.wrap (x47.n + 1))) d0 ti3 ti49 ⟨Below.refl _ _, rfl⟩
                  refine each_consF r rfl (fun fr1 u w' hb' hd r' => ?_) ?_
                  · obtain ⟨d0, d1, d2, d3, d4, d5, d6, d7, d8, d9, d10, d11, d12, d13, d14, d15, d16, d17, d18, d19, d20, d21, _⟩ := hd; exact y_rowAddr r' ((hP.below (dr hb')).row (i := 3) rfl).ro hx48 sl68 d0 d1 ⟨Below.refl _ _, rfl⟩
                  exact each_nil
                · skip
                  intro fr u w49 hb hΦ hne r
                  have g0 : u 0 = γ28 := hΦ 0 (by decide)
                  have g1 : u 1 = a1_v := hΦ 1 (by decide)
                  have g2 : u 2 = (.int .i64 x27.2.2.1) := hΦ 2 (by decide)
                  have g3 : u 3 = (.pointer (some ⟨rowB a1_v, rowO a1_v + x27.2.2.1.toNat * 3, none⟩)) := hΦ 3 (by decide)
                  have g4 : u 4 = (.pointer (some ⟨rowB a1_v, rowO a1_v + x27.2.2.1.toNat * 3 + 0, none⟩)) := hΦ 4 (by decide)
                  have g5 : u 5 = (.int .i64 x45.thread) := hΦ 5 (by decide)
                  have g6 : u 6 = (.int .i64 (IntKind.i64.wrap (3 * x45.thread))) := hΦ 6 (by decide)
                  have g7 : u 7 = a1_v := hΦ 7 (by decide)
                  have g8 : u 8 = (.int .i64 x27.2.2.1) := hΦ 8 (by decide)
                  have g9 : u 9 = (.pointer (some ⟨rowB a1_v, rowO a1_v + x27.2.2.1.toNat * 3, none⟩)) := hΦ 9 (by decide)
                  have g10 : u 10 = (.pointer (some ⟨rowB a1_v, rowO a1_v + x27.2.2.1.toNat * 3 + 1, none⟩)) := hΦ 10 (by decide)
                  have g11 : u 11 = (.int .i64 x46.slot) := hΦ 11 (by decide)
                  have g12 : u 12 = (.int .i64 (IntKind.i64.wrap ((IntKind.i64.wrap (3 * x45.thread)) + x46.slot))) := hΦ 12 (by decide)
                  have g13 : u 13 = a1_v := hΦ 13 (by decide)
                  have g14 : u 14 = (.int .i64 x27.2.2.1) := hΦ 14 (by decide)
                  have g15 : u 15 = (.pointer (some ⟨rowB a1_v, rowO a1_v + x27.2.2.1.toNat * 3, none⟩)) := hΦ 15 (by decide)
                  have g16 : u 16 = (.pointer (some ⟨rowB a1_v, rowO a1_v + x27.2.2.1.toNat * 3 + 2, none⟩)) := hΦ 16 (by decide)
                  have g17 : u 17 = (.int .i64 x47.n) := hΦ 17 (by decide)
                  have g18 : u 18 = (.int .i64 (IntKind.i64.wrap (x47.n + 1))) := hΦ 18 (by decide)
                  have g19 : u 19 = (.int .u64 (IntKind.u64.wrap (IntKind.i64.wrap (x47.n + 1)))) := hΦ 19 (by decide)
                  have g20 : u 20 = (.pointer (some ⟨rowB γ28, rowO γ28 + (IntKind.i64.wrap ((IntKind.i64.wrap (3 * x45.thread)) + x46.slot)).toNat * 1, none⟩)) := hΦ 20 (by decide)
                  have r := r.congr (sc g20 (sc g19 (sc g18 (sc g17 (sc g16 (sc g15 (sc g14 (sc g13 (sc g12 (sc g11 (sc g10 (sc g9 (sc g8 (sc g7 (sc g6 (sc g5 (sc g4 (sc g3 (sc g2 (sc g1 (sc g0 rfl)))))))))))))))))))))
                  have hP : Post No [roK 70 3 putC a1_v a1, cellC b1 ((planC a0)).toArray 24, memK mg20 x42.2.2.2, rowK 49 1 u64 γ28 x27.2.1, progK Try.prog encNone (fu, (D.hazard_Set a0 x37.thread x38.slot x39.n)) v40 (rg (gg 16).lo (gg 16).hi), cellC b43 #[] 46] w0 w49 := hP.below hb
                  refine seq_set 49 u64 γ28 (x27.2.1.set (IntKind.i64.wrap ((IntKind.i64.wrap (3 * x45.thread)) + x46.slot)).toNat (IntKind.u64.wrap (IntKind.i64.wrap (x47.n + 1)))) r (fun R => y_setRow r (hP.row (i := 3) rfl) hx48 (fun _ => rfl) rfl rfl rfl rfl rfl sz1_49) rfl fun fr w50 ha51 r => ?_
                  have hP : Post No [roK 70 3 putC a1_v a1, cellC b1 ((planC a0)).toArray 24, memK mg20 x42.2.2.2, rowK 49 1 u64 γ28 (x27.2.1.set (IntKind.i64.wrap ((IntKind.i64.wrap (3 * x45.thread)) + x46.slot)).toNat (IntKind.u64.wrap (IntKind.i64.wrap (x47.n + 1)))), progK Try.prog encNone (fu, (D.hazard_Set a0 x37.thread x38.slot x39.n)) v40 (rg (gg 16).lo (gg 16).hi), cellC b43 #[] 46] w0 w50 := hP.append (i := 3) rfl ha51
                  refine wpList_nil ?_
                  refine wp_seq ?_
                  have hP : Post No [roK 70 3 putC a1_v a1, cellC b1 ((planC a0)).toArray 24, memK mg20 x42.2.2.2, rowK 49 1 u64 γ28 (x27.2.1.set (IntKind.i64.wrap ((IntKind.i64.wrap (3 * x45.thread)) + x46.slot)).toNat (IntKind.u64.wrap (IntKind.i64.wrap (x47.n + 1))))] w0 w50 := hP.pick [0, 1, 2, 3] rfl rfl
                  refine wp_joinG (N := 219) (Y := Bool) (G := Unit) (fun x γ => [(0, (.agg (planC a0).toArray)), (1, a1_v), (2, (.int .i64 a2)), (3, (.pointer (some ⟨b1, 0, none⟩))), (40, (.bool x12)), (7, (.pointer (some ⟨mg20.mb, 0, none⟩))), (49, (.bool false)), (6, (.bool x27.1)), (8, γ28), (9, (.int .i64 x27.2.2.1)), (53, (.bool (decide (x27.2.2.1 < (a1.length : Int))))), (73, (.bool (!(D.cubiclelaw10_fits a0 x32.thread x33.slot x34.n)))), (11, (.int .i64 x42.2.1)), (12, (.bool x42.2.2.1)), (125, (.bool x))]) (fun x γ w => Post No [roK 70 3 putC a1_v a1, cellC b1 ((planC a0)).toArray 24, memK mg20 x42.2.2.2, rowK 49 1 u64 γ28 (x27.2.1.set (IntKind.i64.wrap ((IntKind.i64.wrap (3 * x45.thread)) + x46.slot)).toNat (IntKind.u64.wrap (IntKind.i64.wrap (x47.n + 1))))] w0 w) hD ?_ ?_
                  · skip
                    rintro y52 RPy52 nxy52 hD
                    refine wp_region_lit ?_
                    refine seq_val (.int .i64 x42.2.1) r (fun R => y_move r rfl) rfl fun fr r => ?_
                    refine seq_val (.bool (x42.2.1 != 1)) r (fun R => y_bin r (u := (.int .i64 x42.2.1)) (u' := (.int .i64 1)) rfl rfl rfl rfl) rfl fun fr r => ?_
                    refine seq_val (.bool (x42.2.1 != 1)) r (fun R => y_move r rfl) rfl fun fr r => ?_
                    refine seq_split (x42.2.1 != 1) (fun h53 => ?_) (fun h53 => ?_)
                    · skip
                      have hD := (cond_t h53).symm.trans hD
                      refine seq_skip r rfl rfl rfl (v := .bool true) (congrArg Value.bool h53) (by simp [boolOf]) fun fr r => ?_
                      refine seq_skip r rfl rfl rfl (v := .bool true) (congrArg Value.bool h53) (by simp [boolOf]) fun fr r => ?_
                      refine seq_val (.bool true) r (fun R => y_pick r (b := true) (congrArg Value.bool h53) rfl) rfl fun fr r => ?_
                      refine wpList_nil ?_
                      exact nxy52 true () _ _ _ hD r (hs_cons rfl (hs_cons rfl (hs_cons rfl (hs_cons rfl (hs_cons rfl (hs_cons rfl (hs_cons rfl (hs_cons rfl (hs_cons rfl (hs_cons rfl (hs_cons rfl (hs_cons rfl (hs_cons rfl (hs_cons rfl (hs_cons rfl hs_nil))))))))))))))) (hP.pick [0, 1, 2, 3] rfl rfl)
                    · skip
                      have hD := (cond_f h53).symm.trans hD
                      refine seq_want r rfl rfl rfl (congrArg Value.bool h53) ?_
                      refine seq_val (.bool x42.2.2.1) r (fun R => y_move r rfl) rfl fun fr r => ?_
                      refine seq_want r rfl rfl rfl (congrArg Value.bool h53) ?_
                      refine seq_val (.bool (!x42.2.2.1)) r (fun R => y_un r (u := (.bool x42.2.2.1)) rfl rfl) rfl fun fr r => ?_
                      refine seq_val (.bool (!x42.2.2.1)) r (fun R => y_pick r (b := false) (congrArg Value.bool h53) rfl) rfl fun fr r => ?_
                      refine wpList_nil ?_
                      exact nxy52 (!x42.2.2.1) () _ _ _ hD r (hs_cons rfl (hs_cons rfl (hs_cons rfl (hs_cons rfl (hs_cons rfl (hs_cons rfl (hs_cons rfl (hs_cons rfl (hs_cons rfl (hs_cons rfl (hs_cons rfl (hs_cons rfl (hs_cons rfl (hs_cons rfl (hs_cons rfl hs_nil))))))))))))))) (hP.pick [0, 1, 2, 3] rfl rfl)
                  · skip
                    rintro x54 γ55 fr w56 g r hP hD
                    have hP : Post No [roK 70 3 putC a1_v a1, cellC b1 ((planC a0)).toArray 24, memK mg20 x42.2.2.2, rowK 49 1 u64 γ28 (x27.2.1.set (IntKind.i64.wrap ((IntKind.i64.wrap (3 * x45.thread)) + x46.slot)).toNat (IntKind.u64.wrap (IntKind.i64.wrap (x47.n + 1))))] w0 w56 := hP
                    refine wp_cond_split (t := x54) (r.ev rfl) (fun h57 => ?_) (fun h57 => ?_)
                    · skip
                      have hD := (cond_t h57).symm.trans hD
                      refine wp_seq ?_
                      refine wp_region_lit ?_
                      refine seq_val (.bool false) r (fun R => y_assign r rfl) rfl fun fr r => ?_
                      refine wpList_nil ?_
                      refine wp_ret ?_
                      refine rty29 false _ _ hD fun hD => ?_
                      have hv : false = res := Option.some.inj hD
                      try dsimp only [Exit.then, Exit.inBlock]
                      refine ret_tmp (fn := Try.f9) r (t := 6) rfl (v := (.bool false)) rfl ?_
                      subst hv
                      exact ⟨rfl, hP.chg.below⟩
                    · skip
                      have hD := (cond_f h57).symm.trans hD
                      refine wp_skip ?_
                      refine wp_region_lit ?_
                      refine seq_val (.int .i64 x27.2.2.1) r (fun R => y_move r rfl) rfl fun fr r => ?_
                      refine seq_val (.int .i64 (IntKind.i64.wrap (x27.2.2.1 + 1))) r (fun R => y_bin r (u := (.int .i64 x27.2.2.1)) (u' := (.int .i64 1)) rfl rfl rfl rfl) rfl fun fr r => ?_
                      refine seq_val (.int .i64 (IntKind.i64.wrap (x27.2.2.1 + 1))) r (fun R => y_assign r rfl) rfl fun fr r => ?_
                      refine wpList_nil ?_
                      exact nxy29 (x27.1, (x27.2.1.set (IntKind.i64.wrap ((IntKind.i64.wrap (3 * x45.thread)) + x46.slot)).toNat (IntKind.u64.wrap (IntKind.i64.wrap (x47.n + 1)))), (IntKind.i64.wrap (x27.2.2.1 + 1)), x42.2.2.2) γ28 _ _ _ hD r (hs_cons rfl (hs_cons rfl (hs_cons rfl (hs_cons rfl (hs_cons rfl (hs_cons rfl (hs_cons rfl (hs_cons rfl (hs_cons rfl (hs_cons rfl hs_nil)))))))))) (hP.pick [0, 1, 2, 3] rfl rfl)
        · skip
          have hD := (cond_f h31).symm.trans hD
          refine wp_exit ?_
          exact bky29 (x27.1, x27.2.1, x27.2.2.1, x27.2.2.2) γ28 _ _ _ hD r (hs_cons rfl (hs_cons rfl (hs_cons rfl (hs_cons rfl (hs_cons rfl (hs_cons rfl (hs_cons rfl (hs_cons rfl (hs_cons rfl (hs_cons rfl hs_nil)))))))))) (hP.pick [0, 1, 2, 3] rfl rfl)
      · skip
        rintro x58 γ59 fr w60 g r hP hD
        have hP : Post No [roK 70 3 putC a1_v a1, cellC b1 ((planC a0)).toArray 24, memK mg20 x58.2.2.2, rowK 49 1 u64 γ59 x58.2.1] w0 w60 := hP
        refine wp_seq ?_
        refine wp_region_lit ?_
        refine seq_val (.agg (planC a0).toArray) r (fun R => y_load_agg r (cs := (planC a0)) (n := 6) rfl (hP.cell (i := 1) rfl) ta24 rfl) rfl fun fr r => ?_
        refine seq_val (.int .i64 a2) r (fun R => y_move r rfl) rfl fun fr r => ?_
        refine seq_call r (c_hazard_Held (F := No) (n := fu) (j := fu + 1) (fun _ h => h.elim) (by omega) a0 a2) (fun R hc => y_call r rfl cl44 hc) rfl ?_
        rintro _ w61 ⟨v62, rfl, hb, hr63⟩
        refine ⟨_, rfl, fun fr r => ?_⟩
        have hP : Post No [roK 70 3 putC a1_v a1, cellC b1 ((planC a0)).toArray 24, memK mg20 x58.2.2.2, rowK 49 1 u64 γ59 x58.2.1, progK Try.prog encBool (fu, (D.hazard_Held (fu + 1) a0 a2)) v62 (rg w60.heap.size w61.heap.size)] w0 w61 := hP.addProg hb hr63
        refine seq_val (.pointer (some ⟨mg20.mb, 0, none⟩)) r (fun R => y_move r rfl) rfl fun fr r => ?_
        refine seq_val (.pointer (some ⟨mg20.mb, 0, none⟩)) r (fun R => y_move r rfl) rfl fun fr r => ?_
        obtain ⟨x65, hx65, hD⟩ := bindD_elim hD
        refine seq_call r (c_mem_Memory_Cap w61 x58.2.2.2 (hP.mem (i := 2) rfl) 0 hx65) (fun R hc => y_call r rfl cl42 hc) rfl ?_
        rintro _ w66 ⟨rfl, hb⟩
        refine ⟨_, rfl, fun fr r => ?_⟩
        have hP : Post No [roK 70 3 putC a1_v a1, cellC b1 ((planC a0)).toArray 24, memK mg20 x58.2.2.2, rowK 49 1 u64 γ59 x58.2.1, progK Try.prog encBool (fu, (D.hazard_Held (fu + 1) a0 a2)) v62 (rg w60.heap.size w61.heap.size)] w0 w66 := hP.below hb
        obtain ⟨x67, hx67, hD⟩ := bindD_elim hD
        refine seq_call r (c_prog_Run_bool w66 (fu, (D.hazard_Held (fu + 1) a0 a2)) x58.2.2.2 x65 200 (hP.sep.pk [4, 2] rfl rfl) hx67) (fun R hc => y_call r rfl cl43 hc) rfl ?_
        rintro _ w68 ⟨rfl, hq⟩
        refine ⟨_, rfl, fun fr r => ?_⟩
        have hP : Post No [roK 70 3 putC a1_v a1, cellC b1 ((planC a0)).toArray 24, memK mg20 x67.2.2.2, rowK 49 1 u64 γ59 x58.2.1, progK Try.prog encBool (fu, (D.hazard_Held (fu + 1) a0 a2)) v62 (rg w60.heap.size w61.heap.size)] w0 w68 := hP.setN (i := 2) rfl hq
        refine seq_val (.tuple #[(.bool x67.1), (.int .i64 x67.2.1), (.bool x67.2.2.1)]) r (fun R => y_move r rfl) rfl fun fr r => ?_
        refine seq_val (.bool x67.1) r (fun R => y_extract r (vs := #[(.bool x67.1), (.int .i64 x67.2.1), (.bool x67.2.2.1)]) rfl rfl) rfl fun fr r => ?_
        refine seq_val (.int .i64 x67.2.1) r (fun R => y_extract r (vs := #[(.bool x67.1), (.int .i64 x67.2.1), (.bool x67.2.2.1)]) rfl rfl) rfl fun fr r => ?_
        refine seq_val (.bool x67.2.2.1) r (fun R => y_extract r (vs := #[(.bool x67.1), (.int .i64 x67.2.1), (.bool x67.2.2.1)]) rfl rfl) rfl fun fr r => ?_
        refine seq_val (.bool x67.1) r (fun R => y_assign r rfl) rfl fun fr r => ?_
        refine seq_val (.int .i64 x67.2.1) r (fun R => y_assign r rfl) rfl fun fr r => ?_
        refine seq_val (.bool x67.2.2.1) r (fun R => y_assign r rfl) rfl fun fr r => ?_
        refine wpList_nil ?_
        refine wp_seq ?_
        refine wp_region_lit ?_
        refine seq_val γ59 r (fun R => y_move r rfl) rfl fun fr r => ?_
        refine seq_val (.int .i64 a2) r (fun R => y_move r rfl) rfl fun fr r => ?_
        obtain ⟨x69, hx69, hD⟩ := bindD_elim hD
        refine seq_call r (c_cubicleref10_Held w68 x58.2.1 (hP.row (i := 3) rfl).ro a2 hx69) (fun R hc => y_call r rfl cl46 hc) rfl ?_
        rintro _ w70 ⟨rfl, hb⟩
        refine ⟨_, rfl, fun fr r => ?_⟩
        have hP : Post No [roK 70 3 putC a1_v a1, cellC b1 ((planC a0)).toArray 24, memK mg20 x67.2.2.2, rowK 49 1 u64 γ59 x58.2.1, progK Try.prog encBool (fu, (D.hazard_Held (fu + 1) a0 a2)) v62 (rg w60.heap.size w61.heap.size)] w0 w70 := hP.below hb
        refine seq_val (.tuple #[(.bool x69.1), (.int .i64 x69.2)]) r (fun R => y_move r rfl) rfl fun fr r => ?_
        refine seq_val (.bool x69.1) r (fun R => y_extract r (vs := #[(.bool x69.1), (.int .i64 x69.2)]) rfl rfl) rfl fun fr r => ?_
        refine seq_val (.int .i64 x69.2) r (fun R => y_extract r (vs := #[(.bool x69.1), (.int .i64 x69.2)]) rfl rfl) rfl fun fr r => ?_
        refine seq_val (.bool x69.1) r (fun R => y_assign r rfl) rfl fun fr r => ?_
        refine seq_val (.int .i64 x69.2) r (fun R => y_assign r rfl) rfl fun fr r => ?_
        refine wpList_nil ?_
        refine wp_seq ?_
        refine wp_region_lit ?_
        refine seq_val (.agg (planC a0).toArray) r (fun R => y_load_agg r (cs := (planC a0)) (n := 6) rfl (hP.cell (i := 1) rfl) ta24 rfl) rfl fun fr r => ?_
        refine seq_val (.pointer (some ⟨b1, 1, none⟩)) r (fun R => y_fieldAddr r (o := 0) rfl fo24_1) rfl fun fr r => ?_
        refine seq_val (.int .i64 a0.threads) r (fun R => y_load_one r (v := (.int .i64 a0.threads)) rfl (hP.cell (i := 1) rfl) to3 rfl) rfl fun fr r => ?_
        refine seq_val (.int .i64 (IntKind.i64.wrap (a0.threads - 1))) r (fun R => y_bin r (u := (.int .i64 a0.threads)) (u' := (.int .i64 1)) rfl rfl rfl rfl) rfl fun fr r => ?_
        refine seq_call r (c_hazard_Clear (F := No) (n := fu) (j := fu + 1) (fun _ h => h.elim) (by omega) a0 (IntKind.i64.wrap (a0.threads - 1))) (fun R hc => y_call r rfl cl45 hc) rfl ?_
        rintro _ w71 ⟨v72, rfl, hb, hr73⟩
        refine ⟨_, rfl, fun fr r => ?_⟩
        have hP : Post No [roK 70 3 putC a1_v a1, cellC b1 ((planC a0)).toArray 24, memK mg20 x67.2.2.2, rowK 49 1 u64 γ59 x58.2.1, progK Try.prog encBool (fu, (D.hazard_Held (fu + 1) a0 a2)) v62 (rg w60.heap.size w61.heap.size), progK Try.prog encNone (fu, (D.hazard_Clear (fu + 1) a0 (IntKind.i64.wrap (a0.threads - 1)))) v72 (rg w70.heap.size w71.heap.size)] w0 w71 := hP.addProg hb hr73
        refine seq_val (.pointer (some ⟨mg20.mb, 0, none⟩)) r (fun R => y_move r rfl) rfl fun fr r => ?_
        refine seq_val (.pointer (some ⟨mg20.mb, 0, none⟩)) r (fun R => y_move r rfl) rfl fun fr r => ?_
        obtain ⟨x75, hx75, hD⟩ := bindD_elim hD
        refine seq_call r (c_mem_Memory_Cap w71 x67.2.2.2 (hP.mem (i := 2) rfl) 0 hx75) (fun R hc => y_call r rfl cl42 hc) rfl ?_
        rintro _ w76 ⟨rfl, hb⟩
        refine ⟨_, rfl, fun fr r => ?_⟩
        have hP : Post No [roK 70 3 putC a1_v a1, cellC b1 ((planC a0)).toArray 24, memK mg20 x67.2.2.2, rowK 49 1 u64 γ59 x58.2.1, progK Try.prog encBool (fu, (D.hazard_Held (fu + 1) a0 a2)) v62 (rg w60.heap.size w61.heap.size), progK Try.prog encNone (fu, (D.hazard_Clear (fu + 1) a0 (IntKind.i64.wrap (a0.threads - 1)))) v72 (rg w70.heap.size w71.heap.size)] w0 w76 := hP.below hb
        obtain ⟨x77, hx77, hD⟩ := bindD_elim hD
        refine seq_call r (c_prog_Run_None w76 (fu, (D.hazard_Clear (fu + 1) a0 (IntKind.i64.wrap (a0.threads - 1)))) x67.2.2.2 x75 9 (hP.sep.pk [5, 2] rfl rfl) hx77) (fun R hc => y_call r rfl cl40 hc) rfl ?_
        rintro _ w78 ⟨rfl, hq⟩
        refine ⟨_, rfl, fun fr r => ?_⟩
        have hP : Post No [roK 70 3 putC a1_v a1, cellC b1 ((planC a0)).toArray 24, memK mg20 x77.2.2.2, rowK 49 1 u64 γ59 x58.2.1, progK Try.prog encBool (fu, (D.hazard_Held (fu + 1) a0 a2)) v62 (rg w60.heap.size w61.heap.size), progK Try.prog encNone (fu, (D.hazard_Clear (fu + 1) a0 (IntKind.i64.wrap (a0.threads - 1)))) v72 (rg w70.heap.size w71.heap.size)] w0 w78 := hP.setN (i := 2) rfl hq
        refine seq_val (.tuple #[(.agg #[]), (.int .i64 x77.2.1), (.bool x77.2.2.1)]) r (fun R => y_move r rfl) rfl fun fr r => ?_
        refine seq_val (.agg #[]) r (fun R => y_extract r (vs := #[(.agg #[]), (.int .i64 x77.2.1), (.bool x77.2.2.1)]) rfl rfl) rfl fun fr r => ?_
        refine seq_val (.int .i64 x77.2.1) r (fun R => y_extract r (vs := #[(.agg #[]), (.int .i64 x77.2.1), (.bool x77.2.2.1)]) rfl rfl) rfl fun fr r => ?_
        refine seq_val (.bool x77.2.2.1) r (fun R => y_extract r (vs := #[(.agg #[]), (.int .i64 x77.2.1), (.bool x77.2.2.1)]) rfl rfl) rfl fun fr r => ?_
        refine seq_new (.cells #[] 46 (0, 0)) r (fun R => y_alloc tz46) rfl fun fr b79 w80 n81 r => ?_
        have hP : Post No [roK 70 3 putC a1_v a1, cellC b1 ((planC a0)).toArray 24, memK mg20 x77.2.2.2, rowK 49 1 u64 γ59 x58.2.1, progK Try.prog encBool (fu, (D.hazard_Held (fu + 1) a0 a2)) v62 (rg w60.heap.size w61.heap.size), progK Try.prog encNone (fu, (D.hazard_Clear (fu + 1) a0 (IntKind.i64.wrap (a0.threads - 1)))) v72 (rg w70.heap.size w71.heap.size), cellC b79 #[] 46] w0 w80 := hP.new n81
        refine seq_upd (.cells #[] 46 (0, 0)) r (fun R => y_store r (o := 0) (v := (.agg #[])) rfl rfl (hP.cell (i := 6) rfl) ts46 (Nat.le_of_ble_eq_true rfl) rfl rfl) rfl fun fr w83 u84 r => ?_
        have hP : Post No [roK 70 3 putC a1_v a1, cellC b1 ((planC a0)).toArray 24, memK mg20 x77.2.2.2, rowK 49 1 u64 γ59 x58.2.1, progK Try.prog encBool (fu, (D.hazard_Held (fu + 1) a0 a2)) v62 (rg w60.heap.size w61.heap.size), progK Try.prog encNone (fu, (D.hazard_Clear (fu + 1) a0 (IntKind.i64.wrap (a0.threads - 1)))) v72 (rg w70.heap.size w71.heap.size), cellC b79 #[] 46] w0 w83 := hP.upd (i := 6) rfl u84
        refine seq_val (.int .i64 x77.2.1) r (fun R => y_assign r rfl) rfl fun fr r => ?_
        refine seq_val (.bool x77.2.2.1) r (fun R => y_assign r rfl) rfl fun fr r => ?_
        refine wpList_nil ?_
        refine wp_seq ?_
        refine wp_seq ?_
        have hP : Post No [roK 70 3 putC a1_v a1, cellC b1 ((planC a0)).toArray 24, memK mg20 x77.2.2.2, rowK 49 1 u64 γ59 x58.2.1] w0 w83 := hP.pick [0, 1, 2, 3] rfl rfl
        refine wp_joinG (N := 219) (Y := Bool) (G := Unit) (fun x γ => [(0, (.agg (planC a0).toArray)), (1, a1_v), (2, (.int .i64 a2)), (3, (.pointer (some ⟨b1, 0, none⟩))), (40, (.bool x12)), (7, (.pointer (some ⟨mg20.mb, 0, none⟩))), (49, (.bool false)), (6, (.bool x58.1)), (8, γ59), (9, (.int .i64 x58.2.2.1)), (13, (.bool x67.1)), (14, (.int .i64 x67.2.1)), (15, (.bool x67.2.2.1)), (16, (.bool x69.1)), (17, (.int .i64 x69.2)), (19, (.int .i64 x77.2.1)), (20, (.bool x77.2.2.1)), (175, (.bool x))]) (fun x γ w => Post No [roK 70 3 putC a1_v a1, cellC b1 ((planC a0)).toArray 24, memK mg20 x77.2.2.2, rowK 49 1 u64 γ59 x58.2.1] w0 w) hD ?_ ?_
        · skip
          rintro y85 RPy85 nxy85 hD
          refine wp_region_lit ?_
          refine seq_val (.bool x67.1) r (fun R => y_move r rfl) rfl fun fr r => ?_
          refine seq_val (.bool x69.1) r (fun R => y_move r rfl) rfl fun fr r => ?_
          refine seq_val (.bool (x67.1 != x69.1)) r (fun R => y_bin r (u := (.bool x67.1)) (u' := (.bool x69.1)) rfl rfl rfl rfl) rfl fun fr r => ?_
          refine seq_val (.bool (x67.1 != x69.1)) r (fun R => y_move r rfl) rfl fun fr r => ?_
          refine seq_split (x67.1 != x69.1) (fun h86 => ?_) (fun h86 => ?_)
          · skip
            have hD := (cond_t h86).symm.trans hD
            refine seq_skip r rfl rfl rfl (v := .bool true) (congrArg Value.bool h86) (by simp [boolOf]) fun fr r => ?_
            refine seq_skip r rfl rfl rfl (v := .bool true) (congrArg Value.bool h86) (by simp [boolOf]) fun fr r => ?_
            refine seq_skip r rfl rfl rfl (v := .bool true) (congrArg Value.bool h86) (by simp [boolOf]) fun fr r => ?_
            refine seq_val (.bool true) r (fun R => y_pick r (b := true) (congrArg Value.bool h86) rfl) rfl fun fr r => ?_
            refine seq_val (.bool true) r (fun R => y_move r rfl) rfl fun fr r => ?_
            refine seq_skip r rfl rfl rfl (v := .bool true) (congrArg Value.bool (rfl : true = _)) (by simp [boolOf]) fun fr r => ?_
            refine seq_skip r rfl rfl rfl (v := .bool true) (congrArg Value.bool (rfl : true = _)) (by simp [boolOf]) fun fr r => ?_
            refine seq_val (.bool true) r (fun R => y_pick r (b := true) (congrArg Value.bool (rfl : true = _)) rfl) rfl fun fr r => ?_
            refine seq_val (.bool true) r (fun R => y_move r rfl) rfl fun fr r => ?_
            refine seq_skip r rfl rfl rfl (v := .bool true) (congrArg Value.bool (rfl : true = _)) (by simp [boolOf]) fun fr r => ?_
            refine seq_skip r rfl rfl rfl (v := .bool true) (congrArg Value.bool (rfl : true = _)) (by simp [boolOf]) fun fr r => ?_
            refine seq_val (.bool true) r (fun R => y_pick r (b := true) (congrArg Value.bool (rfl : true = _)) rfl) rfl fun fr r => ?_
            refine seq_val (.bool true) r (fun R => y_move r rfl) rfl fun fr r => ?_
            refine seq_skip r rfl rfl rfl (v := .bool true) (congrArg Value.bool (rfl : true = _)) (by simp [boolOf]) fun fr r => ?_
            refine seq_skip r rfl rfl rfl (v := .bool true) (congrArg Value.bool (rfl : true = _)) (by simp [boolOf]) fun fr r => ?_
            refine seq_val (.bool true) r (fun R => y_pick r (b := true) (congrArg Value.bool (rfl : true = _)) rfl) rfl fun fr r => ?_
            refine wpList_nil ?_
            exact nxy85 true () _ _ _ hD r (hs_cons rfl (hs_cons rfl (hs_cons rfl (hs_cons rfl (hs_cons rfl (hs_cons rfl (hs_cons rfl (hs_cons rfl (hs_cons rfl (hs_cons rfl (hs_cons rfl (hs_cons rfl (hs_cons rfl (hs_cons rfl (hs_cons rfl (hs_cons rfl (hs_cons rfl (hs_cons rfl hs_nil)))))))))))))))))) (hP.pick [0, 1, 2, 3] rfl rfl)
          · skip
            have hD := (cond_f h86).symm.trans hD
            refine seq_want r rfl rfl rfl (congrArg Value.bool h86) ?_
            refine seq_val (.int .i64 x67.2.1) r (fun R => y_move r rfl) rfl fun fr r => ?_
            refine seq_want r rfl rfl rfl (congrArg Value.bool h86) ?_
            refine seq_val (.int .i64 x69.2) r (fun R => y_move r rfl) rfl fun fr r => ?_
            refine seq_want r rfl rfl rfl (congrArg Value.bool h86) ?_
            refine seq_val (.bool (x67.2.1 != x69.2)) r (fun R => y_bin r (u := (.int .i64 x67.2.1)) (u' := (.int .i64 x69.2)) rfl rfl rfl rfl) rfl fun fr r => ?_
            refine seq_val (.bool (x67.2.1 != x69.2)) r (fun R => y_pick r (b := false) (congrArg Value.bool h86) rfl) rfl fun fr r => ?_
            refine seq_val (.bool (x67.2.1 != x69.2)) r (fun R => y_move r rfl) rfl fun fr r => ?_
            refine seq_split (x67.2.1 != x69.2) (fun h87 => ?_) (fun h87 => ?_)
            · skip
              have hD := (cond_t h87).symm.trans hD
              refine seq_skip r rfl rfl rfl (v := .bool true) (congrArg Value.bool h87) (by simp [boolOf]) fun fr r => ?_
              refine seq_skip r rfl rfl rfl (v := .bool true) (congrArg Value.bool h87) (by simp [boolOf]) fun fr r => ?_
              refine seq_val (.bool true) r (fun R => y_pick r (b := true) (congrArg Value.bool h87) rfl) rfl fun fr r => ?_
              refine seq_val (.bool true) r (fun R => y_move r rfl) rfl fun fr r => ?_
              refine seq_skip r rfl rfl rfl (v := .bool true) (congrArg Value.bool (rfl : true = _)) (by simp [boolOf]) fun fr r => ?_
              refine seq_skip r rfl rfl rfl (v := .bool true) (congrArg Value.bool (rfl : true = _)) (by simp [boolOf]) fun fr r => ?_
              refine seq_val (.bool true) r (fun R => y_pick r (b := true) (congrArg Value.bool (rfl : true = _)) rfl) rfl fun fr r => ?_
              refine seq_val (.bool true) r (fun R => y_move r rfl) rfl fun fr r => ?_
              refine seq_skip r rfl rfl rfl (v := .bool true) (congrArg Value.bool (rfl : true = _)) (by simp [boolOf]) fun fr r => ?_
              refine seq_skip r rfl rfl rfl (v := .bool true) (congrArg Value.bool (rfl : true = _)) (by simp [boolOf]) fun fr r => ?_
              refine seq_val (.bool true) r (fun R => y_pick r (b := true) (congrArg Value.bool (rfl : true = _)) rfl) rfl fun fr r => ?_
              refine wpList_nil ?_
              exact nxy85 true () _ _ _ hD r (hs_cons rfl (hs_cons rfl (hs_cons rfl (hs_cons rfl (hs_cons rfl (hs_cons rfl (hs_cons rfl (hs_cons rfl (hs_cons rfl (hs_cons rfl (hs_cons rfl (hs_cons rfl (hs_cons rfl (hs_cons rfl (hs_cons rfl (hs_cons rfl (hs_cons rfl (hs_cons rfl hs_nil)))))))))))))))))) (hP.pick [0, 1, 2, 3] rfl rfl)
            · skip
              have hD := (cond_f h87).symm.trans hD
              refine seq_want r rfl rfl rfl (congrArg Value.bool h87) ?_
              refine seq_val (.bool x67.2.2.1) r (fun R => y_move r rfl) rfl fun fr r => ?_
              refine seq_want r rfl rfl rfl (congrArg Value.bool h87) ?_
              refine seq_val (.bool (!x67.2.2.1)) r (fun R => y_un r (u := (.bool x67.2.2.1)) rfl rfl) rfl fun fr r => ?_
              refine seq_val (.bool (!x67.2.2.1)) r (fun R => y_pick r (b := false) (congrArg Value.bool h87) rfl) rfl fun fr r => ?_
              refine seq_val (.bool (!x67.2.2.1)) r (fun R => y_move r rfl) rfl fun fr r => ?_
              refine seq_split (!x67.2.2.1) (fun h88 => ?_) (fun h88 => ?_)
              · skip
                have hD := (cond_t h88).symm.trans hD
                refine seq_skip r rfl rfl rfl (v := .bool true) (congrArg Value.bool h88) (by simp [boolOf]) fun fr r => ?_
                refine seq_skip r rfl rfl rfl (v := .bool true) (congrArg Value.bool h88) (by simp [boolOf]) fun fr r => ?_
                refine seq_val (.bool true) r (fun R => y_pick r (b := true) (congrArg Value.bool h88) rfl) rfl fun fr r => ?_
                refine seq_val (.bool true) r (fun R => y_move r rfl) rfl fun fr r => ?_
                refine seq_skip r rfl rfl rfl (v := .bool true) (congrArg Value.bool (rfl : true = _)) (by simp [boolOf]) fun fr r => ?_
                refine seq_skip r rfl rfl rfl (v := .bool true) (congrArg Value.bool (rfl : true = _)) (by simp [boolOf]) fun fr r => ?_
                refine seq_val (.bool true) r (fun R => y_pick r (b := true) (congrArg Value.bool (rfl : true = _)) rfl) rfl fun fr r => ?_
                refine wpList_nil ?_
                exact nxy85 true () _ _ _ hD r (hs_cons rfl (hs_cons rfl (hs_cons rfl (hs_cons rfl (hs_cons rfl (hs_cons rfl (hs_cons rfl (hs_cons rfl (hs_cons rfl (hs_cons rfl (hs_cons rfl (hs_cons rfl (hs_cons rfl (hs_cons rfl (hs_cons rfl (hs_cons rfl (hs_cons rfl (hs_cons rfl hs_nil)))))))))))))))))) (hP.pick [0, 1, 2, 3] rfl rfl)
              · skip
                have hD := (cond_f h88).symm.trans hD
                refine seq_want r rfl rfl rfl (congrArg Value.bool h88) ?_
                refine seq_val (.int .i64 x77.2.1) r (fun R => y_move r rfl) rfl fun fr r => ?_
                refine seq_want r rfl rfl rfl (congrArg Value.bool h88) ?_
                refine seq_val (.bool (x77.2.1 != 3)) r (fun R => y_bin r (u := (.int .i64 x77.2.1)) (u' := (.int .i64 3)) rfl rfl rfl rfl) rfl fun fr r => ?_
                refine seq_val (.bool (x77.2.1 != 3)) r (fun R => y_pick r (b := false) (congrArg Value.bool h88) rfl) rfl fun fr r => ?_
                refine seq_val (.bool (x77.2.1 != 3)) r (fun R => y_move r rfl) rfl fun fr r => ?_
                refine seq_split (x77.2.1 != 3) (fun h89 => ?_) (fun h89 => ?_)
                · skip
                  have hD := (cond_t h89).symm.trans hD
                  refine seq_skip r rfl rfl rfl (v := .bool true) (congrArg Value.bool h89) (by simp [boolOf]) fun fr r => ?_
                  refine seq_skip r rfl rfl rfl (v := .bool true) (congrArg Value.bool h89) (by simp [boolOf]) fun fr r => ?_
                  refine seq_val (.bool true) r (fun R => y_pick r (b := true) (congrArg Value.bool h89) rfl) rfl fun fr r => ?_
                  refine wpList_nil ?_
                  exact nxy85 true () _ _ _ hD r (hs_cons rfl (hs_cons rfl (hs_cons rfl (hs_cons rfl (hs_cons rfl (hs_cons rfl (hs_cons rfl (hs_cons rfl (hs_cons rfl (hs_cons rfl (hs_cons rfl (hs_cons rfl (hs_cons rfl (hs_cons rfl (hs_cons rfl (hs_cons rfl (hs_cons rfl (hs_cons rfl hs_nil)))))))))))))))))) (hP.pick [0, 1, 2, 3] rfl rfl)
                · skip
                  have hD := (cond_f h89).symm.trans hD
                  refine seq_want r rfl rfl rfl (congrArg Value.bool h89) ?_
                  refine seq_val (.bool x77.2.2.1) r (fun R => y_move r rfl) rfl fun fr r => ?_
                  refine seq_want r rfl rfl rfl (congrArg Value.bool h89) ?_
                  refine seq_val (.bool (!x77.2.2.1)) r (fun R => y_un r (u := (.bool x77.2.2.1)) rfl rfl) rfl fun fr r => ?_
                  refine seq_val (.bool (!x77.2.2.1)) r (fun R => y_pick r (b := false) (congrArg Value.bool h89) rfl) rfl fun fr r => ?_
                  refine wpList_nil ?_
                  exact nxy85 (!x77.2.2.1) () _ _ _ hD r (hs_cons rfl (hs_cons rfl (hs_cons rfl (hs_cons rfl (hs_cons rfl (hs_cons rfl (hs_cons rfl (hs_cons rfl (hs_cons rfl (hs_cons rfl (hs_cons rfl (hs_cons rfl (hs_cons rfl (hs_cons rfl (hs_cons rfl (hs_cons rfl (hs_cons rfl (hs_cons rfl hs_nil)))))))))))))))))) (hP.pick [0, 1, 2, 3] rfl rfl)
        · skip
          rintro x90 γ91 fr w92 g r hP hD
          have hP : Post No [roK 70 3 putC a1_v a1, cellC b1 ((planC a0)).toArray 24, memK mg20 x77.2.2.2, rowK 49 1 u64 γ59 x58.2.1] w0 w92 := hP
          refine wp_cond_split (t := x90) (r.ev rfl) (fun h93 => ?_) (fun h93 => ?_)
          · skip
            have hD := (cond_t h93).symm.trans hD
            refine wp_seq ?_
            refine wp_region_lit ?_
            refine seq_val (.bool false) r (fun R => y_assign r rfl) rfl fun fr r => ?_
            refine wpList_nil ?_
            refine wp_ret ?_
            have hv : false = res := Option.some.inj hD
            try dsimp only [Exit.then, Exit.inBlock]
            refine ret_tmp (fn := Try.f9) r (t := 6) rfl (v := (.bool false)) rfl ?_
            subst hv
            exact ⟨rfl, hP.chg.below⟩
          · skip
            have hD := (cond_f h93).symm.trans hD
            refine wp_skip ?_
            refine wp_seq ?_
            refine wp_seq ?_
            refine wp_region_lit ?_
            refine seq_val (.int .i64 0) r (fun R => y_assign r rfl) rfl fun fr r => ?_
            refine wpList_nil ?_
            refine wp_loopG (X := Bool × Int) (G := Unit) (x0 := (x58.1, 0)) (fun x γ => [(0, (.agg (planC a0).toArray)), (1, a1_v), (2, (.int .i64 a2)), (3, (.pointer (some ⟨b1, 0, none⟩))), (40, (.bool x12)), (7, (.pointer (some ⟨mg20.mb, 0, none⟩))), (49, (.bool false)), (8, γ59), (9, (.int .i64 x58.2.2.1)), (13, (.bool x67.1)), (14, (.int .i64 x67.2.1)), (15, (.bool x67.2.2.1)), (16, (.bool x69.1)), (17, (.int .i64 x69.2)), (19, (.int .i64 x77.2.1)), (20, (.bool x77.2.2.1)), (175, (.bool x90)), (6, (.bool x.1)), (21, (.int .i64 x.2))]) (fun x γ w => Post No [roK 70 3 putC a1_v a1, cellC b1 ((planC a0)).toArray 24, memK mg20 x77.2.2.2, rowK 49 1 u64 γ59 x58.2.1] w0 w) () r (hs_cons rfl (hs_cons rfl (hs_cons rfl (hs_cons rfl (hs_cons rfl (hs_cons rfl (hs_cons rfl (hs_cons rfl (hs_cons rfl (hs_cons rfl (hs_cons rfl (hs_cons rfl (hs_cons rfl (hs_cons rfl (hs_cons rfl (hs_cons rfl (hs_cons rfl (hs_cons rfl (hs_cons rfl hs_nil))))))))))))))))))) hP hD ?_ ?_
            · skip
              rintro x94 γ95 fr w97 g y96 RPy96 nxy96 bky96 rty96 r hP hD
              have hP : Post No [roK 70 3 putC a1_v a1, cellC b1 ((planC a0)).toArray 24, memK mg20 x77.2.2.2, rowK 49 1 u64 γ59 x58.2.1] w0 w97 := hP
              refine wp_seq ?_
              refine wp_seq ?_
              refine wp_region_lit ?_
              refine seq_val (.int .i64 x94.2) r (fun R => y_move r rfl) rfl fun fr r => ?_
              refine seq_val (.pointer (some ⟨b1, 1, none⟩)) r (fun R => y_fieldAddr r (o := 0) rfl fo24_1) rfl fun fr r => ?_
              refine seq_val (.int .i64 a0.threads) r (fun R => y_load_one r (v := (.int .i64 a0.threads)) rfl (hP.cell (i := 1) rfl) to3 rfl) rfl fun fr r => ?_
              refine seq_val (.bool (decide (x94.2 < a0.threads))) r (fun R => y_bin r (u := (.int .i64 x94.2)) (u' := (.int .i64 a0.threads)) rfl rfl rfl rfl) rfl fun fr r => ?_
              refine wpList_nil ?_
              refine wp_cond_split (t := (decide (x94.2 < a0.threads))) (r.ev rfl) (fun h98 => ?_) (fun h98 => ?_)
              · skip
                have hD := (cond_t h98).symm.trans hD
                refine wp_skip ?_
                refine wp_seq ?_
                refine wp_block ?_
                refine wp_seq ?_
                refine wp_region_lit ?_
                refine seq_val (.int .i64 0) r (fun R => y_assign r rfl) rfl fun fr r => ?_
                refine wpList_nil ?_
                refine wp_loopG (X := Bool × Int) (G := Unit) (x0 := (x94.1, 0)) (fun x γ => [(0, (.agg (planC a0).toArray)), (1, a1_v), (2, (.int .i64 a2)), (3, (.pointer (some ⟨b1, 0, none⟩))), (40, (.bool x12)), (7, (.pointer (some ⟨mg20.mb, 0, none⟩))), (49, (.bool false)), (8, γ59), (9, (.int .i64 x58.2.2.1)), (13, (.bool x67.1)), (14, (.int .i64 x67.2.1)), (15, (.bool x67.2.2.1)), (16, (.bool x69.1)), (17, (.int .i64 x69.2)), (19, (.int .i64 x77.2.1)), (20, (.bool x77.2.2.1)), (175, (.bool x90)), (21, (.int .i64 x94.2)), (179, (.bool (decide (x94.2 < a0.threads)))), (6, (.bool x.1)), (22, (.int .i64 x.2))]) (fun x γ w => Post No [roK 70 3 putC a1_v a1, cellC b1 ((planC a0)).toArray 24, memK mg20 x77.2.2.2, rowK 49 1 u64 γ59 x58.2.1] w0 w) () r (hs_cons rfl (hs_cons rfl (hs_cons rfl (hs_cons rfl (hs_cons rfl (hs_cons rfl (hs_cons rfl (hs_cons rfl (hs_cons rfl (hs_cons rfl (hs_cons rfl (hs_cons rfl (hs_cons rfl (hs_cons rfl (hs_cons rfl (hs_cons rfl (hs_cons rfl (hs_cons rfl (hs_cons rfl (hs_cons rfl (hs_cons rfl hs_nil))))))))))))))))))))) hP hD ?_ ?_
                · skip
                  rintro x99 γ100 fr w102 g y101 RPy101 nxy101 bky101 rty101 r hP hD
                  have hP : Post No [roK 70 3 putC a1_v a1, cellC b1 ((planC a0)).toArray 24, memK mg20 x77.2.2.2, rowK 49 1 u64 γ59 x58.2.1] w0 w102 := hP
                  refine wp_seq ?_
                  refine wp_seq ?_
                  refine wp_region_lit ?_
                  refine seq_val (.int .i64 x99.2) r (fun R => y_move r rfl) rfl fun fr r => ?_
                  refine seq_val (.bool (decide (x99.2 < 3))) r (fun R => y_bin r (u := (.int .i64 x99.2)) (u' := (.int .i64 3)) rfl rfl rfl rfl) rfl fun fr r => ?_
                  refine wpList_nil ?_
                  refine wp_cond_split (t := (decide (x99.2 < 3))) (r.ev rfl) (fun h103 => ?_) (fun h103 => ?_)
                  · skip
                    have hD := (cond_t h103).symm.trans hD
                    refine wp_skip ?_
                    refine wp_seq ?_
                    refine wp_block ?_
                    refine wp_seq ?_
                    refine wp_region_lit ?_
                    refine seq_val (.pointer (some ⟨mg20.mb, 0, none⟩)) r (fun R => y_move r rfl) rfl fun fr r => ?_
                    refine seq_val (.agg (planC a0).toArray) r (fun R => y_load_agg r (cs := (planC a0)) (n := 6) rfl (hP.cell (i := 1) rfl) ta24 rfl) rfl fun fr r => ?_
                    refine seq_val (.int .i64 x94.2) r (fun R => y_move r rfl) rfl fun fr r => ?_
                    refine seq_val (.int .i64 x99.2) r (fun R => y_move r rfl) rfl fun fr r => ?_
                    refine seq_call r (c_plan_Plan_Hazard w102 a0 x94.2 x99.2) (fun R hc => y_call r rfl cl27 hc) rfl ?_
                    rintro _ w104 ⟨rfl, hb⟩
                    refine ⟨_, rfl, fun fr r => ?_⟩
                    have hP : Post No [roK 70 3 putC a1_v a1, cellC b1 ((planC a0)).toArray 24, memK mg20 x77.2.2.2, rowK 49 1 u64 γ59 x58.2.1] w0 w104 := hP.below hb
                    obtain ⟨x105, hx105, hD⟩ := bindD_elim hD
                    refine seq_call r (c_mem_Memory_Peek w104 x77.2.2.2 (hP.mem (i := 2) rfl) 0 (D.plan_Plan_Hazard a0 x94.2 x99.2) hx105) (fun R hc => y_call r rfl cl47 hc) rfl ?_
                    rintro _ w106 ⟨rfl, hb⟩
                    refine ⟨_, rfl, fun fr r => ?_⟩
                    have hP : Post No [roK 70 3 putC a1_v a1, cellC b1 ((planC a0)).toArray 24, memK mg20 x77.2.2.2, rowK 49 1 u64 γ59 x58.2.1] w0 w106 := hP.below hb
                    refine seq_val (.int .u64 x105) r (fun R => y_assign r rfl) rfl fun fr r => ?_
                    refine wpList_nil ?_
                    refine wp_seq ?_
                    refine wp_joinG (N := 219) (Y := Bool) (G := Unit) (fun x γ => [(0, (.agg (planC a0).toArray)), (1, a1_v), (2, (.int .i64 a2)), (3, (.pointer (some ⟨b1, 0, none⟩))), (40, (.bool x12)), (7, (.pointer (some ⟨mg20.mb, 0, none⟩))), (49, (.bool false)), (8, γ59), (9, (.int .i64 x58.2.2.1)), (13, (.bool x67.1)), (14, (.int .i64 x67.2.1)), (15, (.bool x67.2.2.1)), (16, (.bool x69.1)), (17, (.int .i64 x69.2)), (19, (.int .i64 x77.2.1)), (20, (.bool x77.2.2.1)), (175, (.bool x90)), (21, (.int .i64 x94.2)), (179, (.bool (decide (x94.2 < a0.threads)))), (6, (.bool x99.1)), (22, (.int .i64 x99.2)), (183, (.bool (decide (x99.2 < 3)))), (23, (.int .u64 x105)), (218, (.bool x))]) (fun x γ w => Post No [roK 70 3 putC a1_v a1, cellC b1 ((planC a0)).toArray 24, memK mg20 x77.2.2.2, rowK 49 1 u64 γ59 x58.2.1] w0 w) hD ?_ ?_
                    · skip
                      rintro y107 RPy107 nxy107 hD
                      refine wp_region_lit ?_
                      refine seq_val (.int .i64 x94.2) r (fun R => y_move r rfl) rfl fun fr r => ?_
                      refine seq_val (.pointer (some ⟨b1, 1, none⟩)) r (fun R => y_fieldAddr r (o := 0) rfl fo24_1) rfl fun fr r => ?_
                      refine seq_val (.int .i64 a0.threads) r (fun R => y_load_one r (v := (.int .i64 a0.threads)) rfl (hP.cell (i := 1) rfl) to3 rfl) rfl fun fr r => ?_
                      refine seq_val (.int .i64 (IntKind.i64.wrap (a0.threads - 1))) r (fun R => y_bin r (u := (.int .i64 a0.threads)) (u' := (.int .i64 1)) rfl rfl rfl rfl) rfl fun fr r => ?_
                      refine seq_val (.bool (x94.2 == (IntKind.i64.wrap (a0.threads - 1)))) r (fun R => y_bin r (u := (.int .i64 x94.2)) (u' := (.int .i64 (IntKind.i64.wrap (a0.threads - 1)))) rfl rfl rfl rfl) rfl fun fr r => ?_
                      refine seq_val (.bool (x94.2 == (IntKind.i64.wrap (a0.threads - 1)))) r (fun R => y_move r rfl) rfl fun fr r => ?_
                      refine seq_split (x94.2 == (IntKind.i64.wrap (a0.threads - 1))) (fun h108 => ?_) (fun h108 => ?_)
                      · skip
                        have hD := (cond_t h108).symm.trans hD
                        refine seq_want r rfl rfl rfl (congrArg Value.bool h108) ?_
                        refine seq_val (.int .u64 x105) r (fun R => y_move r rfl) rfl fun fr r => ?_
                        refine seq_want r rfl rfl rfl (congrArg Value.bool h108) ?_
                        refine seq_val (.bool (x105 != 0)) r (fun R => y_bin r (u := (.int .u64 x105)) (u' := (.int .u64 0)) rfl rfl rfl rfl) rfl fun fr r => ?_
                        refine seq_val (.bool (x105 != 0)) r (fun R => y_pick r (b := true) (congrArg Value.bool h108) rfl) rfl fun fr r => ?_
                        refine seq_val (.bool (x105 != 0)) r (fun R => y_move r rfl) rfl fun fr r => ?_
                        refine seq_split (x105 != 0) (fun h109 => ?_) (fun h109 => ?_)
                        · skip
                          have hD := (cond_t h109).symm.trans hD
                          refine seq_skip r rfl rfl rfl (v := .bool true) (congrArg Value.bool h109) (by simp [boolOf]) fun fr r => ?_
                          refine seq_skip r rfl rfl rfl (v := .bool true) (congrArg Value.bool h109) (by simp [boolOf]) fun fr r => ?_
                          refine seq_skip r rfl rfl rfl (v := .bool true) (congrArg Value.bool h109) (by simp [boolOf]) fun fr r => ?_
                          refine seq_skip r rfl rfl rfl (v := .bool true) (congrArg Value.bool h109) (by simp [boolOf]) fun fr r => ?_
                          refine seq_skip r rfl rfl rfl (v := .bool true) (congrArg Value.bool h109) (by simp [boolOf]) fun fr r => ?_
                          refine seq_skip r rfl rfl rfl (v := .bool true) (congrArg Value.bool h109) (by simp [boolOf]) fun fr r => ?_
                          refine seq_skip r rfl rfl rfl (v := undef) rfl (by simp [boolOf, undef]) fun fr r => ?_
                          refine seq_skip r rfl rfl rfl (v := undef) rfl (by simp [boolOf, undef]) fun fr r => ?_
                          refine seq_skip r rfl rfl rfl (v := undef) rfl (by simp [boolOf, undef]) fun fr r => ?_
                          refine seq_skip r rfl rfl rfl (v := undef) rfl (by simp [boolOf, undef]) fun fr r => ?_
                          refine seq_skip r rfl rfl rfl (v := undef) rfl (by simp [boolOf, undef]) fun fr r => ?_
                          refine seq_skip r rfl rfl rfl (v := undef) rfl (by simp [boolOf, undef]) fun fr r => ?_
                          refine seq_skip r rfl rfl rfl (v := undef) rfl (by simp [boolOf, undef]) fun fr r => ?_
                          refine seq_skip r rfl rfl rfl (v := undef) rfl (by simp [boolOf, undef]) fun fr r => ?_
                          refine seq_skip r rfl rfl rfl (v := undef) rfl (by simp [boolOf, undef]) fun fr r => ?_
                          refine seq_skip r rfl rfl rfl (v := .bool true) (congrArg Value.bool h109) (by simp [boolOf]) fun fr r => ?_
                          refine seq_val (.bool true) r (fun R => y_pick r (b := true) (congrArg Value.bool h109) rfl) rfl fun fr r => ?_
                          refine wpList_nil ?_
                          exact nxy107 true () _ _ _ hD r (hs_cons rfl (hs_cons rfl (hs_cons rfl (hs_cons rfl (hs_cons rfl (hs_cons rfl (hs_cons rfl (hs_cons rfl (hs_cons rfl (hs_cons rfl (hs_cons rfl (hs_cons rfl (hs_cons rfl (hs_cons rfl (hs_cons rfl (hs_cons rfl (hs_cons rfl (hs_cons rfl (hs_cons rfl (hs_cons rfl (hs_cons rfl (hs_cons rfl (hs_cons rfl (hs_cons rfl hs_nil)))))))))))))))))))))))) (hP.pick [0, 1, 2, 3] rfl rfl)
                        · skip
                          have hD := (cond_f h109).symm.trans hD
                          refine seq_want r rfl rfl rfl (congrArg Value.bool h109) ?_
                          refine seq_val (.int .i64 x94.2) r (fun R => y_move r rfl) rfl fun fr r => ?_
                          refine seq_want r rfl rfl rfl (congrArg Value.bool h109) ?_
                          refine seq_val (.pointer (some ⟨b1, 1, none⟩)) r (fun R => y_fieldAddr r (o := 0) rfl fo24_1) rfl fun fr r => ?_
                          refine seq_want r rfl rfl rfl (congrArg Value.bool h109) ?_
                          refine seq_val (.int .i64 a0.threads) r (fun R => y_load_one r (v := (.int .i64 a0.threads)) rfl (hP.cell (i := 1) rfl) to3 rfl) rfl fun fr r => ?_
                          refine seq_want r rfl rfl rfl (congrArg Value.bool h109) ?_
                          refine seq_val (.int .i64 (IntKind.i64.wrap (a0.threads - 1))) r (fun R => y_bin r (u := (.int .i64 a0.threads)) (u' := (.int .i64 1)) rfl rfl rfl rfl) rfl fun fr r => ?_
                          refine seq_want r rfl rfl rfl (congrArg Value.bool h109) ?_
                          refine seq_val (.bool (decide (x94.2 < (IntKind.i64.wrap (a0.threads - 1))))) r (fun R => y_bin r (u := (.int .i64 x94.2)) (u' := (.int .i64 (IntKind.i64.wrap (a0.threads - 1)))) rfl rfl rfl rfl) rfl fun fr r => ?_
                          refine seq_want r rfl rfl rfl (congrArg Value.bool h109) ?_
                          refine seq_val (.bool (decide (x94.2 < (IntKind.i64.wrap (a0.threads - 1))))) r (fun R => y_move r rfl) rfl fun fr r => ?_
                          refine seq_split (decide (x94.2 < (IntKind.i64.wrap (a0.threads - 1)))) (fun h110 => ?_) (fun h110 => ?_)
                          · skip
                            have hD := (cond_t h110).symm.trans hD
                            refine seq_want r rfl rfl rfl (congrArg Value.bool h110) ?_
                            refine seq_val (.int .u64 x105) r (fun R => y_move r rfl) rfl fun fr r => ?_
                            refine seq_want r rfl rfl rfl (congrArg Value.bool h110) ?_
                            refine seq_val γ59 r (fun R => y_move r rfl) rfl fun fr r => ?_
                            refine seq_want r rfl rfl rfl (congrArg Value.bool h110) ?_
                            refine seq_val (.int .i64 x94.2) r (fun R => y_move r rfl) rfl fun fr r => ?_
                            refine seq_want r rfl rfl rfl (congrArg Value.bool h110) ?_
                            refine seq_val (.int .i64 (IntKind.i64.wrap (3 * x94.2))) r (fun R => y_bin r (u := (.int .i64 3)) (u' := (.int .i64 x94.2)) rfl rfl rfl rfl) rfl fun fr r => ?_
                            refine seq_want r rfl rfl rfl (congrArg Value.bool h110) ?_
                            refine seq_val (.int .i64 x99.2) r (fun R => y_move r rfl) rfl fun fr r => ?_
                            refine seq_want r rfl rfl rfl (congrArg Value.bool h110) ?_
                            refine seq_val (.int .i64 (IntKind.i64.wrap ((IntKind.i64.wrap (3 * x94.2)) + x99.2))) r (fun R => y_bin r (u := (.int .i64 (IntKind.i64.wrap (3 * x94.2)))) (u' := (.int .i64 x99.2)) rfl rfl rfl rfl) rfl fun fr r => ?_
                            refine seq_want r rfl rfl rfl (congrArg Value.bool h110) ?_
                            obtain ⟨x111, hx111, hD⟩ := bindD_elim hD
                            refine seq_val (.pointer (some ⟨rowB γ59, rowO γ59 + (IntKind.i64.wrap ((IntKind.i64.wrap (3 * x94.2)) + x99.2)).toNat * 1, none⟩)) r (fun R => y_rowAddr r (hP.row (i := 3) rfl).ro hx111 sl68 rfl rfl) rfl fun fr r => ?_
                            refine seq_want r rfl rfl rfl (congrArg Value.bool h110) ?_
                            refine seq_val (.int .u64 x111) r (fun R => y_loadL_one r (u := (.int .u64 x111)) (RoAt.at_ (f := u64) (x := x111) (hP.row (i := 3) rfl).ro (fun _ => rfl) hx111) rfl to49) rfl fun fr r => ?_
                            refine seq_want r rfl rfl rfl (congrArg Value.bool h110) ?_
                            refine seq_val (.bool (x105 != x111)) r (fun R => y_bin r (u := (.int .u64 x105)) (u' := (.int .u64 x111)) rfl rfl rfl rfl) rfl fun fr r => ?_
                            refine seq_want r rfl rfl rfl (congrArg Value.bool h109) ?_
                            refine seq_val (.bool (x105 != x111)) r (fun R => y_pick r (b := true) (congrArg Value.bool h110) rfl) rfl fun fr r => ?_
                            refine seq_val (.bool (x105 != x111)) r (fun R => y_pick r (b := false) (congrArg Value.bool h109) rfl) rfl fun fr r => ?_
                            refine wpList_nil ?_
                            exact nxy107 (x105 != x111) () _ _ _ hD r (hs_cons rfl (hs_cons rfl (hs_cons rfl (hs_cons rfl (hs_cons rfl (hs_cons rfl (hs_cons rfl (hs_cons rfl (hs_cons rfl (hs_cons rfl (hs_cons rfl (hs_cons rfl (hs_cons rfl (hs_cons rfl (hs_cons rfl (hs_cons rfl (hs_cons rfl (hs_cons rfl (hs_cons rfl (hs_cons rfl (hs_cons rfl (hs_cons rfl (hs_cons rfl (hs_cons rfl hs_nil)))))))))))))))))))))))) (hP.pick [0, 1, 2, 3] rfl rfl)
                          · skip
                            have hD := (cond_f h110).symm.trans hD
                            refine seq_skip r rfl rfl rfl (v := .bool false) (congrArg Value.bool h110) (by simp [boolOf]) fun fr r => ?_
                            refine seq_skip r rfl rfl rfl (v := .bool false) (congrArg Value.bool h110) (by simp [boolOf]) fun fr r => ?_
                            refine seq_skip r rfl rfl rfl (v := .bool false) (congrArg Value.bool h110) (by simp [boolOf]) fun fr r => ?_
                            refine seq_skip r rfl rfl rfl (v := .bool false) (congrArg Value.bool h110) (by simp [boolOf]) fun fr r => ?_
                            refine seq_skip r rfl rfl rfl (v := .bool false) (congrArg Value.bool h110) (by simp [boolOf]) fun fr r => ?_
                            refine seq_skip r rfl rfl rfl (v := .bool false) (congrArg Value.bool h110) (by simp [boolOf]) fun fr r => ?_
                            refine seq_skip r rfl rfl rfl (v := .bool false) (congrArg Value.bool h110) (by simp [boolOf]) fun fr r => ?_
                            refine seq_skip r rfl rfl rfl (v := .bool false) (congrArg Value.bool h110) (by simp [boolOf]) fun fr r => ?_
                            refine seq_skip r rfl rfl rfl (v := .bool false) (congrArg Value.bool h110) (by simp [boolOf]) fun fr r => ?_
                            refine seq_want r rfl rfl rfl (congrArg Value.bool h109) ?_
                            refine seq_val (.bool false) r (fun R => y_pick r (b := false) (congrArg Value.bool h110) rfl) rfl fun fr r => ?_
                            refine seq_val (.bool false) r (fun R => y_pick r (b := false) (congrArg Value.bool h109) rfl) rfl fun fr r => ?_
                            refine wpList_nil ?_
                            exact nxy107 false () _ _ _ hD r (hs_cons rfl (hs_cons rfl (hs_cons rfl (hs_cons rfl (hs_cons rfl (hs_cons rfl (hs_cons rfl (hs_cons rfl (hs_cons rfl (hs_cons rfl (hs_cons rfl (hs_cons rfl (hs_cons rfl (hs_cons rfl (hs_cons rfl (hs_cons rfl (hs_cons rfl (hs_cons rfl (hs_cons rfl (hs_cons rfl (hs_cons rfl (hs_cons rfl (hs_cons rfl (hs_cons rfl hs_nil)))))))))))))))))))))))) (hP.pick [0, 1, 2, 3] rfl rfl)
                      · skip
                        have hD := (cond_f h108).symm.trans hD
                        refine seq_skip r rfl rfl rfl (v := .bool false) (congrArg Value.bool h108) (by simp [boolOf]) fun fr r => ?_
                        refine seq_skip r rfl rfl rfl (v := .bool false) (congrArg Value.bool h108) (by simp [boolOf]) fun fr r => ?_
                        refine seq_val (.bool false) r (fun R => y_pick r (b := false) (congrArg Value.bool h108) rfl) rfl fun fr r => ?_
                        refine seq_val (.bool false) r (fun R => y_move r rfl) rfl fun fr r => ?_
                        refine seq_want r rfl rfl rfl (congrArg Value.bool (rfl : false = _)) ?_
                        refine seq_val (.int .i64 x94.2) r (fun R => y_move r rfl) rfl fun fr r => ?_
                        refine seq_want r rfl rfl rfl (congrArg Value.bool (rfl : false = _)) ?_
                        refine seq_val (.pointer (some ⟨b1, 1, none⟩)) r (fun R => y_fieldAddr r (o := 0) rfl fo24_1) rfl fun fr r => ?_
                        refine seq_want r rfl rfl rfl (congrArg Value.bool (rfl : false = _)) ?_
                        refine seq_val (.int .i64 a0.threads) r (fun R => y_load_one r (v := (.int .i64 a0.threads)) rfl (hP.cell (i := 1) rfl) to3 rfl) rfl fun fr r => ?_
                        refine seq_want r rfl rfl rfl (congrArg Value.bool (rfl : false = _)) ?_
                        refine seq_val (.int .i64 (IntKind.i64.wrap (a0.threads - 1))) r (fun R => y_bin r (u := (.int .i64 a0.threads)) (u' := (.int .i64 1)) rfl rfl rfl rfl) rfl fun fr r => ?_
                        refine seq_want r rfl rfl rfl (congrArg Value.bool (rfl : false = _)) ?_
                        refine seq_val (.bool (decide (x94.2 < (IntKind.i64.wrap (a0.threads - 1))))) r (fun R => y_bin r (u := (.int .i64 x94.2)) (u' := (.int .i64 (IntKind.i64.wrap (a0.threads - 1)))) rfl rfl rfl rfl) rfl fun fr r => ?_
                        refine seq_want r rfl rfl rfl (congrArg Value.bool (rfl : false = _)) ?_
                        refine seq_val (.bool (decide (x94.2 < (IntKind.i64.wrap (a0.threads - 1))))) r (fun R => y_move r rfl) rfl fun fr r => ?_
                        refine seq_split (decide (x94.2 < (IntKind.i64.wrap (a0.threads - 1)))) (fun h112 => ?_) (fun h112 => ?_)
                        · skip
                          have hD := (cond_t h112).symm.trans hD
                          refine seq_want r rfl rfl rfl (congrArg Value.bool h112) ?_
                          refine seq_val (.int .u64 x105) r (fun R => y_move r rfl) rfl fun fr r => ?_
                          refine seq_want r rfl rfl rfl (congrArg Value.bool h112) ?_
                          refine seq_val γ59 r (fun R => y_move r rfl) rfl fun fr r => ?_
                          refine seq_want r rfl rfl rfl (congrArg Value.bool h112) ?_
                          refine seq_val (.int .i64 x94.2) r (fun R => y_move r rfl) rfl fun fr r => ?_
                          refine seq_want r rfl rfl rfl (congrArg Value.bool h112) ?_
                          refine seq_val (.int .i64 (IntKind.i64.wrap (3 * x94.2))) r (fun R => y_bin r (u := (.int .i64 3)) (u' := (.int .i64 x94.2)) rfl rfl rfl rfl) rfl fun fr r => ?_
                          refine seq_want r rfl rfl rfl (congrArg Value.bool h112) ?_
                          refine seq_val (.int .i64 x99.2) r (fun R => y_move r rfl) rfl fun fr r => ?_
                          refine seq_want r rfl rfl rfl (congrArg Value.bool h112) ?_
                          refine seq_val (.int .i64 (IntKind.i64.wrap ((IntKind.i64.wrap (3 * x94.2)) + x99.2))) r (fun R => y_bin r (u := (.int .i64 (IntKind.i64.wrap (3 * x94.2)))) (u' := (.int .i64 x99.2)) rfl rfl rfl rfl) rfl fun fr r => ?_
                          refine seq_want r rfl rfl rfl (congrArg Value.bool h112) ?_
                          obtain ⟨x113, hx113, hD⟩ := bindD_elim hD
                          refine seq_val (.pointer (some ⟨rowB γ59, rowO γ59 + (IntKind.i64.wrap ((IntKind.i64.wrap (3 * x94.2)) + x99.2)).toNat * 1, none⟩)) r (fun R => y_rowAddr r (hP.row (i := 3) rfl).ro hx113 sl68 rfl rfl) rfl fun fr r => ?_
                          refine seq_want r rfl rfl rfl (congrArg Value.bool h112) ?_
                          refine seq_val (.int .u64 x113) r (fun R => y_loadL_one r (u := (.int .u64 x113)) (RoAt.at_ (f := u64) (x := x113) (hP.row (i := 3) rfl).ro (fun _ => rfl) hx113) rfl to49) rfl fun fr r => ?_
                          refine seq_want r rfl rfl rfl (congrArg Value.bool h112) ?_
                          refine seq_val (.bool (x105 != x113)) r (fun R => y_bin r (u := (.int .u64 x105)) (u' := (.int .u64 x113)) rfl rfl rfl rfl) rfl fun fr r => ?_
                          refine seq_want r rfl rfl rfl (congrArg Value.bool (rfl : false = _)) ?_
                          refine seq_val (.bool (x105 != x113)) r (fun R => y_pick r (b := true) (congrArg Value.bool h112) rfl) rfl fun fr r => ?_
                          refine seq_val (.bool (x105 != x113)) r (fun R => y_pick r (b := false) (congrArg Value.bool (rfl : false = _)) rfl) rfl fun fr r => ?_
                          refine wpList_nil ?_
                          exact nxy107 (x105 != x113) () _ _ _ hD r (hs_cons rfl (hs_cons rfl (hs_cons rfl (hs_cons rfl (hs_cons rfl (hs_cons rfl (hs_cons rfl (hs_cons rfl (hs_cons rfl (hs_cons rfl (hs_cons rfl (hs_cons rfl (hs_cons rfl (hs_cons rfl (hs_cons rfl (hs_cons rfl (hs_cons rfl (hs_cons rfl (hs_cons rfl (hs_cons rfl (hs_cons rfl (hs_cons rfl (hs_cons rfl (hs_cons rfl hs_nil)))))))))))))))))))))))) (hP.pick [0, 1, 2, 3] rfl rfl)
                        · skip
                          have hD := (cond_f h112).symm.trans hD
                          refine seq_skip r rfl rfl rfl (v := .bool false) (congrArg Value.bool h112) (by simp [boolOf]) fun fr r => ?_
                          refine seq_skip r rfl rfl rfl (v := .bool false) (congrArg Value.bool h112) (by simp [boolOf]) fun fr r => ?_
                          refine seq_skip r rfl rfl rfl (v := .bool false) (congrArg Value.bool h112) (by simp [boolOf]) fun fr r => ?_
                          refine seq_skip r rfl rfl rfl (v := .bool false) (congrArg Value.bool h112) (by simp [boolOf]) fun fr r => ?_
                          refine seq_skip r rfl rfl rfl (v := .bool false) (congrArg Value.bool h112) (by simp [boolOf]) fun fr r => ?_
                          refine seq_skip r rfl rfl rfl (v := .bool false) (congrArg Value.bool h112) (by simp [boolOf]) fun fr r => ?_
                          refine seq_skip r rfl rfl rfl (v := .bool false) (congrArg Value.bool h112) (by simp [boolOf]) fun fr r => ?_
                          refine seq_skip r rfl rfl rfl (v := .bool false) (congrArg Value.bool h112) (by simp [boolOf]) fun fr r => ?_
                          refine seq_skip r rfl rfl rfl (v := .bool false) (congrArg Value.bool h112) (by simp [boolOf]) fun fr r => ?_
                          refine seq_want r rfl rfl rfl (congrArg Value.bool (rfl : false = _)) ?_
                          refine seq_val (.bool false) r (fun R => y_pick r (b := false) (congrArg Value.bool h112) rfl) rfl fun fr r => ?_
                          refine seq_val (.bool false) r (fun R => y_pick r (b := false) (congrArg Value.bool (rfl : false = _)) rfl) rfl fun fr r => ?_
                          refine wpList_nil ?_
                          exact nxy107 false () _ _ _ hD r (hs_cons rfl (hs_cons rfl (hs_cons rfl (hs_cons rfl (hs_cons rfl (hs_cons rfl (hs_cons rfl (hs_cons rfl (hs_cons rfl (hs_cons rfl (hs_cons rfl (hs_cons rfl (hs_cons rfl (hs_cons rfl (hs_cons rfl (hs_cons rfl (hs_cons rfl (hs_cons rfl (hs_cons rfl (hs_cons rfl (hs_cons rfl (hs_cons rfl (hs_cons rfl (hs_cons rfl hs_nil)))))))))))))))))))))))) (hP.pick [0, 1, 2, 3] rfl rfl)
                    · skip
                      rintro x114 γ115 fr w116 g r hP hD
                      have hP : Post No [roK 70 3 putC a1_v a1, cellC b1 ((planC a0)).toArray 24, memK mg20 x77.2.2.2, rowK 49 1 u64 γ59 x58.2.1] w0 w116 := hP
                      refine wp_cond_split (t := x114) (r.ev rfl) (fun h117 => ?_) (fun h117 => ?_)
                      · skip
                        have hD := (cond_t h117).symm.trans hD
                        refine wp_seq ?_
                        refine wp_region_lit ?_
                        refine seq_val (.bool false) r (fun R => y_assign r rfl) rfl fun fr r => ?_
                        refine wpList_nil ?_
                        refine wp_ret ?_
                        refine rty101 (Lp.ret false) _ _ hD fun hD => ?_
                        refine rty96 false _ _ hD fun hD => ?_
                        have hv : false = res := Option.some.inj hD
                        try dsimp only [Exit.then, Exit.inBlock]
                        refine ret_tmp (fn := Try.f9) r (t := 6) rfl (v := (.bool false)) rfl ?_
                        subst hv
                        exact ⟨rfl, hP.chg.below⟩
                      · skip
                        have hD := (cond_f h117).symm.trans hD
                        refine wp_skip ?_
                        refine wp_region_lit ?_
                        refine seq_val (.int .i64 x99.2) r (fun R => y_move r rfl) rfl fun fr r => ?_
                        refine seq_val (.int .i64 (IntKind.i64.wrap (x99.2 + 1))) r (fun R => y_bin r (u := (.int .i64 x99.2)) (u' := (.int .i64 1)) rfl rfl rfl rfl) rfl fun fr r => ?_
                        refine seq_val (.int .i64 (IntKind.i64.wrap (x99.2 + 1))) r (fun R => y_assign r rfl) rfl fun fr r => ?_
                        refine wpList_nil ?_
                        exact nxy101 (x99.1, (IntKind.i64.wrap (x99.2 + 1))) () _ _ _ hD r (hs_cons rfl (hs_cons rfl (hs_cons rfl (hs_cons rfl (hs_cons rfl (hs_cons rfl (hs_cons rfl (hs_cons rfl (hs_cons rfl (hs_cons rfl (hs_cons rfl (hs_cons rfl (hs_cons rfl (hs_cons rfl (hs_cons rfl (hs_cons rfl (hs_cons rfl (hs_cons rfl (hs_cons rfl (hs_cons rfl (hs_cons rfl hs_nil))))))))))))))))))))) (hP.pick [0, 1, 2, 3] rfl rfl)
                  · skip
                    have hD := (cond_f h103).symm.trans hD
                    refine wp_exit ?_
                    exact bky101 (x99.1, x99.2) () _ _ _ hD r (hs_cons rfl (hs_cons rfl (hs_cons rfl (hs_cons rfl (hs_cons rfl (hs_cons rfl (hs_cons rfl (hs_cons rfl (hs_cons rfl (hs_cons rfl (hs_cons rfl (hs_cons rfl (hs_cons rfl (hs_cons rfl (hs_cons rfl (hs_cons rfl (hs_cons rfl (hs_cons rfl (hs_cons rfl (hs_cons rfl (hs_cons rfl hs_nil))))))))))))))))))))) (hP.pick [0, 1, 2, 3] rfl rfl)
                · skip
                  rintro x118 γ119 fr w120 g r hP hD
                  have hP : Post No [roK 70 3 putC a1_v a1, cellC b1 ((planC a0)).toArray 24, memK mg20 x77.2.2.2, rowK 49 1 u64 γ59 x58.2.1] w0 w120 := hP
                  refine wp_region_lit ?_
                  refine seq_val (.int .i64 x94.2) r (fun R => y_move r rfl) rfl fun fr r => ?_
                  refine seq_val (.int .i64 (IntKind.i64.wrap (x94.2 + 1))) r (fun R => y_bin r (u := (.int .i64 x94.2)) (u' := (.int .i64 1)) rfl rfl rfl rfl) rfl fun fr r => ?_
                  refine seq_val (.int .i64 (IntKind.i64.wrap (x94.2 + 1))) r (fun R => y_assign r rfl) rfl fun fr r => ?_
                  refine wpList_nil ?_
                  exact nxy96 (x118.1, (IntKind.i64.wrap (x94.2 + 1))) () _ _ _ hD r (hs_cons rfl (hs_cons rfl (hs_cons rfl (hs_cons rfl (hs_cons rfl (hs_cons rfl (hs_cons rfl (hs_cons rfl (hs_cons rfl (hs_cons rfl (hs_cons rfl (hs_cons rfl (hs_cons rfl (hs_cons rfl (hs_cons rfl (hs_cons rfl (hs_cons rfl (hs_cons rfl (hs_cons rfl hs_nil))))))))))))))))))) (hP.pick [0, 1, 2, 3] rfl rfl)
              · skip
                have hD := (cond_f h98).symm.trans hD
                refine wp_exit ?_
                exact bky96 (x94.1, x94.2) () _ _ _ hD r (hs_cons rfl (hs_cons rfl (hs_cons rfl (hs_cons rfl (hs_cons rfl (hs_cons rfl (hs_cons rfl (hs_cons rfl (hs_cons rfl (hs_cons rfl (hs_cons rfl (hs_cons rfl (hs_cons rfl (hs_cons rfl (hs_cons rfl (hs_cons rfl (hs_cons rfl (hs_cons rfl (hs_cons rfl hs_nil))))))))))))))))))) (hP.pick [0, 1, 2, 3] rfl rfl)
            · skip
              rintro x121 γ122 fr w123 g r hP hD
              have hP : Post No [roK 70 3 putC a1_v a1, cellC b1 ((planC a0)).toArray 24, memK mg20 x77.2.2.2, rowK 49 1 u64 γ59 x58.2.1] w0 w123 := hP
              refine wp_seq ?_
              refine wp_region_lit ?_
              refine seq_val (.bool true) r (fun R => y_assign r rfl) rfl fun fr r => ?_
              refine wpList_nil ?_
              refine wp_ret ?_
              have hv : true = res := Option.some.inj hD
              try dsimp only [Exit.then, Exit.inBlock]
              refine ret_tmp (fn := Try.f9) r (t := 6) rfl (v := (.bool true)) rfl ?_
              subst hv
              exact ⟨rfl, hP.chg.below⟩

end Go.Proofs.Ytphnnjiaiemkcaa.Wk
