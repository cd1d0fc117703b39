/- Written by a program of ours (wip/gen.py): a law -/
import Derived.Test.YtphnnjiaiemkcaaGreatQrmL11
set_option linter.unusedVariables false
namespace Go.Proofs.YtphnnjiaiemkcaaGreat.Wk
open Go.RowKit
theorem cl12 : callable Tryz.prog 12 = true := by kernel_rfl

theorem cl13 : callable Tryz.prog 13 = true := by kernel_rfl

theorem cl14 : callable Tryz.prog 14 = true := by kernel_rfl

theorem cl19 : callable Tryz.prog 19 = true := by kernel_rfl

def D.cubiclelaw11_RetireMore (fu : Nat) (a0 : Plan) (a1 : List Int) : Option (Bool) := (Option.bind ((D.cubiclelaw11_awake fu ).bind (fun (x6 : Bool) => (bif (!x6) then (some true) else (bif (!(D.cubiclelaw11_few a0)) then (some true) else (bif (decide ((a1.length : Int) > 60)) then (some true) else (some (decide (a0.nodes ≤ (IntKind.i64.wrap (3 * a0.threads)))))))))) (fun (x12 : Bool) => (bif x12 then ((D.cubiclelaw11_awake fu ).bind (fun (x16 : Bool) => (some x16))) else ((D.cubiclelaw11_popped fu a0 (⟨0, 2, 0⟩ : State)).bind (fun (x18 : Mem) => (loopThen (fun (x22 : Int × Mem) => (bif (decide (x22.1 ≤ (IntKind.i64.wrap (3 * a0.threads)))) then ((D.mem_Memory_Cap fu x22.2 0).bind (fun (x31 : Cap) => ((D.prog_Run_int fu (fu, (D.retire_Put a0 0 x22.1)) x22.2 x31 9).bind (fun (x33 : Int × Int × Bool × Mem) => (some (Lp.next ((IntKind.i64.wrap (x22.1 + 1)), x33.2.2.2))))))) else (some (Lp.brk (x22.1, x22.2))))) fu (0, x18) (fun (x35 : Int × Mem) => (loopThen (fun (x38 : Int × Mem) => (Option.bind (bif (decide (x38.1 < (a1.length : Int))) then (some (decide (x38.1 < (IntKind.i64.wrap (3 * a0.threads))))) else (some false)) (fun (x44 : Bool) => (bif x44 then (Option.bind ((getI a1 x38.1).bind (fun (x49 : Int) => (bif (decide (x49 ≥ 0)) then ((getI a1 x38.1).bind (fun (x51 : Int) => (some (decide (x51 < a0.nodes))))) else (some false)))) (fun (x54 : Bool) => (Option.bind (bif x54 then ((getI a1 x38.1).bind (fun (x59 : Int) => ((D.mem_Memory_Cap fu x38.2 0).bind (fun (x61 : Cap) => ((D.prog_Run_None fu (fu, (D.hazard_Set a0 (IntKind.i64.wrap (x38.1.tdiv 3)) (x38.1.tmod 3) x59)) x38.2 x61 9).bind (fun (x62 : Unit × Int × Bool × Mem) => (some x62.2.2.2))))))) else (some x38.2)) (fun (x64 : Mem) => (some (Lp.next ((IntKind.i64.wrap (x38.1 + 1)), x64))))))) else (some (Lp.brk (x38.1, x38.2))))))) fu (0, x35.2) (fun (x67 : Int × Mem) => ((D.mem_Memory_Cap fu x67.2 0).bind (fun (x74 : Cap) => ((D.prog_Run_int fu (fu, (D.retire_Scan (fu + 1) a0 0)) x67.2 x74 100000).bind (fun (x76 : Int × Int × Bool × Mem) => (Option.bind (bif x76.2.2.1 then (bif (decide (x76.1 ≥ 1)) then ((D.retire_List fu a0 x76.2.2.2 0 0).bind (fun (x81 : List Int) => (some ((x81.length : Int) == (IntKind.i64.wrap ((IntKind.i64.wrap ((IntKind.i64.wrap (3 * a0.threads)) + 1)) - x76.1)))))) else (some false)) else (some false)) (fun (x87 : Bool) => (some x87))))))))))))))))

set_option maxRecDepth 20000 in
set_option maxHeartbeats 2000000 in
theorem c_cubiclelaw11_RetireMore {fu : Nat} (w0 : World) (a0 : Plan) {a1_v : Value} (a1 : List Int) (a1_h : RoAt 3 1 i64 a1_v a1 w0) {res : Bool} (hD : D.cubiclelaw11_RetireMore fu a0 a1 = some res) :
    Calls Tryz.prog 4 #[.agg (planC a0).toArray, a1_v] w0 (PureRes (.bool res) w0) := by
  refine enter (l := [.agg (planC a0).toArray, a1_v]) Tryz.func4 rfl 120 rfl rfl fun fr r => ?_
  have hP : Post No [] w0 w0 := Post.nil w0
  have hP : Post No [roK 3 1 i64 a1_v a1] w0 w0 := hP.addRo norw_nil a1_h rfl a1_h.lt
  unfold D.cubiclelaw11_RetireMore at hD
  refine wp_seq ?_
  refine wp_region_lit ?_
  refine seq_new (.cells ((planC a0)).toArray 23 (0, 0)) r (fun R => y_box r (v := (.agg (planC a0).toArray)) rfl) rfl fun fr b1 w2 n3 r => ?_
  have hP : Post No [roK 3 1 i64 a1_v a1, cellC b1 ((planC a0)).toArray 23] w0 w2 := hP.new n3
  refine seq_val (.bool false) r (fun R => y_assign r rfl) rfl fun fr r => ?_
  refine wpList_nil ?_
  refine wp_seq ?_
  refine wp_seq ?_
  refine wp_joinG (N := 120) (Y := Bool) (G := Unit) (fun x γ => [(0, (.agg (planC a0).toArray)), (1, a1_v), (2, (.pointer (some ⟨b1, 0, none⟩))), (4, (.bool false)), (30, (.bool x))]) (fun x γ w => Post No [roK 3 1 i64 a1_v a1, cellC b1 ((planC a0)).toArray 23] w0 w) hD ?_ ?_
  · skip
    rintro y5 RPy5 nxy5 hD
    refine wp_region_lit ?_
    obtain ⟨x6, hx6, hD⟩ := bindD_elim hD
    refine seq_call r (c_cubiclelaw11_awake w2  hx6) (fun R hc => y_call r rfl cl12 hc) rfl ?_
    rintro _ w7 ⟨rfl, hb⟩
    refine ⟨_, rfl, fun fr r => ?_⟩
    have hP : Post No [roK 3 1 i64 a1_v a1, cellC b1 ((planC a0)).toArray 23] w0 w7 := hP.below hb
    refine seq_val (.bool (!x6)) r (fun R => y_un r (u := (.bool x6)) rfl rfl) rfl fun fr r => ?_
    refine seq_val (.bool (!x6)) r (fun R => y_move r rfl) rfl fun fr r => ?_
    refine seq_split (!x6) (fun h8 => ?_) (fun h8 => ?_)
    · skip
      have hD := (cond_t h8).symm.trans hD
      refine seq_skip r rfl rfl rfl (v := .bool true) (congrArg Value.bool h8) (by simp [boolOf]) fun fr r => ?_
      refine seq_skip r rfl rfl rfl (v := .bool true) (congrArg Value.bool h8) (by simp [boolOf]) fun fr r => ?_
      refine seq_skip r rfl rfl rfl (v := .bool true) (congrArg Value.bool h8) (by simp [boolOf]) fun fr r => ?_
      refine seq_val (.bool true) r (fun R => y_pick r (b := true) (congrArg Value.bool h8) rfl) rfl fun fr r => ?_
      refine seq_val (.bool true) r (fun R => y_move r rfl) rfl fun fr r => ?_
      refine seq_skip r rfl rfl rfl (v := .bool true) (congrArg Value.bool (rfl : true = _)) (by simp [boolOf]) fun fr r => ?_
      refine seq_skip r rfl rfl rfl (v := .bool true) (congrArg Value.bool (rfl : true = _)) (by simp [boolOf]) fun fr r => ?_
      refine seq_skip r rfl rfl rfl (v := .bool true) (congrArg Value.bool (rfl : true = _)) (by simp [boolOf]) fun fr r => ?_
      refine seq_val (.bool true) r (fun R => y_pick r (b := true) (congrArg Value.bool (rfl : true = _)) rfl) rfl fun fr r => ?_
      refine seq_val (.bool true) r (fun R => y_move r rfl) rfl fun fr r => ?_
      refine seq_skip r rfl rfl rfl (v := .bool true) (congrArg Value.bool (rfl : true = _)) (by simp [boolOf]) fun fr r => ?_
      refine seq_skip r rfl rfl rfl (v := .bool true) (congrArg Value.bool (rfl : true = _)) (by simp [boolOf]) fun fr r => ?_
      refine seq_skip r rfl rfl rfl (v := .bool true) (congrArg Value.bool (rfl : true = _)) (by simp [boolOf]) fun fr r => ?_
      refine seq_skip r rfl rfl rfl (v := .bool true) (congrArg Value.bool (rfl : true = _)) (by simp [boolOf]) fun fr r => ?_
      refine seq_skip r rfl rfl rfl (v := .bool true) (congrArg Value.bool (rfl : true = _)) (by simp [boolOf]) fun fr r => ?_
      refine seq_skip r rfl rfl rfl (v := .bool true) (congrArg Value.bool (rfl : true = _)) (by simp [boolOf]) fun fr r => ?_
      refine seq_val (.bool true) r (fun R => y_pick r (b := true) (congrArg Value.bool (rfl : true = _)) rfl) rfl fun fr r => ?_
      refine wpList_nil ?_
      exact nxy5 true () _ _ _ hD r (hs_cons rfl (hs_cons rfl (hs_cons rfl (hs_cons rfl (hs_cons rfl hs_nil))))) (hP.pick [0, 1] rfl rfl)
    · skip
      have hD := (cond_f h8).symm.trans hD
      refine seq_want r rfl rfl rfl (congrArg Value.bool h8) ?_
      refine seq_val (.agg (planC a0).toArray) r (fun R => y_load_agg r (cs := (planC a0)) (n := 6) rfl (hP.cell (i := 1) rfl) ta23 rfl) rfl fun fr r => ?_
      refine seq_want r rfl rfl rfl (congrArg Value.bool h8) ?_
      refine seq_call r (c_cubiclelaw11_few w7 a0) (fun R hc => y_call r rfl cl13 hc) rfl ?_
      rintro _ w9 ⟨rfl, hb⟩
      refine ⟨_, rfl, fun fr r => ?_⟩
      have hP : Post No [roK 3 1 i64 a1_v a1, cellC b1 ((planC a0)).toArray 23] w0 w9 := hP.below hb
      refine seq_want r rfl rfl rfl (congrArg Value.bool h8) ?_
      refine seq_val (.bool (!(D.cubiclelaw11_few a0))) r (fun R => y_un r (u := (.bool (D.cubiclelaw11_few a0))) rfl rfl) rfl fun fr r => ?_
      refine seq_val (.bool (!(D.cubiclelaw11_few a0))) r (fun R => y_pick r (b := false) (congrArg Value.bool h8) rfl) rfl fun fr r => ?_
      refine seq_val (.bool (!(D.cubiclelaw11_few a0))) r (fun R => y_move r rfl) rfl fun fr r => ?_
      refine seq_split (!(D.cubiclelaw11_few a0)) (fun h10 => ?_) (fun h10 => ?_)
      · skip
        have hD := (cond_t h10).symm.trans hD
        refine seq_skip r rfl rfl rfl (v := .bool true) (congrArg Value.bool h10) (by simp [boolOf]) fun fr r => ?_
        refine seq_skip r rfl rfl rfl (v := .bool true) (congrArg Value.bool h10) (by simp [boolOf]) fun fr r => ?_
        refine seq_skip r rfl rfl rfl (v := .bool true) (congrArg Value.bool h10) (by simp [boolOf]) fun fr r => ?_
        refine seq_val (.bool true) r (fun R => y_pick r (b := true) (congrArg Value.bool h10) rfl) rfl fun fr r => ?_
        refine seq_val (.bool true) r (fun R => y_move r rfl) rfl fun fr r => ?_
        refine seq_skip r rfl rfl rfl (v := .bool true) (congrArg Value.bool (rfl : true = _)) (by simp [boolOf]) fun fr r => ?_
        refine seq_skip r rfl rfl rfl (v := .bool true) (congrArg Value.bool (rfl : true = _)) (by simp [boolOf]) fun fr r => ?_
        refine seq_skip r rfl rfl rfl (v := .bool true) (congrArg Value.bool (rfl : true = _)) (by simp [boolOf]) fun fr r => ?_
        refine seq_skip r rfl rfl rfl (v := .bool true) (congrArg Value.bool (rfl : true = _)) (by simp [boolOf]) fun fr r => ?_
        refine seq_skip r rfl rfl rfl (v := .bool true) (congrArg Value.bool (rfl : true = _)) (by simp [boolOf]) fun fr r => ?_
        refine seq_skip r rfl rfl rfl (v := .bool true) (congrArg Value.bool (rfl : true = _)) (by simp [boolOf]) fun fr r => ?_
        refine seq_val (.bool true) r (fun R => y_pick r (b := true) (congrArg Value.bool (rfl : true = _)) rfl) rfl fun fr r => ?_
        refine wpList_nil ?_
        exact nxy5 true () _ _ _ hD r (hs_cons rfl (hs_cons rfl (hs_cons rfl (hs_cons rfl (hs_cons rfl hs_nil))))) (hP.pick [0, 1] rfl rfl)
      · skip
        have hD := (cond_f h10).symm.trans hD
        refine seq_want r rfl rfl rfl (congrArg Value.bool h10) ?_
        refine seq_val a1_v r (fun R => y_move r rfl) rfl fun fr r => ?_
        refine seq_want r rfl rfl rfl (congrArg Value.bool h10) ?_
        refine seq_val (.int .i64 (a1.length : Int)) r (fun R => y_rowLen r (hP.ro (i := 0) rfl) is24 rfl) rfl fun fr r => ?_
        refine seq_want r rfl rfl rfl (congrArg Value.bool h10) ?_
        refine seq_val (.bool (decide ((a1.length : Int) > 60))) r (fun R => y_bin r (u := (.int .i64 (a1.length : Int))) (u' := (.int .i64 60)) rfl rfl rfl rfl) rfl fun fr r => ?_
        refine seq_val (.bool (decide ((a1.length : Int) > 60))) r (fun R => y_pick r (b := false) (congrArg Value.bool h10) rfl) rfl fun fr r => ?_
        refine seq_val (.bool (decide ((a1.length : Int) > 60))) r (fun R => y_move r rfl) rfl fun fr r => ?_
        refine seq_split (decide ((a1.length : Int) > 60)) (fun h11 => ?_) (fun h11 => ?_)
        · skip
          have hD := (cond_t h11).symm.trans hD
          refine seq_skip r rfl rfl rfl (v := .bool true) (congrArg Value.bool h11) (by simp [boolOf]) fun fr r => ?_
          refine seq_skip r rfl rfl rfl (v := .bool true) (congrArg Value.bool h11) (by simp [boolOf]) fun fr r => ?_
          refine seq_skip r rfl rfl rfl (v := .bool true) (congrArg Value.bool h11) (by simp [boolOf]) fun fr r => ?_
          refine seq_skip r rfl rfl rfl (v := .bool true) (congrArg Value.bool h11) (by simp [boolOf]) fun fr r => ?_
          refine seq_skip r rfl rfl rfl (v := .bool true) (congrArg Value.bool h11) (by simp [boolOf]) fun fr r => ?_
          refine seq_skip r rfl rfl rfl (v := .bool true) (congrArg Value.bool h11) (by simp [boolOf]) fun fr r => ?_
          refine seq_val (.bool true) r (fun R => y_pick r (b := true) (congrArg Value.bool h11) rfl) rfl fun fr r => ?_
          refine wpList_nil ?_
          exact nxy5 true () _ _ _ hD r (hs_cons rfl (hs_cons rfl (hs_cons rfl (hs_cons rfl (hs_cons rfl hs_nil))))) (hP.pick [0, 1] rfl rfl)
        · skip
          have hD := (cond_f h11).symm.trans hD
          refine seq_want r rfl rfl rfl (congrArg Value.bool h11) ?_
          refine seq_val (.pointer (some ⟨b1, 0, none⟩)) r (fun R => y_fieldAddr r (o := 0) rfl fo23_0) rfl fun fr r => ?_
          refine seq_want r rfl rfl rfl (congrArg Value.bool h11) ?_
          refine seq_val (.int .i64 a0.nodes) r (fun R => y_load_one r (v := (.int .i64 a0.nodes)) rfl (hP.cell (i := 1) rfl) to3 rfl) rfl fun fr r => ?_
          refine seq_want r rfl rfl rfl (congrArg Value.bool h11) ?_
          refine seq_val (.pointer (some ⟨b1, 1, none⟩)) r (fun R => y_fieldAddr r (o := 0) rfl fo23_1) rfl fun fr r => ?_
          refine seq_want r rfl rfl rfl (congrArg Value.bool h11) ?_
          refine seq_val (.int .i64 a0.threads) r (fun R => y_load_one r (v := (.int .i64 a0.threads)) rfl (hP.cell (i := 1) rfl) to3 rfl) rfl fun fr r => ?_
          refine seq_want r rfl rfl rfl (congrArg Value.bool h11) ?_
          refine seq_val (.int .i64 (IntKind.i64.wrap (3 * a0.threads))) r (fun R => y_bin r (u := (.int .i64 3)) (u' := (.int .i64 a0.threads)) rfl rfl rfl rfl) rfl fun fr r => ?_
          refine seq_want r rfl rfl rfl (congrArg Value.bool h11) ?_
          refine seq_val (.bool (decide (a0.nodes ≤ (IntKind.i64.wrap (3 * a0.threads))))) r (fun R => y_bin r (u := (.int .i64 a0.nodes)) (u' := (.int .i64 (IntKind.i64.wrap (3 * a0.threads)))) rfl rfl rfl rfl) rfl fun fr r => ?_
          refine seq_val (.bool (decide (a0.nodes ≤ (IntKind.i64.wrap (3 * a0.threads))))) r (fun R => y_pick r (b := false) (congrArg Value.bool h11) rfl) rfl fun fr r => ?_
          refine wpList_nil ?_
          exact nxy5 (decide (a0.nodes ≤ (IntKind.i64.wrap (3 * a0.threads)))) () _ _ _ hD r (hs_cons rfl (hs_cons rfl (hs_cons rfl (hs_cons rfl (hs_cons rfl hs_nil))))) (hP.pick [0, 1] rfl rfl)
  · skip
    rintro x12 γ13 fr w14 g r hP hD
    have hP : Post No [roK 3 1 i64 a1_v a1, cellC b1 ((planC a0)).toArray 23] w0 w14 := hP
    refine wp_cond_split (t := x12) (r.ev rfl) (fun h15 => ?_) (fun h15 => ?_)
    · skip
      have hD := (cond_t h15).symm.trans hD
      refine wp_seq ?_
      refine wp_region_lit ?_
      obtain ⟨x16, hx16, hD⟩ := bindD_elim hD
      refine seq_call r (c_cubiclelaw11_awake w14  hx16) (fun R hc => y_call r rfl cl12 hc) rfl ?_
      rintro _ w17 ⟨rfl, hb⟩
      refine ⟨_, rfl, fun fr r => ?_⟩
      have hP : Post No [roK 3 1 i64 a1_v a1, cellC b1 ((planC a0)).toArray 23] w0 w17 := hP.below hb
      refine seq_val (.bool x16) r (fun R => y_assign r rfl) rfl fun fr r => ?_
      refine wpList_nil ?_
      refine wp_ret ?_
      have hv : x16 = res := Option.some.inj hD
      try dsimp only [Exit.then, Exit.inBlock]
      refine ret_tmp (fn := Tryz.f4) r (t := 4) rfl (v := (.bool x16)) rfl ?_
      subst hv
      exact ⟨rfl, hP.chg.below⟩
    · skip
      have hD := (cond_f h15).symm.trans hD
      refine wp_skip ?_
      refine wp_seq ?_
      refine wp_region_lit ?_
      refine seq_val (.agg (planC a0).toArray) r (fun R => y_load_agg r (cs := (planC a0)) (n := 6) rfl (hP.cell (i := 1) rfl) ta23 rfl) rfl fun fr r => ?_
      refine seq_val (.agg (stateC (⟨0, 2, 0⟩ : State)).toArray) r (fun R => y_build r (by kernel_rfl)) rfl fun fr r => ?_
      obtain ⟨x18, hx18, hD⟩ := bindD_elim hD
      refine seq_call r (c_cubiclelaw11_popped w14 a0 (⟨0, 2, 0⟩ : State) hx18) (fun R hc => y_call r rfl cl14 hc) rfl ?_
      rintro _ w19 ⟨mg20, rfl, hq⟩
      refine ⟨_, rfl, fun fr r => ?_⟩
      have hP : Post No [roK 3 1 i64 a1_v a1, cellC b1 ((planC a0)).toArray 23, memK mg20 x18] w0 w19 := hP.add hq
      refine seq_val (.pointer (some ⟨mg20.mb, 0, none⟩)) r (fun R => y_assign r rfl) rfl fun fr r => ?_
      refine wpList_nil ?_
      refine wp_seq ?_
      refine wp_seq ?_
      refine wp_region_lit ?_
      refine seq_val (.pointer (some ⟨mg20.mb, 0, none⟩)) r (fun R => y_move r rfl) rfl fun fr r => ?_
      refine seq_val (.bool false) r (fun R => y_bin r (u := (.pointer (some ⟨mg20.mb, 0, none⟩))) (u' := (.pointer none)) (v := (.bool false)) rfl rfl rfl rfl) rfl fun fr r => ?_
      refine wpList_nil ?_
      refine wp_cond_split (t := false) (r.ev rfl) (fun h => absurd ((rfl : false = _).symm.trans h) (by decide)) (fun _ => ?_)
      refine wp_skip ?_
      refine wp_seq ?_
      refine wp_seq ?_
      refine wp_region_lit ?_
      refine seq_val (.int .i64 0) r (fun R => y_assign r rfl) rfl fun fr r => ?_
      refine wpList_nil ?_
      refine wp_loopG (X := Int × Mem) (G := Unit) (x0 := (0, x18)) (fun x γ => [(0, (.agg (planC a0).toArray)), (1, a1_v), (2, (.pointer (some ⟨b1, 0, none⟩))), (4, (.bool false)), (30, (.bool x12)), (5, (.pointer (some ⟨mg20.mb, 0, none⟩))), (36, (.bool false)), (6, (.int .i64 x.1))]) (fun x γ w => Post No [roK 3 1 i64 a1_v a1, cellC b1 ((planC a0)).toArray 23, memK mg20 x.2] w0 w) () r (hs_cons rfl (hs_cons rfl (hs_cons rfl (hs_cons rfl (hs_cons rfl (hs_cons rfl (hs_cons rfl (hs_cons rfl hs_nil)))))))) hP hD ?_ ?_
      · skip
        rintro x22 γ23 fr w25 g y24 RPy24 nxy24 bky24 rty24 r hP hD
        have hP : Post No [roK 3 1 i64 a1_v a1, cellC b1 ((planC a0)).toArray 23, memK mg20 x22.2] w0 w25 := hP
        refine wp_seq ?_
        refine wp_seq ?_
        refine wp_region_lit ?_
        refine seq_val (.int .i64 x22.1) r (fun R => y_move r rfl) rfl fun fr r => ?_
        refine seq_val (.pointer (some ⟨b1, 1, none⟩)) r (fun R => y_fieldAddr r (o := 0) rfl fo23_1) rfl fun fr r => ?_
        refine seq_val (.int .i64 a0.threads) r (fun R => y_load_one r (v := (.int .i64 a0.threads)) rfl (hP.cell (i := 1) rfl) to3 rfl) rfl fun fr r => ?_
        refine seq_val (.int .i64 (IntKind.i64.wrap (3 * a0.threads))) r (fun R => y_bin r (u := (.int .i64 3)) (u' := (.int .i64 a0.threads)) rfl rfl rfl rfl) rfl fun fr r => ?_
        refine seq_val (.bool (decide (x22.1 ≤ (IntKind.i64.wrap (3 * a0.threads))))) r (fun R => y_bin r (u := (.int .i64 x22.1)) (u' := (.int .i64 (IntKind.i64.wrap (3 * a0.threads)))) rfl rfl rfl rfl) rfl fun fr r => ?_
        refine wpList_nil ?_
        refine wp_cond_split (t := (decide (x22.1 ≤ (IntKind.i64.wrap (3 * a0.threads))))) (r.ev rfl) (fun h26 => ?_) (fun h26 => ?_)
        · skip
          have hD := (cond_t h26).symm.trans hD
          refine wp_skip ?_
          refine wp_seq ?_
          refine wp_block ?_
          refine wp_region_lit ?_
          refine seq_val (.agg (planC a0).toArray) r (fun R => y_load_agg r (cs := (planC a0)) (n := 6) rfl (hP.cell (i := 1) rfl) ta23 rfl) rfl fun fr r => ?_
          refine seq_val (.int .i64 x22.1) r (fun R => y_move r rfl) rfl fun fr r => ?_
          refine seq_call r (c_retire_Put (F := No) (n := fu) (fun _ h => h.elim) a0 0 x22.1) (fun R hc => y_call r rfl cl17 hc) rfl ?_
          rintro _ w27 ⟨v28, rfl, hb, hr29⟩
          refine ⟨_, rfl, fun fr r => ?_⟩
          have hP : Post No [roK 3 1 i64 a1_v a1, cellC b1 ((planC a0)).toArray 23, memK mg20 x22.2, progK Tryz.prog encInt (fu, (D.retire_Put a0 0 x22.1)) v28 (rg w25.heap.size w27.heap.size)] w0 w27 := hP.addProg hb hr29
          refine seq_val (.pointer (some ⟨mg20.mb, 0, none⟩)) r (fun R => y_move r rfl) rfl fun fr r => ?_
          refine seq_val (.pointer (some ⟨mg20.mb, 0, none⟩)) r (fun R => y_move r rfl) rfl fun fr r => ?_
          obtain ⟨x31, hx31, hD⟩ := bindD_elim hD
          refine seq_call r (c_mem_Memory_Cap w27 x22.2 (hP.mem (i := 2) rfl) 0 hx31) (fun R hc => y_call r rfl cl18 hc) rfl ?_
          rintro _ w32 ⟨rfl, hb⟩
          refine ⟨_, rfl, fun fr r => ?_⟩
          have hP : Post No [roK 3 1 i64 a1_v a1, cellC b1 ((planC a0)).toArray 23, memK mg20 x22.2, progK Tryz.prog encInt (fu, (D.retire_Put a0 0 x22.1)) v28 (rg w25.heap.size w27.heap.size)] w0 w32 := hP.below hb
          obtain ⟨x33, hx33, hD⟩ := bindD_elim hD
          refine seq_call r (c_prog_Run_int w32 (fu, (D.retire_Put a0 0 x22.1)) x22.2 x31 9 (hP.sep.pk [3, 2] rfl rfl) hx33) (fun R hc => y_call r rfl cl16 hc) rfl ?_
          rintro _ w34 ⟨rfl, hq⟩
          refine ⟨_, rfl, fun fr r => ?_⟩
          have hP : Post No [roK 3 1 i64 a1_v a1, cellC b1 ((planC a0)).toArray 23, memK mg20 x33.2.2.2, progK Tryz.prog encInt (fu, (D.retire_Put a0 0 x22.1)) v28 (rg w25.heap.size w27.heap.size)] w0 w34 := hP.setN (i := 2) rfl hq
          refine wpList_nil ?_
          refine wp_region_lit ?_
          refine seq_val (.int .i64 x22.1) r (fun R => y_move r rfl) rfl fun fr r => ?_
          refine seq_val (.int .i64 (IntKind.i64.wrap (x22.1 + 1))) r (fun R => y_bin r (u := (.int .i64 x22.1)) (u' := (.int .i64 1)) rfl rfl rfl rfl) rfl fun fr r => ?_
          refine seq_val (.int .i64 (IntKind.i64.wrap (x22.1 + 1))) r (fun R => y_assign r rfl) rfl fun fr r => ?_
          refine wpList_nil ?_
          exact nxy24 ((IntKind.i64.wrap (x22.1 + 1)), x33.2.2.2) () _ _ _ hD r (hs_cons rfl (hs_cons rfl (hs_cons rfl (hs_cons rfl (hs_cons rfl (hs_cons rfl (hs_cons rfl (hs_cons rfl hs_nil)))))))) (hP.pick [0, 1, 2] rfl rfl)
        · skip
          have hD := (cond_f h26).symm.trans hD
          refine wp_exit ?_
          exact bky24 (x22.1, x22.2) () _ _ _ hD r (hs_cons rfl (hs_cons rfl (hs_cons rfl (hs_cons rfl (hs_cons rfl (hs_cons rfl (hs_cons rfl (hs_cons rfl hs_nil)))))))) (hP.pick [0, 1, 2] rfl rfl)
      · skip
        rintro x35 γ36 fr w37 g r hP hD
        have hP : Post No [roK 3 1 i64 a1_v a1, cellC b1 ((planC a0)).toArray 23, memK mg20 x35.2] w0 w37 := hP
        refine wp_seq ?_
        refine wp_seq ?_
        refine wp_region_lit ?_
        refine seq_val (.int .i64 0) r (fun R => y_assign r rfl) rfl fun fr r => ?_
        refine wpList_nil ?_
        refine wp_loopG (X := Int × Mem) (G := Unit) (x0 := (0, x35.2)) (fun x γ => [(0, (.agg (planC a0).toArray)), (1, a1_v), (2, (.pointer (some ⟨b1, 0, none⟩))), (4, (.bool false)), (30, (.bool x12)), (5, (.pointer (some ⟨mg20.mb, 0, none⟩))), (36, (.bool false)), (6, (.int .i64 x35.1)), (7, (.int .i64 x.1))]) (fun x γ w => Post No [roK 3 1 i64 a1_v a1, cellC b1 ((planC a0)).toArray 23, memK mg20 x.2] w0 w) () r (hs_cons rfl (hs_cons rfl (hs_cons rfl (hs_cons rfl (hs_cons rfl (hs_cons rfl (hs_cons rfl (hs_cons rfl (hs_cons rfl hs_nil))))))))) hP hD ?_ ?_
        · skip
          rintro x38 γ39 fr w41 g y40 RPy40 nxy40 bky40 rty40 r hP hD
          have hP : Post No [roK 3 1 i64 a1_v a1, cellC b1 ((planC a0)).toArray 23, memK mg20 x38.2] w0 w41 := hP
          refine wp_seq ?_
          refine wp_seq ?_
          refine wp_joinG (N := 120) (Y := Bool) (G := Unit) (fun x γ => [(0, (.agg (planC a0).toArray)), (1, a1_v), (2, (.pointer (some ⟨b1, 0, none⟩))), (4, (.bool false)), (30, (.bool x12)), (5, (.pointer (some ⟨mg20.mb, 0, none⟩))), (36, (.bool false)), (6, (.int .i64 x35.1)), (7, (.int .i64 x38.1)), (61, (.bool x))]) (fun x γ w => Post No [roK 3 1 i64 a1_v a1, cellC b1 ((planC a0)).toArray 23, memK mg20 x38.2] w0 w) hD ?_ ?_
          · skip
            rintro y42 RPy42 nxy42 hD
            refine wp_region_lit ?_
            refine seq_val (.int .i64 x38.1) r (fun R => y_move r rfl) rfl fun fr r => ?_
            refine seq_val a1_v r (fun R => y_move r rfl) rfl fun fr r => ?_
            refine seq_val (.int .i64 (a1.length : Int)) r (fun R => y_rowLen r (hP.ro (i := 0) rfl) is24 rfl) rfl fun fr r => ?_
            refine seq_val (.bool (decide (x38.1 < (a1.length : Int)))) r (fun R => y_bin r (u := (.int .i64 x38.1)) (u' := (.int .i64 (a1.length : Int))) rfl rfl rfl rfl) rfl fun fr r => ?_
            refine seq_val (.bool (decide (x38.1 < (a1.length : Int)))) r (fun R => y_move r rfl) rfl fun fr r => ?_
            refine seq_split (decide (x38.1 < (a1.length : Int))) (fun h43 => ?_) (fun h43 => ?_)
            · skip
              have hD := (cond_t h43).symm.trans hD
              refine seq_want r rfl rfl rfl (congrArg Value.bool h43) ?_
              refine seq_val (.int .i64 x38.1) r (fun R => y_move r rfl) rfl fun fr r => ?_
              refine seq_want r rfl rfl rfl (congrArg Value.bool h43) ?_
              refine seq_val (.pointer (some ⟨b1, 1, none⟩)) r (fun R => y_fieldAddr r (o := 0) rfl fo23_1) rfl fun fr r => ?_
              refine seq_want r rfl rfl rfl (congrArg Value.bool h43) ?_
              refine seq_val (.int .i64 a0.threads) r (fun R => y_load_one r (v := (.int .i64 a0.threads)) rfl (hP.cell (i := 1) rfl) to3 rfl) rfl fun fr r => ?_
              refine seq_want r rfl rfl rfl (congrArg Value.bool h43) ?_
              refine seq_val (.int .i64 (IntKind.i64.wrap (3 * a0.threads))) r (fun R => y_bin r (u := (.int .i64 3)) (u' := (.int .i64 a0.threads)) rfl rfl rfl rfl) rfl fun fr r => ?_
              refine seq_want r rfl rfl rfl (congrArg Value.bool h43) ?_
              refine seq_val (.bool (decide (x38.1 < (IntKind.i64.wrap (3 * a0.threads))))) r (fun R => y_bin r (u := (.int .i64 x38.1)) (u' := (.int .i64 (IntKind.i64.wrap (3 * a0.threads)))) rfl rfl rfl rfl) rfl fun fr r => ?_
              refine seq_val (.bool (decide (x38.1 < (IntKind.i64.wrap (3 * a0.threads))))) r (fun R => y_pick r (b := true) (congrArg Value.bool h43) rfl) rfl fun fr r => ?_
              refine wpList_nil ?_
              exact nxy42 (decide (x38.1 < (IntKind.i64.wrap (3 * a0.threads)))) () _ _ _ hD r (hs_cons rfl (hs_cons rfl (hs_cons rfl (hs_cons rfl (hs_cons rfl (hs_cons rfl (hs_cons rfl (hs_cons rfl (hs_cons rfl (hs_cons rfl hs_nil)))))))))) (hP.pick [0, 1, 2] rfl rfl)
            · skip
              have hD := (cond_f h43).symm.trans hD
              refine seq_skip r rfl rfl rfl (v := .bool false) (congrArg Value.bool h43) (by simp [boolOf]) fun fr r => ?_
              refine seq_skip r rfl rfl rfl (v := .bool false) (congrArg Value.bool h43) (by simp [boolOf]) fun fr r => ?_
              refine seq_skip r rfl rfl rfl (v := .bool false) (congrArg Value.bool h43) (by simp [boolOf]) fun fr r => ?_
              refine seq_skip r rfl rfl rfl (v := .bool false) (congrArg Value.bool h43) (by simp [boolOf]) fun fr r => ?_
              refine seq_skip r rfl rfl rfl (v := .bool false) (congrArg Value.bool h43) (by simp [boolOf]) fun fr r => ?_
              refine seq_val (.bool false) r (fun R => y_pick r (b := false) (congrArg Value.bool h43) rfl) rfl fun fr r => ?_
              refine wpList_nil ?_
              exact nxy42 false () _ _ _ hD r (hs_cons rfl (hs_cons rfl (hs_cons rfl (hs_cons rfl (hs_cons rfl (hs_cons rfl (hs_cons rfl (hs_cons rfl (hs_cons rfl (hs_cons rfl hs_nil)))))))))) (hP.pick [0, 1, 2] rfl rfl)
          · skip
            rintro x44 γ45 fr w46 g r hP hD
            have hP : Post No [roK 3 1 i64 a1_v a1, cellC b1 ((planC a0)).toArray 23, memK mg20 x38.2] w0 w46 := hP
            refine wp_cond_split (t := x44) (r.ev rfl) (fun h47 => ?_) (fun h47 => ?_)
            · skip
              have hD := (cond_t h47).symm.trans hD
              refine wp_skip ?_
              refine wp_seq ?_
              refine wp_block ?_
              refine wp_seq ?_
              refine wp_joinG (N := 120) (Y := Bool) (G := Unit) (fun x γ => [(0, (.agg (planC a0).toArray)), (1, a1_v), (2, (.pointer (some ⟨b1, 0, none⟩))), (4, (.bool false)), (30, (.bool x12)), (5, (.pointer (some ⟨mg20.mb, 0, none⟩))), (36, (.bool false)), (6, (.int .i64 x35.1)), (7, (.int .i64 x38.1)), (61, (.bool x44)), (77, (.bool x))]) (fun x γ w => Post No [roK 3 1 i64 a1_v a1, cellC b1 ((planC a0)).toArray 23, memK mg20 x38.2] w0 w) hD ?_ ?_
              · skip
                rintro y48 RPy48 nxy48 hD
                obtain ⟨x49, hx49, hD⟩ := bindD_elim hD
                refine seq_split (decide (x49 ≥ 0)) (fun h50 => ?_) (fun h50 => ?_)
                · skip
                  have hD := (cond_t h50).symm.trans hD
                  obtain ⟨x51, hx51, hD⟩ := bindD_elim hD
                  refine wp_freeF [.val a1_v, .val (.int .i64 x38.1), .val (.pointer (some ⟨rowB a1_v, rowO a1_v + x38.1.toNat * 1, none⟩)), .val (.int .i64 x49), .val (.bool (decide (x49 ≥ 0))), .val (.bool (decide (x49 ≥ 0))), .val a1_v, .val (.int .i64 x38.1), .val (.pointer (some ⟨rowB a1_v, rowO a1_v + x38.1.toNat * 1, none⟩)), .val (.int .i64 x51), .val (.pointer (some ⟨b1, 0, none⟩)), .val (.int .i64 a0.nodes), .val (.bool (decide (x51 < a0.nodes))), .val (.bool (decide (x51 < a0.nodes)))] mixed r (by kernel_rfl) ?_ ?_
                  · skip
                    refine eachF_cons r rfl (fun fr1 g w' hb' hd r' => ?_) ?_
                    · exact y_move r' (v := a1_v) rfl ⟨Below.refl _ _, rfl⟩
                    refine eachF_cons r rfl (fun fr1 g w' hb' hd r' => ?_) ?_
                    · exact y_move r' (v := (.int .i64 x38.1)) rfl ⟨Below.refl _ _, rfl⟩
                    refine eachF_cons r rfl (fun fr1 g w' hb' hd r' => ?_) ?_
                    · exact y_rowAddr r' ((hP.below (dr hb')).ro (i := 0) rfl) hx49 sl24 (hd 0 rfl).1 (hd 1 rfl).1 ⟨Below.refl _ _, rfl⟩
                    refine eachF_cons r rfl (fun fr1 g w' hb' hd r' => ?_) ?_
                    · exact y_loadL_one r' (u := (.int .i64 x49)) (RoAt.at_ (f := i64) (x := x49) ((hP.below (dr hb')).ro (i := 0) rfl) (fun _ => rfl) hx49) (hd 2 rfl).1 to3 ⟨Below.refl _ _, rfl⟩
                    refine eachF_cons r rfl (fun fr1 g w' hb' hd r' => ?_) ?_
                    · exact y_bin r' (u := (.int .i64 x49)) (u' := (.int .i64 0)) (v := (.bool (decide (x49 ≥ 0)))) (hd 3 rfl).1 rfl rfl rfl ⟨Below.refl _ _, rfl⟩
                    refine eachF_cons r rfl (fun fr1 g w' hb' hd r' => ?_) ?_
                    · exact y_move r' (v := (.bool (decide (x49 ≥ 0)))) (hd 4 rfl).1 ⟨Below.refl _ _, rfl⟩
                    refine eachF_want true r rfl rfl rfl (fun g w' hd => Eq.trans (show (g 5).v = .bool (decide (x49 ≥ 0)) from (hd 5 rfl).1) (congrArg Value.bool h50)) (fun fr1 g w' hb' hd r' => ?_) ?_
                    · exact y_move r' (v := a1_v) rfl ⟨Below.refl _ _, rfl⟩
                    refine eachF_want true r rfl rfl rfl (fun g w' hd => Eq.trans (show (g 5).v = .bool (decide (x49 ≥ 0)) from (hd 5 rfl).1) (congrArg Value.bool h50)) (fun fr1 g w' hb' hd r' => ?_) ?_
                    · exact y_move r' (v := (.int .i64 x38.1)) rfl ⟨Below.refl _ _, rfl⟩
                    refine eachF_want true r rfl rfl rfl (fun g w' hd => Eq.trans (show (g 5).v = .bool (decide (x49 ≥ 0)) from (hd 5 rfl).1) (congrArg Value.bool h50)) (fun fr1 g w' hb' hd r' => ?_) ?_
                    · exact y_rowAddr r' ((hP.below (dr hb')).ro (i := 0) rfl) hx51 sl24 (hd 6 rfl).1 (hd 7 rfl).1 ⟨Below.refl _ _, rfl⟩
                    refine eachF_want true r rfl rfl rfl (fun g w' hd => Eq.trans (show (g 5).v = .bool (decide (x49 ≥ 0)) from (hd 5 rfl).1) (congrArg Value.bool h50)) (fun fr1 g w' hb' hd r' => ?_) ?_
                    · exact y_loadL_one r' (u := (.int .i64 x51)) (RoAt.at_ (f := i64) (x := x51) ((hP.below (dr hb')).ro (i := 0) rfl) (fun _ => rfl) hx51) (hd 8 rfl).1 to3 ⟨Below.refl _ _, rfl⟩
                    refine eachF_want true r rfl rfl rfl (fun g w' hd => Eq.trans (show (g 5).v = .bool (decide (x49 ≥ 0)) from (hd 5 rfl).1) (congrArg Value.bool h50)) (fun fr1 g w' hb' hd r' => ?_) ?_
                    · exact y_fieldAddr r' (b := b1) (o := 0) (k := 0) rfl fo23_0 ⟨Below.refl _ _, rfl⟩
                    refine eachF_want true r rfl rfl rfl (fun g w' hd => Eq.trans (show (g 5).v = .bool (decide (x49 ≥ 0)) from (hd 5 rfl).1) (congrArg Value.bool h50)) (fun fr1 g w' hb' hd r' => ?_) ?_
                    · exact y_load_one r' (v := (.int .i64 a0.nodes)) (hd 10 rfl).1 ((hP.below (dr hb')).cell (i := 1) rfl) to3 rfl ⟨Below.refl _ _, rfl⟩
                    refine eachF_want true r rfl rfl rfl (fun g w' hd => Eq.trans (show (g 5).v = .bool (decide (x49 ≥ 0)) from (hd 5 rfl).1) (congrArg Value.bool h50)) (fun fr1 g w' hb' hd r' => ?_) ?_
                    · exact y_bin r' (u := (.int .i64 x51)) (u' := (.int .i64 a0.nodes)) (v := (.bool (decide (x51 < a0.nodes)))) (hd 9 rfl).1 (hd 11 rfl).1 rfl rfl ⟨Below.refl _ _, rfl⟩
                    refine eachF_cons r rfl (fun fr1 g w' hb' hd r' => ?_) ?_
                    · exact y_pick r' (b := true) (v := (.bool (decide (x51 < a0.nodes)))) (Eq.trans (show (g 5).v = .bool (decide (x49 ≥ 0)) from (hd 5 rfl).1) (congrArg Value.bool h50)) (hd 12 rfl).1 ⟨Below.refl _ _, rfl⟩
                    exact eachF_nil
                  · skip
                    intro fr gg w52 hb hΦ hap r
                    have g0 : (gg 0).v = a1_v := (hΦ 0 rfl).1
                    have g1 : (gg 1).v = (.int .i64 x38.1) := (hΦ 1 rfl).1
                    have g2 : (gg 2).v = (.pointer (some ⟨rowB a1_v, rowO a1_v + x38.1.toNat * 1, none⟩)) := (hΦ 2 rfl).1
                    have g3 : (gg 3).v = (.int .i64 x49) := (hΦ 3 rfl).1
                    have g4 : (gg 4).v = (.bool (decide (x49 ≥ 0))) := (hΦ 4 rfl).1
                    have g5 : (gg 5).v = (.bool (decide (x49 ≥ 0))) := (hΦ 5 rfl).1
                    have g6 : (gg 6).v = a1_v := (hΦ 6 rfl).1
                    have g7 : (gg 7).v = (.int .i64 x38.1) := (hΦ 7 rfl).1
                    have g8 : (gg 8).v = (.pointer (some ⟨rowB a1_v, rowO a1_v + x38.1.toNat * 1, none⟩)) := (hΦ 8 rfl).1
                    have g9 : (gg 9).v = (.int .i64 x51) := (hΦ 9 rfl).1
                    have g10 : (gg 10).v = (.pointer (some ⟨b1, 0, none⟩)) := (hΦ 10 rfl).1
                    have g11 : (gg 11).v = (.int .i64 a0.nodes) := (hΦ 11 rfl).1
                    have g12 : (gg 12).v = (.bool (decide (x51 < a0.nodes))) := (hΦ 12 rfl).1
                    have g13 : (gg 13).v = (.bool (decide (x51 < a0.nodes))) := (hΦ 13 rfl).1
                    have r := r.congr (sc g13 (sc g12 (sc g11 (sc g10 (sc g9 (sc g8 (sc g7 (sc g6 (sc g5 (sc g4 (sc g3 (sc g2 (sc g1 (sc g0 rfl))))))))))))))
                    have hP : Post No [roK 3 1 i64 a1_v a1, cellC b1 ((planC a0)).toArray 23, memK mg20 x38.2] w0 w52 := hP.below hb
                    exact nxy48 (decide (x51 < a0.nodes)) () _ _ _ hD r (hs_cons rfl (hs_cons rfl (hs_cons rfl (hs_cons rfl (hs_cons rfl (hs_cons rfl (hs_cons rfl (hs_cons rfl (hs_cons rfl (hs_cons rfl (hs_cons rfl hs_nil))))))))))) (hP.pick [0, 1, 2] rfl rfl)
                · skip
                  have hD := (cond_f h50).symm.trans hD
                  refine wp_freeF [.val a1_v, .val (.int .i64 x38.1), .val (.pointer (some ⟨rowB a1_v, rowO a1_v + x38.1.toNat * 1, none⟩)), .val (.int .i64 x49), .val (.bool (decide (x49 ≥ 0))), .val (.bool (decide (x49 ≥ 0))), .val undef, .val undef, .val undef, .val undef, .val undef, .val undef, .val undef, .val (.bool false)] mixed r (by kernel_rfl) ?_ ?_
                  · skip
                    refine eachF_cons r rfl (fun fr1 g w' hb' hd r' => ?_) ?_
                    · exact y_move r' (v := a1_v) rfl ⟨Below.refl _ _, rfl⟩
                    refine eachF_cons r rfl (fun fr1 g w' hb' hd r' => ?_) ?_
                    · exact y_move r' (v := (.int .i64 x38.1)) rfl ⟨Below.refl _ _, rfl⟩
                    refine eachF_cons r rfl (fun fr1 g w' hb' hd r' => ?_) ?_
                    · exact y_rowAddr r' ((hP.below (dr hb')).ro (i := 0) rfl) hx49 sl24 (hd 0 rfl).1 (hd 1 rfl).1 ⟨Below.refl _ _, rfl⟩
                    refine eachF_cons r rfl (fun fr1 g w' hb' hd r' => ?_) ?_
                    · exact y_loadL_one r' (u := (.int .i64 x49)) (RoAt.at_ (f := i64) (x := x49) ((hP.below (dr hb')).ro (i := 0) rfl) (fun _ => rfl) hx49) (hd 2 rfl).1 to3 ⟨Below.refl _ _, rfl⟩
                    refine eachF_cons r rfl (fun fr1 g w' hb' hd r' => ?_) ?_
                    · exact y_bin r' (u := (.int .i64 x49)) (u' := (.int .i64 0)) (v := (.bool (decide (x49 ≥ 0)))) (hd 3 rfl).1 rfl rfl rfl ⟨Below.refl _ _, rfl⟩
                    refine eachF_cons r rfl (fun fr1 g w' hb' hd r' => ?_) ?_
                    · exact y_move r' (v := (.bool (decide (x49 ≥ 0)))) (hd 4 rfl).1 ⟨Below.refl _ _, rfl⟩
                    refine eachF_skip true (.bool false) r rfl rfl rfl (fun g w' hd => Eq.trans (show (g 5).v = .bool (decide (x49 ≥ 0)) from (hd 5 rfl).1) (congrArg Value.bool h50)) (by simp [boolOf]) (fun _ _ => ⟨Below.refl _ _, rfl⟩) ?_
                    refine eachF_skip true (.bool false) r rfl rfl rfl (fun g w' hd => Eq.trans (show (g 5).v = .bool (decide (x49 ≥ 0)) from (hd 5 rfl).1) (congrArg Value.bool h50)) (by simp [boolOf]) (fun _ _ => ⟨Below.refl _ _, rfl⟩) ?_
                    refine eachF_skip true (.bool false) r rfl rfl rfl (fun g w' hd => Eq.trans (show (g 5).v = .bool (decide (x49 ≥ 0)) from (hd 5 rfl).1) (congrArg Value.bool h50)) (by simp [boolOf]) (fun _ _ => ⟨Below.refl _ _, rfl⟩) ?_
                    refine eachF_skip true (.bool false) r rfl rfl rfl (fun g w' hd => Eq.trans (show (g 5).v = .bool (decide (x49 ≥ 0)) from (hd 5 rfl).1) (congrArg Value.bool h50)) (by simp [boolOf]) (fun _ _ => ⟨Below.refl _ _, rfl⟩) ?_
                    refine eachF_skip true (.bool false) r rfl rfl rfl (fun g w' hd => Eq.trans (show (g 5).v = .bool (decide (x49 ≥ 0)) from (hd 5 rfl).1) (congrArg Value.bool h50)) (by simp [boolOf]) (fun _ _ => ⟨Below.refl _ _, rfl⟩) ?_
                    refine eachF_skip true (.bool false) r rfl rfl rfl (fun g w' hd => Eq.trans (show (g 5).v = .bool (decide (x49 ≥ 0)) from (hd 5 rfl).1) (congrArg Value.bool h50)) (by simp [boolOf]) (fun _ _ => ⟨Below.refl _ _, rfl⟩) ?_
                    refine eachF_skip true (.bool false) r rfl rfl rfl (fun g w' hd => Eq.trans (show (g 5).v = .bool (decide (x49 ≥ 0)) from (hd 5 rfl).1) (congrArg Value.bool h50)) (by simp [boolOf]) (fun _ _ => ⟨Below.refl _ _, rfl⟩) ?_
                    refine eachF_cons r rfl (fun fr1 g w' hb' hd r' => ?_) ?_
                    · exact y_pick r' (b := false) (v := (.bool false)) (Eq.trans (show (g 5).v = .bool (decide (x49 ≥ 0)) from (hd 5 rfl).1) (congrArg Value.bool h50)) rfl ⟨Below.refl _ _, rfl⟩
                    exact eachF_nil
                  · skip
                    intro fr gg w53 hb hΦ hap r
                    have g0 : (gg 0).v = a1_v := (hΦ 0 rfl).1
                    have g1 : (gg 1).v = (.int .i64 x38.1) := (hΦ 1 rfl).1
                    have g2 : (gg 2).v = (.pointer (some ⟨rowB a1_v, rowO a1_v + x38.1.toNat * 1, none⟩)) := (hΦ 2 rfl).1
                    have g3 : (gg 3).v = (.int .i64 x49) := (hΦ 3 rfl).1
                    have g4 : (gg 4).v = (.bool (decide (x49 ≥ 0))) := (hΦ 4 rfl).1
                    have g5 : (gg 5).v = (.bool (decide (x49 ≥ 0))) := (hΦ 5 rfl).1
                    have g6 : (gg 6).v = undef := (hΦ 6 rfl).1
                    have g7 : (gg 7).v = undef := (hΦ 7 rfl).1
                    have g8 : (gg 8).v = undef := (hΦ 8 rfl).1
                    have g9 : (gg 9).v = undef := (hΦ 9 rfl).1
                    have g10 : (gg 10).v = undef := (hΦ 10 rfl).1
                    have g11 : (gg 11).v = undef := (hΦ 11 rfl).1
                    have g12 : (gg 12).v = undef := (hΦ 12 rfl).1
                    have g13 : (gg 13).v = (.bool false) := (hΦ 13 rfl).1
                    have r := r.congr (sc g13 (sc g12 (sc g11 (sc g10 (sc g9 (sc g8 (sc g7 (sc g6 (sc g5 (sc g4 (sc g3 (sc g2 (sc g1 (sc g0 rfl))))))))))))))
                    have hP : Post No [roK 3 1 i64 a1_v a1, cellC b1 ((planC a0)).toArray 23, memK mg20 x38.2] w0 w53 := hP.below hb
                    exact nxy48 false () _ _ _ hD r (hs_cons rfl (hs_cons rfl (hs_cons rfl (hs_cons rfl (hs_cons rfl (hs_cons rfl (hs_cons rfl (hs_cons rfl (hs_cons rfl (hs_cons rfl (hs_cons rfl hs_nil))))))))))) (hP.pick [0, 1, 2] rfl rfl)
              · skip
                rintro x54 γ55 fr w56 g r hP hD
                have hP : Post No [roK 3 1 i64 a1_v a1, cellC b1 ((planC a0)).toArray 23, memK mg20 x38.2] w0 w56 := hP
                refine wp_joinG (N := 120) (Y := Mem) (G := Unit) (fun x γ => [(0, (.agg (planC a0).toArray)), (1, a1_v), (2, (.pointer (some ⟨b1, 0, none⟩))), (4, (.bool false)), (30, (.bool x12)), (5, (.pointer (some ⟨mg20.mb, 0, none⟩))), (36, (.bool false)), (6, (.int .i64 x35.1)), (7, (.int .i64 x38.1)), (61, (.bool x44)), (77, (.bool x54))]) (fun x γ w => Post No [roK 3 1 i64 a1_v a1, cellC b1 ((planC a0)).toArray 23, memK mg20 x] w0 w) hD ?_ ?_
                · skip
                  rintro y57 RPy57 nxy57 hD
                  refine wp_cond_split (t := x54) (r.ev rfl) (fun h58 => ?_) (fun h58 => ?_)
                  · skip
                    have hD := (cond_t h58).symm.trans hD
                    obtain ⟨x59, hx59, hD⟩ := bindD_elim hD
                    obtain ⟨x61, hx61, hD⟩ := bindD_elim hD
                    obtain ⟨x62, hx62, hD⟩ := bindD_elim hD
                    refine wp_freeE mg20.bs [.val (.agg (planC a0).toArray), .val (.int .i64 x38.1), .val (.int .i64 (IntKind.i64.wrap (x38.1.tdiv 3))), .val (.int .i64 x38.1), .val (.int .i64 (x38.1.tmod 3)), .val a1_v, .val (.int .i64 x38.1), .val (.pointer (some ⟨rowB a1_v, rowO a1_v + x38.1.toNat * 1, none⟩)), .val (.int .i64 x59), .pred (PrP Tryz.prog encNone (fu, (D.hazard_Set a0 (IntKind.i64.wrap (x38.1.tdiv 3)) (x38.1.tmod 3) x59))) (PrP.st _), .val (.pointer (some ⟨mg20.mb, 0, none⟩)), .val (.pointer (some ⟨mg20.mb, 0, none⟩)), .val (.agg (capC x61).toArray), .eff (EffP w56.heap.size (memK mg20 x62.2.2.2) (fun _ : Unit => (.tuple #[(.agg #[]), (.int .i64 x62.2.1), (.bool x62.2.2.1)])) (fun _ : Unit => [])) (EffP.st _ _ _ _)] mixed r (fun b hb => hP.sep.lt (i := 2) rfl (.inl hb)) (by kernel_rfl) ?_ ?_
                    · skip
                      refine eachE_late r rfl (fun fr1 g w' hk' hd r' => ?_) ?_
                      · exact y_load_agg r' (cs := (planC a0)) (n := 6) rfl (hP.cellK (j := 2) rfl (drK hk') (i := 1) rfl rfl) ta23 rfl ⟨Below.refl _ _, rfl⟩
                      refine eachE_late r rfl (fun fr1 g w' hk' hd r' => ?_) ?_
                      · exact y_move r' (v := (.int .i64 x38.1)) rfl ⟨Below.refl _ _, rfl⟩
                      refine eachE_late r rfl (fun fr1 g w' hk' hd r' => ?_) ?_
                      · exact y_bin r' (u := (.int .i64 x38.1)) (u' := (.int .i64 3)) (v := (.int .i64 (IntKind.i64.wrap (x38.1.tdiv 3)))) (hd 1 rfl).1 rfl rfl rfl ⟨Below.refl _ _, rfl⟩
                      refine eachE_late r rfl (fun fr1 g w' hk' hd r' => ?_) ?_
                      · exact y_move r' (v := (.int .i64 x38.1)) rfl ⟨Below.refl _ _, rfl⟩
                      refine eachE_late r rfl (fun fr1 g w' hk' hd r' => ?_) ?_
                      · exact y_bin r' (u := (.int .i64 x38.1)) (u' := (.int .i64 3)) (v := (.int .i64 (x38.1.tmod 3))) (hd 3 rfl).1 rfl rfl rfl ⟨Below.refl _ _, rfl⟩
                      refine eachE_late r rfl (fun fr1 g w' hk' hd r' => ?_) ?_
                      · exact y_move r' (v := a1_v) rfl ⟨Below.refl _ _, rfl⟩
                      refine eachE_late r rfl (fun fr1 g w' hk' hd r' => ?_) ?_
                      · exact y_move r' (v := (.int .i64 x38.1)) rfl ⟨Below.refl _ _, rfl⟩
                      refine eachE_late r rfl (fun fr1 g w' hk' hd r' => ?_) ?_
                      · exact y_rowAddr r' (show RoAt 0 _ _ _ _ _ from hP.okK (j := 2) rfl (drK hk') (i := 0) rfl rfl) hx59 sl24 (hd 5 rfl).1 (hd 6 rfl).1 ⟨Below.refl _ _, rfl⟩
                      refine eachE_late r rfl (fun fr1 g w' hk' hd r' => ?_) ?_
                      · exact y_loadL_one r' (u := (.int .i64 x59)) (RoAt.at_ (f := i64) (x := x59) (show RoAt 0 _ _ _ _ _ from hP.okK (j := 2) rfl (drK hk') (i := 0) rfl rfl) (fun _ => rfl) hx59) (hd 7 rfl).1 to3 ⟨Below.refl _ _, rfl⟩
                      refine eachE_early r rfl (by kernel_rfl) (fun fr1 g w' hb' hd r' => ?_) ?_
                      · exact y_call r' (args := [(.agg (planC a0).toArray), (.int .i64 (IntKind.i64.wrap (x38.1.tdiv 3))), (.int .i64 (x38.1.tmod 3)), (.int .i64 x59)]) (lc (hd 0 rfl).1 (lc (hd 2 rfl).1 (lc (hd 4 rfl).1 (lc (hd 8 rfl).1 l0)))) cl23 ((c_hazard_Set (F := No) (n := fu) (fun _ h => h.elim) a0 (IntKind.i64.wrap (x38.1.tdiv 3)) (x38.1.tmod 3) x59).mono (by rintro _ w2 ⟨y, rfl, hb2, hr2⟩; exact ⟨_, rfl, hb2, fresh_prog hr2⟩))
                      refine eachE_early r rfl (by kernel_rfl) (fun fr1 g w' hb' hd r' => ?_) ?_
                      · exact y_move r' (v := (.pointer (some ⟨mg20.mb, 0, none⟩))) rfl ⟨Below.refl _ _, rfl⟩
                      refine eachE_late r rfl (fun fr1 g w' hk' hd r' => ?_) ?_
                      · exact y_move r' (v := (.pointer (some ⟨mg20.mb, 0, none⟩))) rfl ⟨Below.refl _ _, rfl⟩
                      refine eachE_early r rfl (by kernel_rfl) (fun fr1 g w' hb' hd r' => ?_) ?_
                      · exact y_call r' (args := [(.pointer (some ⟨mg20.mb, 0, none⟩)), (.int .i64 0)]) (lc (hd 11 rfl).1 (lc rfl l0)) cl18 ((c_mem_Memory_Cap _ x38.2 ((hP.below (dr hb')).mem (i := 2) rfl) 0 hx61).mono (by rintro _ w2 ⟨rfl, hb2⟩; exact ⟨_, rfl, hb2, rfl⟩))
                      refine eachE_early r rfl (by kernel_rfl) (fun fr1 g w' hb' hd r' => ?_) ?_
                      · exact y_call r' (args := [(g 9).v, (.pointer (some ⟨mg20.mb, 0, none⟩)), (.agg (capC x61).toArray), (.int .i64 9)]) (lc rfl (lc (hd 10 rfl).1 (lc (hd 12 rfl).1 (lc rfl l0)))) cl22 ((c_prog_Run_None _ (fu, (D.hazard_Set a0 (IntKind.i64.wrap (x38.1.tdiv 3)) (x38.1.tmod 3) x59)) x38.2 x61 9 (Sep.beside (hd 9 rfl).1 ((hP.below (dr hb')).sep.pk [2] rfl rfl) (fun c hc b hb => by rcases List.mem_singleton.1 hc with rfl; exact hP.sep.lt (i := 2) rfl hb) (hd 9 rfl).2.1) hx62).mono (by rintro _ w2 ⟨rfl, hq⟩; exact ⟨_, rfl, hq.chg.kept, EffP.of () hq rfl (fun b hb => hP.sep.lt (i := 2) rfl hb)⟩))
                      exact eachF_nil
                    · skip
                      intro fr gg w63 hb hΦ hap r
                      have g0 : (gg 0).v = (.agg (planC a0).toArray) := (hΦ 0 rfl).1
                      have g1 : (gg 1).v = (.int .i64 x38.1) := (hΦ 1 rfl).1
                      have g2 : (gg 2).v = (.int .i64 (IntKind.i64.wrap (x38.1.tdiv 3))) := (hΦ 2 rfl).1
                      have g3 : (gg 3).v = (.int .i64 x38.1) := (hΦ 3 rfl).1
                      have g4 : (gg 4).v = (.int .i64 (x38.1.tmod 3)) := (hΦ 4 rfl).1
                      have g5 : (gg 5).v = a1_v := (hΦ 5 rfl).1
                      have g6 : (gg 6).v = (.int .i64 x38.1) := (hΦ 6 rfl).1
                      have g7 : (gg 7).v = (.pointer (some ⟨rowB a1_v, rowO a1_v + x38.1.toNat * 1, none⟩)) := (hΦ 7 rfl).1
                      have g8 : (gg 8).v = (.int .i64 x59) := (hΦ 8 rfl).1
                      obtain ⟨v60, hv9⟩ : ∃ v, v = (gg 9).v := ⟨_, rfl⟩
                      have g9 : (gg 9).v = v60 := hv9.symm
                      have hs9 : Fresh [progK Tryz.prog encNone (fu, (D.hazard_Set a0 (IntKind.i64.wrap (x38.1.tdiv 3)) (x38.1.tmod 3) x59)) v60 (rg (gg 9).lo (gg 9).hi)] (gg 9).lo (gg 9).hi w63 := by subst hv9; exact (hΦ 9 rfl).1
                      have g10 : (gg 10).v = (.pointer (some ⟨mg20.mb, 0, none⟩)) := (hΦ 10 rfl).1
                      have g11 : (gg 11).v = (.pointer (some ⟨mg20.mb, 0, none⟩)) := (hΦ 11 rfl).1
                      have g12 : (gg 12).v = (.agg (capC x61).toArray) := (hΦ 12 rfl).1
                      obtain ⟨⟨⟩, g13, hcE, _, hs13⟩ := (hΦ 13 rfl).1
                      have r := r.congr (sc g13 (sc g12 (sc g11 (sc g10 (sc g9 (sc g8 (sc g7 (sc g6 (sc g5 (sc g4 (sc g3 (sc g2 (sc g1 (sc g0 rfl))))))))))))))
                      have hP : Post No [roK 3 1 i64 a1_v a1, cellC b1 ((planC a0)).toArray 23, memK mg20 x62.2.2.2, progK Tryz.prog encNone (fu, (D.hazard_Set a0 (IntKind.i64.wrap (x38.1.tdiv 3)) (x38.1.tmod 3) x59)) v60 (rg (gg 9).lo (gg 9).hi)] w0 w63 := hP.effL (i := 2) (l := [([progK Tryz.prog encNone (fu, (D.hazard_Set a0 (IntKind.i64.wrap (x38.1.tdiv 3)) (x38.1.tmod 3) x59)) v60 (rg (gg 9).lo (gg 9).hi)], (gg 9).lo, (gg 9).hi)]) rfl hb hcE rfl rfl ⟨hs9, (hΦ 9 rfl).2.1, disj_nil, trivial⟩
                      exact nxy57 x62.2.2.2 () _ _ _ hD r (hs_cons rfl (hs_cons rfl (hs_cons rfl (hs_cons rfl (hs_cons rfl (hs_cons rfl (hs_cons rfl (hs_cons rfl (hs_cons rfl (hs_cons rfl (hs_cons rfl hs_nil))))))))))) (hP.pick [0, 1, 2] rfl rfl)
                  · skip
                    have hD := (cond_f h58).symm.trans hD
                    refine wp_skip ?_
                    exact nxy57 x38.2 () _ _ _ hD r (hs_cons rfl (hs_cons rfl (hs_cons rfl (hs_cons rfl (hs_cons rfl (hs_cons rfl (hs_cons rfl (hs_cons rfl (hs_cons rfl (hs_cons rfl (hs_cons rfl hs_nil))))))))))) (hP.pick [0, 1, 2] rfl rfl)
                · skip
                  rintro x64 γ65 fr w66 g r hP hD
                  have hP : Post No [roK 3 1 i64 a1_v a1, cellC b1 ((planC a0)).toArray 23, memK mg20 x64] w0 w66 := hP
                  refine wp_region_lit ?_
                  refine seq_val (.int .i64 x38.1) r (fun R => y_move r rfl) rfl fun fr r => ?_
                  refine seq_val (.int .i64 (IntKind.i64.wrap (x38.1 + 1))) r (fun R => y_bin r (u := (.int .i64 x38.1)) (u' := (.int .i64 1)) rfl rfl rfl rfl) rfl fun fr r => ?_
                  refine seq_val (.int .i64 (IntKind.i64.wrap (x38.1 + 1))) r (fun R => y_assign r rfl) rfl fun fr r => ?_
                  refine wpList_nil ?_
                  exact nxy40 ((IntKind.i64.wrap (x38.1 + 1)), x64) () _ _ _ hD r (hs_cons rfl (hs_cons rfl (hs_cons rfl (hs_cons rfl (hs_cons rfl (hs_cons rfl (hs_cons rfl (hs_cons rfl (hs_cons rfl hs_nil))))))))) (hP.pick [0, 1, 2] rfl rfl)
            · skip
              have hD := (cond_f h47).symm.trans hD
              refine wp_exit ?_
              exact bky40 (x38.1, x38.2) () _ _ _ hD r (hs_cons rfl (hs_cons rfl (hs_cons rfl (hs_cons rfl (hs_cons rfl (hs_cons rfl (hs_cons rfl (hs_cons rfl (hs_cons rfl hs_nil))))))))) (hP.pick [0, 1, 2] rfl rfl)
        · skip
          rintro x67 γ68 fr w69 g r hP hD
          have hP : Post No [roK 3 1 i64 a1_v a1, cellC b1 ((planC a0)).toArray 23, memK mg20 x67.2] w0 w69 := hP
          refine wp_seq ?_
          refine wp_region_lit ?_
          refine seq_val (.agg (planC a0).toArray) r (fun R => y_load_agg r (cs := (planC a0)) (n := 6) rfl (hP.cell (i := 1) rfl) ta23 rfl) rfl fun fr r => ?_
          refine seq_call r (c_retire_Scan (F := No) (n := fu) (j := fu + 1) (fun _ h => h.elim) (by omega) a0 0) (fun R hc => y_call r rfl cl19 hc) rfl ?_
          rintro _ w70 ⟨v71, rfl, hb, hr72⟩
          refine ⟨_, rfl, fun fr r => ?_⟩
          have hP : Post No [roK 3 1 i64 a1_v a1, cellC b1 ((planC a0)).toArray 23, memK mg20 x67.2, progK Tryz.prog encInt (fu, (D.retire_Scan (fu + 1) a0 0)) v71 (rg w69.heap.size w70.heap.size)] w0 w70 := hP.addProg hb hr72
          refine seq_val (.pointer (some ⟨mg20.mb, 0, none⟩)) r (fun R => y_move r rfl) rfl fun fr r => ?_
          refine seq_val (.pointer (some ⟨mg20.mb, 0, none⟩)) r (fun R => y_move r rfl) rfl fun fr r => ?_
          obtain ⟨x74, hx74, hD⟩ := bindD_elim hD
          refine seq_call r (c_mem_Memory_Cap w70 x67.2 (hP.mem (i := 2) rfl) 0 hx74) (fun R hc => y_call r rfl cl18 hc) rfl ?_
          rintro _ w75 ⟨rfl, hb⟩
          refine ⟨_, rfl, fun fr r => ?_⟩
          have hP : Post No [roK 3 1 i64 a1_v a1, cellC b1 ((planC a0)).toArray 23, memK mg20 x67.2, progK Tryz.prog encInt (fu, (D.retire_Scan (fu + 1) a0 0)) v71 (rg w69.heap.size w70.heap.size)] w0 w75 := hP.below hb
          obtain ⟨x76, hx76, hD⟩ := bindD_elim hD
          refine seq_call r (c_prog_Run_int w75 (fu, (D.retire_Scan (fu + 1) a0 0)) x67.2 x74 100000 (hP.sep.pk [3, 2] rfl rfl) hx76) (fun R hc => y_call r rfl cl16 hc) rfl ?_
          rintro _ w77 ⟨rfl, hq⟩
          refine ⟨_, rfl, fun fr r => ?_⟩
          have hP : Post No [roK 3 1 i64 a1_v a1, cellC b1 ((planC a0)).toArray 23, memK mg20 x76.2.2.2, progK Tryz.prog encInt (fu, (D.retire_Scan (fu + 1) a0 0)) v71 (rg w69.heap.size w70.heap.size)] w0 w77 := hP.setN (i := 2) rfl hq
          refine seq_val (.tuple #[(.int .i64 x76.1), (.int .i64 x76.2.1), (.bool x76.2.2.1)]) r (fun R => y_move r rfl) rfl fun fr r => ?_
          refine seq_val (.int .i64 x76.1) r (fun R => y_extract r (vs := #[(.int .i64 x76.1), (.int .i64 x76.2.1), (.bool x76.2.2.1)]) rfl rfl) rfl fun fr r => ?_
          refine seq_val (.int .i64 x76.2.1) r (fun R => y_extract r (vs := #[(.int .i64 x76.1), (.int .i64 x76.2.1), (.bool x76.2.2.1)]) rfl rfl) rfl fun fr r => ?_
          refine seq_val (.bool x76.2.2.1) r (fun R => y_extract r (vs := #[(.int .i64 x76.1), (.int .i64 x76.2.1), (.bool x76.2.2.1)]) rfl rfl) rfl fun fr r => ?_
          refine seq_val (.int .i64 x76.1) r (fun R => y_assign r rfl) rfl fun fr r => ?_
          refine seq_val (.int .i64 x76.2.1) r (fun R => y_assign r rfl) rfl fun fr r => ?_
          refine seq_val (.bool x76.2.2.1) r (fun R => y_assign r rfl) rfl fun fr r => ?_
          refine wpList_nil ?_
          refine wp_seq ?_
          have hP : Post No [roK 3 1 i64 a1_v a1, cellC b1 ((planC a0)).toArray 23, memK mg20 x76.2.2.2] w0 w77 := hP.pick [0, 1, 2] rfl rfl
          refine wp_joinG (N := 120) (Y := Bool) (G := Unit) (fun x γ => [(0, (.agg (planC a0).toArray)), (1, a1_v), (2, (.pointer (some ⟨b1, 0, none⟩))), (30, (.bool x12)), (5, (.pointer (some ⟨mg20.mb, 0, none⟩))), (36, (.bool false)), (6, (.int .i64 x35.1)), (7, (.int .i64 x67.1)), (8, (.int .i64 x76.1)), (10, (.bool x76.2.2.1)), (4, (.bool x))]) (fun x γ w => Post No [roK 3 1 i64 a1_v a1, cellC b1 ((planC a0)).toArray 23, memK mg20 x76.2.2.2] w0 w) hD ?_ ?_
          · skip
            rintro y78 RPy78 nxy78 hD
            refine seq_split x76.2.2.1 (fun h79 => ?_) (fun h79 => ?_)
            · skip
              have hD := (cond_t h79).symm.trans hD
              refine seq_split (decide (x76.1 ≥ 1)) (fun h80 => ?_) (fun h80 => ?_)
              · skip
                have hD := (cond_t h80).symm.trans hD
                obtain ⟨x81, hx81, hD⟩ := bindD_elim hD
                refine wp_freeF [.val (.bool x76.2.2.1), .val (.bool x76.2.2.1), .val (.int .i64 x76.1), .val (.bool (decide (x76.1 ≥ 1))), .val (.bool (decide (x76.1 ≥ 1))), .val (.bool (decide (x76.1 ≥ 1))), .val (.agg (planC a0).toArray), .val (.pointer (some ⟨mg20.mb, 0, none⟩)), .pred (MkP (fun v82 : Value => v82) (fun v82 : Value => [rowK 3 1 i64 v82 x81])) (MkP.st _ _), .val (.int .i64 (x81.length : Int)), .val (.pointer (some ⟨b1, 1, none⟩)), .val (.int .i64 a0.threads), .val (.int .i64 (IntKind.i64.wrap (3 * a0.threads))), .val (.int .i64 (IntKind.i64.wrap ((IntKind.i64.wrap (3 * a0.threads)) + 1))), .val (.int .i64 x76.1), .val (.int .i64 (IntKind.i64.wrap ((IntKind.i64.wrap ((IntKind.i64.wrap (3 * a0.threads)) + 1)) - x76.1))), .val (.bool ((x81.length : Int) == (IntKind.i64.wrap ((IntKind.i64.wrap ((IntKind.i64.wrap (3 * a0.threads)) + 1)) - x76.1)))), .val (.bool ((x81.length : Int) == (IntKind.i64.wrap ((IntKind.i64.wrap ((IntKind.i64.wrap (3 * a0.threads)) + 1)) - x76.1)))), .val (.bool ((x81.length : Int) == (IntKind.i64.wrap ((IntKind.i64.wrap ((IntKind.i64.wrap (3 * a0.threads)) + 1)) - x76.1))))] mixed r (by kernel_rfl) ?_ ?_
                · skip
                  refine eachF_cons r rfl (fun fr1 g w' hb' hd r' => ?_) ?_
                  · exact y_move r' (v := (.bool x76.2.2.1)) rfl ⟨Below.refl _ _, rfl⟩
                  refine eachF_cons r rfl (fun fr1 g w' hb' hd r' => ?_) ?_
                  · exact y_move r' (v := (.bool x76.2.2.1)) (hd 0 rfl).1 ⟨Below.refl _ _, rfl⟩
                  refine eachF_want true r rfl rfl rfl (fun g w' hd => Eq.trans (show (g 1).v = .bool x76.2.2.1 from (hd 1 rfl).1) (congrArg Value.bool h79)) (fun fr1 g w' hb' hd r' => ?_) ?_
                  · exact y_move r' (v := (.int .i64 x76.1)) rfl ⟨Below.refl _ _, rfl⟩
                  refine eachF_want true r rfl rfl rfl (fun g w' hd => Eq.trans (show (g 1).v = .bool x76.2.2.1 from (hd 1 rfl).1) (congrArg Value.bool h79)) (fun fr1 g w' hb' hd r' => ?_) ?_
                  · exact y_bin r' (u := (.int .i64 x76.1)) (u' := (.int .i64 1)) (v := (.bool (decide (x76.1 ≥ 1)))) (hd 2 rfl).1 rfl rfl rfl ⟨Below.refl _ _, rfl⟩
                  refine eachF_cons r rfl (fun fr1 g w' hb' hd r' => ?_) ?_
                  · exact y_pick r' (b := true) (v := (.bool (decide (x76.1 ≥ 1)))) (Eq.trans (show (g 1).v = .bool x76.2.2.1 from (hd 1 rfl).1) (congrArg Value.bool h79)) (hd 3 rfl).1 ⟨Below.refl _ _, rfl⟩
                  refine eachF_cons r rfl (fun fr1 g w' hb' hd r' => ?_) ?_
                  · exact y_move r' (v := (.bool (decide (x76.1 ≥ 1)))) (hd 4 rfl).1 ⟨Below.refl _ _, rfl⟩
                  refine eachF_want true r rfl rfl rfl (fun g w' hd => Eq.trans (show (g 5).v = .bool (decide (x76.1 ≥ 1)) from (hd 5 rfl).1) (congrArg Value.bool h80)) (fun fr1 g w' hb' hd r' => ?_) ?_
                  · exact y_load_agg r' (cs := (planC a0)) (n := 6) rfl ((hP.below (dr hb')).cell (i := 1) rfl) ta23 rfl ⟨Below.refl _ _, rfl⟩
                  refine eachF_want true r rfl rfl rfl (fun g w' hd => Eq.trans (show (g 5).v = .bool (decide (x76.1 ≥ 1)) from (hd 5 rfl).1) (congrArg Value.bool h80)) (fun fr1 g w' hb' hd r' => ?_) ?_
                  · exact y_move r' (v := (.pointer (some ⟨mg20.mb, 0, none⟩))) rfl ⟨Below.refl _ _, rfl⟩
                  refine eachF_want true r rfl rfl rfl (fun g w' hd => Eq.trans (show (g 5).v = .bool (decide (x76.1 ≥ 1)) from (hd 5 rfl).1) (congrArg Value.bool h80)) (fun fr1 g w' hb' hd r' => ?_) ?_
                  · exact y_call r' (args := [(.agg (planC a0).toArray), (.pointer (some ⟨mg20.mb, 0, none⟩)), (.int .i64 0), (.int .i64 0)]) (lc (hd 6 rfl).1 (lc (hd 7 rfl).1 (lc rfl (lc rfl l0)))) cl20 ((c_retire_List _ a0 x76.2.2.2 ((hP.below (dr hb')).mem (i := 2) rfl) 0 0 hx81).mono (by rintro _ w2 ⟨y, rfl, hq⟩; exact ⟨_, rfl, hq.chg.below, MkP.of y hq⟩))
                  refine eachF_want true r rfl rfl rfl (fun g w' hd => Eq.trans (show (g 5).v = .bool (decide (x76.1 ≥ 1)) from (hd 5 rfl).1) (congrArg Value.bool h80)) (fun fr1 g w' hb' hd r' => ?_) ?_
                  · obtain ⟨y, hy, hs, _⟩ := (hd 8 rfl).1; exact y_rowLen r' (RowAt.ro (hs.get (i := 0) rfl)) is24 hy ⟨Below.refl _ _, rfl⟩
                  refine eachF_want true r rfl rfl rfl (fun g w' hd => Eq.trans (show (g 5).v = .bool (decide (x76.1 ≥ 1)) from (hd 5 rfl).1) (congrArg Value.bool h80)) (fun fr1 g w' hb' hd r' => ?_) ?_
                  · exact y_fieldAddr r' (b := b1) (o := 0) (k := 1) rfl fo23_1 ⟨Below.refl _ _, rfl⟩
                  refine eachF_want true r rfl rfl rfl (fun g w' hd => Eq.trans (show (g 5).v = .bool (decide (x76.1 ≥ 1)) from (hd 5 rfl).1) (congrArg Value.bool h80)) (fun fr1 g w' hb' hd r' => ?_) ?_
                  · exact y_load_one r' (v := (.int .i64 a0.threads)) (hd 10 rfl).1 ((hP.below (dr hb')).cell (i := 1) rfl) to3 rfl ⟨Below.refl _ _, rfl⟩
                  refine eachF_want true r rfl rfl rfl (fun g w' hd => Eq.trans (show (g 5).v = .bool (decide (x76.1 ≥ 1)) from (hd 5 rfl).1) (congrArg Value.bool h80)) (fun fr1 g w' hb' hd r' => ?_) ?_
                  · exact y_bin r' (u := (.int .i64 3)) (u' := (.int .i64 a0.threads)) (v := (.int .i64 (IntKind.i64.wrap (3 * a0.threads)))) rfl (hd 11 rfl).1 rfl rfl ⟨Below.refl _ _, rfl⟩
                  refine eachF_want true r rfl rfl rfl (fun g w' hd => Eq.trans (show (g 5).v = .bool (decide (x76.1 ≥ 1)) from (hd 5 rfl).1) (congrArg Value.bool h80)) (fun fr1 g w' hb' hd r' => ?_) ?_
                  · exact y_bin r' (u := (.int .i64 (IntKind.i64.wrap (3 * a0.threads)))) (u' := (.int .i64 1)) (v := (.int .i64 (IntKind.i64.wrap ((IntKind.i64.wrap (3 * a0.threads)) + 1)))) (hd 12 rfl).1 rfl rfl rfl ⟨Below.refl _ _, rfl⟩
                  refine eachF_want true r rfl rfl rfl (fun g w' hd => Eq.trans (show (g 5).v = .bool (decide (x76.1 ≥ 1)) from (hd 5 rfl).1) (congrArg Value.bool h80)) (fun fr1 g w' hb' hd r' => ?_) ?_
                  · exact y_move r' (v := (.int .i64 x76.1)) rfl ⟨Below.refl _ _, rfl⟩
                  refine eachF_want true r rfl rfl rfl (fun g w' hd => Eq.trans (show (g 5).v = .bool (decide (x76.1 ≥ 1)) from (hd 5 rfl).1) (congrArg Value.bool h80)) (fun fr1 g w' hb' hd r' => ?_) ?_
                  · exact y_bin r' (u := (.int .i64 (IntKind.i64.wrap ((IntKind.i64.wrap (3 * a0.threads)) + 1)))) (u' := (.int .i64 x76.1)) (v := (.int .i64 (IntKind.i64.wrap ((IntKind.i64.wrap ((IntKind.i64.wrap (3 * a0.threads)) + 1)) - x76.1)))) (hd 13 rfl).1 (hd 14 rfl).1 rfl rfl ⟨Below.refl _ _, rfl⟩
                  refine eachF_want true r rfl rfl rfl (fun g w' hd => Eq.trans (show (g 5).v = .bool (decide (x76.1 ≥ 1)) from (hd 5 rfl).1) (congrArg Value.bool h80)) (fun fr1 g w' hb' hd r' => ?_) ?_
                  · exact y_bin r' (u := (.int .i64 (x81.length : Int))) (u' := (.int .i64 (IntKind.i64.wrap ((IntKind.i64.wrap ((IntKind.i64.wrap (3 * a0.threads)) + 1)) - x76.1)))) (v := (.bool ((x81.length : Int) == (IntKind.i64.wrap ((IntKind.i64.wrap ((IntKind.i64.wrap (3 * a0.threads)) + 1)) - x76.1))))) (hd 9 rfl).1 (hd 15 rfl).1 rfl rfl ⟨Below.refl _ _, rfl⟩
                  refine eachF_cons r rfl (fun fr1 g w' hb' hd r' => ?_) ?_
                  · exact y_pick r' (b := true) (v := (.bool ((x81.length : Int) == (IntKind.i64.wrap ((IntKind.i64.wrap ((IntKind.i64.wrap (3 * a0.threads)) + 1)) - x76.1))))) (Eq.trans (show (g 5).v = .bool (decide (x76.1 ≥ 1)) from (hd 5 rfl).1) (congrArg Value.bool h80)) (hd 16 rfl).1 ⟨Below.refl _ _, rfl⟩
                  refine eachF_cons r rfl (fun fr1 g w' hb' hd r' => ?_) ?_
                  · exact y_assign r' (v := (.bool ((x81.length : Int) == (IntKind.i64.wrap ((IntKind.i64.wrap ((IntKind.i64.wrap (3 * a0.threads)) + 1)) - x76.1))))) (hd 17 rfl).1 ⟨Below.refl _ _, rfl⟩
                  exact eachF_nil
                · skip
                  intro fr gg w84 hb hΦ hap r
                  have g0 : (gg 0).v = (.bool x76.2.2.1) := (hΦ 0 rfl).1
                  have g1 : (gg 1).v = (.bool x76.2.2.1) := (hΦ 1 rfl).1
                  have g2 : (gg 2).v = (.int .i64 x76.1) := (hΦ 2 rfl).1
                  have g3 : (gg 3).v = (.bool (decide (x76.1 ≥ 1))) := (hΦ 3 rfl).1
                  have g4 : (gg 4).v = (.bool (decide (x76.1 ≥ 1))) := (hΦ 4 rfl).1
                  have g5 : (gg 5).v = (.bool (decide (x76.1 ≥ 1))) := (hΦ 5 rfl).1
                  have g6 : (gg 6).v = (.agg (planC a0).toArray) := (hΦ 6 rfl).1
                  have g7 : (gg 7).v = (.pointer (some ⟨mg20.mb, 0, none⟩)) := (hΦ 7 rfl).1
                  obtain ⟨v82, g8, hs8⟩ := (hΦ 8 rfl).1
                  have g9 : (gg 9).v = (.int .i64 (x81.length : Int)) := (hΦ 9 rfl).1
                  have g10 : (gg 10).v = (.pointer (some ⟨b1, 1, none⟩)) := (hΦ 10 rfl).1
                  have g11 : (gg 11).v = (.int .i64 a0.threads) := (hΦ 11 rfl).1
                  have g12 : (gg 12).v = (.int .i64 (IntKind.i64.wrap (3 * a0.threads))) := (hΦ 12 rfl).1
                  have g13 : (gg 13).v = (.int .i64 (IntKind.i64.wrap ((IntKind.i64.wrap (3 * a0.threads)) + 1))) := (hΦ 13 rfl).1
                  have g14 : (gg 14).v = (.int .i64 x76.1) := (hΦ 14 rfl).1
                  have g15 : (gg 15).v = (.int .i64 (IntKind.i64.wrap ((IntKind.i64.wrap ((IntKind.i64.wrap (3 * a0.threads)) + 1)) - x76.1))) := (hΦ 15 rfl).1
                  have g16 : (gg 16).v = (.bool ((x81.length : Int) == (IntKind.i64.wrap ((IntKind.i64.wrap ((IntKind.i64.wrap (3 * a0.threads)) + 1)) - x76.1)))) := (hΦ 16 rfl).1
                  have g17 : (gg 17).v = (.bool ((x81.length : Int) == (IntKind.i64.wrap ((IntKind.i64.wrap ((IntKind.i64.wrap (3 * a0.threads)) + 1)) - x76.1)))) := (hΦ 17 rfl).1
                  have g18 : (gg 18).v = (.bool ((x81.length : Int) == (IntKind.i64.wrap ((IntKind.i64.wrap ((IntKind.i64.wrap (3 * a0.threads)) + 1)) - x76.1)))) := (hΦ 18 rfl).1
                  have r := r.congr (sc g18 (sc g17 (sc g16 (sc g15 (sc g14 (sc g13 (sc g12 (sc g11 (sc g10 (sc g9 (sc g8 (sc g7 (sc g6 (sc g5 (sc g4 (sc g3 (sc g2 (sc g1 (sc g0 rfl)))))))))))))))))))
                  have hP : Post No [roK 3 1 i64 a1_v a1, cellC b1 ((planC a0)).toArray 23, memK mg20 x76.2.2.2, rowK 3 1 i64 v82 x81] w0 w84 := hP.addL (l := [([rowK 3 1 i64 v82 x81], (gg 8).lo, (gg 8).hi)]) hb ⟨hs8, (hΦ 8 rfl).2.1, disj_nil, trivial⟩
                  exact nxy78 ((x81.length : Int) == (IntKind.i64.wrap ((IntKind.i64.wrap ((IntKind.i64.wrap (3 * a0.threads)) + 1)) - x76.1))) () _ _ _ hD r (hs_cons rfl (hs_cons rfl (hs_cons rfl (hs_cons rfl (hs_cons rfl (hs_cons rfl (hs_cons rfl (hs_cons rfl (hs_cons rfl (hs_cons rfl (hs_cons rfl hs_nil))))))))))) (hP.pick [0, 1, 2] rfl rfl)
              · skip
                have hD := (cond_f h80).symm.trans hD
                refine wp_freeF [.val (.bool x76.2.2.1), .val (.bool x76.2.2.1), .val (.int .i64 x76.1), .val (.bool (decide (x76.1 ≥ 1))), .val (.bool (decide (x76.1 ≥ 1))), .val (.bool (decide (x76.1 ≥ 1))), .val undef, .val undef, .val undef, .val undef, .val undef, .val undef, .val undef, .val undef, .val undef, .val undef, .val undef, .val (.bool false), .val (.bool false)] mixed r (by kernel_rfl) ?_ ?_
                · skip
                  refine eachF_cons r rfl (fun fr1 g w' hb' hd r' => ?_) ?_
                  · exact y_move r' (v := (.bool x76.2.2.1)) rfl ⟨Below.refl _ _, rfl⟩
                  refine eachF_cons r rfl (fun fr1 g w' hb' hd r' => ?_) ?_
                  · exact y_move r' (v := (.bool x76.2.2.1)) (hd 0 rfl).1 ⟨Below.refl _ _, rfl⟩
                  refine eachF_want true r rfl rfl rfl (fun g w' hd => Eq.trans (show (g 1).v = .bool x76.2.2.1 from (hd 1 rfl).1) (congrArg Value.bool h79)) (fun fr1 g w' hb' hd r' => ?_) ?_
                  · exact y_move r' (v := (.int .i64 x76.1)) rfl ⟨Below.refl _ _, rfl⟩
                  refine eachF_want true r rfl rfl rfl (fun g w' hd => Eq.trans (show (g 1).v = .bool x76.2.2.1 from (hd 1 rfl).1) (congrArg Value.bool h79)) (fun fr1 g w' hb' hd r' => ?_) ?_
                  · exact y_bin r' (u := (.int .i64 x76.1)) (u' := (.int .i64 1)) (v := (.bool (decide (x76.1 ≥ 1)))) (hd 2 rfl).1 rfl rfl rfl ⟨Below.refl _ _, rfl⟩
                  refine eachF_cons r rfl (fun fr1 g w' hb' hd r' => ?_) ?_
                  · exact y_pick r' (b := true) (v := (.bool (decide (x76.1 ≥ 1)))) (Eq.trans (show (g 1).v = .bool x76.2.2.1 from (hd 1 rfl).1) (congrArg Value.bool h79)) (hd 3 rfl).1 ⟨Below.refl _ _, rfl⟩
                  refine eachF_cons r rfl (fun fr1 g w' hb' hd r' => ?_) ?_
                  · exact y_move r' (v := (.bool (decide (x76.1 ≥ 1)))) (hd 4 rfl).1 ⟨Below.refl _ _, rfl⟩
                  refine eachF_skip true (.bool false) r rfl rfl rfl (fun g w' hd => Eq.trans (show (g 5).v = .bool (decide (x76.1 ≥ 1)) from (hd 5 rfl).1) (congrArg Value.bool h80)) (by simp [boolOf]) (fun _ _ => ⟨Below.refl _ _, rfl⟩) ?_
                  refine eachF_skip true (.bool false) r rfl rfl rfl (fun g w' hd => Eq.trans (show (g 5).v = .bool (decide (x76.1 ≥ 1)) from (hd 5 rfl).1) (congrArg Value.bool h80)) (by simp [boolOf]) (fun _ _ => ⟨Below.refl _ _, rfl⟩) ?_
                  refine eachF_skip true (.bool false) r rfl rfl rfl (fun g w' hd => Eq.trans (show (g 5).v = .bool (decide (x76.1 ≥ 1)) from (hd 5 rfl).1) (congrArg Value.bool h80)) (by simp [boolOf]) (fun _ _ => ⟨Below.refl _ _, rfl⟩) ?_
                  refine eachF_skip true (.bool false) r rfl rfl rfl (fun g w' hd => Eq.trans (show (g 5).v = .bool (decide (x76.1 ≥ 1)) from (hd 5 rfl).1) (congrArg Value.bool h80)) (by simp [boolOf]) (fun _ _ => ⟨Below.refl _ _, rfl⟩) ?_
                  refine eachF_skip true (.bool false) r rfl rfl rfl (fun g w' hd => Eq.trans (show (g 5).v = .bool (decide (x76.1 ≥ 1)) from (hd 5 rfl).1) (congrArg Value.bool h80)) (by simp [boolOf]) (fun _ _ => ⟨Below.refl _ _, rfl⟩) ?_
                  refine eachF_skip true (.bool false) r rfl rfl rfl (fun g w' hd => Eq.trans (show (g 5).v = .bool (decide (x76.1 ≥ 1)) from (hd 5 rfl).1) (congrArg Value.bool h80)) (by simp [boolOf]) (fun _ _ => ⟨Below.refl _ _, rfl⟩) ?_
                  refine eachF_skip true (.bool false) r rfl rfl rfl (fun g w' hd => Eq.trans (show (g 5).v = .bool (decide (x76.1 ≥ 1)) from (hd 5 rfl).1) (congrArg Value.bool h80)) (by simp [boolOf]) (fun _ _ => ⟨Below.refl _ _, rfl⟩) ?_
                  refine eachF_skip true (.bool false) r rfl rfl rfl (fun g w' hd => Eq.trans (show (g 5).v = .bool (decide (x76.1 ≥ 1)) from (hd 5 rfl).1) (congrArg Value.bool h80)) (by simp [boolOf]) (fun _ _ => ⟨Below.refl _ _, rfl⟩) ?_
                  refine eachF_skip true (.bool false) r rfl rfl rfl (fun g w' hd => Eq.trans (show (g 5).v = .bool (decide (x76.1 ≥ 1)) from (hd 5 rfl).1) (congrArg Value.bool h80)) (by simp [boolOf]) (fun _ _ => ⟨Below.refl _ _, rfl⟩) ?_
                  refine eachF_skip true (.bool false) r rfl rfl rfl (fun g w' hd => Eq.trans (show (g 5).v = .bool (decide (x76.1 ≥ 1)) from (hd 5 rfl).1) (congrArg Value.bool h80)) (by simp [boolOf]) (fun _ _ => ⟨Below.refl _ _, rfl⟩) ?_
                  refine eachF_skip true (.bool false) r rfl rfl rfl (fun g w' hd => Eq.trans (show (g 5).v = .bool (decide (x76.1 ≥ 1)) from (hd 5 rfl).1) (congrArg Value.bool h80)) (by simp [boolOf]) (fun _ _ => ⟨Below.refl _ _, rfl⟩) ?_
                  refine eachF_cons r rfl (fun fr1 g w' hb' hd r' => ?_) ?_
                  · exact y_pick r' (b := false) (v := (.bool false)) (Eq.trans (show (g 5).v = .bool (decide (x76.1 ≥ 1)) from (hd 5 rfl).1) (congrArg Value.bool h80)) rfl ⟨Below.refl _ _, rfl⟩
                  refine eachF_cons r rfl (fun fr1 g w' hb' hd r' => ?_) ?_
                  · exact y_assign r' (v := (.bool false)) (hd 17 rfl).1 ⟨Below.refl _ _, rfl⟩
                  exact eachF_nil
                · skip
                  intro fr gg w85 hb hΦ hap r
                  have g0 : (gg 0).v = (.bool x76.2.2.1) := (hΦ 0 rfl).1
                  have g1 : (gg 1).v = (.bool x76.2.2.1) := (hΦ 1 rfl).1
                  have g2 : (gg 2).v = (.int .i64 x76.1) := (hΦ 2 rfl).1
                  have g3 : (gg 3).v = (.bool (decide (x76.1 ≥ 1))) := (hΦ 3 rfl).1
                  have g4 : (gg 4).v = (.bool (decide (x76.1 ≥ 1))) := (hΦ 4 rfl).1
                  have g5 : (gg 5).v = (.bool (decide (x76.1 ≥ 1))) := (hΦ 5 rfl).1
                  have g6 : (gg 6).v = undef := (hΦ 6 rfl).1
                  have g7 : (gg 7).v = undef := (hΦ 7 rfl).1
                  have g8 : (gg 8).v = undef := (hΦ 8 rfl).1
                  have g9 : (gg 9).v = undef := (hΦ 9 rfl).1
                  have g10 : (gg 10).v = undef := (hΦ 10 rfl).1
                  have g11 : (gg 11).v = undef := (hΦ 11 rfl).1
                  have g12 : (gg 12).v = undef := (hΦ 12 rfl).1
                  have g13 : (gg 13).v = undef := (hΦ 13 rfl).1
                  have g14 : (gg 14).v = undef := (hΦ 14 rfl).1
                  have g15 : (gg 15).v = undef := (hΦ 15 rfl).1
                  have g16 : (gg 16).v = undef := (hΦ 16 rfl).1
                  have g17 : (gg 17).v = (.bool false) := (hΦ 17 rfl).1
                  have g18 : (gg 18).v = (.bool false) := (hΦ 18 rfl).1
                  have r := r.congr (sc g18 (sc g17 (sc g16 (sc g15 (sc g14 (sc g13 (sc g12 (sc g11 (sc g10 (sc g9 (sc g8 (sc g7 (sc g6 (sc g5 (sc g4 (sc g3 (sc g2 (sc g1 (sc g0 rfl)))))))))))))))))))
                  have hP : Post No [roK 3 1 i64 a1_v a1, cellC b1 ((planC a0)).toArray 23, memK mg20 x76.2.2.2] w0 w85 := hP.below hb
                  exact nxy78 false () _ _ _ hD r (hs_cons rfl (hs_cons rfl (hs_cons rfl (hs_cons rfl (hs_cons rfl (hs_cons rfl (hs_cons rfl (hs_cons rfl (hs_cons rfl (hs_cons rfl (hs_cons rfl hs_nil))))))))))) (hP.pick [0, 1, 2] rfl rfl)
            · skip
              have hD := (cond_f h79).symm.trans hD
              refine wp_freeF [.val (.bool x76.2.2.1), .val (.bool x76.2.2.1), .val undef, .val undef, .val (.bool false), .val (.bool false), .val undef, .val undef, .val undef, .val undef, .val undef, .val undef, .val undef, .val undef, .val undef, .val undef, .val undef, .val (.bool false), .val (.bool false)] mixed r (by kernel_rfl) ?_ ?_
              · skip
                refine eachF_cons r rfl (fun fr1 g w' hb' hd r' => ?_) ?_
                · exact y_move r' (v := (.bool x76.2.2.1)) rfl ⟨Below.refl _ _, rfl⟩
                refine eachF_cons r rfl (fun fr1 g w' hb' hd r' => ?_) ?_
                · exact y_move r' (v := (.bool x76.2.2.1)) (hd 0 rfl).1 ⟨Below.refl _ _, rfl⟩
                refine eachF_skip true (.bool false) r rfl rfl rfl (fun g w' hd => Eq.trans (show (g 1).v = .bool x76.2.2.1 from (hd 1 rfl).1) (congrArg Value.bool h79)) (by simp [boolOf]) (fun _ _ => ⟨Below.refl _ _, rfl⟩) ?_
                refine eachF_skip true (.bool false) r rfl rfl rfl (fun g w' hd => Eq.trans (show (g 1).v = .bool x76.2.2.1 from (hd 1 rfl).1) (congrArg Value.bool h79)) (by simp [boolOf]) (fun _ _ => ⟨Below.refl _ _, rfl⟩) ?_
                refine eachF_cons r rfl (fun fr1 g w' hb' hd r' => ?_) ?_
                · exact y_pick r' (b := false) (v := (.bool false)) (Eq.trans (show (g 1).v = .bool x76.2.2.1 from (hd 1 rfl).1) (congrArg Value.bool h79)) rfl ⟨Below.refl _ _, rfl⟩
                refine eachF_cons r rfl (fun fr1 g w' hb' hd r' => ?_) ?_
                · exact y_move r' (v := (.bool false)) (hd 4 rfl).1 ⟨Below.refl _ _, rfl⟩
                refine eachF_skip true (.bool false) r rfl rfl rfl (fun g w' hd => Eq.trans (show (g 5).v = .bool false from (hd 5 rfl).1) (congrArg Value.bool (rfl : false = _))) (by simp [boolOf]) (fun _ _ => ⟨Below.refl _ _, rfl⟩) ?_
                refine eachF_skip true (.bool false) r rfl rfl rfl (fun g w' hd => Eq.trans (show (g 5).v = .bool false from (hd 5 rfl).1) (congrArg Value.bool (rfl : false = _))) (by simp [boolOf]) (fun _ _ => ⟨Below.refl _ _, rfl⟩) ?_
                refine eachF_skip true (.bool false) r rfl rfl rfl (fun g w' hd => Eq.trans (show (g 5).v = .bool false from (hd 5 rfl).1) (congrArg Value.bool (rfl : false = _))) (by simp [boolOf]) (fun _ _ => ⟨Below.refl _ _, rfl⟩) ?_
                refine eachF_skip true (.bool false) r rfl rfl rfl (fun g w' hd => Eq.trans (show (g 5).v = .bool false from (hd 5 rfl).1) (congrArg Value.bool (rfl : false = _))) (by simp [boolOf]) (fun _ _ => ⟨Below.refl _ _, rfl⟩) ?_
                refine eachF_skip true (.bool false) r rfl rfl rfl (fun g w' hd => Eq.trans (show (g 5).v = .bool false from (hd 5 rfl).1) (congrArg Value.bool (rfl : false = _))) (by simp [boolOf]) (fun _ _ => ⟨Below.refl _ _, rfl⟩) ?_
                refine eachF_skip true (.bool false) r rfl rfl rfl (fun g w' hd => Eq.trans (show (g 5).v = .bool false from (hd 5 rfl).1) (congrArg Value.bool (rfl : false = _))) (by simp [boolOf]) (fun _ _ => ⟨Below.refl _ _, rfl⟩) ?_
                refine eachF_skip true (.bool false) r rfl rfl rfl (fun g w' hd => Eq.trans (show (g 5).v = .bool false from (hd 5 rfl).1) (congrArg Value.bool (rfl : false = _))) (by simp [boolOf]) (fun _ _ => ⟨Below.refl _ _, rfl⟩) ?_
                refine eachF_skip true (.bool false) r rfl rfl rfl (fun g w' hd => Eq.trans (show (g 5).v = .bool false from (hd 5 rfl).1) (congrArg Value.bool (rfl : false = _))) (by simp [boolOf]) (fun _ _ => ⟨Below.refl _ _, rfl⟩) ?_
                refine eachF_skip true (.bool false) r rfl rfl rfl (fun g w' hd => Eq.trans (show (g 5).v = .bool false from (hd 5 rfl).1) (congrArg Value.bool (rfl : false = _))) (by simp [boolOf]) (fun _ _ => ⟨Below.refl _ _, rfl⟩) ?_
                refine eachF_skip true (.bool false) r rfl rfl rfl (fun g w' hd => Eq.trans (show (g 5).v = .bool false from (hd 5 rfl).1) (congrArg Value.bool (rfl : false = _))) (by simp [boolOf]) (fun _ _ => ⟨Below.refl _ _, rfl⟩) ?_
                refine eachF_skip true (.bool false) r rfl rfl rfl (fun g w' hd => Eq.trans (show (g 5).v = .bool false from (hd 5 rfl).1) (congrArg Value.bool (rfl : false = _))) (by simp [boolOf]) (fun _ _ => ⟨Below.refl _ _, rfl⟩) ?_
                refine eachF_cons r rfl (fun fr1 g w' hb' hd r' => ?_) ?_
                · exact y_pick r' (b := false) (v := (.bool false)) (Eq.trans (show (g 5).v = .bool false from (hd 5 rfl).1) (congrArg Value.bool (rfl : false = _))) rfl ⟨Below.refl _ _, rfl⟩
                refine eachF_cons r rfl (fun fr1 g w' hb' hd r' => ?_) ?_
                · exact y_assign r' (v := (.bool false)) (hd 17 rfl).1 ⟨Below.refl _ _, rfl⟩
                exact eachF_nil
              · skip
                intro fr gg w86 hb hΦ hap r
                have g0 : (gg 0).v = (.bool x76.2.2.1) := (hΦ 0 rfl).1
                have g1 : (gg 1).v = (.bool x76.2.2.1) := (hΦ 1 rfl).1
                have g2 : (gg 2).v = undef := (hΦ 2 rfl).1
                have g3 : (gg 3).v = undef := (hΦ 3 rfl).1
                have g4 : (gg 4).v = (.bool false) := (hΦ 4 rfl).1
                have g5 : (gg 5).v = (.bool false) := (hΦ 5 rfl).1
                have g6 : (gg 6).v = undef := (hΦ 6 rfl).1
                have g7 : (gg 7).v = undef := (hΦ 7 rfl).1
                have g8 : (gg 8).v = undef := (hΦ 8 rfl).1
                have g9 : (gg 9).v = undef := (hΦ 9 rfl).1
                have g10 : (gg 10).v = undef := (hΦ 10 rfl).1
                have g11 : (gg 11).v = undef := (hΦ 11 rfl).1
                have g12 : (gg 12).v = undef := (hΦ 12 rfl).1
                have g13 : (gg 13).v = undef := (hΦ 13 rfl).1
                have g14 : (gg 14).v = undef := (hΦ 14 rfl).1
                have g15 : (gg 15).v = undef := (hΦ 15 rfl).1
                have g16 : (gg 16).v = undef := (hΦ 16 rfl).1
                have g17 : (gg 17).v = (.bool false) := (hΦ 17 rfl).1
                have g18 : (gg 18).v = (.bool false) := (hΦ 18 rfl).1
                have r := r.congr (sc g18 (sc g17 (sc g16 (sc g15 (sc g14 (sc g13 (sc g12 (sc g11 (sc g10 (sc g9 (sc g8 (sc g7 (sc g6 (sc g5 (sc g4 (sc g3 (sc g2 (sc g1 (sc g0 rfl)))))))))))))))))))
                have hP : Post No [roK 3 1 i64 a1_v a1, cellC b1 ((planC a0)).toArray 23, memK mg20 x76.2.2.2] w0 w86 := hP.below hb
                exact nxy78 false () _ _ _ hD r (hs_cons rfl (hs_cons rfl (hs_cons rfl (hs_cons rfl (hs_cons rfl (hs_cons rfl (hs_cons rfl (hs_cons rfl (hs_cons rfl (hs_cons rfl (hs_cons rfl hs_nil))))))))))) (hP.pick [0, 1, 2] rfl rfl)
          · skip
            rintro x87 γ88 fr w89 g r hP hD
            have hP : Post No [roK 3 1 i64 a1_v a1, cellC b1 ((planC a0)).toArray 23, memK mg20 x76.2.2.2] w0 w89 := hP
            refine wp_ret ?_
            have hv : x87 = res := Option.some.inj hD
            try dsimp only [Exit.then, Exit.inBlock]
            refine ret_tmp (fn := Tryz.f4) r (t := 4) rfl (v := (.bool x87)) rfl ?_
            subst hv
            exact ⟨rfl, hP.chg.below⟩

end Go.Proofs.YtphnnjiaiemkcaaGreat.Wk
