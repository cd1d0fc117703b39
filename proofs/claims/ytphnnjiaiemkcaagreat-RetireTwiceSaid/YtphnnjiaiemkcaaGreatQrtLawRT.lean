/- Written by a program of ours (wip/gen.py): a law -/
import Derived.Test.YtphnnjiaiemkcaaGreatQrtL11
set_option linter.unusedVariables false
namespace Go.Proofs.YtphnnjiaiemkcaaGreat.Wk
open Go.RowKit
theorem cl12 : callable Tryz.prog 12 = true := by kernel_rfl

theorem cl13 : callable Tryz.prog 13 = true := by kernel_rfl

theorem cl14 : callable Tryz.prog 14 = true := by kernel_rfl

theorem cl15 : callable Tryz.prog 15 = true := by kernel_rfl

theorem cl19 : callable Tryz.prog 19 = true := by kernel_rfl

theorem cl21 : callable Tryz.prog 21 = true := by kernel_rfl

theorem cl26 : callable Tryz.prog 26 = true := by kernel_rfl

def D.cubiclelaw11_RetireTwice (fu : Nat) (a0 : Plan) (a1 : List Int) (a2 : List Int) : Option (Bool) := (Option.bind ((D.cubiclelaw11_awake fu ).bind (fun (x6 : Bool) => (bif (!x6) then (some true) else (bif (!(D.cubiclelaw11_few a0)) then (some true) else (bif (decide ((a1.length : Int) > 40)) then (some true) else (some (decide ((a2.length : Int) > 40)))))))) (fun (x12 : Bool) => (bif x12 then ((D.cubiclelaw11_awake fu ).bind (fun (x16 : Bool) => (some x16))) else ((D.cubiclelaw11_popped fu a0 (⟨0, 2, 0⟩ : State)).bind (fun (x18 : Mem) => (loopThen (fun (x23 : List Int × Int × Mem) => (bif (decide (x23.2.1 < (a1.length : Int))) then (Option.bind ((getI a1 x23.2.1).bind (fun (x29 : Int) => (bif (decide (x29 ≥ 0)) then ((getI a1 x23.2.1).bind (fun (x31 : Int) => (bif (decide (x31 < a0.nodes)) then ((getI a1 x23.2.1).bind (fun (x33 : Int) => ((D.cubicleref09_Has fu x23.1 x33).bind (fun (x34 : Bool) => (some (!x34)))))) else (some false)))) else (some false)))) (fun (x38 : Bool) => (Option.bind (bif x38 then ((getI a1 x23.2.1).bind (fun (x43 : Int) => ((appD x23.1 ([x43])).bind (fun (x48 : List Int) => ((getI a1 x23.2.1).bind (fun (x52 : Int) => ((D.mem_Memory_Cap fu x23.2.2 0).bind (fun (x54 : Cap) => ((D.prog_Run_int fu (fu, (D.retire_Put a0 0 x52)) x23.2.2 x54 9).bind (fun (x55 : Int × Int × Bool × Mem) => (some (x48, x55.2.2.2)))))))))))) else (some (x23.1, x23.2.2))) (fun (x57 : List Int × Mem) => (some (Lp.next (x57.1, (IntKind.i64.wrap (x23.2.1 + 1)), x57.2))))))) else (some (Lp.brk (x23.1, x23.2.1, x23.2.2))))) fu ([], 0, x18) (fun (x60 : List Int × Int × Mem) => (loopThen (fun (x63 : Int × Mem) => (Option.bind (bif (decide (x63.1 < (a2.length : Int))) then (some (decide (x63.1 < (IntKind.i64.wrap (3 * a0.threads))))) else (some false)) (fun (x69 : Bool) => (bif x69 then (Option.bind ((getI a2 x63.1).bind (fun (x74 : Int) => (bif (decide (x74 ≥ 0)) then ((getI a2 x63.1).bind (fun (x76 : Int) => (some (decide (x76 < a0.nodes))))) else (some false)))) (fun (x79 : Bool) => (Option.bind (bif x79 then ((getI a2 x63.1).bind (fun (x84 : Int) => ((D.mem_Memory_Cap fu x63.2 0).bind (fun (x86 : Cap) => ((D.prog_Run_None fu (fu, (D.hazard_Set a0 (IntKind.i64.wrap (x63.1.tdiv 3)) (x63.1.tmod 3) x84)) x63.2 x86 9).bind (fun (x87 : Unit × Int × Bool × Mem) => (some x87.2.2.2))))))) else (some x63.2)) (fun (x89 : Mem) => (some (Lp.next ((IntKind.i64.wrap (x63.1 + 1)), x89))))))) else (some (Lp.brk (x63.1, x63.2))))))) fu (0, x60.2.2) (fun (x92 : Int × Mem) => ((D.retire_List fu a0 x92.2 0 0).bind (fun (x95 : List Int) => ((D.mem_Memory_Cap fu x92.2 0).bind (fun (x103 : Cap) => ((D.prog_Run_int fu (fu, (D.retire_Scan (fu + 1) a0 0)) x92.2 x103 100000).bind (fun (x105 : Int × Int × Bool × Mem) => ((D.retire_List fu a0 x105.2.2.2 0 0).bind (fun (x107 : List Int) => ((D.free_List fu a0 x105.2.2.2 0).bind (fun (x110 : List Int) => ((D.mem_Memory_Cap fu x105.2.2.2 0).bind (fun (x118 : Cap) => ((D.prog_Run_int fu (fu, (D.retire_Scan (fu + 1) a0 0)) x105.2.2.2 x118 100000).bind (fun (x120 : Int × Int × Bool × Mem) => (Option.bind (bif x120.2.2.1 then (bif (x120.1 == 0) then (bif ((IntKind.i64.wrap (x105.1 + (x107.length : Int))) == (x95.length : Int)) then ((D.retire_List fu a0 x120.2.2.2 0 0).bind (fun (x126 : List Int) => ((D.cubicleref09_Same fu x107 x126).bind (fun (x130 : Bool) => (bif x130 then ((D.free_List fu a0 x120.2.2.2 0).bind (fun (x133 : List Int) => ((D.cubicleref09_Same fu x110 x133).bind (fun (x137 : Bool) => (some x137))))) else (some false)))))) else (some false)) else (some false)) else (some false)) (fun (x139 : Bool) => (some x139))))))))))))))))))))))))))

set_option maxRecDepth 20000 in
set_option maxHeartbeats 2000000 in
theorem c_cubiclelaw11_RetireTwice {fu : Nat} (w0 : World) (a0 : Plan) {a1_v : Value} (a1 : List Int) (a1_h : RoAt 3 1 i64 a1_v a1 w0) {a2_v : Value} (a2 : List Int) (a2_h : RoAt 3 1 i64 a2_v a2 w0) {res : Bool} (hD : D.cubiclelaw11_RetireTwice fu a0 a1 a2 = some res) :
    Calls Tryz.prog 6 #[.agg (planC a0).toArray, a1_v, a2_v] w0 (PureRes (.bool res) w0) := by
  refine enter (l := [.agg (planC a0).toArray, a1_v, a2_v]) Tryz.func6 rfl 187 rfl rfl fun fr r => ?_
  have hP : Post No [] w0 w0 := Post.nil w0
  have hP : Post No [roK 3 1 i64 a1_v a1] w0 w0 := hP.addRo norw_nil a1_h rfl a1_h.lt
  have hP : Post No [roK 3 1 i64 a1_v a1, roK 3 1 i64 a2_v a2] w0 w0 := hP.addRo (norw_cons rfl norw_nil) a2_h rfl a2_h.lt
  unfold D.cubiclelaw11_RetireTwice at hD
  refine wp_seq ?_
  refine wp_region_lit ?_
  refine seq_new (.cells ((planC a0)).toArray 23 (0, 0)) r (fun R => y_box r (v := (.agg (planC a0).toArray)) rfl) rfl fun fr b1 w2 n3 r => ?_
  have hP : Post No [roK 3 1 i64 a1_v a1, roK 3 1 i64 a2_v a2, cellC b1 ((planC a0)).toArray 23] w0 w2 := hP.new n3
  refine seq_val (.bool false) r (fun R => y_assign r rfl) rfl fun fr r => ?_
  refine wpList_nil ?_
  refine wp_seq ?_
  refine wp_seq ?_
  refine wp_joinG (N := 187) (Y := Bool) (G := Unit) (fun x γ => [(0, (.agg (planC a0).toArray)), (1, a1_v), (2, a2_v), (3, (.pointer (some ⟨b1, 0, none⟩))), (6, (.bool false)), (36, (.bool x))]) (fun x γ w => Post No [roK 3 1 i64 a1_v a1, roK 3 1 i64 a2_v a2, cellC b1 ((planC a0)).toArray 23] w0 w) hD ?_ ?_
  · skip
    rintro y5 RPy5 nxy5 hD
    refine wp_region_lit ?_
    obtain ⟨x6, hx6, hD⟩ := bindD_elim hD
    refine seq_call r (c_cubiclelaw11_awake w2  hx6) (fun R hc => y_call r rfl cl12 hc) rfl ?_
    rintro _ w7 ⟨rfl, hb⟩
    refine ⟨_, rfl, fun fr r => ?_⟩
    have hP : Post No [roK 3 1 i64 a1_v a1, roK 3 1 i64 a2_v a2, cellC b1 ((planC a0)).toArray 23] w0 w7 := hP.below hb
    refine seq_val (.bool (!x6)) r (fun R => y_un r (u := (.bool x6)) rfl rfl) rfl fun fr r => ?_
    refine seq_val (.bool (!x6)) r (fun R => y_move r rfl) rfl fun fr r => ?_
    refine seq_split (!x6) (fun h8 => ?_) (fun h8 => ?_)
    · skip
      have hD := (cond_t h8).symm.trans hD
      refine seq_skip r rfl rfl rfl (v := .bool true) (congrArg Value.bool h8) (by simp [boolOf]) fun fr r => ?_
      refine seq_skip r rfl rfl rfl (v := .bool true) (congrArg Value.bool h8) (by simp [boolOf]) fun fr r => ?_
      refine seq_skip r rfl rfl rfl (v := .bool true) (congrArg Value.bool h8) (by simp [boolOf]) fun fr r => ?_
      refine seq_val (.bool true) r (fun R => y_pick r (b := true) (congrArg Value.bool h8) rfl) rfl fun fr r => ?_
      refine seq_val (.bool true) r (fun R => y_move r rfl) rfl fun fr r => ?_
      refine seq_skip r rfl rfl rfl (v := .bool true) (congrArg Value.bool (rfl : true = _)) (by simp [boolOf]) fun fr r => ?_
      refine seq_skip r rfl rfl rfl (v := .bool true) (congrArg Value.bool (rfl : true = _)) (by simp [boolOf]) fun fr r => ?_
      refine seq_skip r rfl rfl rfl (v := .bool true) (congrArg Value.bool (rfl : true = _)) (by simp [boolOf]) fun fr r => ?_
      refine seq_val (.bool true) r (fun R => y_pick r (b := true) (congrArg Value.bool (rfl : true = _)) rfl) rfl fun fr r => ?_
      refine seq_val (.bool true) r (fun R => y_move r rfl) rfl fun fr r => ?_
      refine seq_skip r rfl rfl rfl (v := .bool true) (congrArg Value.bool (rfl : true = _)) (by simp [boolOf]) fun fr r => ?_
      refine seq_skip r rfl rfl rfl (v := .bool true) (congrArg Value.bool (rfl : true = _)) (by simp [boolOf]) fun fr r => ?_
      refine seq_skip r rfl rfl rfl (v := .bool true) (congrArg Value.bool (rfl : true = _)) (by simp [boolOf]) fun fr r => ?_
      refine seq_val (.bool true) r (fun R => y_pick r (b := true) (congrArg Value.bool (rfl : true = _)) rfl) rfl fun fr r => ?_
      refine wpList_nil ?_
      exact nxy5 true () _ _ _ hD r (hs_cons rfl (hs_cons rfl (hs_cons rfl (hs_cons rfl (hs_cons rfl (hs_cons rfl hs_nil)))))) (hP.pick [0, 1, 2] rfl rfl)
    · skip
      have hD := (cond_f h8).symm.trans hD
      refine seq_want r rfl rfl rfl (congrArg Value.bool h8) ?_
      refine seq_val (.agg (planC a0).toArray) r (fun R => y_load_agg r (cs := (planC a0)) (n := 6) rfl (hP.cell (i := 2) rfl) ta23 rfl) rfl fun fr r => ?_
      refine seq_want r rfl rfl rfl (congrArg Value.bool h8) ?_
      refine seq_call r (c_cubiclelaw11_few w7 a0) (fun R hc => y_call r rfl cl13 hc) rfl ?_
      rintro _ w9 ⟨rfl, hb⟩
      refine ⟨_, rfl, fun fr r => ?_⟩
      have hP : Post No [roK 3 1 i64 a1_v a1, roK 3 1 i64 a2_v a2, cellC b1 ((planC a0)).toArray 23] w0 w9 := hP.below hb
      refine seq_want r rfl rfl rfl (congrArg Value.bool h8) ?_
      refine seq_val (.bool (!(D.cubiclelaw11_few a0))) r (fun R => y_un r (u := (.bool (D.cubiclelaw11_few a0))) rfl rfl) rfl fun fr r => ?_
      refine seq_val (.bool (!(D.cubiclelaw11_few a0))) r (fun R => y_pick r (b := false) (congrArg Value.bool h8) rfl) rfl fun fr r => ?_
      refine seq_val (.bool (!(D.cubiclelaw11_few a0))) r (fun R => y_move r rfl) rfl fun fr r => ?_
      refine seq_split (!(D.cubiclelaw11_few a0)) (fun h10 => ?_) (fun h10 => ?_)
      · skip
        have hD := (cond_t h10).symm.trans hD
        refine seq_skip r rfl rfl rfl (v := .bool true) (congrArg Value.bool h10) (by simp [boolOf]) fun fr r => ?_
        refine seq_skip r rfl rfl rfl (v := .bool true) (congrArg Value.bool h10) (by simp [boolOf]) fun fr r => ?_
        refine seq_skip r rfl rfl rfl (v := .bool true) (congrArg Value.bool h10) (by simp [boolOf]) fun fr r => ?_
        refine seq_val (.bool true) r (fun R => y_pick r (b := true) (congrArg Value.bool h10) rfl) rfl fun fr r => ?_
        refine seq_val (.bool true) r (fun R => y_move r rfl) rfl fun fr r => ?_
        refine seq_skip r rfl rfl rfl (v := .bool true) (congrArg Value.bool (rfl : true = _)) (by simp [boolOf]) fun fr r => ?_
        refine seq_skip r rfl rfl rfl (v := .bool true) (congrArg Value.bool (rfl : true = _)) (by simp [boolOf]) fun fr r => ?_
        refine seq_skip r rfl rfl rfl (v := .bool true) (congrArg Value.bool (rfl : true = _)) (by simp [boolOf]) fun fr r => ?_
        refine seq_val (.bool true) r (fun R => y_pick r (b := true) (congrArg Value.bool (rfl : true = _)) rfl) rfl fun fr r => ?_
        refine wpList_nil ?_
        exact nxy5 true () _ _ _ hD r (hs_cons rfl (hs_cons rfl (hs_cons rfl (hs_cons rfl (hs_cons rfl (hs_cons rfl hs_nil)))))) (hP.pick [0, 1, 2] rfl rfl)
      · skip
        have hD := (cond_f h10).symm.trans hD
        refine seq_want r rfl rfl rfl (congrArg Value.bool h10) ?_
        refine seq_val a1_v r (fun R => y_move r rfl) rfl fun fr r => ?_
        refine seq_want r rfl rfl rfl (congrArg Value.bool h10) ?_
        refine seq_val (.int .i64 (a1.length : Int)) r (fun R => y_rowLen r (hP.ro (i := 0) rfl) is24 rfl) rfl fun fr r => ?_
        refine seq_want r rfl rfl rfl (congrArg Value.bool h10) ?_
        refine seq_val (.bool (decide ((a1.length : Int) > 40))) r (fun R => y_bin r (u := (.int .i64 (a1.length : Int))) (u' := (.int .i64 40)) rfl rfl rfl rfl) rfl fun fr r => ?_
        refine seq_val (.bool (decide ((a1.length : Int) > 40))) r (fun R => y_pick r (b := false) (congrArg Value.bool h10) rfl) rfl fun fr r => ?_
        refine seq_val (.bool (decide ((a1.length : Int) > 40))) r (fun R => y_move r rfl) rfl fun fr r => ?_
        refine seq_split (decide ((a1.length : Int) > 40)) (fun h11 => ?_) (fun h11 => ?_)
        · skip
          have hD := (cond_t h11).symm.trans hD
          refine seq_skip r rfl rfl rfl (v := .bool true) (congrArg Value.bool h11) (by simp [boolOf]) fun fr r => ?_
          refine seq_skip r rfl rfl rfl (v := .bool true) (congrArg Value.bool h11) (by simp [boolOf]) fun fr r => ?_
          refine seq_skip r rfl rfl rfl (v := .bool true) (congrArg Value.bool h11) (by simp [boolOf]) fun fr r => ?_
          refine seq_val (.bool true) r (fun R => y_pick r (b := true) (congrArg Value.bool h11) rfl) rfl fun fr r => ?_
          refine wpList_nil ?_
          exact nxy5 true () _ _ _ hD r (hs_cons rfl (hs_cons rfl (hs_cons rfl (hs_cons rfl (hs_cons rfl (hs_cons rfl hs_nil)))))) (hP.pick [0, 1, 2] rfl rfl)
        · skip
          have hD := (cond_f h11).symm.trans hD
          refine seq_want r rfl rfl rfl (congrArg Value.bool h11) ?_
          refine seq_val a2_v r (fun R => y_move r rfl) rfl fun fr r => ?_
          refine seq_want r rfl rfl rfl (congrArg Value.bool h11) ?_
          refine seq_val (.int .i64 (a2.length : Int)) r (fun R => y_rowLen r (hP.ro (i := 1) rfl) is24 rfl) rfl fun fr r => ?_
          refine seq_want r rfl rfl rfl (congrArg Value.bool h11) ?_
          refine seq_val (.bool (decide ((a2.length : Int) > 40))) r (fun R => y_bin r (u := (.int .i64 (a2.length : Int))) (u' := (.int .i64 40)) rfl rfl rfl rfl) rfl fun fr r => ?_
          refine seq_val (.bool (decide ((a2.length : Int) > 40))) r (fun R => y_pick r (b := false) (congrArg Value.bool h11) rfl) rfl fun fr r => ?_
          refine wpList_nil ?_
          exact nxy5 (decide ((a2.length : Int) > 40)) () _ _ _ hD r (hs_cons rfl (hs_cons rfl (hs_cons rfl (hs_cons rfl (hs_cons rfl (hs_cons rfl hs_nil)))))) (hP.pick [0, 1, 2] rfl rfl)
  · skip
    rintro x12 γ13 fr w14 g r hP hD
    have hP : Post No [roK 3 1 i64 a1_v a1, roK 3 1 i64 a2_v a2, cellC b1 ((planC a0)).toArray 23] w0 w14 := hP
    refine wp_cond_split (t := x12) (r.ev rfl) (fun h15 => ?_) (fun h15 => ?_)
    · skip
      have hD := (cond_t h15).symm.trans hD
      refine wp_seq ?_
      refine wp_region_lit ?_
      obtain ⟨x16, hx16, hD⟩ := bindD_elim hD
      refine seq_call r (c_cubiclelaw11_awake w14  hx16) (fun R hc => y_call r rfl cl12 hc) rfl ?_
      rintro _ w17 ⟨rfl, hb⟩
      refine ⟨_, rfl, fun fr r => ?_⟩
      have hP : Post No [roK 3 1 i64 a1_v a1, roK 3 1 i64 a2_v a2, cellC b1 ((planC a0)).toArray 23] w0 w17 := hP.below hb
      refine seq_val (.bool x16) r (fun R => y_assign r rfl) rfl fun fr r => ?_
      refine wpList_nil ?_
      refine wp_ret ?_
      have hv : x16 = res := Option.some.inj hD
      try dsimp only [Exit.then, Exit.inBlock]
      refine ret_tmp (fn := Tryz.f6) r (t := 6) rfl (v := (.bool x16)) rfl ?_
      subst hv
      exact ⟨rfl, hP.chg.below⟩
    · skip
      have hD := (cond_f h15).symm.trans hD
      refine wp_skip ?_
      refine wp_seq ?_
      refine wp_region_lit ?_
      refine seq_val (.agg (planC a0).toArray) r (fun R => y_load_agg r (cs := (planC a0)) (n := 6) rfl (hP.cell (i := 2) rfl) ta23 rfl) rfl fun fr r => ?_
      refine seq_val (.agg (stateC (⟨0, 2, 0⟩ : State)).toArray) r (fun R => y_build r (by kernel_rfl)) rfl fun fr r => ?_
      obtain ⟨x18, hx18, hD⟩ := bindD_elim hD
      refine seq_call r (c_cubiclelaw11_popped w14 a0 (⟨0, 2, 0⟩ : State) hx18) (fun R hc => y_call r rfl cl14 hc) rfl ?_
      rintro _ w19 ⟨mg20, rfl, hq⟩
      refine ⟨_, rfl, fun fr r => ?_⟩
      have hP : Post No [roK 3 1 i64 a1_v a1, roK 3 1 i64 a2_v a2, cellC b1 ((planC a0)).toArray 23, memK mg20 x18] w0 w19 := hP.add hq
      refine seq_val (.pointer (some ⟨mg20.mb, 0, none⟩)) r (fun R => y_assign r rfl) rfl fun fr r => ?_
      refine wpList_nil ?_
      refine wp_seq ?_
      refine wp_seq ?_
      refine wp_region_lit ?_
      refine seq_val (.pointer (some ⟨mg20.mb, 0, none⟩)) r (fun R => y_move r rfl) rfl fun fr r => ?_
      refine seq_val (.bool false) r (fun R => y_bin r (u := (.pointer (some ⟨mg20.mb, 0, none⟩))) (u' := (.pointer none)) (v := (.bool false)) rfl rfl rfl rfl) rfl fun fr r => ?_
      refine wpList_nil ?_
      refine wp_cond_split (t := false) (r.ev rfl) (fun h => absurd ((rfl : false = _).symm.trans h) (by decide)) (fun _ => ?_)
      refine wp_skip ?_
      refine wp_seq ?_
      refine wp_region_lit ?_
      refine seq_val (Value.slice none 0 0) r (fun R => y_assign r rfl) rfl fun fr r => ?_
      refine wpList_nil ?_
      refine wp_seq ?_
      refine wp_seq ?_
      refine wp_region_lit ?_
      refine seq_val (.int .i64 0) r (fun R => y_assign r rfl) rfl fun fr r => ?_
      refine wpList_nil ?_
      have hP : Post No [roK 3 1 i64 a1_v a1, roK 3 1 i64 a2_v a2, cellC b1 ((planC a0)).toArray 23, memK mg20 x18, rowK 3 1 i64 (Value.slice none 0 0) ([])] w0 w19 := hP.nilRow 3 1 i64
      refine wp_loopG (X := List Int × Int × Mem) (G := Value) (x0 := ([], 0, x18)) (fun x γ => [(0, (.agg (planC a0).toArray)), (1, a1_v), (2, a2_v), (3, (.pointer (some ⟨b1, 0, none⟩))), (6, (.bool false)), (36, (.bool x12)), (7, (.pointer (some ⟨mg20.mb, 0, none⟩))), (42, (.bool false)), (8, γ), (9, (.int .i64 x.2.1))]) (fun x γ w => Post No [roK 3 1 i64 a1_v a1, roK 3 1 i64 a2_v a2, cellC b1 ((planC a0)).toArray 23, memK mg20 x.2.2, rowK 3 1 i64 γ x.1] w0 w) (Value.slice none 0 0) r (hs_cons rfl (hs_cons rfl (hs_cons rfl (hs_cons rfl (hs_cons rfl (hs_cons rfl (hs_cons rfl (hs_cons rfl (hs_cons rfl (hs_cons rfl hs_nil)))))))))) hP hD ?_ ?_
      · skip
        rintro x23 γ24 fr w26 g y25 RPy25 nxy25 bky25 rty25 r hP hD
        have hP : Post No [roK 3 1 i64 a1_v a1, roK 3 1 i64 a2_v a2, cellC b1 ((planC a0)).toArray 23, memK mg20 x23.2.2, rowK 3 1 i64 γ24 x23.1] w0 w26 := hP
        refine wp_seq ?_
        refine wp_seq ?_
        refine wp_region_lit ?_
        refine seq_val (.int .i64 x23.2.1) r (fun R => y_move r rfl) rfl fun fr r => ?_
        refine seq_val a1_v r (fun R => y_move r rfl) rfl fun fr r => ?_
        refine seq_val (.int .i64 (a1.length : Int)) r (fun R => y_rowLen r (hP.ro (i := 0) rfl) is24 rfl) rfl fun fr r => ?_
        refine seq_val (.bool (decide (x23.2.1 < (a1.length : Int)))) r (fun R => y_bin r (u := (.int .i64 x23.2.1)) (u' := (.int .i64 (a1.length : Int))) rfl rfl rfl rfl) rfl fun fr r => ?_
        refine wpList_nil ?_
        refine wp_cond_split (t := (decide (x23.2.1 < (a1.length : Int)))) (r.ev rfl) (fun h27 => ?_) (fun h27 => ?_)
        · skip
          have hD := (cond_t h27).symm.trans hD
          refine wp_skip ?_
          refine wp_seq ?_
          refine wp_block ?_
          refine wp_seq ?_
          refine wp_joinG (N := 187) (Y := Bool) (G := Unit) (fun x γ => [(0, (.agg (planC a0).toArray)), (1, a1_v), (2, a2_v), (3, (.pointer (some ⟨b1, 0, none⟩))), (6, (.bool false)), (36, (.bool x12)), (7, (.pointer (some ⟨mg20.mb, 0, none⟩))), (42, (.bool false)), (8, γ24), (9, (.int .i64 x23.2.1)), (46, (.bool (decide (x23.2.1 < (a1.length : Int))))), (71, (.bool x))]) (fun x γ w => Post No [roK 3 1 i64 a1_v a1, roK 3 1 i64 a2_v a2, cellC b1 ((planC a0)).toArray 23, memK mg20 x23.2.2, rowK 3 1 i64 γ24 x23.1] w0 w) hD ?_ ?_
          · skip
            rintro y28 RPy28 nxy28 hD
            obtain ⟨x29, hx29, hD⟩ := bindD_elim hD
            refine seq_split (decide (x29 ≥ 0)) (fun h30 => ?_) (fun h30 => ?_)
            · skip
              have hD := (cond_t h30).symm.trans hD
              obtain ⟨x31, hx31, hD⟩ := bindD_elim hD
              refine seq_split (decide (x31 < a0.nodes)) (fun h32 => ?_) (fun h32 => ?_)
              · skip
                have hD := (cond_t h32).symm.trans hD
                obtain ⟨x33, hx33, hD⟩ := bindD_elim hD
                obtain ⟨x34, hx34, hD⟩ := bindD_elim hD
                refine wp_freeF [.val a1_v, .val (.int .i64 x23.2.1), .val (.pointer (some ⟨rowB a1_v, rowO a1_v + x23.2.1.toNat * 1, none⟩)), .val (.int .i64 x29), .val (.bool (decide (x29 ≥ 0))), .val (.bool (decide (x29 ≥ 0))), .val a1_v, .val (.int .i64 x23.2.1), .val (.pointer (some ⟨rowB a1_v, rowO a1_v + x23.2.1.toNat * 1, none⟩)), .val (.int .i64 x31), .val (.pointer (some ⟨b1, 0, none⟩)), .val (.int .i64 a0.nodes), .val (.bool (decide (x31 < a0.nodes))), .val (.bool (decide (x31 < a0.nodes))), .val (.bool (decide (x31 < a0.nodes))), .val γ24, .val a1_v, .val (.int .i64 x23.2.1), .val (.pointer (some ⟨rowB a1_v, rowO a1_v + x23.2.1.toNat * 1, none⟩)), .val (.int .i64 x33), .val (.bool x34), .val (.bool (!x34)), .val (.bool (!x34))] mixed r (by kernel_rfl) ?_ ?_
                · skip
                  refine eachF_cons r rfl (fun fr1 g w' hb' hd r' => ?_) ?_
                  · exact y_move r' (v := a1_v) rfl ⟨Below.refl _ _, rfl⟩
                  refine eachF_cons r rfl (fun fr1 g w' hb' hd r' => ?_) ?_
                  · exact y_move r' (v := (.int .i64 x23.2.1)) rfl ⟨Below.refl _ _, rfl⟩
                  refine eachF_cons r rfl (fun fr1 g w' hb' hd r' => ?_) ?_
                  · exact y_rowAddr r' ((hP.below (dr hb')).ro (i := 0) rfl) hx29 sl24 (hd 0 rfl).1 (hd 1 rfl).1 ⟨Below.refl _ _, rfl⟩
                  refine eachF_cons r rfl (fun fr1 g w' hb' hd r' => ?_) ?_
                  · exact y_loadL_one r' (u := (.int .i64 x29)) (RoAt.at_ (f := i64) (x := x29) ((hP.below (dr hb')).ro (i := 0) rfl) (fun _ => rfl) hx29) (hd 2 rfl).1 to3 ⟨Below.refl _ _, rfl⟩
                  refine eachF_cons r rfl (fun fr1 g w' hb' hd r' => ?_) ?_
                  · exact y_bin r' (u := (.int .i64 x29)) (u' := (.int .i64 0)) (v := (.bool (decide (x29 ≥ 0)))) (hd 3 rfl).1 rfl rfl rfl ⟨Below.refl _ _, rfl⟩
                  refine eachF_cons r rfl (fun fr1 g w' hb' hd r' => ?_) ?_
                  · exact y_move r' (v := (.bool (decide (x29 ≥ 0)))) (hd 4 rfl).1 ⟨Below.refl _ _, rfl⟩
                  refine eachF_want true r rfl rfl rfl (fun g w' hd => Eq.trans (show (g 5).v = .bool (decide (x29 ≥ 0)) from (hd 5 rfl).1) (congrArg Value.bool h30)) (fun fr1 g w' hb' hd r' => ?_) ?_
                  · exact y_move r' (v := a1_v) rfl ⟨Below.refl _ _, rfl⟩
                  refine eachF_want true r rfl rfl rfl (fun g w' hd => Eq.trans (show (g 5).v = .bool (decide (x29 ≥ 0)) from (hd 5 rfl).1) (congrArg Value.bool h30)) (fun fr1 g w' hb' hd r' => ?_) ?_
                  · exact y_move r' (v := (.int .i64 x23.2.1)) rfl ⟨Below.refl _ _, rfl⟩
                  refine eachF_want true r rfl rfl rfl (fun g w' hd => Eq.trans (show (g 5).v = .bool (decide (x29 ≥ 0)) from (hd 5 rfl).1) (congrArg Value.bool h30)) (fun fr1 g w' hb' hd r' => ?_) ?_
                  · exact y_rowAddr r' ((hP.below (dr hb')).ro (i := 0) rfl) hx31 sl24 (hd 6 rfl).1 (hd 7 rfl).1 ⟨Below.refl _ _, rfl⟩
                  refine eachF_want true r rfl rfl rfl (fun g w' hd => Eq.trans (show (g 5).v = .bool (decide (x29 ≥ 0)) from (hd 5 rfl).1) (congrArg Value.bool h30)) (fun fr1 g w' hb' hd r' => ?_) ?_
                  · exact y_loadL_one r' (u := (.int .i64 x31)) (RoAt.at_ (f := i64) (x := x31) ((hP.below (dr hb')).ro (i := 0) rfl) (fun _ => rfl) hx31) (hd 8 rfl).1 to3 ⟨Below.refl _ _, rfl⟩
                  refine eachF_want true r rfl rfl rfl (fun g w' hd => Eq.trans (show (g 5).v = .bool (decide (x29 ≥ 0)) from (hd 5 rfl).1) (congrArg Value.bool h30)) (fun fr1 g w' hb' hd r' => ?_) ?_
                  · exact y_fieldAddr r' (b := b1) (o := 0) (k := 0) rfl fo23_0 ⟨Below.refl _ _, rfl⟩
                  refine eachF_want true r rfl rfl rfl (fun g w' hd => Eq.trans (show (g 5).v = .bool (decide (x29 ≥ 0)) from (hd 5 rfl).1) (congrArg Value.bool h30)) (fun fr1 g w' hb' hd r' => ?_) ?_
                  · exact y_load_one r' (v := (.int .i64 a0.nodes)) (hd 10 rfl).1 ((hP.below (dr hb')).cell (i := 2) rfl) to3 rfl ⟨Below.refl _ _, rfl⟩
                  refine eachF_want true r rfl rfl rfl (fun g w' hd => Eq.trans (show (g 5).v = .bool (decide (x29 ≥ 0)) from (hd 5 rfl).1) (congrArg Value.bool h30)) (fun fr1 g w' hb' hd r' => ?_) ?_
                  · exact y_bin r' (u := (.int .i64 x31)) (u' := (.int .i64 a0.nodes)) (v := (.bool (decide (x31 < a0.nodes)))) (hd 9 rfl).1 (hd 11 rfl).1 rfl rfl ⟨Below.refl _ _, rfl⟩
                  refine eachF_cons r rfl (fun fr1 g w' hb' hd r' => ?_) ?_
                  · exact y_pick r' (b := true) (v := (.bool (decide (x31 < a0.nodes)))) (Eq.trans (show (g 5).v = .bool (decide (x29 ≥ 0)) from (hd 5 rfl).1) (congrArg Value.bool h30)) (hd 12 rfl).1 ⟨Below.refl _ _, rfl⟩
                  refine eachF_cons r rfl (fun fr1 g w' hb' hd r' => ?_) ?_
                  · exact y_move r' (v := (.bool (decide (x31 < a0.nodes)))) (hd 13 rfl).1 ⟨Below.refl _ _, rfl⟩
                  refine eachF_want true r rfl rfl rfl (fun g w' hd => Eq.trans (show (g 14).v = .bool (decide (x31 < a0.nodes)) from (hd 14 rfl).1) (congrArg Value.bool h32)) (fun fr1 g w' hb' hd r' => ?_) ?_
                  · exact y_move r' (v := γ24) rfl ⟨Below.refl _ _, rfl⟩
                  refine eachF_want true r rfl rfl rfl (fun g w' hd => Eq.trans (show (g 14).v = .bool (decide (x31 < a0.nodes)) from (hd 14 rfl).1) (congrArg Value.bool h32)) (fun fr1 g w' hb' hd r' => ?_) ?_
                  · exact y_move r' (v := a1_v) rfl ⟨Below.refl _ _, rfl⟩
                  refine eachF_want true r rfl rfl rfl (fun g w' hd => Eq.trans (show (g 14).v = .bool (decide (x31 < a0.nodes)) from (hd 14 rfl).1) (congrArg Value.bool h32)) (fun fr1 g w' hb' hd r' => ?_) ?_
                  · exact y_move r' (v := (.int .i64 x23.2.1)) rfl ⟨Below.refl _ _, rfl⟩
                  refine eachF_want true r rfl rfl rfl (fun g w' hd => Eq.trans (show (g 14).v = .bool (decide (x31 < a0.nodes)) from (hd 14 rfl).1) (congrArg Value.bool h32)) (fun fr1 g w' hb' hd r' => ?_) ?_
                  · exact y_rowAddr r' ((hP.below (dr hb')).ro (i := 0) rfl) hx33 sl24 (hd 16 rfl).1 (hd 17 rfl).1 ⟨Below.refl _ _, rfl⟩
                  refine eachF_want true r rfl rfl rfl (fun g w' hd => Eq.trans (show (g 14).v = .bool (decide (x31 < a0.nodes)) from (hd 14 rfl).1) (congrArg Value.bool h32)) (fun fr1 g w' hb' hd r' => ?_) ?_
                  · exact y_loadL_one r' (u := (.int .i64 x33)) (RoAt.at_ (f := i64) (x := x33) ((hP.below (dr hb')).ro (i := 0) rfl) (fun _ => rfl) hx33) (hd 18 rfl).1 to3 ⟨Below.refl _ _, rfl⟩
                  refine eachF_want true r rfl rfl rfl (fun g w' hd => Eq.trans (show (g 14).v = .bool (decide (x31 < a0.nodes)) from (hd 14 rfl).1) (congrArg Value.bool h32)) (fun fr1 g w' hb' hd r' => ?_) ?_
                  · exact y_call r' (args := [γ24, (.int .i64 x33)]) (lc (hd 15 rfl).1 (lc (hd 19 rfl).1 l0)) cl15 ((c_cubicleref09_Has _ x23.1 ((hP.below (dr hb')).row (i := 4) rfl).ro x33 hx34).mono (by rintro _ w2 ⟨rfl, hb2⟩; exact ⟨_, rfl, hb2, rfl⟩))
                  refine eachF_want true r rfl rfl rfl (fun g w' hd => Eq.trans (show (g 14).v = .bool (decide (x31 < a0.nodes)) from (hd 14 rfl).1) (congrArg Value.bool h32)) (fun fr1 g w' hb' hd r' => ?_) ?_
                  · exact y_un r' (u := (.bool x34)) (v := (.bool (!x34))) (hd 20 rfl).1 rfl ⟨Below.refl _ _, rfl⟩
                  refine eachF_cons r rfl (fun fr1 g w' hb' hd r' => ?_) ?_
                  · exact y_pick r' (b := true) (v := (.bool (!x34))) (Eq.trans (show (g 14).v = .bool (decide (x31 < a0.nodes)) from (hd 14 rfl).1) (congrArg Value.bool h32)) (hd 21 rfl).1 ⟨Below.refl _ _, rfl⟩
                  exact eachF_nil
                · skip
                  intro fr gg w35 hb hΦ hap r
                  have g0 : (gg 0).v = a1_v := (hΦ 0 rfl).1
                  have g1 : (gg 1).v = (.int .i64 x23.2.1) := (hΦ 1 rfl).1
                  have g2 : (gg 2).v = (.pointer (some ⟨rowB a1_v, rowO a1_v + x23.2.1.toNat * 1, none⟩)) := (hΦ 2 rfl).1
                  have g3 : (gg 3).v = (.int .i64 x29) := (hΦ 3 rfl).1
                  have g4 : (gg 4).v = (.bool (decide (x29 ≥ 0))) := (hΦ 4 rfl).1
                  have g5 : (gg 5).v = (.bool (decide (x29 ≥ 0))) := (hΦ 5 rfl).1
                  have g6 : (gg 6).v = a1_v := (hΦ 6 rfl).1
                  have g7 : (gg 7).v = (.int .i64 x23.2.1) := (hΦ 7 rfl).1
                  have g8 : (gg 8).v = (.pointer (some ⟨rowB a1_v, rowO a1_v + x23.2.1.toNat * 1, none⟩)) := (hΦ 8 rfl).1
                  have g9 : (gg 9).v = (.int .i64 x31) := (hΦ 9 rfl).1
                  have g10 : (gg 10).v = (.pointer (some ⟨b1, 0, none⟩)) := (hΦ 10 rfl).1
                  have g11 : (gg 11).v = (.int .i64 a0.nodes) := (hΦ 11 rfl).1
                  have g12 : (gg 12).v = (.bool (decide (x31 < a0.nodes))) := (hΦ 12 rfl).1
                  have g13 : (gg 13).v = (.bool (decide (x31 < a0.nodes))) := (hΦ 13 rfl).1
                  have g14 : (gg 14).v = (.bool (decide (x31 < a0.nodes))) := (hΦ 14 rfl).1
                  have g15 : (gg 15).v = γ24 := (hΦ 15 rfl).1
                  have g16 : (gg 16).v = a1_v := (hΦ 16 rfl).1
                  have g17 : (gg 17).v = (.int .i64 x23.2.1) := (hΦ 17 rfl).1
                  have g18 : (gg 18).v = (.pointer (some ⟨rowB a1_v, rowO a1_v + x23.2.1.toNat * 1, none⟩)) := (hΦ 18 rfl).1
                  have g19 : (gg 19).v = (.int .i64 x33) := (hΦ 19 rfl).1
                  have g20 : (gg 20).v = (.bool x34) := (hΦ 20 rfl).1
                  have g21 : (gg 21).v = (.bool (!x34)) := (hΦ 21 rfl).1
                  have g22 : (gg 22).v = (.bool (!x34)) := (hΦ 22 rfl).1
                  have r := r.congr (sc g22 (sc g21 (sc g20 (sc g19 (sc g18 (sc g17 (sc g16 (sc g15 (sc g14 (sc g13 (sc g12 (sc g11 (sc g10 (sc g9 (sc g8 (sc g7 (sc g6 (sc g5 (sc g4 (sc g3 (sc g2 (sc g1 (sc g0 rfl)))))))))))))))))))))))
                  have hP : Post No [roK 3 1 i64 a1_v a1, roK 3 1 i64 a2_v a2, cellC b1 ((planC a0)).toArray 23, memK mg20 x23.2.2, rowK 3 1 i64 γ24 x23.1] w0 w35 := hP.below hb
                  exact nxy28 (!x34) () _ _ _ hD r (hs_cons rfl (hs_cons rfl (hs_cons rfl (hs_cons rfl (hs_cons rfl (hs_cons rfl (hs_cons rfl (hs_cons rfl (hs_cons rfl (hs_cons rfl (hs_cons rfl (hs_cons rfl hs_nil)))))))))))) (hP.pick [0, 1, 2, 3, 4] rfl rfl)
              · skip
                have hD := (cond_f h32).symm.trans hD
                refine wp_freeF [.val a1_v, .val (.int .i64 x23.2.1), .val (.pointer (some ⟨rowB a1_v, rowO a1_v + x23.2.1.toNat * 1, none⟩)), .val (.int .i64 x29), .val (.bool (decide (x29 ≥ 0))), .val (.bool (decide (x29 ≥ 0))), .val a1_v, .val (.int .i64 x23.2.1), .val (.pointer (some ⟨rowB a1_v, rowO a1_v + x23.2.1.toNat * 1, none⟩)), .val (.int .i64 x31), .val (.pointer (some ⟨b1, 0, none⟩)), .val (.int .i64 a0.nodes), .val (.bool (decide (x31 < a0.nodes))), .val (.bool (decide (x31 < a0.nodes))), .val (.bool (decide (x31 < a0.nodes))), .val undef, .val undef, .val undef, .val undef, .val undef, .val undef, .val undef, .val (.bool false)] mixed r (by kernel_rfl) ?_ ?_
                · skip
                  refine eachF_cons r rfl (fun fr1 g w' hb' hd r' => ?_) ?_
                  · exact y_move r' (v := a1_v) rfl ⟨Below.refl _ _, rfl⟩
                  refine eachF_cons r rfl (fun fr1 g w' hb' hd r' => ?_) ?_
                  · exact y_move r' (v := (.int .i64 x23.2.1)) rfl ⟨Below.refl _ _, rfl⟩
                  refine eachF_cons r rfl (fun fr1 g w' hb' hd r' => ?_) ?_
                  · exact y_rowAddr r' ((hP.below (dr hb')).ro (i := 0) rfl) hx29 sl24 (hd 0 rfl).1 (hd 1 rfl).1 ⟨Below.refl _ _, rfl⟩
                  refine eachF_cons r rfl (fun fr1 g w' hb' hd r' => ?_) ?_
                  · exact y_loadL_one r' (u := (.int .i64 x29)) (RoAt.at_ (f := i64) (x := x29) ((hP.below (dr hb')).ro (i := 0) rfl) (fun _ => rfl) hx29) (hd 2 rfl).1 to3 ⟨Below.refl _ _, rfl⟩
                  refine eachF_cons r rfl (fun fr1 g w' hb' hd r' => ?_) ?_
                  · exact y_bin r' (u := (.int .i64 x29)) (u' := (.int .i64 0)) (v := (.bool (decide (x29 ≥ 0)))) (hd 3 rfl).1 rfl rfl rfl ⟨Below.refl _ _, rfl⟩
                  refine eachF_cons r rfl (fun fr1 g w' hb' hd r' => ?_) ?_
                  · exact y_move r' (v := (.bool (decide (x29 ≥ 0)))) (hd 4 rfl).1 ⟨Below.refl _ _, rfl⟩
                  refine eachF_want true r rfl rfl rfl (fun g w' hd => Eq.trans (show (g 5).v = .bool (decide (x29 ≥ 0)) from (hd 5 rfl).1) (congrArg Value.bool h30)) (fun fr1 g w' hb' hd r' => ?_) ?_
                  · exact y_move r' (v := a1_v) rfl ⟨Below.refl _ _, rfl⟩
                  refine eachF_want true r rfl rfl rfl (fun g w' hd => Eq.trans (show (g 5).v = .bool (decide (x29 ≥ 0)) from (hd 5 rfl).1) (congrArg Value.bool h30)) (fun fr1 g w' hb' hd r' => ?_) ?_
                  · exact y_move r' (v := (.int .i64 x23.2.1)) rfl ⟨Below.refl _ _, rfl⟩
                  refine eachF_want true r rfl rfl rfl (fun g w' hd => Eq.trans (show (g 5).v = .bool (decide (x29 ≥ 0)) from (hd 5 rfl).1) (congrArg Value.bool h30)) (fun fr1 g w' hb' hd r' => ?_) ?_
                  · exact y_rowAddr r' ((hP.below (dr hb')).ro (i := 0) rfl) hx31 sl24 (hd 6 rfl).1 (hd 7 rfl).1 ⟨Below.refl _ _, rfl⟩
                  refine eachF_want true r rfl rfl rfl (fun g w' hd => Eq.trans (show (g 5).v = .bool (decide (x29 ≥ 0)) from (hd 5 rfl).1) (congrArg Value.bool h30)) (fun fr1 g w' hb' hd r' => ?_) ?_
                  · exact y_loadL_one r' (u := (.int .i64 x31)) (RoAt.at_ (f := i64) (x := x31) ((hP.below (dr hb')).ro (i := 0) rfl) (fun _ => rfl) hx31) (hd 8 rfl).1 to3 ⟨Below.refl _ _, rfl⟩
                  refine eachF_want true r rfl rfl rfl (fun g w' hd => Eq.trans (show (g 5).v = .bool (decide (x29 ≥ 0)) from (hd 5 rfl).1) (congrArg Value.bool h30)) (fun fr1 g w' hb' hd r' => ?_) ?_
                  · exact y_fieldAddr r' (b := b1) (o := 0) (k := 0) rfl fo23_0 ⟨Below.refl _ _, rfl⟩
                  refine eachF_want true r rfl rfl rfl (fun g w' hd => Eq.trans (show (g 5).v = .bool (decide (x29 ≥ 0)) from (hd 5 rfl).1) (congrArg Value.bool h30)) (fun fr1 g w' hb' hd r' => ?_) ?_
                  · exact y_load_one r' (v := (.int .i64 a0.nodes)) (hd 10 rfl).1 ((hP.below (dr hb')).cell (i := 2) rfl) to3 rfl ⟨Below.refl _ _, rfl⟩
                  refine eachF_want true r rfl rfl rfl (fun g w' hd => Eq.trans (show (g 5).v = .bool (decide (x29 ≥ 0)) from (hd 5 rfl).1) (congrArg Value.bool h30)) (fun fr1 g w' hb' hd r' => ?_) ?_
                  · exact y_bin r' (u := (.int .i64 x31)) (u' := (.int .i64 a0.nodes)) (v := (.bool (decide (x31 < a0.nodes)))) (hd 9 rfl).1 (hd 11 rfl).1 rfl rfl ⟨Below.refl _ _, rfl⟩
                  refine eachF_cons r rfl (fun fr1 g w' hb' hd r' => ?_) ?_
                  · exact y_pick r' (b := true) (v := (.bool (decide (x31 < a0.nodes)))) (Eq.trans (show (g 5).v = .bool (decide (x29 ≥ 0)) from (hd 5 rfl).1) (congrArg Value.bool h30)) (hd 12 rfl).1 ⟨Below.refl _ _, rfl⟩
                  refine eachF_cons r rfl (fun fr1 g w' hb' hd r' => ?_) ?_
                  · exact y_move r' (v := (.bool (decide (x31 < a0.nodes)))) (hd 13 rfl).1 ⟨Below.refl _ _, rfl⟩
                  refine eachF_skip true (.bool false) r rfl rfl rfl (fun g w' hd => Eq.trans (show (g 14).v = .bool (decide (x31 < a0.nodes)) from (hd 14 rfl).1) (congrArg Value.bool h32)) (by simp [boolOf]) (fun _ _ => ⟨Below.refl _ _, rfl⟩) ?_
                  refine eachF_skip true (.bool false) r rfl rfl rfl (fun g w' hd => Eq.trans (show (g 14).v = .bool (decide (x31 < a0.nodes)) from (hd 14 rfl).1) (congrArg Value.bool h32)) (by simp [boolOf]) (fun _ _ => ⟨Below.refl _ _, rfl⟩) ?_
                  refine eachF_skip true (.bool false) r rfl rfl rfl (fun g w' hd => Eq.trans (show (g 14).v = .bool (decide (x31 < a0.nodes)) from (hd 14 rfl).1) (congrArg Value.bool h32)) (by simp [boolOf]) (fun _ _ => ⟨Below.refl _ _, rfl⟩) ?_
                  refine eachF_skip true (.bool false) r rfl rfl rfl (fun g w' hd => Eq.trans (show (g 14).v = .bool (decide (x31 < a0.nodes)) from (hd 14 rfl).1) (congrArg Value.bool h32)) (by simp [boolOf]) (fun _ _ => ⟨Below.refl _ _, rfl⟩) ?_
                  refine eachF_skip true (.bool false) r rfl rfl rfl (fun g w' hd => Eq.trans (show (g 14).v = .bool (decide (x31 < a0.nodes)) from (hd 14 rfl).1) (congrArg Value.bool h32)) (by simp [boolOf]) (fun _ _ => ⟨Below.refl _ _, rfl⟩) ?_
                  refine eachF_skip true (.bool false) r rfl rfl rfl (fun g w' hd => Eq.trans (show (g 14).v = .bool (decide (x31 < a0.nodes)) from (hd 14 rfl).1) (congrArg Value.bool h32)) (by simp [boolOf]) (fun _ _ => ⟨Below.refl _ _, rfl⟩) ?_
                  refine eachF_skip true (.bool false) r rfl rfl rfl (fun g w' hd => Eq.trans (show (g 14).v = .bool (decide (x31 < a0.nodes)) from (hd 14 rfl).1) (congrArg Value.bool h32)) (by simp [boolOf]) (fun _ _ => ⟨Below.refl _ _, rfl⟩) ?_
                  refine eachF_cons r rfl (fun fr1 g w' hb' hd r' => ?_) ?_
                  · exact y_pick r' (b := false) (v := (.bool false)) (Eq.trans (show (g 14).v = .bool (decide (x31 < a0.nodes)) from (hd 14 rfl).1) (congrArg Value.bool h32)) rfl ⟨Below.refl _ _, rfl⟩
                  exact eachF_nil
                · skip
                  intro fr gg w36 hb hΦ hap r
                  have g0 : (gg 0).v = a1_v := (hΦ 0 rfl).1
                  have g1 : (gg 1).v = (.int .i64 x23.2.1) := (hΦ 1 rfl).1
                  have g2 : (gg 2).v = (.pointer (some ⟨rowB a1_v, rowO a1_v + x23.2.1.toNat * 1, none⟩)) := (hΦ 2 rfl).1
                  have g3 : (gg 3).v = (.int .i64 x29) := (hΦ 3 rfl).1
                  have g4 : (gg 4).v = (.bool (decide (x29 ≥ 0))) := (hΦ 4 rfl).1
                  have g5 : (gg 5).v = (.bool (decide (x29 ≥ 0))) := (hΦ 5 rfl).1
                  have g6 : (gg 6).v = a1_v := (hΦ 6 rfl).1
                  have g7 : (gg 7).v = (.int .i64 x23.2.1) := (hΦ 7 rfl).1
                  have g8 : (gg 8).v = (.pointer (some ⟨rowB a1_v, rowO a1_v + x23.2.1.toNat * 1, none⟩)) := (hΦ 8 rfl).1
                  have g9 : (gg 9).v = (.int .i64 x31) := (hΦ 9 rfl).1
                  have g10 : (gg 10).v = (.pointer (some ⟨b1, 0, none⟩)) := (hΦ 10 rfl).1
                  have g11 : (gg 11).v = (.int .i64 a0.nodes) := (hΦ 11 rfl).1
                  have g12 : (gg 12).v = (.bool (decide (x31 < a0.nodes))) := (hΦ 12 rfl).1
                  have g13 : (gg 13).v = (.bool (decide (x31 < a0.nodes))) := (hΦ 13 rfl).1
                  have g14 : (gg 14).v = (.bool (decide (x31 < a0.nodes))) := (hΦ 14 rfl).1
                  have g15 : (gg 15).v = undef := (hΦ 15 rfl).1
                  have g16 : (gg 16).v = undef := (hΦ 16 rfl).1
                  have g17 : (gg 17).v = undef := (hΦ 17 rfl).1
                  have g18 : (gg 18).v = undef := (hΦ 18 rfl).1
                  have g19 : (gg 19).v = undef := (hΦ 19 rfl).1
                  have g20 : (gg 20).v = undef := (hΦ 20 rfl).1
                  have g21 : (gg 21).v = undef := (hΦ 21 rfl).1
                  have g22 : (gg 22).v = (.bool false) := (hΦ 22 rfl).1
                  have r := r.congr (sc g22 (sc g21 (sc g20 (sc g19 (sc g18 (sc g17 (sc g16 (sc g15 (sc g14 (sc g13 (sc g12 (sc g11 (sc g10 (sc g9 (sc g8 (sc g7 (sc g6 (sc g5 (sc g4 (sc g3 (sc g2 (sc g1 (sc g0 rfl)))))))))))))))))))))))
                  have hP : Post No [roK 3 1 i64 a1_v a1, roK 3 1 i64 a2_v a2, cellC b1 ((planC a0)).toArray 23, memK mg20 x23.2.2, rowK 3 1 i64 γ24 x23.1] w0 w36 := hP.below hb
                  exact nxy28 false () _ _ _ hD r (hs_cons rfl (hs_cons rfl (hs_cons rfl (hs_cons rfl (hs_cons rfl (hs_cons rfl (hs_cons rfl (hs_cons rfl (hs_cons rfl (hs_cons rfl (hs_cons rfl (hs_cons rfl hs_nil)))))))))))) (hP.pick [0, 1, 2, 3, 4] rfl rfl)
            · skip
              have hD := (cond_f h30).symm.trans hD
              refine wp_freeF [.val a1_v, .val (.int .i64 x23.2.1), .val (.pointer (some ⟨rowB a1_v, rowO a1_v + x23.2.1.toNat * 1, none⟩)), .val (.int .i64 x29), .val (.bool (decide (x29 ≥ 0))), .val (.bool (decide (x29 ≥ 0))), .val undef, .val undef, .val undef, .val undef, .val undef, .val undef, .val undef, .val (.bool false), .val (.bool false), .val undef, .val undef, .val undef, .val undef, .val undef, .val undef, .val undef, .val (.bool false)] mixed r (by kernel_rfl) ?_ ?_
              · skip
                refine eachF_cons r rfl (fun fr1 g w' hb' hd r' => ?_) ?_
                · exact y_move r' (v := a1_v) rfl ⟨Below.refl _ _, rfl⟩
                refine eachF_cons r rfl (fun fr1 g w' hb' hd r' => ?_) ?_
                · exact y_move r' (v := (.int .i64 x23.2.1)) rfl ⟨Below.refl _ _, rfl⟩
                refine eachF_cons r rfl (fun fr1 g w' hb' hd r' => ?_) ?_
                · exact y_rowAddr r' ((hP.below (dr hb')).ro (i := 0) rfl) hx29 sl24 (hd 0 rfl).1 (hd 1 rfl).1 ⟨Below.refl _ _, rfl⟩
                refine eachF_cons r rfl (fun fr1 g w' hb' hd r' => ?_) ?_
                · exact y_loadL_one r' (u := (.int .i64 x29)) (RoAt.at_ (f := i64) (x := x29) ((hP.below (dr hb')).ro (i := 0) rfl) (fun _ => rfl) hx29) (hd 2 rfl).1 to3 ⟨Below.refl _ _, rfl⟩
                refine eachF_cons r rfl (fun fr1 g w' hb' hd r' => ?_) ?_
                · exact y_bin r' (u := (.int .i64 x29)) (u' := (.int .i64 0)) (v := (.bool (decide (x29 ≥ 0)))) (hd 3 rfl).1 rfl rfl rfl ⟨Below.refl _ _, rfl⟩
                refine eachF_cons r rfl (fun fr1 g w' hb' hd r' => ?_) ?_
                · exact y_move r' (v := (.bool (decide (x29 ≥ 0)))) (hd 4 rfl).1 ⟨Below.refl _ _, rfl⟩
                refine eachF_skip true (.bool false) r rfl rfl rfl (fun g w' hd => Eq.trans (show (g 5).v = .bool (decide (x29 ≥ 0)) from (hd 5 rfl).1) (congrArg Value.bool h30)) (by simp [boolOf]) (fun _ _ => ⟨Below.refl _ _, rfl⟩) ?_
                refine eachF_skip true (.bool false) r rfl rfl rfl (fun g w' hd => Eq.trans (show (g 5).v = .bool (decide (x29 ≥ 0)) from (hd 5 rfl).1) (congrArg Value.bool h30)) (by simp [boolOf]) (fun _ _ => ⟨Below.refl _ _, rfl⟩) ?_
                refine eachF_skip true (.bool false) r rfl rfl rfl (fun g w' hd => Eq.trans (show (g 5).v = .bool (decide (x29 ≥ 0)) from (hd 5 rfl).1) (congrArg Value.bool h30)) (by simp [boolOf]) (fun _ _ => ⟨Below.refl _ _, rfl⟩) ?_
                refine eachF_skip true (.bool false) r rfl rfl rfl (fun g w' hd => Eq.trans (show (g 5).v = .bool (decide (x29 ≥ 0)) from (hd 5 rfl).1) (congrArg Value.bool h30)) (by simp [boolOf]) (fun _ _ => ⟨Below.refl _ _, rfl⟩) ?_
                refine eachF_skip true (.bool false) r rfl rfl rfl (fun g w' hd => Eq.trans (show (g 5).v = .bool (decide (x29 ≥ 0)) from (hd 5 rfl).1) (congrArg Value.bool h30)) (by simp [boolOf]) (fun _ _ => ⟨Below.refl _ _, rfl⟩) ?_
                refine eachF_skip true (.bool false) r rfl rfl rfl (fun g w' hd => Eq.trans (show (g 5).v = .bool (decide (x29 ≥ 0)) from (hd 5 rfl).1) (congrArg Value.bool h30)) (by simp [boolOf]) (fun _ _ => ⟨Below.refl _ _, rfl⟩) ?_
                refine eachF_skip true (.bool false) r rfl rfl rfl (fun g w' hd => Eq.trans (show (g 5).v = .bool (decide (x29 ≥ 0)) from (hd 5 rfl).1) (congrArg Value.bool h30)) (by simp [boolOf]) (fun _ _ => ⟨Below.refl _ _, rfl⟩) ?_
                refine eachF_cons r rfl (fun fr1 g w' hb' hd r' => ?_) ?_
                · exact y_pick r' (b := false) (v := (.bool false)) (Eq.trans (show (g 5).v = .bool (decide (x29 ≥ 0)) from (hd 5 rfl).1) (congrArg Value.bool h30)) rfl ⟨Below.refl _ _, rfl⟩
                refine eachF_cons r rfl (fun fr1 g w' hb' hd r' => ?_) ?_
                · exact y_move r' (v := (.bool false)) (hd 13 rfl).1 ⟨Below.refl _ _, rfl⟩
                refine eachF_skip true (.bool false) r rfl rfl rfl (fun g w' hd => Eq.trans (show (g 14).v = .bool false from (hd 14 rfl).1) (congrArg Value.bool (rfl : false = _))) (by simp [boolOf]) (fun _ _ => ⟨Below.refl _ _, rfl⟩) ?_
                refine eachF_skip true (.bool false) r rfl rfl rfl (fun g w' hd => Eq.trans (show (g 14).v = .bool false from (hd 14 rfl).1) (congrArg Value.bool (rfl : false = _))) (by simp [boolOf]) (fun _ _ => ⟨Below.refl _ _, rfl⟩) ?_
                refine eachF_skip true (.bool false) r rfl rfl rfl (fun g w' hd => Eq.trans (show (g 14).v = .bool false from (hd 14 rfl).1) (congrArg Value.bool (rfl : false = _))) (by simp [boolOf]) (fun _ _ => ⟨Below.refl _ _, rfl⟩) ?_
                refine eachF_skip true (.bool false) r rfl rfl rfl (fun g w' hd => Eq.trans (show (g 14).v = .bool false from (hd 14 rfl).1) (congrArg Value.bool (rfl : false = _))) (by simp [boolOf]) (fun _ _ => ⟨Below.refl _ _, rfl⟩) ?_
                refine eachF_skip true (.bool false) r rfl rfl rfl (fun g w' hd => Eq.trans (show (g 14).v = .bool false from (hd 14 rfl).1) (congrArg Value.bool (rfl : false = _))) (by simp [boolOf]) (fun _ _ => ⟨Below.refl _ _, rfl⟩) ?_
                refine eachF_skip true (.bool false) r rfl rfl rfl (fun g w' hd => Eq.trans (show (g 14).v = .bool false from (hd 14 rfl).1) (congrArg Value.bool (rfl : false = _))) (by simp [boolOf]) (fun _ _ => ⟨Below.refl _ _, rfl⟩) ?_
                refine eachF_skip true (.bool false) r rfl rfl rfl (fun g w' hd => Eq.trans (show (g 14).v = .bool false from (hd 14 rfl).1) (congrArg Value.bool (rfl : false = _))) (by simp [boolOf]) (fun _ _ => ⟨Below.refl _ _, rfl⟩) ?_
                refine eachF_cons r rfl (fun fr1 g w' hb' hd r' => ?_) ?_
                · exact y_pick r' (b := false) (v := (.bool false)) (Eq.trans (show (g 14).v = .bool false from (hd 14 rfl).1) (congrArg Value.bool (rfl : false = _))) rfl ⟨Below.refl _ _, rfl⟩
                exact eachF_nil
              · skip
                intro fr gg w37 hb hΦ hap r
                have g0 : (gg 0).v = a1_v := (hΦ 0 rfl).1
                have g1 : (gg 1).v = (.int .i64 x23.2.1) := (hΦ 1 rfl).1
                have g2 : (gg 2).v = (.pointer (some ⟨rowB a1_v, rowO a1_v + x23.2.1.toNat * 1, none⟩)) := (hΦ 2 rfl).1
                have g3 : (gg 3).v = (.int .i64 x29) := (hΦ 3 rfl).1
                have g4 : (gg 4).v = (.bool (decide (x29 ≥ 0))) := (hΦ 4 rfl).1
                have g5 : (gg 5).v = (.bool (decide (x29 ≥ 0))) := (hΦ 5 rfl).1
                have g6 : (gg 6).v = undef := (hΦ 6 rfl).1
                have g7 : (gg 7).v = undef := (hΦ 7 rfl).1
                have g8 : (gg 8).v = undef := (hΦ 8 rfl).1
                have g9 : (gg 9).v = undef := (hΦ 9 rfl).1
                have g10 : (gg 10).v = undef := (hΦ 10 rfl).1
                have g11 : (gg 11).v = undef := (hΦ 11 rfl).1
                have g12 : (gg 12).v = undef := (hΦ 12 rfl).1
                have g13 : (gg 13).v = (.bool false) := (hΦ 13 rfl).1
                have g14 : (gg 14).v = (.bool false) := (hΦ 14 rfl).1
                have g15 : (gg 15).v = undef := (hΦ 15 rfl).1
                have g16 : (gg 16).v = undef := (hΦ 16 rfl).1
                have g17 : (gg 17).v = undef := (hΦ 17 rfl).1
                have g18 : (gg 18).v = undef := (hΦ 18 rfl).1
                have g19 : (gg 19).v = undef := (hΦ 19 rfl).1
                have g20 : (gg 20).v = undef := (hΦ 20 rfl).1
                have g21 : (gg 21).v = undef := (hΦ 21 rfl).1
                have g22 : (gg 22).v = (.bool false) := (hΦ 22 rfl).1
                have r := r.congr (sc g22 (sc g21 (sc g20 (sc g19 (sc g18 (sc g17 (sc g16 (sc g15 (sc g14 (sc g13 (sc g12 (sc g11 (sc g10 (sc g9 (sc g8 (sc g7 (sc g6 (sc g5 (sc g4 (sc g3 (sc g2 (sc g1 (sc g0 rfl)))))))))))))))))))))))
                have hP : Post No [roK 3 1 i64 a1_v a1, roK 3 1 i64 a2_v a2, cellC b1 ((planC a0)).toArray 23, memK mg20 x23.2.2, rowK 3 1 i64 γ24 x23.1] w0 w37 := hP.below hb
                exact nxy28 false () _ _ _ hD r (hs_cons rfl (hs_cons rfl (hs_cons rfl (hs_cons rfl (hs_cons rfl (hs_cons rfl (hs_cons rfl (hs_cons rfl (hs_cons rfl (hs_cons rfl (hs_cons rfl (hs_cons rfl hs_nil)))))))))))) (hP.pick [0, 1, 2, 3, 4] rfl rfl)
          · skip
            rintro x38 γ39 fr w40 g r hP hD
            have hP : Post No [roK 3 1 i64 a1_v a1, roK 3 1 i64 a2_v a2, cellC b1 ((planC a0)).toArray 23, memK mg20 x23.2.2, rowK 3 1 i64 γ24 x23.1] w0 w40 := hP
            refine wp_joinG (N := 187) (Y := List Int × Mem) (G := Value) (fun x γ => [(0, (.agg (planC a0).toArray)), (1, a1_v), (2, a2_v), (3, (.pointer (some ⟨b1, 0, none⟩))), (6, (.bool false)), (36, (.bool x12)), (7, (.pointer (some ⟨mg20.mb, 0, none⟩))), (42, (.bool false)), (9, (.int .i64 x23.2.1)), (46, (.bool (decide (x23.2.1 < (a1.length : Int))))), (71, (.bool x38)), (8, γ)]) (fun x γ w => Post No [roK 3 1 i64 a1_v a1, roK 3 1 i64 a2_v a2, cellC b1 ((planC a0)).toArray 23, memK mg20 x.2, rowK 3 1 i64 γ x.1] w0 w) hD ?_ ?_
            · skip
              rintro y41 RPy41 nxy41 hD
              refine wp_cond_split (t := x38) (r.ev rfl) (fun h42 => ?_) (fun h42 => ?_)
              · skip
                have hD := (cond_t h42).symm.trans hD
                refine wp_seq ?_
                refine wp_region_lit ?_
                refine seq_val γ24 r (fun R => y_move r rfl) rfl fun fr r => ?_
                refine seq_val a1_v r (fun R => y_move r rfl) rfl fun fr r => ?_
                refine seq_val (.int .i64 x23.2.1) r (fun R => y_move r rfl) rfl fun fr r => ?_
                obtain ⟨x43, hx43, hD⟩ := bindD_elim hD
                refine seq_val (.pointer (some ⟨rowB a1_v, rowO a1_v + x23.2.1.toNat * 1, none⟩)) r (fun R => y_rowAddr r (hP.ro (i := 0) rfl) hx43 sl24 rfl rfl) rfl fun fr r => ?_
                refine seq_val (.int .i64 x43) r (fun R => y_loadL_one r (u := (.int .i64 x43)) (RoAt.at_ (f := i64) (x := x43) (hP.ro (i := 0) rfl) (fun _ => rfl) hx43) rfl to3) rfl fun fr r => ?_
                refine seq_newS (.cells (([x43]).flatMap i64).toArray 3 (0, 0)) 1 r (fun R => y_bslice r (by kernel_rfl)) rfl fun fr b44 w45 n46 r => ?_
                have hP : Post No [roK 3 1 i64 a1_v a1, roK 3 1 i64 a2_v a2, cellC b1 ((planC a0)).toArray 23, memK mg20 x23.2.2, rowK 3 1 i64 γ24 x23.1, rowK 3 1 i64 (.slice (some ⟨b44, 0, none⟩) 1 1) ([x43])] w0 w45 := hP.newRow n46 (fun _ => rfl) rfl
                obtain ⟨x48, hx48, hD⟩ := bindD_elim hD
                refine seq_app 3 1 i64 γ24 r (fun R => y_append r rt24 (fun _ => rfl) (fun _ => rfl) (hP.row (i := 4) rfl) (hP.row (i := 5) rfl).ro hx48 rfl rfl) rfl fun fr v49 w50 ha51 r => ?_
                have hP : Post No [roK 3 1 i64 a1_v a1, roK 3 1 i64 a2_v a2, cellC b1 ((planC a0)).toArray 23, memK mg20 x23.2.2, rowK 3 1 i64 v49 x48, rowK 3 1 i64 (.slice (some ⟨b44, 0, none⟩) 1 1) ([x43])] w0 w50 := hP.append (i := 4) rfl ha51
                refine seq_val v49 r (fun R => y_assign r rfl) rfl fun fr r => ?_
                refine wpList_nil ?_
                obtain ⟨x52, hx52, hD⟩ := bindD_elim hD
                obtain ⟨x54, hx54, hD⟩ := bindD_elim hD
                obtain ⟨x55, hx55, hD⟩ := bindD_elim hD
                refine wp_freeE mg20.bs [.val (.agg (planC a0).toArray), .val a1_v, .val (.int .i64 x23.2.1), .val (.pointer (some ⟨rowB a1_v, rowO a1_v + x23.2.1.toNat * 1, none⟩)), .val (.int .i64 x52), .pred (PrP Tryz.prog encInt (fu, (D.retire_Put a0 0 x52))) (PrP.st _), .val (.pointer (some ⟨mg20.mb, 0, none⟩)), .val (.pointer (some ⟨mg20.mb, 0, none⟩)), .val (.agg (capC x54).toArray), .eff (EffP w50.heap.size (memK mg20 x55.2.2.2) (fun _ : Unit => (.tuple #[(.int .i64 x55.1), (.int .i64 x55.2.1), (.bool x55.2.2.1)])) (fun _ : Unit => [])) (EffP.st _ _ _ _)] mixed r (fun b hb => hP.sep.lt (i := 3) rfl (.inl hb)) (by kernel_rfl) ?_ ?_
                · skip
                  refine eachE_late r rfl (fun fr1 g w' hk' hd r' => ?_) ?_
                  · exact y_load_agg r' (cs := (planC a0)) (n := 6) rfl (hP.cellK (j := 3) rfl (drK hk') (i := 2) rfl rfl) ta23 rfl ⟨Below.refl _ _, rfl⟩
                  refine eachE_late r rfl (fun fr1 g w' hk' hd r' => ?_) ?_
                  · exact y_move r' (v := a1_v) rfl ⟨Below.refl _ _, rfl⟩
                  refine eachE_late r rfl (fun fr1 g w' hk' hd r' => ?_) ?_
                  · exact y_move r' (v := (.int .i64 x23.2.1)) rfl ⟨Below.refl _ _, rfl⟩
                  refine eachE_late r rfl (fun fr1 g w' hk' hd r' => ?_) ?_
                  · exact y_rowAddr r' (show RoAt 0 _ _ _ _ _ from hP.okK (j := 3) rfl (drK hk') (i := 0) rfl rfl) hx52 sl24 (hd 1 rfl).1 (hd 2 rfl).1 ⟨Below.refl _ _, rfl⟩
                  refine eachE_late r rfl (fun fr1 g w' hk' hd r' => ?_) ?_
                  · exact y_loadL_one r' (u := (.int .i64 x52)) (RoAt.at_ (f := i64) (x := x52) (show RoAt 0 _ _ _ _ _ from hP.okK (j := 3) rfl (drK hk') (i := 0) rfl rfl) (fun _ => rfl) hx52) (hd 3 rfl).1 to3 ⟨Below.refl _ _, rfl⟩
                  refine eachE_early r rfl (by kernel_rfl) (fun fr1 g w' hb' hd r' => ?_) ?_
                  · exact y_call r' (args := [(.agg (planC a0).toArray), (.int .i64 0), (.int .i64 x52)]) (lc (hd 0 rfl).1 (lc rfl (lc (hd 4 rfl).1 l0))) cl17 ((c_retire_Put (F := No) (n := fu) (fun _ h => h.elim) a0 0 x52).mono (by rintro _ w2 ⟨y, rfl, hb2, hr2⟩; exact ⟨_, rfl, hb2, fresh_prog hr2⟩))
                  refine eachE_early r rfl (by kernel_rfl) (fun fr1 g w' hb' hd r' => ?_) ?_
                  · exact y_move r' (v := (.pointer (some ⟨mg20.mb, 0, none⟩))) rfl ⟨Below.refl _ _, rfl⟩
                  refine eachE_late r rfl (fun fr1 g w' hk' hd r' => ?_) ?_
                  · exact y_move r' (v := (.pointer (some ⟨mg20.mb, 0, none⟩))) rfl ⟨Below.refl _ _, rfl⟩
                  refine eachE_early r rfl (by kernel_rfl) (fun fr1 g w' hb' hd r' => ?_) ?_
                  · exact y_call r' (args := [(.pointer (some ⟨mg20.mb, 0, none⟩)), (.int .i64 0)]) (lc (hd 7 rfl).1 (lc rfl l0)) cl18 ((c_mem_Memory_Cap _ x23.2.2 ((hP.below (dr hb')).mem (i := 3) rfl) 0 hx54).mono (by rintro _ w2 ⟨rfl, hb2⟩; exact ⟨_, rfl, hb2, rfl⟩))
                  refine eachE_early r rfl (by kernel_rfl) (fun fr1 g w' hb' hd r' => ?_) ?_
                  · exact y_call r' (args := [(g 5).v, (.pointer (some ⟨mg20.mb, 0, none⟩)), (.agg (capC x54).toArray), (.int .i64 9)]) (lc rfl (lc (hd 6 rfl).1 (lc (hd 8 rfl).1 (lc rfl l0)))) cl16 ((c_prog_Run_int _ (fu, (D.retire_Put a0 0 x52)) x23.2.2 x54 9 (Sep.beside (hd 5 rfl).1 ((hP.below (dr hb')).sep.pk [3] rfl rfl) (fun c hc b hb => by rcases List.mem_singleton.1 hc with rfl; exact hP.sep.lt (i := 3) rfl hb) (hd 5 rfl).2.1) hx55).mono (by rintro _ w2 ⟨rfl, hq⟩; exact ⟨_, rfl, hq.chg.kept, EffP.of () hq rfl (fun b hb => hP.sep.lt (i := 3) rfl hb)⟩))
                  exact eachF_nil
                · skip
                  intro fr gg w56 hb hΦ hap r
                  have g0 : (gg 0).v = (.agg (planC a0).toArray) := (hΦ 0 rfl).1
                  have g1 : (gg 1).v = a1_v := (hΦ 1 rfl).1
                  have g2 : (gg 2).v = (.int .i64 x23.2.1) := (hΦ 2 rfl).1
                  have g3 : (gg 3).v = (.pointer (some ⟨rowB a1_v, rowO a1_v + x23.2.1.toNat * 1, none⟩)) := (hΦ 3 rfl).1
                  have g4 : (gg 4).v = (.int .i64 x52) := (hΦ 4 rfl).1
                  obtain ⟨v53, hv5⟩ : ∃ v, v = (gg 5).v := ⟨_, rfl⟩
                  have g5 : (gg 5).v = v53 := hv5.symm
                  have hs5 : Fresh [progK Tryz.prog encInt (fu, (D.retire_Put a0 0 x52)) v53 (rg (gg 5).lo (gg 5).hi)] (gg 5).lo (gg 5).hi w56 := by subst hv5; exact (hΦ 5 rfl).1
                  have g6 : (gg 6).v = (.pointer (some ⟨mg20.mb, 0, none⟩)) := (hΦ 6 rfl).1
                  have g7 : (gg 7).v = (.pointer (some ⟨mg20.mb, 0, none⟩)) := (hΦ 7 rfl).1
                  have g8 : (gg 8).v = (.agg (capC x54).toArray) := (hΦ 8 rfl).1
                  obtain ⟨⟨⟩, g9, hcE, _, hs9⟩ := (hΦ 9 rfl).1
                  have r := r.congr (sc g9 (sc g8 (sc g7 (sc g6 (sc g5 (sc g4 (sc g3 (sc g2 (sc g1 (sc g0 rfl))))))))))
                  have hP : Post No [roK 3 1 i64 a1_v a1, roK 3 1 i64 a2_v a2, cellC b1 ((planC a0)).toArray 23, memK mg20 x55.2.2.2, rowK 3 1 i64 v49 x48, rowK 3 1 i64 (.slice (some ⟨b44, 0, none⟩) 1 1) ([x43]), progK Tryz.prog encInt (fu, (D.retire_Put a0 0 x52)) v53 (rg (gg 5).lo (gg 5).hi)] w0 w56 := hP.effL (i := 3) (l := [([progK Tryz.prog encInt (fu, (D.retire_Put a0 0 x52)) v53 (rg (gg 5).lo (gg 5).hi)], (gg 5).lo, (gg 5).hi)]) rfl hb hcE rfl rfl ⟨hs5, (hΦ 5 rfl).2.1, disj_nil, trivial⟩
                  exact nxy41 (x48, x55.2.2.2) v49 _ _ _ hD r (hs_cons rfl (hs_cons rfl (hs_cons rfl (hs_cons rfl (hs_cons rfl (hs_cons rfl (hs_cons rfl (hs_cons rfl (hs_cons rfl (hs_cons rfl (hs_cons rfl (hs_cons rfl hs_nil)))))))))))) (hP.pick [0, 1, 2, 3, 4] rfl rfl)
              · skip
                have hD := (cond_f h42).symm.trans hD
                refine wp_skip ?_
                exact nxy41 (x23.1, x23.2.2) γ24 _ _ _ hD r (hs_cons rfl (hs_cons rfl (hs_cons rfl (hs_cons rfl (hs_cons rfl (hs_cons rfl (hs_cons rfl (hs_cons rfl (hs_cons rfl (hs_cons rfl (hs_cons rfl (hs_cons rfl hs_nil)))))))))))) (hP.pick [0, 1, 2, 3, 4] rfl rfl)
            · skip
              rintro x57 γ58 fr w59 g r hP hD
              have hP : Post No [roK 3 1 i64 a1_v a1, roK 3 1 i64 a2_v a2, cellC b1 ((planC a0)).toArray 23, memK mg20 x57.2, rowK 3 1 i64 γ58 x57.1] w0 w59 := hP
              refine wp_region_lit ?_
              refine seq_val (.int .i64 x23.2.1) r (fun R => y_move r rfl) rfl fun fr r => ?_
              refine seq_val (.int .i64 (IntKind.i64.wrap (x23.2.1 + 1))) r (fun R => y_bin r (u := (.int .i64 x23.2.1)) (u' := (.int .i64 1)) rfl rfl rfl rfl) rfl fun fr r => ?_
              refine seq_val (.int .i64 (IntKind.i64.wrap (x23.2.1 + 1))) r (fun R => y_assign r rfl) rfl fun fr r => ?_
              refine wpList_nil ?_
              exact nxy25 (x57.1, (IntKind.i64.wrap (x23.2.1 + 1)), x57.2) γ58 _ _ _ hD r (hs_cons rfl (hs_cons rfl (hs_cons rfl (hs_cons rfl (hs_cons rfl (hs_cons rfl (hs_cons rfl (hs_cons rfl (hs_cons rfl (hs_cons rfl hs_nil)))))))))) (hP.pick [0, 1, 2, 3, 4] rfl rfl)
        · skip
          have hD := (cond_f h27).symm.trans hD
          refine wp_exit ?_
          exact bky25 (x23.1, x23.2.1, x23.2.2) γ24 _ _ _ hD r (hs_cons rfl (hs_cons rfl (hs_cons rfl (hs_cons rfl (hs_cons rfl (hs_cons rfl (hs_cons rfl (hs_cons rfl (hs_cons rfl (hs_cons rfl hs_nil)))))))))) (hP.pick [0, 1, 2, 3, 4] rfl rfl)
      · skip
        rintro x60 γ61 fr w62 g r hP hD
        have hP : Post No [roK 3 1 i64 a1_v a1, roK 3 1 i64 a2_v a2, cellC b1 ((planC a0)).toArray 23, memK mg20 x60.2.2, rowK 3 1 i64 γ61 x60.1] w0 w62 := hP
        refine wp_seq ?_
        refine wp_seq ?_
        refine wp_region_lit ?_
        refine seq_val (.int .i64 0) r (fun R => y_assign r rfl) rfl fun fr r => ?_
        refine wpList_nil ?_
        refine wp_loopG (X := Int × Mem) (G := Unit) (x0 := (0, x60.2.2)) (fun x γ => [(0, (.agg (planC a0).toArray)), (1, a1_v), (2, a2_v), (3, (.pointer (some ⟨b1, 0, none⟩))), (6, (.bool false)), (36, (.bool x12)), (7, (.pointer (some ⟨mg20.mb, 0, none⟩))), (42, (.bool false)), (8, γ61), (9, (.int .i64 x60.2.1)), (10, (.int .i64 x.1))]) (fun x γ w => Post No [roK 3 1 i64 a1_v a1, roK 3 1 i64 a2_v a2, cellC b1 ((planC a0)).toArray 23, memK mg20 x.2, rowK 3 1 i64 γ61 x60.1] w0 w) () r (hs_cons rfl (hs_cons rfl (hs_cons rfl (hs_cons rfl (hs_cons rfl (hs_cons rfl (hs_cons rfl (hs_cons rfl (hs_cons rfl (hs_cons rfl (hs_cons rfl hs_nil))))))))))) hP hD ?_ ?_
        · skip
          rintro x63 γ64 fr w66 g y65 RPy65 nxy65 bky65 rty65 r hP hD
          have hP : Post No [roK 3 1 i64 a1_v a1, roK 3 1 i64 a2_v a2, cellC b1 ((planC a0)).toArray 23, memK mg20 x63.2, rowK 3 1 i64 γ61 x60.1] w0 w66 := hP
          refine wp_seq ?_
          refine wp_seq ?_
          refine wp_joinG (N := 187) (Y := Bool) (G := Unit) (fun x γ => [(0, (.agg (planC a0).toArray)), (1, a1_v), (2, a2_v), (3, (.pointer (some ⟨b1, 0, none⟩))), (6, (.bool false)), (36, (.bool x12)), (7, (.pointer (some ⟨mg20.mb, 0, none⟩))), (42, (.bool false)), (8, γ61), (9, (.int .i64 x60.2.1)), (10, (.int .i64 x63.1)), (99, (.bool x))]) (fun x γ w => Post No [roK 3 1 i64 a1_v a1, roK 3 1 i64 a2_v a2, cellC b1 ((planC a0)).toArray 23, memK mg20 x63.2, rowK 3 1 i64 γ61 x60.1] w0 w) hD ?_ ?_
          · skip
            rintro y67 RPy67 nxy67 hD
            refine wp_region_lit ?_
            refine seq_val (.int .i64 x63.1) r (fun R => y_move r rfl) rfl fun fr r => ?_
            refine seq_val a2_v r (fun R => y_move r rfl) rfl fun fr r => ?_
            refine seq_val (.int .i64 (a2.length : Int)) r (fun R => y_rowLen r (hP.ro (i := 1) rfl) is24 rfl) rfl fun fr r => ?_
            refine seq_val (.bool (decide (x63.1 < (a2.length : Int)))) r (fun R => y_bin r (u := (.int .i64 x63.1)) (u' := (.int .i64 (a2.length : Int))) rfl rfl rfl rfl) rfl fun fr r => ?_
            refine seq_val (.bool (decide (x63.1 < (a2.length : Int)))) r (fun R => y_move r rfl) rfl fun fr r => ?_
            refine seq_split (decide (x63.1 < (a2.length : Int))) (fun h68 => ?_) (fun h68 => ?_)
            · skip
              have hD := (cond_t h68).symm.trans hD
              refine seq_want r rfl rfl rfl (congrArg Value.bool h68) ?_
              refine seq_val (.int .i64 x63.1) r (fun R => y_move r rfl) rfl fun fr r => ?_
              refine seq_want r rfl rfl rfl (congrArg Value.bool h68) ?_
              refine seq_val (.pointer (some ⟨b1, 1, none⟩)) r (fun R => y_fieldAddr r (o := 0) rfl fo23_1) rfl fun fr r => ?_
              refine seq_want r rfl rfl rfl (congrArg Value.bool h68) ?_
              refine seq_val (.int .i64 a0.threads) r (fun R => y_load_one r (v := (.int .i64 a0.threads)) rfl (hP.cell (i := 2) rfl) to3 rfl) rfl fun fr r => ?_
              refine seq_want r rfl rfl rfl (congrArg Value.bool h68) ?_
              refine seq_val (.int .i64 (IntKind.i64.wrap (3 * a0.threads))) r (fun R => y_bin r (u := (.int .i64 3)) (u' := (.int .i64 a0.threads)) rfl rfl rfl rfl) rfl fun fr r => ?_
              refine seq_want r rfl rfl rfl (congrArg Value.bool h68) ?_
              refine seq_val (.bool (decide (x63.1 < (IntKind.i64.wrap (3 * a0.threads))))) r (fun R => y_bin r (u := (.int .i64 x63.1)) (u' := (.int .i64 (IntKind.i64.wrap (3 * a0.threads)))) rfl rfl rfl rfl) rfl fun fr r => ?_
              refine seq_val (.bool (decide (x63.1 < (IntKind.i64.wrap (3 * a0.threads))))) r (fun R => y_pick r (b := true) (congrArg Value.bool h68) rfl) rfl fun fr r => ?_
              refine wpList_nil ?_
              exact nxy67 (decide (x63.1 < (IntKind.i64.wrap (3 * a0.threads)))) () _ _ _ hD r (hs_cons rfl (hs_cons rfl (hs_cons rfl (hs_cons rfl (hs_cons rfl (hs_cons rfl (hs_cons rfl (hs_cons rfl (hs_cons rfl (hs_cons rfl (hs_cons rfl (hs_cons rfl hs_nil)))))))))))) (hP.pick [0, 1, 2, 3, 4] rfl rfl)
            · skip
              have hD := (cond_f h68).symm.trans hD
              refine seq_skip r rfl rfl rfl (v := .bool false) (congrArg Value.bool h68) (by simp [boolOf]) fun fr r => ?_
              refine seq_skip r rfl rfl rfl (v := .bool false) (congrArg Value.bool h68) (by simp [boolOf]) fun fr r => ?_
              refine seq_skip r rfl rfl rfl (v := .bool false) (congrArg Value.bool h68) (by simp [boolOf]) fun fr r => ?_
              refine seq_skip r rfl rfl rfl (v := .bool false) (congrArg Value.bool h68) (by simp [boolOf]) fun fr r => ?_
              refine seq_skip r rfl rfl rfl (v := .bool false) (congrArg Value.bool h68) (by simp [boolOf]) fun fr r => ?_
              refine seq_val (.bool false) r (fun R => y_pick r (b := false) (congrArg Value.bool h68) rfl) rfl fun fr r => ?_
              refine wpList_nil ?_
              exact nxy67 false () _ _ _ hD r (hs_cons rfl (hs_cons rfl (hs_cons rfl (hs_cons rfl (hs_cons rfl (hs_cons rfl (hs_cons rfl (hs_cons rfl (hs_cons rfl (hs_cons rfl (hs_cons rfl (hs_cons rfl hs_nil)))))))))))) (hP.pick [0, 1, 2, 3, 4] rfl rfl)
          · skip
            rintro x69 γ70 fr w71 g r hP hD
            have hP : Post No [roK 3 1 i64 a1_v a1, roK 3 1 i64 a2_v a2, cellC b1 ((planC a0)).toArray 23, memK mg20 x63.2, rowK 3 1 i64 γ61 x60.1] w0 w71 := hP
            refine wp_cond_split (t := x69) (r.ev rfl) (fun h72 => ?_) (fun h72 => ?_)
            · skip
              have hD := (cond_t h72).symm.trans hD
              refine wp_skip ?_
              refine wp_seq ?_
              refine wp_block ?_
              refine wp_seq ?_
              refine wp_joinG (N := 187) (Y := Bool) (G := Unit) (fun x γ => [(0, (.agg (planC a0).toArray)), (1, a1_v), (2, a2_v), (3, (.pointer (some ⟨b1, 0, none⟩))), (6, (.bool false)), (36, (.bool x12)), (7, (.pointer (some ⟨mg20.mb, 0, none⟩))), (42, (.bool false)), (8, γ61), (9, (.int .i64 x60.2.1)), (10, (.int .i64 x63.1)), (99, (.bool x69)), (115, (.bool x))]) (fun x γ w => Post No [roK 3 1 i64 a1_v a1, roK 3 1 i64 a2_v a2, cellC b1 ((planC a0)).toArray 23, memK mg20 x63.2, rowK 3 1 i64 γ61 x60.1] w0 w) hD ?_ ?_
              · skip
                rintro y73 RPy73 nxy73 hD
                obtain ⟨x74, hx74, hD⟩ := bindD_elim hD
                refine seq_split (decide (x74 ≥ 0)) (fun h75 => ?_) (fun h75 => ?_)
                · skip
                  have hD := (cond_t h75).symm.trans hD
                  obtain ⟨x76, hx76, hD⟩ := bindD_elim hD
                  refine wp_freeF [.val a2_v, .val (.int .i64 x63.1), .val (.pointer (some ⟨rowB a2_v, rowO a2_v + x63.1.toNat * 1, none⟩)), .val (.int .i64 x74), .val (.bool (decide (x74 ≥ 0))), .val (.bool (decide (x74 ≥ 0))), .val a2_v, .val (.int .i64 x63.1), .val (.pointer (some ⟨rowB a2_v, rowO a2_v + x63.1.toNat * 1, none⟩)), .val (.int .i64 x76), .val (.pointer (some ⟨b1, 0, none⟩)), .val (.int .i64 a0.nodes), .val (.bool (decide (x76 < a0.nodes))), .val (.bool (decide (x76 < a0.nodes)))] mixed r (by kernel_rfl) ?_ ?_
                  · skip
                    refine eachF_cons r rfl (fun fr1 g w' hb' hd r' => ?_) ?_
                    · exact y_move r' (v := a2_v) rfl ⟨Below.refl _ _, rfl⟩
                    refine eachF_cons r rfl (fun fr1 g w' hb' hd r' => ?_) ?_
                    · exact y_move r' (v := (.int .i64 x63.1)) rfl ⟨Below.refl _ _, rfl⟩
                    refine eachF_cons r rfl (fun fr1 g w' hb' hd r' => ?_) ?_
                    · exact y_rowAddr r' ((hP.below (dr hb')).ro (i := 1) rfl) hx74 sl24 (hd 0 rfl).1 (hd 1 rfl).1 ⟨Below.refl _ _, rfl⟩
                    refine eachF_cons r rfl (fun fr1 g w' hb' hd r' => ?_) ?_
                    · exact y_loadL_one r' (u := (.int .i64 x74)) (RoAt.at_ (f := i64) (x := x74) ((hP.below (dr hb')).ro (i := 1) rfl) (fun _ => rfl) hx74) (hd 2 rfl).1 to3 ⟨Below.refl _ _, rfl⟩
                    refine eachF_cons r rfl (fun fr1 g w' hb' hd r' => ?_) ?_
                    · exact y_bin r' (u := (.int .i64 x74)) (u' := (.int .i64 0)) (v := (.bool (decide (x74 ≥ 0)))) (hd 3 rfl).1 rfl rfl rfl ⟨Below.refl _ _, rfl⟩
                    refine eachF_cons r rfl (fun fr1 g w' hb' hd r' => ?_) ?_
                    · exact y_move r' (v := (.bool (decide (x74 ≥ 0)))) (hd 4 rfl).1 ⟨Below.refl _ _, rfl⟩
                    refine eachF_want true r rfl rfl rfl (fun g w' hd => Eq.trans (show (g 5).v = .bool (decide (x74 ≥ 0)) from (hd 5 rfl).1) (congrArg Value.bool h75)) (fun fr1 g w' hb' hd r' => ?_) ?_
                    · exact y_move r' (v := a2_v) rfl ⟨Below.refl _ _, rfl⟩
                    refine eachF_want true r rfl rfl rfl (fun g w' hd => Eq.trans (show (g 5).v = .bool (decide (x74 ≥ 0)) from (hd 5 rfl).1) (congrArg Value.bool h75)) (fun fr1 g w' hb' hd r' => ?_) ?_
                    · exact y_move r' (v := (.int .i64 x63.1)) rfl ⟨Below.refl _ _, rfl⟩
                    refine eachF_want true r rfl rfl rfl (fun g w' hd => Eq.trans (show (g 5).v = .bool (decide (x74 ≥ 0)) from (hd 5 rfl).1) (congrArg Value.bool h75)) (fun fr1 g w' hb' hd r' => ?_) ?_
                    · exact y_rowAddr r' ((hP.below (dr hb')).ro (i := 1) rfl) hx76 sl24 (hd 6 rfl).1 (hd 7 rfl).1 ⟨Below.refl _ _, rfl⟩
                    refine eachF_want true r rfl rfl rfl (fun g w' hd => Eq.trans (show (g 5).v = .bool (decide (x74 ≥ 0)) from (hd 5 rfl).1) (congrArg Value.bool h75)) (fun fr1 g w' hb' hd r' => ?_) ?_
                    · exact y_loadL_one r' (u := (.int .i64 x76)) (RoAt.at_ (f := i64) (x := x76) ((hP.below (dr hb')).ro (i := 1) rfl) (fun _ => rfl) hx76) (hd 8 rfl).1 to3 ⟨Below.refl _ _, rfl⟩
                    refine eachF_want true r rfl rfl rfl (fun g w' hd => Eq.trans (show (g 5).v = .bool (decide (x74 ≥ 0)) from (hd 5 rfl).1) (congrArg Value.bool h75)) (fun fr1 g w' hb' hd r' => ?_) ?_
                    · exact y_fieldAddr r' (b := b1) (o := 0) (k := 0) rfl fo23_0 ⟨Below.refl _ _, rfl⟩
                    refine eachF_want true r rfl rfl rfl (fun g w' hd => Eq.trans (show (g 5).v = .bool (decide (x74 ≥ 0)) from (hd 5 rfl).1) (congrArg Value.bool h75)) (fun fr1 g w' hb' hd r' => ?_) ?_
                    · exact y_load_one r' (v := (.int .i64 a0.nodes)) (hd 10 rfl).1 ((hP.below (dr hb')).cell (i := 2) rfl) to3 rfl ⟨Below.refl _ _, rfl⟩
                    refine eachF_want true r rfl rfl rfl (fun g w' hd => Eq.trans (show (g 5).v = .bool (decide (x74 ≥ 0)) from (hd 5 rfl).1) (congrArg Value.bool h75)) (fun fr1 g w' hb' hd r' => ?_) ?_
                    · exact y_bin r' (u := (.int .i64 x76)) (u' := (.int .i64 a0.nodes)) (v := (.bool (decide (x76 < a0.nodes)))) (hd 9 rfl).1 (hd 11 rfl).1 rfl rfl ⟨Below.refl _ _, rfl⟩
                    refine eachF_cons r rfl (fun fr1 g w' hb' hd r' => ?_) ?_
                    · exact y_pick r' (b := true) (v := (.bool (decide (x76 < a0.nodes)))) (Eq.trans (show (g 5).v = .bool (decide (x74 ≥ 0)) from (hd 5 rfl).1) (congrArg Value.bool h75)) (hd 12 rfl).1 ⟨Below.refl _ _, rfl⟩
                    exact eachF_nil
                  · skip
                    intro fr gg w77 hb hΦ hap r
                    have g0 : (gg 0).v = a2_v := (hΦ 0 rfl).1
                    have g1 : (gg 1).v = (.int .i64 x63.1) := (hΦ 1 rfl).1
                    have g2 : (gg 2).v = (.pointer (some ⟨rowB a2_v, rowO a2_v + x63.1.toNat * 1, none⟩)) := (hΦ 2 rfl).1
                    have g3 : (gg 3).v = (.int .i64 x74) := (hΦ 3 rfl).1
                    have g4 : (gg 4).v = (.bool (decide (x74 ≥ 0))) := (hΦ 4 rfl).1
                    have g5 : (gg 5).v = (.bool (decide (x74 ≥ 0))) := (hΦ 5 rfl).1
                    have g6 : (gg 6).v = a2_v := (hΦ 6 rfl).1
                    have g7 : (gg 7).v = (.int .i64 x63.1) := (hΦ 7 rfl).1
                    have g8 : (gg 8).v = (.pointer (some ⟨rowB a2_v, rowO a2_v + x63.1.toNat * 1, none⟩)) := (hΦ 8 rfl).1
                    have g9 : (gg 9).v = (.int .i64 x76) := (hΦ 9 rfl).1
                    have g10 : (gg 10).v = (.pointer (some ⟨b1, 0, none⟩)) := (hΦ 10 rfl).1
                    have g11 : (gg 11).v = (.int .i64 a0.nodes) := (hΦ 11 rfl).1
                    have g12 : (gg 12).v = (.bool (decide (x76 < a0.nodes))) := (hΦ 12 rfl).1
                    have g13 : (gg 13).v = (.bool (decide (x76 < a0.nodes))) := (hΦ 13 rfl).1
                    have r := r.congr (sc g13 (sc g12 (sc g11 (sc g10 (sc g9 (sc g8 (sc g7 (sc g6 (sc g5 (sc g4 (sc g3 (sc g2 (sc g1 (sc g0 rfl))))))))))))))
                    have hP : Post No [roK 3 1 i64 a1_v a1, roK 3 1 i64 a2_v a2, cellC b1 ((planC a0)).toArray 23, memK mg20 x63.2, rowK 3 1 i64 γ61 x60.1] w0 w77 := hP.below hb
                    exact nxy73 (decide (x76 < a0.nodes)) () _ _ _ hD r (hs_cons rfl (hs_cons rfl (hs_cons rfl (hs_cons rfl (hs_cons rfl (hs_cons rfl (hs_cons rfl (hs_cons rfl (hs_cons rfl (hs_cons rfl (hs_cons rfl (hs_cons rfl (hs_cons rfl hs_nil))))))))))))) (hP.pick [0, 1, 2, 3, 4] rfl rfl)
                · skip
                  have hD := (cond_f h75).symm.trans hD
                  refine wp_freeF [.val a2_v, .val (.int .i64 x63.1), .val (.pointer (some ⟨rowB a2_v, rowO a2_v + x63.1.toNat * 1, none⟩)), .val (.int .i64 x74), .val (.bool (decide (x74 ≥ 0))), .val (.bool (decide (x74 ≥ 0))), .val undef, .val undef, .val undef, .val undef, .val undef, .val undef, .val undef, .val (.bool false)] mixed r (by kernel_rfl) ?_ ?_
                  · skip
                    refine eachF_cons r rfl (fun fr1 g w' hb' hd r' => ?_) ?_
                    · exact y_move r' (v := a2_v) rfl ⟨Below.refl _ _, rfl⟩
                    refine eachF_cons r rfl (fun fr1 g w' hb' hd r' => ?_) ?_
                    · exact y_move r' (v := (.int .i64 x63.1)) rfl ⟨Below.refl _ _, rfl⟩
                    refine eachF_cons r rfl (fun fr1 g w' hb' hd r' => ?_) ?_
                    · exact y_rowAddr r' ((hP.below (dr hb')).ro (i := 1) rfl) hx74 sl24 (hd 0 rfl).1 (hd 1 rfl).1 ⟨Below.refl _ _, rfl⟩
                    refine eachF_cons r rfl (fun fr1 g w' hb' hd r' => ?_) ?_
                    · exact y_loadL_one r' (u := (.int .i64 x74)) (RoAt.at_ (f := i64) (x := x74) ((hP.below (dr hb')).ro (i := 1) rfl) (fun _ => rfl) hx74) (hd 2 rfl).1 to3 ⟨Below.refl _ _, rfl⟩
                    refine eachF_cons r rfl (fun fr1 g w' hb' hd r' => ?_) ?_
                    · exact y_bin r' (u := (.int .i64 x74)) (u' := (.int .i64 0)) (v := (.bool (decide (x74 ≥ 0)))) (hd 3 rfl).1 rfl rfl rfl ⟨Below.refl _ _, rfl⟩
                    refine eachF_cons r rfl (fun fr1 g w' hb' hd r' => ?_) ?_
                    · exact y_move r' (v := (.bool (decide (x74 ≥ 0)))) (hd 4 rfl).1 ⟨Below.refl _ _, rfl⟩
                    refine eachF_skip true (.bool false) r rfl rfl rfl (fun g w' hd => Eq.trans (show (g 5).v = .bool (decide (x74 ≥ 0)) from (hd 5 rfl).1) (congrArg Value.bool h75)) (by simp [boolOf]) (fun _ _ => ⟨Below.refl _ _, rfl⟩) ?_
                    refine eachF_skip true (.bool false) r rfl rfl rfl (fun g w' hd => Eq.trans (show (g 5).v = .bool (decide (x74 ≥ 0)) from (hd 5 rfl).1) (congrArg Value.bool h75)) (by simp [boolOf]) (fun _ _ => ⟨Below.refl _ _, rfl⟩) ?_
                    refine eachF_skip true (.bool false) r rfl rfl rfl (fun g w' hd => Eq.trans (show (g 5).v = .bool (decide (x74 ≥ 0)) from (hd 5 rfl).1) (congrArg Value.bool h75)) (by simp [boolOf]) (fun _ _ => ⟨Below.refl _ _, rfl⟩) ?_
                    refine eachF_skip true (.bool false) r rfl rfl rfl (fun g w' hd => Eq.trans (show (g 5).v = .bool (decide (x74 ≥ 0)) from (hd 5 rfl).1) (congrArg Value.bool h75)) (by simp [boolOf]) (fun _ _ => ⟨Below.refl _ _, rfl⟩) ?_
                    refine eachF_skip true (.bool false) r rfl rfl rfl (fun g w' hd => Eq.trans (show (g 5).v = .bool (decide (x74 ≥ 0)) from (hd 5 rfl).1) (congrArg Value.bool h75)) (by simp [boolOf]) (fun _ _ => ⟨Below.refl _ _, rfl⟩) ?_
                    refine eachF_skip true (.bool false) r rfl rfl rfl (fun g w' hd => Eq.trans (show (g 5).v = .bool (decide (x74 ≥ 0)) from (hd 5 rfl).1) (congrArg Value.bool h75)) (by simp [boolOf]) (fun _ _ => ⟨Below.refl _ _, rfl⟩) ?_
                    refine eachF_skip true (.bool false) r rfl rfl rfl (fun g w' hd => Eq.trans (show (g 5).v = .bool (decide (x74 ≥ 0)) from (hd 5 rfl).1) (congrArg Value.bool h75)) (by simp [boolOf]) (fun _ _ => ⟨Below.refl _ _, rfl⟩) ?_
                    refine eachF_cons r rfl (fun fr1 g w' hb' hd r' => ?_) ?_
                    · exact y_pick r' (b := false) (v := (.bool false)) (Eq.trans (show (g 5).v = .bool (decide (x74 ≥ 0)) from (hd 5 rfl).1) (congrArg Value.bool h75)) rfl ⟨Below.refl _ _, rfl⟩
                    exact eachF_nil
                  · skip
                    intro fr gg w78 hb hΦ hap r
                    have g0 : (gg 0).v = a2_v := (hΦ 0 rfl).1
                    have g1 : (gg 1).v = (.int .i64 x63.1) := (hΦ 1 rfl).1
                    have g2 : (gg 2).v = (.pointer (some ⟨rowB a2_v, rowO a2_v + x63.1.toNat * 1, none⟩)) := (hΦ 2 rfl).1
                    have g3 : (gg 3).v = (.int .i64 x74) := (hΦ 3 rfl).1
                    have g4 : (gg 4).v = (.bool (decide (x74 ≥ 0))) := (hΦ 4 rfl).1
                    have g5 : (gg 5).v = (.bool (decide (x74 ≥ 0))) := (hΦ 5 rfl).1
                    have g6 : (gg 6).v = undef := (hΦ 6 rfl).1
                    have g7 : (gg 7).v = undef := (hΦ 7 rfl).1
                    have g8 : (gg 8).v = undef := (hΦ 8 rfl).1
                    have g9 : (gg 9).v = undef := (hΦ 9 rfl).1
                    have g10 : (gg 10).v = undef := (hΦ 10 rfl).1
                    have g11 : (gg 11).v = undef := (hΦ 11 rfl).1
                    have g12 : (gg 12).v = undef := (hΦ 12 rfl).1
                    have g13 : (gg 13).v = (.bool false) := (hΦ 13 rfl).1
                    have r := r.congr (sc g13 (sc g12 (sc g11 (sc g10 (sc g9 (sc g8 (sc g7 (sc g6 (sc g5 (sc g4 (sc g3 (sc g2 (sc g1 (sc g0 rfl))))))))))))))
                    have hP : Post No [roK 3 1 i64 a1_v a1, roK 3 1 i64 a2_v a2, cellC b1 ((planC a0)).toArray 23, memK mg20 x63.2, rowK 3 1 i64 γ61 x60.1] w0 w78 := hP.below hb
                    exact nxy73 false () _ _ _ hD r (hs_cons rfl (hs_cons rfl (hs_cons rfl (hs_cons rfl (hs_cons rfl (hs_cons rfl (hs_cons rfl (hs_cons rfl (hs_cons rfl (hs_cons rfl (hs_cons rfl (hs_cons rfl (hs_cons rfl hs_nil))))))))))))) (hP.pick [0, 1, 2, 3, 4] rfl rfl)
              · skip
                rintro x79 γ80 fr w81 g r hP hD
                have hP : Post No [roK 3 1 i64 a1_v a1, roK 3 1 i64 a2_v a2, cellC b1 ((planC a0)).toArray 23, memK mg20 x63.2, rowK 3 1 i64 γ61 x60.1] w0 w81 := hP
                refine wp_joinG (N := 187) (Y := Mem) (G := Unit) (fun x γ => [(0, (.agg (planC a0).toArray)), (1, a1_v), (2, a2_v), (3, (.pointer (some ⟨b1, 0, none⟩))), (6, (.bool false)), (36, (.bool x12)), (7, (.pointer (some ⟨mg20.mb, 0, none⟩))), (42, (.bool false)), (8, γ61), (9, (.int .i64 x60.2.1)), (10, (.int .i64 x63.1)), (99, (.bool x69)), (115, (.bool x79))]) (fun x γ w => Post No [roK 3 1 i64 a1_v a1, roK 3 1 i64 a2_v a2, cellC b1 ((planC a0)).toArray 23, memK mg20 x, rowK 3 1 i64 γ61 x60.1] w0 w) hD ?_ ?_
                · skip
                  rintro y82 RPy82 nxy82 hD
                  refine wp_cond_split (t := x79) (r.ev rfl) (fun h83 => ?_) (fun h83 => ?_)
                  · skip
                    have hD := (cond_t h83).symm.trans hD
                    obtain ⟨x84, hx84, hD⟩ := bindD_elim hD
                    obtain ⟨x86, hx86, hD⟩ := bindD_elim hD
                    obtain ⟨x87, hx87, hD⟩ := bindD_elim hD
                    refine wp_freeE mg20.bs [.val (.agg (planC a0).toArray), .val (.int .i64 x63.1), .val (.int .i64 (IntKind.i64.wrap (x63.1.tdiv 3))), .val (.int .i64 x63.1), .val (.int .i64 (x63.1.tmod 3)), .val a2_v, .val (.int .i64 x63.1), .val (.pointer (some ⟨rowB a2_v, rowO a2_v + x63.1.toNat * 1, none⟩)), .val (.int .i64 x84), .pred (PrP Tryz.prog encNone (fu, (D.hazard_Set a0 (IntKind.i64.wrap (x63.1.tdiv 3)) (x63.1.tmod 3) x84))) (PrP.st _), .val (.pointer (some ⟨mg20.mb, 0, none⟩)), .val (.pointer (some ⟨mg20.mb, 0, none⟩)), .val (.agg (capC x86).toArray), .eff (EffP w81.heap.size (memK mg20 x87.2.2.2) (fun _ : Unit => (.tuple #[(.agg #[]), (.int .i64 x87.2.1), (.bool x87.2.2.1)])) (fun _ : Unit => [])) (EffP.st _ _ _ _)] mixed r (fun b hb => hP.sep.lt (i := 3) rfl (.inl hb)) (by kernel_rfl) ?_ ?_
                    · skip
                      refine eachE_late r rfl (fun fr1 g w' hk' hd r' => ?_) ?_
                      · exact y_load_agg r' (cs := (planC a0)) (n := 6) rfl (hP.cellK (j := 3) rfl (drK hk') (i := 2) rfl rfl) ta23 rfl ⟨Below.refl _ _, rfl⟩
                      refine eachE_late r rfl (fun fr1 g w' hk' hd r' => ?_) ?_
                      · exact y_move r' (v := (.int .i64 x63.1)) rfl ⟨Below.refl _ _, rfl⟩
                      refine eachE_late r rfl (fun fr1 g w' hk' hd r' => ?_) ?_
                      · exact y_bin r' (u := (.int .i64 x63.1)) (u' := (.int .i64 3)) (v := (.int .i64 (IntKind.i64.wrap (x63.1.tdiv 3)))) (hd 1 rfl).1 rfl rfl rfl ⟨Below.refl _ _, rfl⟩
                      refine eachE_late r rfl (fun fr1 g w' hk' hd r' => ?_) ?_
                      · exact y_move r' (v := (.int .i64 x63.1)) rfl ⟨Below.refl _ _, rfl⟩
                      refine eachE_late r rfl (fun fr1 g w' hk' hd r' => ?_) ?_
                      · exact y_bin r' (u := (.int .i64 x63.1)) (u' := (.int .i64 3)) (v := (.int .i64 (x63.1.tmod 3))) (hd 3 rfl).1 rfl rfl rfl ⟨Below.refl _ _, rfl⟩
                      refine eachE_late r rfl (fun fr1 g w' hk' hd r' => ?_) ?_
                      · exact y_move r' (v := a2_v) rfl ⟨Below.refl _ _, rfl⟩
                      refine eachE_late r rfl (fun fr1 g w' hk' hd r' => ?_) ?_
                      · exact y_move r' (v := (.int .i64 x63.1)) rfl ⟨Below.refl _ _, rfl⟩
                      refine eachE_late r rfl (fun fr1 g w' hk' hd r' => ?_) ?_
                      · exact y_rowAddr r' (show RoAt 0 _ _ _ _ _ from hP.okK (j := 3) rfl (drK hk') (i := 1) rfl rfl) hx84 sl24 (hd 5 rfl).1 (hd 6 rfl).1 ⟨Below.refl _ _, rfl⟩
                      refine eachE_late r rfl (fun fr1 g w' hk' hd r' => ?_) ?_
                      · exact y_loadL_one r' (u := (.int .i64 x84)) (RoAt.at_ (f := i64) (x := x84) (show RoAt 0 _ _ _ _ _ from hP.okK (j := 3) rfl (drK hk') (i := 1) rfl rfl) (fun _ => rfl) hx84) (hd 7 rfl).1 to3 ⟨Below.refl _ _, rfl⟩
                      refine eachE_early r rfl (by kernel_rfl) (fun fr1 g w' hb' hd r' => ?_) ?_
                      · exact y_call r' (args := [(.agg (planC a0).toArray), (.int .i64 (IntKind.i64.wrap (x63.1.tdiv 3))), (.int .i64 (x63.1.tmod 3)), (.int .i64 x84)]) (lc (hd 0 rfl).1 (lc (hd 2 rfl).1 (lc (hd 4 rfl).1 (lc (hd 8 rfl).1 l0)))) cl23 ((c_hazard_Set (F := No) (n := fu) (fun _ h => h.elim) a0 (IntKind.i64.wrap (x63.1.tdiv 3)) (x63.1.tmod 3) x84).mono (by rintro _ w2 ⟨y, rfl, hb2, hr2⟩; exact ⟨_, rfl, hb2, fresh_prog hr2⟩))
                      refine eachE_early r rfl (by kernel_rfl) (fun fr1 g w' hb' hd r' => ?_) ?_
                      · exact y_move r' (v := (.pointer (some ⟨mg20.mb, 0, none⟩))) rfl ⟨Below.refl _ _, rfl⟩
                      refine eachE_late r rfl (fun fr1 g w' hk' hd r' => ?_) ?_
                      · exact y_move r' (v := (.pointer (some ⟨mg20.mb, 0, none⟩))) rfl ⟨Below.refl _ _, rfl⟩
                      refine eachE_early r rfl (by kernel_rfl) (fun fr1 g w' hb' hd r' => ?_) ?_
                      · exact y_call r' (args := [(.pointer (some ⟨mg20.mb, 0, none⟩)), (.int .i64 0)]) (lc (hd 11 rfl).1 (lc rfl l0)) cl18 ((c_mem_Memory_Cap _ x63.2 ((hP.below (dr hb')).mem (i := 3) rfl) 0 hx86).mono (by rintro _ w2 ⟨rfl, hb2⟩; exact ⟨_, rfl, hb2, rfl⟩))
                      refine eachE_early r rfl (by kernel_rfl) (fun fr1 g w' hb' hd r' => ?_) ?_
                      · exact y_call r' (args := [(g 9).v, (.pointer (some ⟨mg20.mb, 0, none⟩)), (.agg (capC x86).toArray), (.int .i64 9)]) (lc rfl (lc (hd 10 rfl).1 (lc (hd 12 rfl).1 (lc rfl l0)))) cl22 ((c_prog_Run_None _ (fu, (D.hazard_Set a0 (IntKind.i64.wrap (x63.1.tdiv 3)) (x63.1.tmod 3) x84)) x63.2 x86 9 (Sep.beside (hd 9 rfl).1 ((hP.below (dr hb')).sep.pk [3] rfl rfl) (fun c hc b hb => by rcases List.mem_singleton.1 hc with rfl; exact hP.sep.lt (i := 3) rfl hb) (hd 9 rfl).2.1) hx87).mono (by rintro _ w2 ⟨rfl, hq⟩; exact ⟨_, rfl, hq.chg.kept, EffP.of () hq rfl (fun b hb => hP.sep.lt (i := 3) rfl hb)⟩))
                      exact eachF_nil
                    · skip
                      intro fr gg w88 hb hΦ hap r
                      have g0 : (gg 0).v = (.agg (planC a0).toArray) := (hΦ 0 rfl).1
                      have g1 : (gg 1).v = (.int .i64 x63.1) := (hΦ 1 rfl).1
                      have g2 : (gg 2).v = (.int .i64 (IntKind.i64.wrap (x63.1.tdiv 3))) := (hΦ 2 rfl).1
                      have g3 : (gg 3).v = (.int .i64 x63.1) := (hΦ 3 rfl).1
                      have g4 : (gg 4).v = (.int .i64 (x63.1.tmod 3)) := (hΦ 4 rfl).1
                      have g5 : (gg 5).v = a2_v := (hΦ 5 rfl).1
                      have g6 : (gg 6).v = (.int .i64 x63.1) := (hΦ 6 rfl).1
                      have g7 : (gg 7).v = (.pointer (some ⟨rowB a2_v, rowO a2_v + x63.1.toNat * 1, none⟩)) := (hΦ 7 rfl).1
                      have g8 : (gg 8).v = (.int .i64 x84) := (hΦ 8 rfl).1
                      obtain ⟨v85, hv9⟩ : ∃ v, v = (gg 9).v := ⟨_, rfl⟩
                      have g9 : (gg 9).v = v85 := hv9.symm
                      have hs9 : Fresh [progK Tryz.prog encNone (fu, (D.hazard_Set a0 (IntKind.i64.wrap (x63.1.tdiv 3)) (x63.1.tmod 3) x84)) v85 (rg (gg 9).lo (gg 9).hi)] (gg 9).lo (gg 9).hi w88 := by subst hv9; exact (hΦ 9 rfl).1
                      have g10 : (gg 10).v = (.pointer (some ⟨mg20.mb, 0, none⟩)) := (hΦ 10 rfl).1
                      have g11 : (gg 11).v = (.pointer (some ⟨mg20.mb, 0, none⟩)) := (hΦ 11 rfl).1
                      have g12 : (gg 12).v = (.agg (capC x86).toArray) := (hΦ 12 rfl).1
                      obtain ⟨⟨⟩, g13, hcE, _, hs13⟩ := (hΦ 13 rfl).1
                      have r := r.congr (sc g13 (sc g12 (sc g11 (sc g10 (sc g9 (sc g8 (sc g7 (sc g6 (sc g5 (sc g4 (sc g3 (sc g2 (sc g1 (sc g0 rfl))))))))))))))
                      have hP : Post No [roK 3 1 i64 a1_v a1, roK 3 1 i64 a2_v a2, cellC b1 ((planC a0)).toArray 23, memK mg20 x87.2.2.2, rowK 3 1 i64 γ61 x60.1, progK Tryz.prog encNone (fu, (D.hazard_Set a0 (IntKind.i64.wrap (x63.1.tdiv 3)) (x63.1.tmod 3) x84)) v85 (rg (gg 9).lo (gg 9).hi)] w0 w88 := hP.effL (i := 3) (l := [([progK Tryz.prog encNone (fu, (D.hazard_Set a0 (IntKind.i64.wrap (x63.1.tdiv 3)) (x63.1.tmod 3) x84)) v85 (rg (gg 9).lo (gg 9).hi)], (gg 9).lo, (gg 9).hi)]) rfl hb hcE rfl rfl ⟨hs9, (hΦ 9 rfl).2.1, disj_nil, trivial⟩
                      exact nxy82 x87.2.2.2 () _ _ _ hD r (hs_cons rfl (hs_cons rfl (hs_cons rfl (hs_cons rfl (hs_cons rfl (hs_cons rfl (hs_cons rfl (hs_cons rfl (hs_cons rfl (hs_cons rfl (hs_cons rfl (hs_cons rfl (hs_cons rfl hs_nil))))))))))))) (hP.pick [0, 1, 2, 3, 4] rfl rfl)
                  · skip
                    have hD := (cond_f h83).symm.trans hD
                    refine wp_skip ?_
                    exact nxy82 x63.2 () _ _ _ hD r (hs_cons rfl (hs_cons rfl (hs_cons rfl (hs_cons rfl (hs_cons rfl (hs_cons rfl (hs_cons rfl (hs_cons rfl (hs_cons rfl (hs_cons rfl (hs_cons rfl (hs_cons rfl (hs_cons rfl hs_nil))))))))))))) (hP.pick [0, 1, 2, 3, 4] rfl rfl)
                · skip
                  rintro x89 γ90 fr w91 g r hP hD
                  have hP : Post No [roK 3 1 i64 a1_v a1, roK 3 1 i64 a2_v a2, cellC b1 ((planC a0)).toArray 23, memK mg20 x89, rowK 3 1 i64 γ61 x60.1] w0 w91 := hP
                  refine wp_region_lit ?_
                  refine seq_val (.int .i64 x63.1) r (fun R => y_move r rfl) rfl fun fr r => ?_
                  refine seq_val (.int .i64 (IntKind.i64.wrap (x63.1 + 1))) r (fun R => y_bin r (u := (.int .i64 x63.1)) (u' := (.int .i64 1)) rfl rfl rfl rfl) rfl fun fr r => ?_
                  refine seq_val (.int .i64 (IntKind.i64.wrap (x63.1 + 1))) r (fun R => y_assign r rfl) rfl fun fr r => ?_
                  refine wpList_nil ?_
                  exact nxy65 ((IntKind.i64.wrap (x63.1 + 1)), x89) () _ _ _ hD r (hs_cons rfl (hs_cons rfl (hs_cons rfl (hs_cons rfl (hs_cons rfl (hs_cons rfl (hs_cons rfl (hs_cons rfl (hs_cons rfl (hs_cons rfl (hs_cons rfl hs_nil))))))))))) (hP.pick [0, 1, 2, 3, 4] rfl rfl)
            · skip
              have hD := (cond_f h72).symm.trans hD
              refine wp_exit ?_
              exact bky65 (x63.1, x63.2) () _ _ _ hD r (hs_cons rfl (hs_cons rfl (hs_cons rfl (hs_cons rfl (hs_cons rfl (hs_cons rfl (hs_cons rfl (hs_cons rfl (hs_cons rfl (hs_cons rfl (hs_cons rfl hs_nil))))))))))) (hP.pick [0, 1, 2, 3, 4] rfl rfl)
        · skip
          rintro x92 γ93 fr w94 g r hP hD
          have hP : Post No [roK 3 1 i64 a1_v a1, roK 3 1 i64 a2_v a2, cellC b1 ((planC a0)).toArray 23, memK mg20 x92.2, rowK 3 1 i64 γ61 x60.1] w0 w94 := hP
          refine wp_seq ?_
          refine wp_region_lit ?_
          refine seq_val (.agg (planC a0).toArray) r (fun R => y_load_agg r (cs := (planC a0)) (n := 6) rfl (hP.cell (i := 2) rfl) ta23 rfl) rfl fun fr r => ?_
          refine seq_val (.pointer (some ⟨mg20.mb, 0, none⟩)) r (fun R => y_move r rfl) rfl fun fr r => ?_
          obtain ⟨x95, hx95, hD⟩ := bindD_elim hD
          refine seq_call r (c_retire_List w94 a0 x92.2 (hP.mem (i := 3) rfl) 0 0 hx95) (fun R hc => y_call r rfl cl20 hc) rfl ?_
          rintro _ w96 ⟨v97, rfl, hq⟩
          refine ⟨_, rfl, fun fr r => ?_⟩
          have hP : Post No [roK 3 1 i64 a1_v a1, roK 3 1 i64 a2_v a2, cellC b1 ((planC a0)).toArray 23, memK mg20 x92.2, rowK 3 1 i64 γ61 x60.1, rowK 3 1 i64 v97 x95] w0 w96 := hP.add hq
          refine seq_val v97 r (fun R => y_assign r rfl) rfl fun fr r => ?_
          refine wpList_nil ?_
          refine wp_seq ?_
          refine wp_region_lit ?_
          refine seq_val (.agg (planC a0).toArray) r (fun R => y_load_agg r (cs := (planC a0)) (n := 6) rfl (hP.cell (i := 2) rfl) ta23 rfl) rfl fun fr r => ?_
          refine seq_call r (c_retire_Scan (F := No) (n := fu) (j := fu + 1) (fun _ h => h.elim) (by omega) a0 0) (fun R hc => y_call r rfl cl19 hc) rfl ?_
          rintro _ w99 ⟨v100, rfl, hb, hr101⟩
          refine ⟨_, rfl, fun fr r => ?_⟩
          have hP : Post No [roK 3 1 i64 a1_v a1, roK 3 1 i64 a2_v a2, cellC b1 ((planC a0)).toArray 23, memK mg20 x92.2, rowK 3 1 i64 γ61 x60.1, rowK 3 1 i64 v97 x95, progK Tryz.prog encInt (fu, (D.retire_Scan (fu + 1) a0 0)) v100 (rg w96.heap.size w99.heap.size)] w0 w99 := hP.addProg hb hr101
          refine seq_val (.pointer (some ⟨mg20.mb, 0, none⟩)) r (fun R => y_move r rfl) rfl fun fr r => ?_
          refine seq_val (.pointer (some ⟨mg20.mb, 0, none⟩)) r (fun R => y_move r rfl) rfl fun fr r => ?_
          obtain ⟨x103, hx103, hD⟩ := bindD_elim hD
          refine seq_call r (c_mem_Memory_Cap w99 x92.2 (hP.mem (i := 3) rfl) 0 hx103) (fun R hc => y_call r rfl cl18 hc) rfl ?_
          rintro _ w104 ⟨rfl, hb⟩
          refine ⟨_, rfl, fun fr r => ?_⟩
          have hP : Post No [roK 3 1 i64 a1_v a1, roK 3 1 i64 a2_v a2, cellC b1 ((planC a0)).toArray 23, memK mg20 x92.2, rowK 3 1 i64 γ61 x60.1, rowK 3 1 i64 v97 x95, progK Tryz.prog encInt (fu, (D.retire_Scan (fu + 1) a0 0)) v100 (rg w96.heap.size w99.heap.size)] w0 w104 := hP.below hb
          obtain ⟨x105, hx105, hD⟩ := bindD_elim hD
          refine seq_call r (c_prog_Run_int w104 (fu, (D.retire_Scan (fu + 1) a0 0)) x92.2 x103 100000 (hP.sep.pk [6, 3] rfl rfl) hx105) (fun R hc => y_call r rfl cl16 hc) rfl ?_
          rintro _ w106 ⟨rfl, hq⟩
          refine ⟨_, rfl, fun fr r => ?_⟩
          have hP : Post No [roK 3 1 i64 a1_v a1, roK 3 1 i64 a2_v a2, cellC b1 ((planC a0)).toArray 23, memK mg20 x105.2.2.2, rowK 3 1 i64 γ61 x60.1, rowK 3 1 i64 v97 x95, progK Tryz.prog encInt (fu, (D.retire_Scan (fu + 1) a0 0)) v100 (rg w96.heap.size w99.heap.size)] w0 w106 := hP.setN (i := 3) rfl hq
          refine seq_val (.tuple #[(.int .i64 x105.1), (.int .i64 x105.2.1), (.bool x105.2.2.1)]) r (fun R => y_move r rfl) rfl fun fr r => ?_
          refine seq_val (.int .i64 x105.1) r (fun R => y_extract r (vs := #[(.int .i64 x105.1), (.int .i64 x105.2.1), (.bool x105.2.2.1)]) rfl rfl) rfl fun fr r => ?_
          refine seq_val (.int .i64 x105.2.1) r (fun R => y_extract r (vs := #[(.int .i64 x105.1), (.int .i64 x105.2.1), (.bool x105.2.2.1)]) rfl rfl) rfl fun fr r => ?_
          refine seq_val (.bool x105.2.2.1) r (fun R => y_extract r (vs := #[(.int .i64 x105.1), (.int .i64 x105.2.1), (.bool x105.2.2.1)]) rfl rfl) rfl fun fr r => ?_
          refine seq_val (.int .i64 x105.1) r (fun R => y_assign r rfl) rfl fun fr r => ?_
          refine seq_val (.int .i64 x105.2.1) r (fun R => y_assign r rfl) rfl fun fr r => ?_
          refine seq_val (.bool x105.2.2.1) r (fun R => y_assign r rfl) rfl fun fr r => ?_
          refine wpList_nil ?_
          refine wp_seq ?_
          obtain ⟨x107, hx107, hD⟩ := bindD_elim hD
          obtain ⟨x110, hx110, hD⟩ := bindD_elim hD
          refine wp_freeF [.val (.agg (planC a0).toArray), .val (.pointer (some ⟨mg20.mb, 0, none⟩)), .pred (MkP (fun v108 : Value => v108) (fun v108 : Value => [rowK 3 1 i64 v108 x107])) (MkP.st _ _), .val (.agg (planC a0).toArray), .val (.pointer (some ⟨mg20.mb, 0, none⟩)), .pred (MkP (fun v111 : Value => v111) (fun v111 : Value => [rowK 3 1 i64 v111 x110])) (MkP.st _ _), .dep 2 (fun u v => v = u), .dep 5 (fun u v => v = u)] mixed r (by kernel_rfl) ?_ ?_
          · skip
            refine eachF_cons r rfl (fun fr1 g w' hb' hd r' => ?_) ?_
            · exact y_load_agg r' (cs := (planC a0)) (n := 6) rfl ((hP.below (dr hb')).cell (i := 2) rfl) ta23 rfl ⟨Below.refl _ _, rfl⟩
            refine eachF_cons r rfl (fun fr1 g w' hb' hd r' => ?_) ?_
            · exact y_move r' (v := (.pointer (some ⟨mg20.mb, 0, none⟩))) rfl ⟨Below.refl _ _, rfl⟩
            refine eachF_cons r rfl (fun fr1 g w' hb' hd r' => ?_) ?_
            · exact y_call r' (args := [(.agg (planC a0).toArray), (.pointer (some ⟨mg20.mb, 0, none⟩)), (.int .i64 0), (.int .i64 0)]) (lc (hd 0 rfl).1 (lc (hd 1 rfl).1 (lc rfl (lc rfl l0)))) cl20 ((c_retire_List _ a0 x105.2.2.2 ((hP.below (dr hb')).mem (i := 3) rfl) 0 0 hx107).mono (by rintro _ w2 ⟨y, rfl, hq⟩; exact ⟨_, rfl, hq.chg.below, MkP.of y hq⟩))
            refine eachF_cons r rfl (fun fr1 g w' hb' hd r' => ?_) ?_
            · exact y_load_agg r' (cs := (planC a0)) (n := 6) rfl ((hP.below (dr hb')).cell (i := 2) rfl) ta23 rfl ⟨Below.refl _ _, rfl⟩
            refine eachF_cons r rfl (fun fr1 g w' hb' hd r' => ?_) ?_
            · exact y_move r' (v := (.pointer (some ⟨mg20.mb, 0, none⟩))) rfl ⟨Below.refl _ _, rfl⟩
            refine eachF_cons r rfl (fun fr1 g w' hb' hd r' => ?_) ?_
            · exact y_call r' (args := [(.agg (planC a0).toArray), (.pointer (some ⟨mg20.mb, 0, none⟩)), (.int .i64 0)]) (lc (hd 3 rfl).1 (lc (hd 4 rfl).1 (lc rfl l0))) cl26 ((c_free_List _ a0 x105.2.2.2 ((hP.below (dr hb')).mem (i := 3) rfl) 0 hx110).mono (by rintro _ w2 ⟨y, rfl, hq⟩; exact ⟨_, rfl, hq.chg.below, MkP.of y hq⟩))
            refine eachF_cons r rfl (fun fr1 g w' hb' hd r' => ?_) ?_
            · exact y_assign r' (v := (g 2).v) rfl ⟨Below.refl _ _, rfl⟩
            refine eachF_cons r rfl (fun fr1 g w' hb' hd r' => ?_) ?_
            · exact y_assign r' (v := (g 5).v) rfl ⟨Below.refl _ _, rfl⟩
            exact eachF_nil
          · skip
            intro fr gg w113 hb hΦ hap r
            have g0 : (gg 0).v = (.agg (planC a0).toArray) := (hΦ 0 rfl).1
            have g1 : (gg 1).v = (.pointer (some ⟨mg20.mb, 0, none⟩)) := (hΦ 1 rfl).1
            obtain ⟨v108, g2, hs2⟩ := (hΦ 2 rfl).1
            have g3 : (gg 3).v = (.agg (planC a0).toArray) := (hΦ 3 rfl).1
            have g4 : (gg 4).v = (.pointer (some ⟨mg20.mb, 0, none⟩)) := (hΦ 4 rfl).1
            obtain ⟨v111, g5, hs5⟩ := (hΦ 5 rfl).1
            have g6 : (gg 6).v = v108 := Eq.trans (show (gg 6).v = (gg 2).v from (hΦ 6 rfl).1) g2
            have g7 : (gg 7).v = v111 := Eq.trans (show (gg 7).v = (gg 5).v from (hΦ 7 rfl).1) g5
            have r := r.congr (sc g7 (sc g6 (sc g5 (sc g4 (sc g3 (sc g2 (sc g1 (sc g0 rfl))))))))
            have hP : Post No [roK 3 1 i64 a1_v a1, roK 3 1 i64 a2_v a2, cellC b1 ((planC a0)).toArray 23, memK mg20 x105.2.2.2, rowK 3 1 i64 γ61 x60.1, rowK 3 1 i64 v97 x95, progK Tryz.prog encInt (fu, (D.retire_Scan (fu + 1) a0 0)) v100 (rg w96.heap.size w99.heap.size), rowK 3 1 i64 v108 x107, rowK 3 1 i64 v111 x110] w0 w113 := hP.addL (l := [([rowK 3 1 i64 v108 x107], (gg 2).lo, (gg 2).hi), ([rowK 3 1 i64 v111 x110], (gg 5).lo, (gg 5).hi)]) hb ⟨hs2, (hΦ 2 rfl).2.1, (disj_cons (hap 2 5 rfl) disj_nil), ⟨hs5, (hΦ 5 rfl).2.1, disj_nil, trivial⟩⟩
            refine wp_seq ?_
            refine wp_region_lit ?_
            refine seq_val (.agg (planC a0).toArray) r (fun R => y_load_agg r (cs := (planC a0)) (n := 6) rfl (hP.cell (i := 2) rfl) ta23 rfl) rfl fun fr r => ?_
            refine seq_call r (c_retire_Scan (F := No) (n := fu) (j := fu + 1) (fun _ h => h.elim) (by omega) a0 0) (fun R hc => y_call r rfl cl19 hc) rfl ?_
            rintro _ w114 ⟨v115, rfl, hb, hr116⟩
            refine ⟨_, rfl, fun fr r => ?_⟩
            have hP : Post No [roK 3 1 i64 a1_v a1, roK 3 1 i64 a2_v a2, cellC b1 ((planC a0)).toArray 23, memK mg20 x105.2.2.2, rowK 3 1 i64 γ61 x60.1, rowK 3 1 i64 v97 x95, progK Tryz.prog encInt (fu, (D.retire_Scan (fu + 1) a0 0)) v100 (rg w96.heap.size w99.heap.size), rowK 3 1 i64 v108 x107, rowK 3 1 i64 v111 x110, progK Tryz.prog encInt (fu, (D.retire_Scan (fu + 1) a0 0)) v115 (rg w113.heap.size w114.heap.size)] w0 w114 := hP.addProg hb hr116
            refine seq_val (.pointer (some ⟨mg20.mb, 0, none⟩)) r (fun R => y_move r rfl) rfl fun fr r => ?_
            refine seq_val (.pointer (some ⟨mg20.mb, 0, none⟩)) r (fun R => y_move r rfl) rfl fun fr r => ?_
            obtain ⟨x118, hx118, hD⟩ := bindD_elim hD
            refine seq_call r (c_mem_Memory_Cap w114 x105.2.2.2 (hP.mem (i := 3) rfl) 0 hx118) (fun R hc => y_call r rfl cl18 hc) rfl ?_
            rintro _ w119 ⟨rfl, hb⟩
            refine ⟨_, rfl, fun fr r => ?_⟩
            have hP : Post No [roK 3 1 i64 a1_v a1, roK 3 1 i64 a2_v a2, cellC b1 ((planC a0)).toArray 23, memK mg20 x105.2.2.2, rowK 3 1 i64 γ61 x60.1, rowK 3 1 i64 v97 x95, progK Tryz.prog encInt (fu, (D.retire_Scan (fu + 1) a0 0)) v100 (rg w96.heap.size w99.heap.size), rowK 3 1 i64 v108 x107, rowK 3 1 i64 v111 x110, progK Tryz.prog encInt (fu, (D.retire_Scan (fu + 1) a0 0)) v115 (rg w113.heap.size w114.heap.size)] w0 w119 := hP.below hb
            obtain ⟨x120, hx120, hD⟩ := bindD_elim hD
            refine seq_call r (c_prog_Run_int w119 (fu, (D.retire_Scan (fu + 1) a0 0)) x105.2.2.2 x118 100000 (hP.sep.pk [9, 3] rfl rfl) hx120) (fun R hc => y_call r rfl cl16 hc) rfl ?_
            rintro _ w121 ⟨rfl, hq⟩
            refine ⟨_, rfl, fun fr r => ?_⟩
            have hP : Post No [roK 3 1 i64 a1_v a1, roK 3 1 i64 a2_v a2, cellC b1 ((planC a0)).toArray 23, memK mg20 x120.2.2.2, rowK 3 1 i64 γ61 x60.1, rowK 3 1 i64 v97 x95, progK Tryz.prog encInt (fu, (D.retire_Scan (fu + 1) a0 0)) v100 (rg w96.heap.size w99.heap.size), rowK 3 1 i64 v108 x107, rowK 3 1 i64 v111 x110, progK Tryz.prog encInt (fu, (D.retire_Scan (fu + 1) a0 0)) v115 (rg w113.heap.size w114.heap.size)] w0 w121 := hP.setN (i := 3) rfl hq
            refine seq_val (.tuple #[(.int .i64 x120.1), (.int .i64 x120.2.1), (.bool x120.2.2.1)]) r (fun R => y_move r rfl) rfl fun fr r => ?_
            refine seq_val (.int .i64 x120.1) r (fun R => y_extract r (vs := #[(.int .i64 x120.1), (.int .i64 x120.2.1), (.bool x120.2.2.1)]) rfl rfl) rfl fun fr r => ?_
            refine seq_val (.int .i64 x120.2.1) r (fun R => y_extract r (vs := #[(.int .i64 x120.1), (.int .i64 x120.2.1), (.bool x120.2.2.1)]) rfl rfl) rfl fun fr r => ?_
            refine seq_val (.bool x120.2.2.1) r (fun R => y_extract r (vs := #[(.int .i64 x120.1), (.int .i64 x120.2.1), (.bool x120.2.2.1)]) rfl rfl) rfl fun fr r => ?_
            refine seq_val (.int .i64 x120.1) r (fun R => y_assign r rfl) rfl fun fr r => ?_
            refine seq_val (.int .i64 x120.2.1) r (fun R => y_assign r rfl) rfl fun fr r => ?_
            refine seq_val (.bool x120.2.2.1) r (fun R => y_assign r rfl) rfl fun fr r => ?_
            refine wpList_nil ?_
            refine wp_seq ?_
            have hP : Post No [roK 3 1 i64 a1_v a1, roK 3 1 i64 a2_v a2, cellC b1 ((planC a0)).toArray 23, memK mg20 x120.2.2.2, rowK 3 1 i64 γ61 x60.1, rowK 3 1 i64 v97 x95, rowK 3 1 i64 v108 x107, rowK 3 1 i64 v111 x110] w0 w121 := hP.pick [0, 1, 2, 3, 4, 5, 7, 8] rfl rfl
            refine wp_joinG (N := 187) (Y := Bool) (G := Unit) (fun x γ => [(0, (.agg (planC a0).toArray)), (1, a1_v), (2, a2_v), (3, (.pointer (some ⟨b1, 0, none⟩))), (36, (.bool x12)), (7, (.pointer (some ⟨mg20.mb, 0, none⟩))), (42, (.bool false)), (8, γ61), (9, (.int .i64 x60.2.1)), (10, (.int .i64 x92.1)), (11, v97), (12, (.int .i64 x105.1)), (15, v108), (16, v111), (17, (.int .i64 x120.1)), (19, (.bool x120.2.2.1)), (6, (.bool x))]) (fun x γ w => Post No [roK 3 1 i64 a1_v a1, roK 3 1 i64 a2_v a2, cellC b1 ((planC a0)).toArray 23, memK mg20 x120.2.2.2, rowK 3 1 i64 γ61 x60.1, rowK 3 1 i64 v97 x95, rowK 3 1 i64 v108 x107, rowK 3 1 i64 v111 x110] w0 w) hD ?_ ?_
            · skip
              rintro y122 RPy122 nxy122 hD
              refine wp_region_lit ?_
              refine seq_val (.bool x120.2.2.1) r (fun R => y_move r rfl) rfl fun fr r => ?_
              refine seq_val (.bool x120.2.2.1) r (fun R => y_move r rfl) rfl fun fr r => ?_
              refine seq_split x120.2.2.1 (fun h123 => ?_) (fun h123 => ?_)
              · skip
                have hD := (cond_t h123).symm.trans hD
                refine seq_want r rfl rfl rfl (congrArg Value.bool h123) ?_
                refine seq_val (.int .i64 x120.1) r (fun R => y_move r rfl) rfl fun fr r => ?_
                refine seq_want r rfl rfl rfl (congrArg Value.bool h123) ?_
                refine seq_val (.bool (x120.1 == 0)) r (fun R => y_bin r (u := (.int .i64 x120.1)) (u' := (.int .i64 0)) rfl rfl rfl rfl) rfl fun fr r => ?_
                refine seq_val (.bool (x120.1 == 0)) r (fun R => y_pick r (b := true) (congrArg Value.bool h123) rfl) rfl fun fr r => ?_
                refine seq_val (.bool (x120.1 == 0)) r (fun R => y_move r rfl) rfl fun fr r => ?_
                refine seq_split (x120.1 == 0) (fun h124 => ?_) (fun h124 => ?_)
                · skip
                  have hD := (cond_t h124).symm.trans hD
                  refine seq_want r rfl rfl rfl (congrArg Value.bool h124) ?_
                  refine seq_val (.int .i64 x105.1) r (fun R => y_move r rfl) rfl fun fr r => ?_
                  refine seq_want r rfl rfl rfl (congrArg Value.bool h124) ?_
                  refine seq_val v108 r (fun R => y_move r rfl) rfl fun fr r => ?_
                  refine seq_want r rfl rfl rfl (congrArg Value.bool h124) ?_
                  refine seq_val (.int .i64 (x107.length : Int)) r (fun R => y_rowLen r (hP.row (i := 6) rfl).ro is24 rfl) rfl fun fr r => ?_
                  refine seq_want r rfl rfl rfl (congrArg Value.bool h124) ?_
                  refine seq_val (.int .i64 (IntKind.i64.wrap (x105.1 + (x107.length : Int)))) r (fun R => y_bin r (u := (.int .i64 x105.1)) (u' := (.int .i64 (x107.length : Int))) rfl rfl rfl rfl) rfl fun fr r => ?_
                  refine seq_want r rfl rfl rfl (congrArg Value.bool h124) ?_
                  refine seq_val v97 r (fun R => y_move r rfl) rfl fun fr r => ?_
                  refine seq_want r rfl rfl rfl (congrArg Value.bool h124) ?_
                  refine seq_val (.int .i64 (x95.length : Int)) r (fun R => y_rowLen r (hP.row (i := 5) rfl).ro is24 rfl) rfl fun fr r => ?_
                  refine seq_want r rfl rfl rfl (congrArg Value.bool h124) ?_
                  refine seq_val (.bool ((IntKind.i64.wrap (x105.1 + (x107.length : Int))) == (x95.length : Int))) r (fun R => y_bin r (u := (.int .i64 (IntKind.i64.wrap (x105.1 + (x107.length : Int))))) (u' := (.int .i64 (x95.length : Int))) rfl rfl rfl rfl) rfl fun fr r => ?_
                  refine seq_val (.bool ((IntKind.i64.wrap (x105.1 + (x107.length : Int))) == (x95.length : Int))) r (fun R => y_pick r (b := true) (congrArg Value.bool h124) rfl) rfl fun fr r => ?_
                  refine seq_val (.bool ((IntKind.i64.wrap (x105.1 + (x107.length : Int))) == (x95.length : Int))) r (fun R => y_move r rfl) rfl fun fr r => ?_
                  refine seq_split ((IntKind.i64.wrap (x105.1 + (x107.length : Int))) == (x95.length : Int)) (fun h125 => ?_) (fun h125 => ?_)
                  · skip
                    have hD := (cond_t h125).symm.trans hD
                    refine seq_want r rfl rfl rfl (congrArg Value.bool h125) ?_
                    refine seq_val v108 r (fun R => y_move r rfl) rfl fun fr r => ?_
                    refine seq_want r rfl rfl rfl (congrArg Value.bool h125) ?_
                    refine seq_val (.agg (planC a0).toArray) r (fun R => y_load_agg r (cs := (planC a0)) (n := 6) rfl (hP.cell (i := 2) rfl) ta23 rfl) rfl fun fr r => ?_
                    refine seq_want r rfl rfl rfl (congrArg Value.bool h125) ?_
                    refine seq_val (.pointer (some ⟨mg20.mb, 0, none⟩)) r (fun R => y_move r rfl) rfl fun fr r => ?_
                    refine seq_want r rfl rfl rfl (congrArg Value.bool h125) ?_
                    obtain ⟨x126, hx126, hD⟩ := bindD_elim hD
                    refine seq_call r (c_retire_List w121 a0 x120.2.2.2 (hP.mem (i := 3) rfl) 0 0 hx126) (fun R hc => y_call r rfl cl20 hc) rfl ?_
                    rintro _ w127 ⟨v128, rfl, hq⟩
                    refine ⟨_, rfl, fun fr r => ?_⟩
                    have hP : Post No [roK 3 1 i64 a1_v a1, roK 3 1 i64 a2_v a2, cellC b1 ((planC a0)).toArray 23, memK mg20 x120.2.2.2, rowK 3 1 i64 γ61 x60.1, rowK 3 1 i64 v97 x95, rowK 3 1 i64 v108 x107, rowK 3 1 i64 v111 x110, rowK 3 1 i64 v128 x126] w0 w127 := hP.add hq
                    refine seq_want r rfl rfl rfl (congrArg Value.bool h125) ?_
                    obtain ⟨x130, hx130, hD⟩ := bindD_elim hD
                    refine seq_call r (c_cubicleref09_Same w127 x107 (hP.row (i := 6) rfl).ro x126 (hP.row (i := 8) rfl).ro hx130) (fun R hc => y_call r rfl cl21 hc) rfl ?_
                    rintro _ w131 ⟨rfl, hb⟩
                    refine ⟨_, rfl, fun fr r => ?_⟩
                    have hP : Post No [roK 3 1 i64 a1_v a1, roK 3 1 i64 a2_v a2, cellC b1 ((planC a0)).toArray 23, memK mg20 x120.2.2.2, rowK 3 1 i64 γ61 x60.1, rowK 3 1 i64 v97 x95, rowK 3 1 i64 v108 x107, rowK 3 1 i64 v111 x110, rowK 3 1 i64 v128 x126] w0 w131 := hP.below hb
                    refine seq_val (.bool x130) r (fun R => y_pick r (b := true) (congrArg Value.bool h125) rfl) rfl fun fr r => ?_
                    refine seq_val (.bool x130) r (fun R => y_move r rfl) rfl fun fr r => ?_
                    refine seq_split x130 (fun h132 => ?_) (fun h132 => ?_)
                    · skip
                      have hD := (cond_t h132).symm.trans hD
                      refine seq_want r rfl rfl rfl (congrArg Value.bool h132) ?_
                      refine seq_val v111 r (fun R => y_move r rfl) rfl fun fr r => ?_
                      refine seq_want r rfl rfl rfl (congrArg Value.bool h132) ?_
                      refine seq_val (.agg (planC a0).toArray) r (fun R => y_load_agg r (cs := (planC a0)) (n := 6) rfl (hP.cell (i := 2) rfl) ta23 rfl) rfl fun fr r => ?_
                      refine seq_want r rfl rfl rfl (congrArg Value.bool h132) ?_
                      refine seq_val (.pointer (some ⟨mg20.mb, 0, none⟩)) r (fun R => y_move r rfl) rfl fun fr r => ?_
                      refine seq_want r rfl rfl rfl (congrArg Value.bool h132) ?_
                      obtain ⟨x133, hx133, hD⟩ := bindD_elim hD
                      refine seq_call r (c_free_List w131 a0 x120.2.2.2 (hP.mem (i := 3) rfl) 0 hx133) (fun R hc => y_call r rfl cl26 hc) rfl ?_
                      rintro _ w134 ⟨v135, rfl, hq⟩
                      refine ⟨_, rfl, fun fr r => ?_⟩
                      have hP : Post No [roK 3 1 i64 a1_v a1, roK 3 1 i64 a2_v a2, cellC b1 ((planC a0)).toArray 23, memK mg20 x120.2.2.2, rowK 3 1 i64 γ61 x60.1, rowK 3 1 i64 v97 x95, rowK 3 1 i64 v108 x107, rowK 3 1 i64 v111 x110, rowK 3 1 i64 v128 x126, rowK 3 1 i64 v135 x133] w0 w134 := hP.add hq
                      refine seq_want r rfl rfl rfl (congrArg Value.bool h132) ?_
                      obtain ⟨x137, hx137, hD⟩ := bindD_elim hD
                      refine seq_call r (c_cubicleref09_Same w134 x110 (hP.row (i := 7) rfl).ro x133 (hP.row (i := 9) rfl).ro hx137) (fun R hc => y_call r rfl cl21 hc) rfl ?_
                      rintro _ w138 ⟨rfl, hb⟩
                      refine ⟨_, rfl, fun fr r => ?_⟩
                      have hP : Post No [roK 3 1 i64 a1_v a1, roK 3 1 i64 a2_v a2, cellC b1 ((planC a0)).toArray 23, memK mg20 x120.2.2.2, rowK 3 1 i64 γ61 x60.1, rowK 3 1 i64 v97 x95, rowK 3 1 i64 v108 x107, rowK 3 1 i64 v111 x110, rowK 3 1 i64 v128 x126, rowK 3 1 i64 v135 x133] w0 w138 := hP.below hb
                      refine seq_val (.bool x137) r (fun R => y_pick r (b := true) (congrArg Value.bool h132) rfl) rfl fun fr r => ?_
                      refine seq_val (.bool x137) r (fun R => y_assign r rfl) rfl fun fr r => ?_
                      refine wpList_nil ?_
                      exact nxy122 x137 () _ _ _ hD r (hs_cons rfl (hs_cons rfl (hs_cons rfl (hs_cons rfl (hs_cons rfl (hs_cons rfl (hs_cons rfl (hs_cons rfl (hs_cons rfl (hs_cons rfl (hs_cons rfl (hs_cons rfl (hs_cons rfl (hs_cons rfl (hs_cons rfl (hs_cons rfl (hs_cons rfl hs_nil))))))))))))))))) (hP.pick [0, 1, 2, 3, 4, 5, 6, 7] rfl rfl)
                    · skip
                      have hD := (cond_f h132).symm.trans hD
                      refine seq_skip r rfl rfl rfl (v := .bool false) (congrArg Value.bool h132) (by simp [boolOf]) fun fr r => ?_
                      refine seq_skip r rfl rfl rfl (v := .bool false) (congrArg Value.bool h132) (by simp [boolOf]) fun fr r => ?_
                      refine seq_skip r rfl rfl rfl (v := .bool false) (congrArg Value.bool h132) (by simp [boolOf]) fun fr r => ?_
                      refine seq_skip r rfl rfl rfl (v := .bool false) (congrArg Value.bool h132) (by simp [boolOf]) fun fr r => ?_
                      refine seq_skip r rfl rfl rfl (v := .bool false) (congrArg Value.bool h132) (by simp [boolOf]) fun fr r => ?_
                      refine seq_val (.bool false) r (fun R => y_pick r (b := false) (congrArg Value.bool h132) rfl) rfl fun fr r => ?_
                      refine seq_val (.bool false) r (fun R => y_assign r rfl) rfl fun fr r => ?_
                      refine wpList_nil ?_
                      exact nxy122 false () _ _ _ hD r (hs_cons rfl (hs_cons rfl (hs_cons rfl (hs_cons rfl (hs_cons rfl (hs_cons rfl (hs_cons rfl (hs_cons rfl (hs_cons rfl (hs_cons rfl (hs_cons rfl (hs_cons rfl (hs_cons rfl (hs_cons rfl (hs_cons rfl (hs_cons rfl (hs_cons rfl hs_nil))))))))))))))))) (hP.pick [0, 1, 2, 3, 4, 5, 6, 7] rfl rfl)
                  · skip
                    have hD := (cond_f h125).symm.trans hD
                    refine seq_skip r rfl rfl rfl (v := .bool false) (congrArg Value.bool h125) (by simp [boolOf]) fun fr r => ?_
                    refine seq_skip r rfl rfl rfl (v := .bool false) (congrArg Value.bool h125) (by simp [boolOf]) fun fr r => ?_
                    refine seq_skip r rfl rfl rfl (v := .bool false) (congrArg Value.bool h125) (by simp [boolOf]) fun fr r => ?_
                    refine seq_skip r rfl rfl rfl (v := .bool false) (congrArg Value.bool h125) (by simp [boolOf]) fun fr r => ?_
                    refine seq_skip r rfl rfl rfl (v := .bool false) (congrArg Value.bool h125) (by simp [boolOf]) fun fr r => ?_
                    refine seq_val (.bool false) r (fun R => y_pick r (b := false) (congrArg Value.bool h125) rfl) rfl fun fr r => ?_
                    refine seq_val (.bool false) r (fun R => y_move r rfl) rfl fun fr r => ?_
                    refine seq_skip r rfl rfl rfl (v := .bool false) (congrArg Value.bool (rfl : false = _)) (by simp [boolOf]) fun fr r => ?_
                    refine seq_skip r rfl rfl rfl (v := .bool false) (congrArg Value.bool (rfl : false = _)) (by simp [boolOf]) fun fr r => ?_
                    refine seq_skip r rfl rfl rfl (v := .bool false) (congrArg Value.bool (rfl : false = _)) (by simp [boolOf]) fun fr r => ?_
                    refine seq_skip r rfl rfl rfl (v := .bool false) (congrArg Value.bool (rfl : false = _)) (by simp [boolOf]) fun fr r => ?_
                    refine seq_skip r rfl rfl rfl (v := .bool false) (congrArg Value.bool (rfl : false = _)) (by simp [boolOf]) fun fr r => ?_
                    refine seq_val (.bool false) r (fun R => y_pick r (b := false) (congrArg Value.bool (rfl : false = _)) rfl) rfl fun fr r => ?_
                    refine seq_val (.bool false) r (fun R => y_assign r rfl) rfl fun fr r => ?_
                    refine wpList_nil ?_
                    exact nxy122 false () _ _ _ hD r (hs_cons rfl (hs_cons rfl (hs_cons rfl (hs_cons rfl (hs_cons rfl (hs_cons rfl (hs_cons rfl (hs_cons rfl (hs_cons rfl (hs_cons rfl (hs_cons rfl (hs_cons rfl (hs_cons rfl (hs_cons rfl (hs_cons rfl (hs_cons rfl (hs_cons rfl hs_nil))))))))))))))))) (hP.pick [0, 1, 2, 3, 4, 5, 6, 7] rfl rfl)
                · skip
                  have hD := (cond_f h124).symm.trans hD
                  refine seq_skip r rfl rfl rfl (v := .bool false) (congrArg Value.bool h124) (by simp [boolOf]) fun fr r => ?_
                  refine seq_skip r rfl rfl rfl (v := .bool false) (congrArg Value.bool h124) (by simp [boolOf]) fun fr r => ?_
                  refine seq_skip r rfl rfl rfl (v := .bool false) (congrArg Value.bool h124) (by simp [boolOf]) fun fr r => ?_
                  refine seq_skip r rfl rfl rfl (v := .bool false) (congrArg Value.bool h124) (by simp [boolOf]) fun fr r => ?_
                  refine seq_skip r rfl rfl rfl (v := .bool false) (congrArg Value.bool h124) (by simp [boolOf]) fun fr r => ?_
                  refine seq_skip r rfl rfl rfl (v := .bool false) (congrArg Value.bool h124) (by simp [boolOf]) fun fr r => ?_
                  refine seq_skip r rfl rfl rfl (v := .bool false) (congrArg Value.bool h124) (by simp [boolOf]) fun fr r => ?_
                  refine seq_val (.bool false) r (fun R => y_pick r (b := false) (congrArg Value.bool h124) rfl) rfl fun fr r => ?_
                  refine seq_val (.bool false) r (fun R => y_move r rfl) rfl fun fr r => ?_
                  refine seq_skip r rfl rfl rfl (v := .bool false) (congrArg Value.bool (rfl : false = _)) (by simp [boolOf]) fun fr r => ?_
                  refine seq_skip r rfl rfl rfl (v := .bool false) (congrArg Value.bool (rfl : false = _)) (by simp [boolOf]) fun fr r => ?_
                  refine seq_skip r rfl rfl rfl (v := .bool false) (congrArg Value.bool (rfl : false = _)) (by simp [boolOf]) fun fr r => ?_
                  refine seq_skip r rfl rfl rfl (v := .bool false) (congrArg Value.bool (rfl : false = _)) (by simp [boolOf]) fun fr r => ?_
                  refine seq_skip r rfl rfl rfl (v := .bool false) (congrArg Value.bool (rfl : false = _)) (by simp [boolOf]) fun fr r => ?_
                  refine seq_val (.bool false) r (fun R => y_pick r (b := false) (congrArg Value.bool (rfl : false = _)) rfl) rfl fun fr r => ?_
                  refine seq_val (.bool false) r (fun R => y_move r rfl) rfl fun fr r => ?_
                  refine seq_skip r rfl rfl rfl (v := .bool false) (congrArg Value.bool (rfl : false = _)) (by simp [boolOf]) fun fr r => ?_
                  refine seq_skip r rfl rfl rfl (v := .bool false) (congrArg Value.bool (rfl : false = _)) (by simp [boolOf]) fun fr r => ?_
                  refine seq_skip r rfl rfl rfl (v := .bool false) (congrArg Value.bool (rfl : false = _)) (by simp [boolOf]) fun fr r => ?_
                  refine seq_skip r rfl rfl rfl (v := .bool false) (congrArg Value.bool (rfl : false = _)) (by simp [boolOf]) fun fr r => ?_
                  refine seq_skip r rfl rfl rfl (v := .bool false) (congrArg Value.bool (rfl : false = _)) (by simp [boolOf]) fun fr r => ?_
                  refine seq_val (.bool false) r (fun R => y_pick r (b := false) (congrArg Value.bool (rfl : false = _)) rfl) rfl fun fr r => ?_
                  refine seq_val (.bool false) r (fun R => y_assign r rfl) rfl fun fr r => ?_
                  refine wpList_nil ?_
                  exact nxy122 false () _ _ _ hD r (hs_cons rfl (hs_cons rfl (hs_cons rfl (hs_cons rfl (hs_cons rfl (hs_cons rfl (hs_cons rfl (hs_cons rfl (hs_cons rfl (hs_cons rfl (hs_cons rfl (hs_cons rfl (hs_cons rfl (hs_cons rfl (hs_cons rfl (hs_cons rfl (hs_cons rfl hs_nil))))))))))))))))) (hP.pick [0, 1, 2, 3, 4, 5, 6, 7] rfl rfl)
              · skip
                have hD := (cond_f h123).symm.trans hD
                refine seq_skip r rfl rfl rfl (v := .bool false) (congrArg Value.bool h123) (by simp [boolOf]) fun fr r => ?_
                refine seq_skip r rfl rfl rfl (v := .bool false) (congrArg Value.bool h123) (by simp [boolOf]) fun fr r => ?_
                refine seq_val (.bool false) r (fun R => y_pick r (b := false) (congrArg Value.bool h123) rfl) rfl fun fr r => ?_
                refine seq_val (.bool false) r (fun R => y_move r rfl) rfl fun fr r => ?_
                refine seq_skip r rfl rfl rfl (v := .bool false) (congrArg Value.bool (rfl : false = _)) (by simp [boolOf]) fun fr r => ?_
                refine seq_skip r rfl rfl rfl (v := .bool false) (congrArg Value.bool (rfl : false = _)) (by simp [boolOf]) fun fr r => ?_
                refine seq_skip r rfl rfl rfl (v := .bool false) (congrArg Value.bool (rfl : false = _)) (by simp [boolOf]) fun fr r => ?_
                refine seq_skip r rfl rfl rfl (v := .bool false) (congrArg Value.bool (rfl : false = _)) (by simp [boolOf]) fun fr r => ?_
                refine seq_skip r rfl rfl rfl (v := .bool false) (congrArg Value.bool (rfl : false = _)) (by simp [boolOf]) fun fr r => ?_
                refine seq_skip r rfl rfl rfl (v := .bool false) (congrArg Value.bool (rfl : false = _)) (by simp [boolOf]) fun fr r => ?_
                refine seq_skip r rfl rfl rfl (v := .bool false) (congrArg Value.bool (rfl : false = _)) (by simp [boolOf]) fun fr r => ?_
                refine seq_val (.bool false) r (fun R => y_pick r (b := false) (congrArg Value.bool (rfl : false = _)) rfl) rfl fun fr r => ?_
                refine seq_val (.bool false) r (fun R => y_move r rfl) rfl fun fr r => ?_
                refine seq_skip r rfl rfl rfl (v := .bool false) (congrArg Value.bool (rfl : false = _)) (by simp [boolOf]) fun fr r => ?_
                refine seq_skip r rfl rfl rfl (v := .bool false) (congrArg Value.bool (rfl : false = _)) (by simp [boolOf]) fun fr r => ?_
                refine seq_skip r rfl rfl rfl (v := .bool false) (congrArg Value.bool (rfl : false = _)) (by simp [boolOf]) fun fr r => ?_
                refine seq_skip r rfl rfl rfl (v := .bool false) (congrArg Value.bool (rfl : false = _)) (by simp [boolOf]) fun fr r => ?_
                refine seq_skip r rfl rfl rfl (v := .bool false) (congrArg Value.bool (rfl : false = _)) (by simp [boolOf]) fun fr r => ?_
                refine seq_val (.bool false) r (fun R => y_pick r (b := false) (congrArg Value.bool (rfl : false = _)) rfl) rfl fun fr r => ?_
                refine seq_val (.bool false) r (fun R => y_move r rfl) rfl fun fr r => ?_
                refine seq_skip r rfl rfl rfl (v := .bool false) (congrArg Value.bool (rfl : false = _)) (by simp [boolOf]) fun fr r => ?_
                refine seq_skip r rfl rfl rfl (v := .bool false) (congrArg Value.bool (rfl : false = _)) (by simp [boolOf]) fun fr r => ?_
                refine seq_skip r rfl rfl rfl (v := .bool false) (congrArg Value.bool (rfl : false = _)) (by simp [boolOf]) fun fr r => ?_
                refine seq_skip r rfl rfl rfl (v := .bool false) (congrArg Value.bool (rfl : false = _)) (by simp [boolOf]) fun fr r => ?_
                refine seq_skip r rfl rfl rfl (v := .bool false) (congrArg Value.bool (rfl : false = _)) (by simp [boolOf]) fun fr r => ?_
                refine seq_val (.bool false) r (fun R => y_pick r (b := false) (congrArg Value.bool (rfl : false = _)) rfl) rfl fun fr r => ?_
                refine seq_val (.bool false) r (fun R => y_assign r rfl) rfl fun fr r => ?_
                refine wpList_nil ?_
                exact nxy122 false () _ _ _ hD r (hs_cons rfl (hs_cons rfl (hs_cons rfl (hs_cons rfl (hs_cons rfl (hs_cons rfl (hs_cons rfl (hs_cons rfl (hs_cons rfl (hs_cons rfl (hs_cons rfl (hs_cons rfl (hs_cons rfl (hs_cons rfl (hs_cons rfl (hs_cons rfl (hs_cons rfl hs_nil))))))))))))))))) (hP.pick [0, 1, 2, 3, 4, 5, 6, 7] rfl rfl)
            · skip
              rintro x139 γ140 fr w141 g r hP hD
              have hP : Post No [roK 3 1 i64 a1_v a1, roK 3 1 i64 a2_v a2, cellC b1 ((planC a0)).toArray 23, memK mg20 x120.2.2.2, rowK 3 1 i64 γ61 x60.1, rowK 3 1 i64 v97 x95, rowK 3 1 i64 v108 x107, rowK 3 1 i64 v111 x110] w0 w141 := hP
              refine wp_ret ?_
              have hv : x139 = res := Option.some.inj hD
              try dsimp only [Exit.then, Exit.inBlock]
              refine ret_tmp (fn := Tryz.f6) r (t := 6) rfl (v := (.bool x139)) rfl ?_
              subst hv
              exact ⟨rfl, hP.chg.below⟩

end Go.Proofs.YtphnnjiaiemkcaaGreat.Wk
