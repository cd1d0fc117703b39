/- Written by a program of ours (wip/gen.py): a law -/
import Derived.Test.YtphnnjiaiemkcaaLists
set_option linter.unusedVariables false
namespace Go.Proofs.Ytphnnjiaiemkcaa.Wk
open Go.RowKit
theorem cl55 : callable Try.prog 55 = true := by kernel_rfl
theorem cl57 : callable Try.prog 57 = true := by kernel_rfl
theorem is87 : isSlice Try.prog 87 = true := by kernel_rfl
theorem sl87 : sliceTy Try.prog 87 1 = true := by kernel_rfl

def D.cubiclelaw09_FreeTags (fu : Nat) (a0 : Plan) (a1 : List Bool) : Option (Bool) := (Option.bind ((D.cubiclelaw09_awake fu ).bind (fun (x6 : Bool) => (bif (!x6) then (some true) else (bif (!(D.cubicleref06_Few a0)) then (some true) else (bif (!(D.cubicleref06_Formed a0)) then (some true) else (some (decide ((a1.length : Int) > 60)))))))) (fun (x13 : Bool) => (bif x13 then ((D.cubiclelaw09_awake fu ).bind (fun (x17 : Bool) => (some x17))) else ((D.cubiclelaw09_Laid fu a0).bind (fun (x19 : Mem) => (loopThen (fun (x24 : Int × List Int × Int × Mem) => (bif (decide (x24.2.2.1 < (a1.length : Int))) then ((getI a1 x24.2.2.1).bind (fun (x29 : Bool) => (Option.bind (bif x29 then ((D.mem_Memory_Cap fu x24.2.2.2 0).bind (fun (x36 : Cap) => ((D.prog_Run_int fu (fu, (D.free_Pop (fu + 1) a0)) x24.2.2.2 x36 9).bind (fun (x38 : Int × Int × Bool × Mem) => (Option.bind (bif (decide (x38.1 ≥ 0)) then ((appD x24.2.1 ([x38.1])).bind (fun (x46 : List Int) => (some (x46, (IntKind.i64.wrap (x24.1 + 1)))))) else (some (x24.2.1, x24.1))) (fun (x50 : List Int × Int) => (some (x50.1, x38.2.2.2, x50.2)))))))) else (Option.bind (bif (decide ((x24.2.1.length : Int) > 0)) then ((getI x24.2.1 0).bind (fun (x55 : Int) => ((D.mem_Memory_Cap fu x24.2.2.2 0).bind (fun (x57 : Cap) => ((D.prog_Run_int fu (fu, (D.free_Push (fu + 1) a0 x55)) x24.2.2.2 x57 9).bind (fun (x58 : Int × Int × Bool × Mem) => ((sliceD x24.2.1 1 (x24.2.1.length : Int)).bind (fun (x60 : List Int) => (some (x58.2.2.2, (IntKind.i64.wrap (x24.1 + 1)), x60)))))))))) else (some (x24.2.2.2, x24.1, x24.2.1))) (fun (x61 : Mem × Int × List Int) => (some (x61.2.2, x61.1, x61.2.1))))) (fun (x64 : List Int × Mem × Int) => (some (Lp.next (x64.2.2, x64.1, (IntKind.i64.wrap (x24.2.2.1 + 1)), x64.2.1))))))) else (some (Lp.brk (x24.1, x24.2.1, x24.2.2.1, x24.2.2.2))))) fu (0, [], 0, x19) (fun (x67 : Int × List Int × Int × Mem) => ((D.mem_Memory_Peek fu x67.2.2.2 0 (D.plan_Plan_Head a0)).bind (fun (x71 : Int) => (Option.bind (bif ((shrI .u64 x71 21) == (IntKind.u64.wrap x67.1)) then ((D.free_List fu a0 x67.2.2.2 0).bind (fun (x75 : List Int) => (some ((x75.length : Int) == (IntKind.i64.wrap (a0.nodes - (x67.2.1.length : Int))))))) else (some false)) (fun (x80 : Bool) => (some x80))))))))))))

set_option maxRecDepth 20000 in
set_option maxHeartbeats 2000000 in
theorem c_cubiclelaw09_FreeTags {fu : Nat} (w0 : World) (a0 : Plan) {a1_v : Value} (a1 : List Bool) (a1_h : RoAt 4 1 boolE a1_v a1 w0) {res : Bool} (hD : D.cubiclelaw09_FreeTags fu a0 a1 = some res) :
    Calls Try.prog 14 #[.agg (planC a0).toArray, a1_v] w0 (PureRes (.bool res) w0) := by
  refine enter (l := [.agg (planC a0).toArray, a1_v]) Try.func14 rfl 100 rfl rfl fun fr r => ?_
  have hP : Post No [] w0 w0 := Post.nil w0
  have hP : Post No [roK 4 1 boolE a1_v a1] w0 w0 := hP.addRo norw_nil a1_h rfl a1_h.lt
  unfold D.cubiclelaw09_FreeTags at hD
  refine wp_seq ?_
  refine wp_region_lit ?_
  refine seq_new (.cells ((planC a0)).toArray 24 (0, 0)) r (fun R => y_box r (v := (.agg (planC a0).toArray)) rfl) rfl fun fr b1 w2 n3 r => ?_
  have hP : Post No [roK 4 1 boolE a1_v a1, cellC b1 ((planC a0)).toArray 24] w0 w2 := hP.new n3
  refine seq_val (.bool false) r (fun R => y_assign r rfl) rfl fun fr r => ?_
  refine wpList_nil ?_
  refine wp_seq ?_
  refine wp_seq ?_
  refine wp_joinG (N := 100) (Y := Bool) (G := Unit) (fun x γ => [(0, (.agg (planC a0).toArray)), (1, a1_v), (2, (.pointer (some ⟨b1, 0, none⟩))), (4, (.bool false)), (29, (.bool x))]) (fun x γ w => Post No [roK 4 1 boolE a1_v a1, cellC b1 ((planC a0)).toArray 24] w0 w) hD ?_ ?_
  · skip
    rintro y5 RPy5 nxy5 hD
    refine wp_region_lit ?_
    obtain ⟨x6, hx6, hD⟩ := bindD_elim hD
    refine seq_call r (c_cubiclelaw09_awake w2  hx6) (fun R hc => y_call r rfl cl55 hc) rfl ?_
    rintro _ w7 ⟨rfl, hb⟩
    refine ⟨_, rfl, fun fr r => ?_⟩
    have hP : Post No [roK 4 1 boolE a1_v a1, cellC b1 ((planC a0)).toArray 24] w0 w7 := hP.below hb
    refine seq_val (.bool (!x6)) r (fun R => y_un r (u := (.bool x6)) rfl rfl) rfl fun fr r => ?_
    refine seq_val (.bool (!x6)) r (fun R => y_move r rfl) rfl fun fr r => ?_
    refine seq_split (!x6) (fun h8 => ?_) (fun h8 => ?_)
    · skip
      have hD := (cond_t h8).symm.trans hD
      refine seq_skip r rfl rfl rfl (v := .bool true) (congrArg Value.bool h8) (by simp [boolOf]) fun fr r => ?_
      refine seq_skip r rfl rfl rfl (v := .bool true) (congrArg Value.bool h8) (by simp [boolOf]) fun fr r => ?_
      refine seq_skip r rfl rfl rfl (v := .bool true) (congrArg Value.bool h8) (by simp [boolOf]) fun fr r => ?_
      refine seq_val (.bool true) r (fun R => y_pick r (b := true) (congrArg Value.bool h8) rfl) rfl fun fr r => ?_
      refine seq_val (.bool true) r (fun R => y_move r rfl) rfl fun fr r => ?_
      refine seq_skip r rfl rfl rfl (v := .bool true) (congrArg Value.bool (rfl : true = _)) (by simp [boolOf]) fun fr r => ?_
      refine seq_skip r rfl rfl rfl (v := .bool true) (congrArg Value.bool (rfl : true = _)) (by simp [boolOf]) fun fr r => ?_
      refine seq_skip r rfl rfl rfl (v := .bool true) (congrArg Value.bool (rfl : true = _)) (by simp [boolOf]) fun fr r => ?_
      refine seq_val (.bool true) r (fun R => y_pick r (b := true) (congrArg Value.bool (rfl : true = _)) rfl) rfl fun fr r => ?_
      refine seq_val (.bool true) r (fun R => y_move r rfl) rfl fun fr r => ?_
      refine seq_skip r rfl rfl rfl (v := .bool true) (congrArg Value.bool (rfl : true = _)) (by simp [boolOf]) fun fr r => ?_
      refine seq_skip r rfl rfl rfl (v := .bool true) (congrArg Value.bool (rfl : true = _)) (by simp [boolOf]) fun fr r => ?_
      refine seq_skip r rfl rfl rfl (v := .bool true) (congrArg Value.bool (rfl : true = _)) (by simp [boolOf]) fun fr r => ?_
      refine seq_val (.bool true) r (fun R => y_pick r (b := true) (congrArg Value.bool (rfl : true = _)) rfl) rfl fun fr r => ?_
      refine wpList_nil ?_
      exact nxy5 true () _ _ _ hD r (hs_cons rfl (hs_cons rfl (hs_cons rfl (hs_cons rfl (hs_cons rfl hs_nil))))) (hP.pick [0, 1] rfl rfl)
    · skip
      have hD := (cond_f h8).symm.trans hD
      refine seq_want r rfl rfl rfl (congrArg Value.bool h8) ?_
      refine seq_val (.agg (planC a0).toArray) r (fun R => y_load_agg r (cs := (planC a0)) (n := 6) rfl (hP.cell (i := 1) rfl) ta24 rfl) rfl fun fr r => ?_
      refine seq_want r rfl rfl rfl (congrArg Value.bool h8) ?_
      refine seq_call r (c_cubicleref06_Few w7 a0) (fun R hc => y_call r rfl cl23 hc) rfl ?_
      rintro _ w9 ⟨rfl, hb⟩
      refine ⟨_, rfl, fun fr r => ?_⟩
      have hP : Post No [roK 4 1 boolE a1_v a1, cellC b1 ((planC a0)).toArray 24] w0 w9 := hP.below hb
      refine seq_want r rfl rfl rfl (congrArg Value.bool h8) ?_
      refine seq_val (.bool (!(D.cubicleref06_Few a0))) r (fun R => y_un r (u := (.bool (D.cubicleref06_Few a0))) rfl rfl) rfl fun fr r => ?_
      refine seq_val (.bool (!(D.cubicleref06_Few a0))) r (fun R => y_pick r (b := false) (congrArg Value.bool h8) rfl) rfl fun fr r => ?_
      refine seq_val (.bool (!(D.cubicleref06_Few a0))) r (fun R => y_move r rfl) rfl fun fr r => ?_
      refine seq_split (!(D.cubicleref06_Few a0)) (fun h10 => ?_) (fun h10 => ?_)
      · skip
        have hD := (cond_t h10).symm.trans hD
        refine seq_skip r rfl rfl rfl (v := .bool true) (congrArg Value.bool h10) (by simp [boolOf]) fun fr r => ?_
        refine seq_skip r rfl rfl rfl (v := .bool true) (congrArg Value.bool h10) (by simp [boolOf]) fun fr r => ?_
        refine seq_skip r rfl rfl rfl (v := .bool true) (congrArg Value.bool h10) (by simp [boolOf]) fun fr r => ?_
        refine seq_val (.bool true) r (fun R => y_pick r (b := true) (congrArg Value.bool h10) rfl) rfl fun fr r => ?_
        refine seq_val (.bool true) r (fun R => y_move r rfl) rfl fun fr r => ?_
        refine seq_skip r rfl rfl rfl (v := .bool true) (congrArg Value.bool (rfl : true = _)) (by simp [boolOf]) fun fr r => ?_
        refine seq_skip r rfl rfl rfl (v := .bool true) (congrArg Value.bool (rfl : true = _)) (by simp [boolOf]) fun fr r => ?_
        refine seq_skip r rfl rfl rfl (v := .bool true) (congrArg Value.bool (rfl : true = _)) (by simp [boolOf]) fun fr r => ?_
        refine seq_val (.bool true) r (fun R => y_pick r (b := true) (congrArg Value.bool (rfl : true = _)) rfl) rfl fun fr r => ?_
        refine wpList_nil ?_
        exact nxy5 true () _ _ _ hD r (hs_cons rfl (hs_cons rfl (hs_cons rfl (hs_cons rfl (hs_cons rfl hs_nil))))) (hP.pick [0, 1] rfl rfl)
      · skip
        have hD := (cond_f h10).symm.trans hD
        refine seq_want r rfl rfl rfl (congrArg Value.bool h10) ?_
        refine seq_val (.agg (planC a0).toArray) r (fun R => y_load_agg r (cs := (planC a0)) (n := 6) rfl (hP.cell (i := 1) rfl) ta24 rfl) rfl fun fr r => ?_
        refine seq_want r rfl rfl rfl (congrArg Value.bool h10) ?_
        refine seq_call r (c_cubicleref06_Formed w9 a0) (fun R hc => y_call r rfl cl24 hc) rfl ?_
        rintro _ w11 ⟨rfl, hb⟩
        refine ⟨_, rfl, fun fr r => ?_⟩
        have hP : Post No [roK 4 1 boolE a1_v a1, cellC b1 ((planC a0)).toArray 24] w0 w11 := hP.below hb
        refine seq_want r rfl rfl rfl (congrArg Value.bool h10) ?_
        refine seq_val (.bool (!(D.cubicleref06_Formed a0))) r (fun R => y_un r (u := (.bool (D.cubicleref06_Formed a0))) rfl rfl) rfl fun fr r => ?_
        refine seq_val (.bool (!(D.cubicleref06_Formed a0))) r (fun R => y_pick r (b := false) (congrArg Value.bool h10) rfl) rfl fun fr r => ?_
        refine seq_val (.bool (!(D.cubicleref06_Formed a0))) r (fun R => y_move r rfl) rfl fun fr r => ?_
        refine seq_split (!(D.cubicleref06_Formed a0)) (fun h12 => ?_) (fun h12 => ?_)
        · skip
          have hD := (cond_t h12).symm.trans hD
          refine seq_skip r rfl rfl rfl (v := .bool true) (congrArg Value.bool h12) (by simp [boolOf]) fun fr r => ?_
          refine seq_skip r rfl rfl rfl (v := .bool true) (congrArg Value.bool h12) (by simp [boolOf]) fun fr r => ?_
          refine seq_skip r rfl rfl rfl (v := .bool true) (congrArg Value.bool h12) (by simp [boolOf]) fun fr r => ?_
          refine seq_val (.bool true) r (fun R => y_pick r (b := true) (congrArg Value.bool h12) rfl) rfl fun fr r => ?_
          refine wpList_nil ?_
          exact nxy5 true () _ _ _ hD r (hs_cons rfl (hs_cons rfl (hs_cons rfl (hs_cons rfl (hs_cons rfl hs_nil))))) (hP.pick [0, 1] rfl rfl)
        · skip
          have hD := (cond_f h12).symm.trans hD
          refine seq_want r rfl rfl rfl (congrArg Value.bool h12) ?_
          refine seq_val a1_v r (fun R => y_move r rfl) rfl fun fr r => ?_
          refine seq_want r rfl rfl rfl (congrArg Value.bool h12) ?_
          refine seq_val (.int .i64 (a1.length : Int)) r (fun R => y_rowLen r (hP.ro (i := 0) rfl) is87 rfl) rfl fun fr r => ?_
          refine seq_want r rfl rfl rfl (congrArg Value.bool h12) ?_
          refine seq_val (.bool (decide ((a1.length : Int) > 60))) r (fun R => y_bin r (u := (.int .i64 (a1.length : Int))) (u' := (.int .i64 60)) rfl rfl rfl rfl) rfl fun fr r => ?_
          refine seq_val (.bool (decide ((a1.length : Int) > 60))) r (fun R => y_pick r (b := false) (congrArg Value.bool h12) rfl) rfl fun fr r => ?_
          refine wpList_nil ?_
          exact nxy5 (decide ((a1.length : Int) > 60)) () _ _ _ hD r (hs_cons rfl (hs_cons rfl (hs_cons rfl (hs_cons rfl (hs_cons rfl hs_nil))))) (hP.pick [0, 1] rfl rfl)
  · skip
    rintro x13 γ14 fr w15 g r hP hD
    have hP : Post No [roK 4 1 boolE a1_v a1, cellC b1 ((planC a0)).toArray 24] w0 w15 := hP
    refine wp_cond_split (t := x13) (r.ev rfl) (fun h16 => ?_) (fun h16 => ?_)
    · skip
      have hD := (cond_t h16).symm.trans hD
      refine wp_seq ?_
      refine wp_region_lit ?_
      obtain ⟨x17, hx17, hD⟩ := bindD_elim hD
      refine seq_call r (c_cubiclelaw09_awake w15  hx17) (fun R hc => y_call r rfl cl55 hc) rfl ?_
      rintro _ w18 ⟨rfl, hb⟩
      refine ⟨_, rfl, fun fr r => ?_⟩
      have hP : Post No [roK 4 1 boolE a1_v a1, cellC b1 ((planC a0)).toArray 24] w0 w18 := hP.below hb
      refine seq_val (.bool x17) r (fun R => y_assign r rfl) rfl fun fr r => ?_
      refine wpList_nil ?_
      refine wp_ret ?_
      have hv : x17 = res := Option.some.inj hD
      try dsimp only [Exit.then, Exit.inBlock]
      refine ret_tmp (fn := Try.f14) r (t := 4) rfl (v := (.bool x17)) rfl ?_
      subst hv
      exact ⟨rfl, hP.chg.below⟩
    · skip
      have hD := (cond_f h16).symm.trans hD
      refine wp_skip ?_
      refine wp_seq ?_
      refine wp_region_lit ?_
      refine seq_val (.agg (planC a0).toArray) r (fun R => y_load_agg r (cs := (planC a0)) (n := 6) rfl (hP.cell (i := 1) rfl) ta24 rfl) rfl fun fr r => ?_
      obtain ⟨x19, hx19, hD⟩ := bindD_elim hD
      refine seq_call r (c_cubiclelaw09_Laid w15 a0 hx19) (fun R hc => y_call r rfl cl39 hc) rfl ?_
      rintro _ w20 ⟨mg21, rfl, hq⟩
      refine ⟨_, rfl, fun fr r => ?_⟩
      have hP : Post No [roK 4 1 boolE a1_v a1, cellC b1 ((planC a0)).toArray 24, memK mg21 x19] w0 w20 := hP.add hq
      refine seq_val (.pointer (some ⟨mg21.mb, 0, none⟩)) r (fun R => y_assign r rfl) rfl fun fr r => ?_
      refine wpList_nil ?_
      refine wp_seq ?_
      refine wp_seq ?_
      refine wp_region_lit ?_
      refine seq_val (.pointer (some ⟨mg21.mb, 0, none⟩)) r (fun R => y_move r rfl) rfl fun fr r => ?_
      refine seq_val (.bool false) r (fun R => y_bin r (u := (.pointer (some ⟨mg21.mb, 0, none⟩))) (u' := (.pointer none)) (v := (.bool false)) rfl rfl rfl rfl) rfl fun fr r => ?_
      refine wpList_nil ?_
      refine wp_cond_split (t := false) (r.ev rfl) (fun h => absurd ((rfl : false = _).symm.trans h) (by decide)) (fun _ => ?_)
      refine wp_skip ?_
      refine wp_seq ?_
      refine wp_region_lit ?_
      refine seq_val (.int .i64 0) r (fun R => y_assign r rfl) rfl fun fr r => ?_
      refine wpList_nil ?_
      refine wp_seq ?_
      refine wp_region_lit ?_
      refine seq_val (Value.slice none 0 0) r (fun R => y_assign r rfl) rfl fun fr r => ?_
      refine wpList_nil ?_
      refine wp_seq ?_
      refine wp_seq ?_
      refine wp_region_lit ?_
      refine seq_val (.int .i64 0) r (fun R => y_assign r rfl) rfl fun fr r => ?_
      refine wpList_nil ?_
      have hP : Post No [roK 4 1 boolE a1_v a1, cellC b1 ((planC a0)).toArray 24, memK mg21 x19, rowK 3 1 i64 (Value.slice none 0 0) ([])] w0 w20 := hP.nilRow 3 1 i64
      refine wp_loopG (X := Int × List Int × Int × Mem) (G := Value) (x0 := (0, [], 0, x19)) (fun x γ => [(0, (.agg (planC a0).toArray)), (1, a1_v), (2, (.pointer (some ⟨b1, 0, none⟩))), (4, (.bool false)), (29, (.bool x13)), (5, (.pointer (some ⟨mg21.mb, 0, none⟩))), (34, (.bool false)), (6, (.int .i64 x.1)), (7, γ), (8, (.int .i64 x.2.2.1))]) (fun x γ w => Post No [roK 4 1 boolE a1_v a1, cellC b1 ((planC a0)).toArray 24, memK mg21 x.2.2.2, rowK 3 1 i64 γ x.2.1] w0 w) (Value.slice none 0 0) r (hs_cons rfl (hs_cons rfl (hs_cons rfl (hs_cons rfl (hs_cons rfl (hs_cons rfl (hs_cons rfl (hs_cons rfl (hs_cons rfl (hs_cons rfl hs_nil)))))))))) hP hD ?_ ?_
      · skip
        rintro x24 γ25 fr w27 g y26 RPy26 nxy26 bky26 rty26 r hP hD
        have hP : Post No [roK 4 1 boolE a1_v a1, cellC b1 ((planC a0)).toArray 24, memK mg21 x24.2.2.2, rowK 3 1 i64 γ25 x24.2.1] w0 w27 := hP
        refine wp_seq ?_
        refine wp_seq ?_
        refine wp_region_lit ?_
        refine seq_val (.int .i64 x24.2.2.1) r (fun R => y_move r rfl) rfl fun fr r => ?_
        refine seq_val a1_v r (fun R => y_move r rfl) rfl fun fr r => ?_
        refine seq_val (.int .i64 (a1.length : Int)) r (fun R => y_rowLen r (hP.ro (i := 0) rfl) is87 rfl) rfl fun fr r => ?_
        refine seq_val (.bool (decide (x24.2.2.1 < (a1.length : Int)))) r (fun R => y_bin r (u := (.int .i64 x24.2.2.1)) (u' := (.int .i64 (a1.length : Int))) rfl rfl rfl rfl) rfl fun fr r => ?_
        refine wpList_nil ?_
        refine wp_cond_split (t := (decide (x24.2.2.1 < (a1.length : Int)))) (r.ev rfl) (fun h28 => ?_) (fun h28 => ?_)
        · skip
          have hD := (cond_t h28).symm.trans hD
          refine wp_skip ?_
          refine wp_seq ?_
          refine wp_block ?_
          refine wp_seq ?_
          refine wp_region_lit ?_
          refine seq_val a1_v r (fun R => y_move r rfl) rfl fun fr r => ?_
          refine seq_val (.int .i64 x24.2.2.1) r (fun R => y_move r rfl) rfl fun fr r => ?_
          obtain ⟨x29, hx29, hD⟩ := bindD_elim hD
          refine seq_val (.pointer (some ⟨rowB a1_v, rowO a1_v + x24.2.2.1.toNat * 1, none⟩)) r (fun R => y_rowAddr r (hP.ro (i := 0) rfl) hx29 sl87 rfl rfl) rfl fun fr r => ?_
          refine seq_val (.bool x29) r (fun R => y_loadL_one r (u := (.bool x29)) (RoAt.at_ (f := boolE) (x := x29) (hP.ro (i := 0) rfl) (fun _ => rfl) hx29) rfl to4) rfl fun fr r => ?_
          refine wpList_nil ?_
          refine wp_joinG (N := 100) (Y := List Int × Mem × Int) (G := Value) (fun x γ => [(0, (.agg (planC a0).toArray)), (1, a1_v), (2, (.pointer (some ⟨b1, 0, none⟩))), (4, (.bool false)), (29, (.bool x13)), (5, (.pointer (some ⟨mg21.mb, 0, none⟩))), (34, (.bool false)), (8, (.int .i64 x24.2.2.1)), (38, (.bool (decide (x24.2.2.1 < (a1.length : Int))))), (44, (.bool x29)), (7, γ), (6, (.int .i64 x.2.2))]) (fun x γ w => Post No [roK 4 1 boolE a1_v a1, cellC b1 ((planC a0)).toArray 24, memK mg21 x.2.1, rowK 3 1 i64 γ x.1] w0 w) hD ?_ ?_
          · skip
            rintro y30 RPy30 nxy30 hD
            refine wp_cond_split (t := x29) (r.ev rfl) (fun h31 => ?_) (fun h31 => ?_)
            · skip
              have hD := (cond_t h31).symm.trans hD
              refine wp_seq ?_
              refine wp_region_lit ?_
              refine seq_val (.agg (planC a0).toArray) r (fun R => y_load_agg r (cs := (planC a0)) (n := 6) rfl (hP.cell (i := 1) rfl) ta24 rfl) rfl fun fr r => ?_
              refine seq_call r ((c_free_Pop (n := fu) (k := fu + 1) (by omega)) No w27 (fun _ h => h.elim) a0) (fun R hc => y_call r rfl cl58 hc) rfl ?_
              rintro _ w32 ⟨v33, rfl, hb, hr34⟩
              refine ⟨_, rfl, fun fr r => ?_⟩
              have hP : Post No [roK 4 1 boolE a1_v a1, cellC b1 ((planC a0)).toArray 24, memK mg21 x24.2.2.2, rowK 3 1 i64 γ25 x24.2.1, progK Try.prog encInt (fu, (D.free_Pop (fu + 1) a0)) v33 (rg w27.heap.size w32.heap.size)] w0 w32 := hP.addProg hb hr34
              refine seq_val (.pointer (some ⟨mg21.mb, 0, none⟩)) r (fun R => y_move r rfl) rfl fun fr r => ?_
              refine seq_val (.pointer (some ⟨mg21.mb, 0, none⟩)) r (fun R => y_move r rfl) rfl fun fr r => ?_
              obtain ⟨x36, hx36, hD⟩ := bindD_elim hD
              refine seq_call r (c_mem_Memory_Cap w32 x24.2.2.2 (hP.mem (i := 2) rfl) 0 hx36) (fun R hc => y_call r rfl cl42 hc) rfl ?_
              rintro _ w37 ⟨rfl, hb⟩
              refine ⟨_, rfl, fun fr r => ?_⟩
              have hP : Post No [roK 4 1 boolE a1_v a1, cellC b1 ((planC a0)).toArray 24, memK mg21 x24.2.2.2, rowK 3 1 i64 γ25 x24.2.1, progK Try.prog encInt (fu, (D.free_Pop (fu + 1) a0)) v33 (rg w27.heap.size w32.heap.size)] w0 w37 := hP.below hb
              obtain ⟨x38, hx38, hD⟩ := bindD_elim hD
              refine seq_call r (c_prog_Run_int w37 (fu, (D.free_Pop (fu + 1) a0)) x24.2.2.2 x36 9 (hP.sep.pk [4, 2] rfl rfl) hx38) (fun R hc => y_call r rfl cl57 hc) rfl ?_
              rintro _ w39 ⟨rfl, hq⟩
              refine ⟨_, rfl, fun fr r => ?_⟩
              have hP : Post No [roK 4 1 boolE a1_v a1, cellC b1 ((planC a0)).toArray 24, memK mg21 x38.2.2.2, rowK 3 1 i64 γ25 x24.2.1, progK Try.prog encInt (fu, (D.free_Pop (fu + 1) a0)) v33 (rg w27.heap.size w32.heap.size)] w0 w39 := hP.setN (i := 2) rfl hq
              refine seq_val (.tuple #[(.int .i64 x38.1), (.int .i64 x38.2.1), (.bool x38.2.2.1)]) r (fun R => y_move r rfl) rfl fun fr r => ?_
              refine seq_val (.int .i64 x38.1) r (fun R => y_extract r (vs := #[(.int .i64 x38.1), (.int .i64 x38.2.1), (.bool x38.2.2.1)]) rfl rfl) rfl fun fr r => ?_
              refine seq_val (.int .i64 x38.2.1) r (fun R => y_extract r (vs := #[(.int .i64 x38.1), (.int .i64 x38.2.1), (.bool x38.2.2.1)]) rfl rfl) rfl fun fr r => ?_
              refine seq_val (.bool x38.2.2.1) r (fun R => y_extract r (vs := #[(.int .i64 x38.1), (.int .i64 x38.2.1), (.bool x38.2.2.1)]) rfl rfl) rfl fun fr r => ?_
              refine seq_val (.int .i64 x38.1) r (fun R => y_assign r rfl) rfl fun fr r => ?_
              refine seq_val (.int .i64 x38.2.1) r (fun R => y_assign r rfl) rfl fun fr r => ?_
              refine seq_val (.bool x38.2.2.1) r (fun R => y_assign r rfl) rfl fun fr r => ?_
              refine wpList_nil ?_
              refine wp_seq ?_
              refine wp_region_lit ?_
              refine seq_val (.int .i64 x38.1) r (fun R => y_move r rfl) rfl fun fr r => ?_
              refine seq_val (.bool (decide (x38.1 ≥ 0))) r (fun R => y_bin r (u := (.int .i64 x38.1)) (u' := (.int .i64 0)) rfl rfl rfl rfl) rfl fun fr r => ?_
              refine wpList_nil ?_
              have hP : Post No [roK 4 1 boolE a1_v a1, cellC b1 ((planC a0)).toArray 24, memK mg21 x38.2.2.2, rowK 3 1 i64 γ25 x24.2.1] w0 w39 := hP.pick [0, 1, 2, 3] rfl rfl
              refine wp_joinG (N := 100) (Y := List Int × Int) (G := Value) (fun x γ => [(0, (.agg (planC a0).toArray)), (1, a1_v), (2, (.pointer (some ⟨b1, 0, none⟩))), (4, (.bool false)), (29, (.bool x13)), (5, (.pointer (some ⟨mg21.mb, 0, none⟩))), (34, (.bool false)), (8, (.int .i64 x24.2.2.1)), (38, (.bool (decide (x24.2.2.1 < (a1.length : Int))))), (44, (.bool x29)), (9, (.int .i64 x38.1)), (56, (.bool (decide (x38.1 ≥ 0)))), (7, γ), (6, (.int .i64 x.2))]) (fun x γ w => Post No [roK 4 1 boolE a1_v a1, cellC b1 ((planC a0)).toArray 24, memK mg21 x38.2.2.2, rowK 3 1 i64 γ x.1] w0 w) hD ?_ ?_
              · skip
                rintro y40 RPy40 nxy40 hD
                refine wp_cond_split (t := (decide (x38.1 ≥ 0))) (r.ev rfl) (fun h41 => ?_) (fun h41 => ?_)
                · skip
                  have hD := (cond_t h41).symm.trans hD
                  refine wp_seq ?_
                  refine wp_region_lit ?_
                  refine seq_val γ25 r (fun R => y_move r rfl) rfl fun fr r => ?_
                  refine seq_val (.int .i64 x38.1) r (fun R => y_move r rfl) rfl fun fr r => ?_
                  refine seq_newS (.cells (([x38.1]).flatMap i64).toArray 3 (0, 0)) 1 r (fun R => y_bslice r (by kernel_rfl)) rfl fun fr b42 w43 n44 r => ?_
                  have hP : Post No [roK 4 1 boolE a1_v a1, cellC b1 ((planC a0)).toArray 24, memK mg21 x38.2.2.2, rowK 3 1 i64 γ25 x24.2.1, rowK 3 1 i64 (.slice (some ⟨b42, 0, none⟩) 1 1) ([x38.1])] w0 w43 := hP.newRow n44 (fun _ => rfl) rfl
                  obtain ⟨x46, hx46, hD⟩ := bindD_elim hD
                  refine seq_app 3 1 i64 γ25 r (fun R => y_append r rt36 (fun _ => rfl) (fun _ => rfl) (hP.row (i := 3) rfl) (hP.row (i := 4) rfl).ro hx46 rfl rfl) rfl fun fr v47 w48 ha49 r => ?_
                  have hP : Post No [roK 4 1 boolE a1_v a1, cellC b1 ((planC a0)).toArray 24, memK mg21 x38.2.2.2, rowK 3 1 i64 v47 x46, rowK 3 1 i64 (.slice (some ⟨b42, 0, none⟩) 1 1) ([x38.1])] w0 w48 := hP.append (i := 3) rfl ha49
                  refine seq_val v47 r (fun R => y_assign r rfl) rfl fun fr r => ?_
                  refine wpList_nil ?_
                  refine wp_region_lit ?_
                  refine seq_val (.int .i64 x24.1) r (fun R => y_move r rfl) rfl fun fr r => ?_
                  refine seq_val (.int .i64 (IntKind.i64.wrap (x24.1 + 1))) r (fun R => y_bin r (u := (.int .i64 x24.1)) (u' := (.int .i64 1)) rfl rfl rfl rfl) rfl fun fr r => ?_
                  refine seq_val (.int .i64 (IntKind.i64.wrap (x24.1 + 1))) r (fun R => y_assign r rfl) rfl fun fr r => ?_
                  refine wpList_nil ?_
                  exact nxy40 (x46, (IntKind.i64.wrap (x24.1 + 1))) v47 _ _ _ hD r (hs_cons rfl (hs_cons rfl (hs_cons rfl (hs_cons rfl (hs_cons rfl (hs_cons rfl (hs_cons rfl (hs_cons rfl (hs_cons rfl (hs_cons rfl (hs_cons rfl (hs_cons rfl (hs_cons rfl (hs_cons rfl hs_nil)))))))))))))) (hP.pick [0, 1, 2, 3] rfl rfl)
                · skip
                  have hD := (cond_f h41).symm.trans hD
                  refine wp_skip ?_
                  exact nxy40 (x24.2.1, x24.1) γ25 _ _ _ hD r (hs_cons rfl (hs_cons rfl (hs_cons rfl (hs_cons rfl (hs_cons rfl (hs_cons rfl (hs_cons rfl (hs_cons rfl (hs_cons rfl (hs_cons rfl (hs_cons rfl (hs_cons rfl (hs_cons rfl (hs_cons rfl hs_nil)))))))))))))) (hP.pick [0, 1, 2, 3] rfl rfl)
              · skip
                rintro x50 γ51 fr w52 g r hP hD
                have hP : Post No [roK 4 1 boolE a1_v a1, cellC b1 ((planC a0)).toArray 24, memK mg21 x38.2.2.2, rowK 3 1 i64 γ51 x50.1] w0 w52 := hP
                exact nxy30 (x50.1, x38.2.2.2, x50.2) γ51 _ _ _ hD r (hs_cons rfl (hs_cons rfl (hs_cons rfl (hs_cons rfl (hs_cons rfl (hs_cons rfl (hs_cons rfl (hs_cons rfl (hs_cons rfl (hs_cons rfl (hs_cons rfl (hs_cons rfl hs_nil)))))))))))) (hP.pick [0, 1, 2, 3] rfl rfl)
            · skip
              have hD := (cond_f h31).symm.trans hD
              refine wp_seq ?_
              refine wp_region_lit ?_
              refine seq_val γ25 r (fun R => y_move r rfl) rfl fun fr r => ?_
              refine seq_val (.int .i64 (x24.2.1.length : Int)) r (fun R => y_rowLen r (hP.row (i := 3) rfl).ro is36 rfl) rfl fun fr r => ?_
              refine seq_val (.bool (decide ((x24.2.1.length : Int) > 0))) r (fun R => y_bin r (u := (.int .i64 (x24.2.1.length : Int))) (u' := (.int .i64 0)) rfl rfl rfl rfl) rfl fun fr r => ?_
              refine wpList_nil ?_
              refine wp_joinG (N := 100) (Y := Mem × Int × List Int) (G := Value) (fun x γ => [(0, (.agg (planC a0).toArray)), (1, a1_v), (2, (.pointer (some ⟨b1, 0, none⟩))), (4, (.bool false)), (29, (.bool x13)), (5, (.pointer (some ⟨mg21.mb, 0, none⟩))), (34, (.bool false)), (8, (.int .i64 x24.2.2.1)), (38, (.bool (decide (x24.2.2.1 < (a1.length : Int))))), (44, (.bool x29)), (65, (.bool (decide ((x24.2.1.length : Int) > 0)))), (6, (.int .i64 x.2.1)), (7, γ)]) (fun x γ w => Post No [roK 4 1 boolE a1_v a1, cellC b1 ((planC a0)).toArray 24, memK mg21 x.1, rowK 3 1 i64 γ x.2.2] w0 w) hD ?_ ?_
              · skip
                rintro y53 RPy53 nxy53 hD
                refine wp_cond_split (t := (decide ((x24.2.1.length : Int) > 0))) (r.ev rfl) (fun h54 => ?_) (fun h54 => ?_)
                · skip
                  have hD := (cond_t h54).symm.trans hD
                  refine wp_seq ?_
                  obtain ⟨x55, hx55, hD⟩ := bindD_elim hD
                  obtain ⟨x57, hx57, hD⟩ := bindD_elim hD
                  obtain ⟨x58, hx58, hD⟩ := bindD_elim hD
                  refine wp_freeE mg21.bs [.val (.agg (planC a0).toArray), .val γ25, .val (.pointer (some ⟨rowB γ25, rowO γ25 + (0 : Int).toNat * 1, none⟩)), .val (.int .i64 x55), .pred (PrP Try.prog encInt (fu, (D.free_Push (fu + 1) a0 x55))) (PrP.st _), .val (.pointer (some ⟨mg21.mb, 0, none⟩)), .val (.pointer (some ⟨mg21.mb, 0, none⟩)), .val (.agg (capC x57).toArray), .eff (EffP w27.heap.size (memK mg21 x58.2.2.2) (fun _ : Unit => (.tuple #[(.int .i64 x58.1), (.int .i64 x58.2.1), (.bool x58.2.2.1)])) (fun _ : Unit => [])) (EffP.st _ _ _ _)] mixed r (fun b hb => hP.sep.lt (i := 2) rfl (.inl hb)) (by kernel_rfl) ?_ ?_
                  · skip
                    refine eachE_late r rfl (fun fr1 g w' hk' hd r' => ?_) ?_
                    · exact y_load_agg r' (cs := (planC a0)) (n := 6) rfl (hP.cellK (j := 2) rfl (drK hk') (i := 1) rfl rfl) ta24 rfl ⟨Below.refl _ _, rfl⟩
                    refine eachE_late r rfl (fun fr1 g w' hk' hd r' => ?_) ?_
                    · exact y_move r' (v := γ25) rfl ⟨Below.refl _ _, rfl⟩
                    refine eachE_late r rfl (fun fr1 g w' hk' hd r' => ?_) ?_
                    · exact y_rowAddr r' (show RowAt _ _ _ _ _ _ from hP.okK (j := 2) rfl (drK hk') (i := 3) rfl rfl).ro hx55 sl36 (hd 1 rfl).1 rfl ⟨Below.refl _ _, rfl⟩
                    refine eachE_late r rfl (fun fr1 g w' hk' hd r' => ?_) ?_
                    · exact y_loadL_one r' (u := (.int .i64 x55)) (RoAt.at_ (f := i64) (x := x55) (show RowAt _ _ _ _ _ _ from hP.okK (j := 2) rfl (drK hk') (i := 3) rfl rfl).ro (fun _ => rfl) hx55) (hd 2 rfl).1 to3 ⟨Below.refl _ _, rfl⟩
                    refine eachE_early r rfl (by kernel_rfl) (fun fr1 g w' hb' hd r' => ?_) ?_
                    · exact y_call r' (args := [(.agg (planC a0).toArray), (.int .i64 x55)]) (lc (hd 0 rfl).1 (lc (hd 3 rfl).1 l0)) cl60 (((c_free_Push (n := fu) (k := fu + 1) (by omega)) No _ (fun _ h => h.elim) a0 x55).mono (by rintro _ w2 ⟨y, rfl, hb2, hr2⟩; exact ⟨_, rfl, hb2, fresh_prog hr2⟩))
                    refine eachE_early r rfl (by kernel_rfl) (fun fr1 g w' hb' hd r' => ?_) ?_
                    · exact y_move r' (v := (.pointer (some ⟨mg21.mb, 0, none⟩))) rfl ⟨Below.refl _ _, rfl⟩
                    refine eachE_late r rfl (fun fr1 g w' hk' hd r' => ?_) ?_
                    · exact y_move r' (v := (.pointer (some ⟨mg21.mb, 0, none⟩))) rfl ⟨Below.refl _ _, rfl⟩
                    refine eachE_early r rfl (by kernel_rfl) (fun fr1 g w' hb' hd r' => ?_) ?_
                    · exact y_call r' (args := [(.pointer (some ⟨mg21.mb, 0, none⟩)), (.int .i64 0)]) (lc (hd 6 rfl).1 (lc rfl l0)) cl42 ((c_mem_Memory_Cap _ x24.2.2.2 ((hP.below (dr hb')).mem (i := 2) rfl) 0 hx57).mono (by rintro _ w2 ⟨rfl, hb2⟩; exact ⟨_, rfl, hb2, rfl⟩))
                    refine eachE_early r rfl (by kernel_rfl) (fun fr1 g w' hb' hd r' => ?_) ?_
                    · exact y_call r' (args := [(g 4).v, (.pointer (some ⟨mg21.mb, 0, none⟩)), (.agg (capC x57).toArray), (.int .i64 9)]) (lc rfl (lc (hd 5 rfl).1 (lc (hd 7 rfl).1 (lc rfl l0)))) cl57 ((c_prog_Run_int _ (fu, (D.free_Push (fu + 1) a0 x55)) x24.2.2.2 x57 9 (Sep.beside (hd 4 rfl).1 ((hP.below (dr hb')).sep.pk [2] rfl rfl) (fun c hc b hb => by rcases List.mem_singleton.1 hc with rfl; exact hP.sep.lt (i := 2) rfl hb) (hd 4 rfl).2.1) hx58).mono (by rintro _ w2 ⟨rfl, hq⟩; exact ⟨_, rfl, hq.chg.kept, EffP.of () hq rfl (fun b hb => hP.sep.lt (i := 2) rfl hb)⟩))
                    exact eachF_nil
                  · skip
                    intro fr gg w59 hb hΦ hap r
                    have g0 : (gg 0).v = (.agg (planC a0).toArray) := (hΦ 0 rfl).1
                    have g1 : (gg 1).v = γ25 := (hΦ 1 rfl).1
                    have g2 : (gg 2).v = (.pointer (some ⟨rowB γ25, rowO γ25 + (0 : Int).toNat * 1, none⟩)) := (hΦ 2 rfl).1
                    have g3 : (gg 3).v = (.int .i64 x55) := (hΦ 3 rfl).1
                    obtain ⟨v56, hv4⟩ : ∃ v, v = (gg 4).v := ⟨_, rfl⟩
                    have g4 : (gg 4).v = v56 := hv4.symm
                    have hs4 : Fresh [progK Try.prog encInt (fu, (D.free_Push (fu + 1) a0 x55)) v56 (rg (gg 4).lo (gg 4).hi)] (gg 4).lo (gg 4).hi w59 := by subst hv4; exact (hΦ 4 rfl).1
                    have g5 : (gg 5).v = (.pointer (some ⟨mg21.mb, 0, none⟩)) := (hΦ 5 rfl).1
                    have g6 : (gg 6).v = (.pointer (some ⟨mg21.mb, 0, none⟩)) := (hΦ 6 rfl).1
                    have g7 : (gg 7).v = (.agg (capC x57).toArray) := (hΦ 7 rfl).1
                    obtain ⟨⟨⟩, g8, hcE, _, hs8⟩ := (hΦ 8 rfl).1
                    have r := r.congr (sc g8 (sc g7 (sc g6 (sc g5 (sc g4 (sc g3 (sc g2 (sc g1 (sc g0 rfl)))))))))
                    have hP : Post No [roK 4 1 boolE a1_v a1, cellC b1 ((planC a0)).toArray 24, memK mg21 x58.2.2.2, rowK 3 1 i64 γ25 x24.2.1, progK Try.prog encInt (fu, (D.free_Push (fu + 1) a0 x55)) v56 (rg (gg 4).lo (gg 4).hi)] w0 w59 := hP.effL (i := 2) (l := [([progK Try.prog encInt (fu, (D.free_Push (fu + 1) a0 x55)) v56 (rg (gg 4).lo (gg 4).hi)], (gg 4).lo, (gg 4).hi)]) rfl hb hcE rfl rfl ⟨hs4, (hΦ 4 rfl).2.1, disj_nil, trivial⟩
                    refine wp_seq ?_
                    refine wp_region_lit ?_
                    refine seq_val γ25 r (fun R => y_move r rfl) rfl fun fr r => ?_
                    obtain ⟨x60, hx60, hD⟩ := bindD_elim hD
                    refine seq_val (sliceV 1 γ25 (1 : Int).toNat (x24.2.1.length : Int).toNat) r (fun R => y_cut r (hP.row (i := 3) rfl).ro sl36 rfl rfl rfl rfl rfl rfl rfl hx60) rfl fun fr r => ?_
                    refine seq_val (sliceV 1 γ25 (1 : Int).toNat (x24.2.1.length : Int).toNat) r (fun R => y_assign r rfl) rfl fun fr r => ?_
                    refine wpList_nil ?_
                    refine wp_region_lit ?_
                    refine seq_val (.int .i64 x24.1) r (fun R => y_move r rfl) rfl fun fr r => ?_
                    refine seq_val (.int .i64 (IntKind.i64.wrap (x24.1 + 1))) r (fun R => y_bin r (u := (.int .i64 x24.1)) (u' := (.int .i64 1)) rfl rfl rfl rfl) rfl fun fr r => ?_
                    refine seq_val (.int .i64 (IntKind.i64.wrap (x24.1 + 1))) r (fun R => y_assign r rfl) rfl fun fr r => ?_
                    refine wpList_nil ?_
                    have hP : Post No [roK 4 1 boolE a1_v a1, cellC b1 ((planC a0)).toArray 24, memK mg21 x58.2.2.2, rowK 3 1 i64 (sliceV 1 γ25 (1 : Int).toNat (x24.2.1.length : Int).toNat) x60, progK Try.prog encInt (fu, (D.free_Push (fu + 1) a0 x55)) v56 (rg (gg 4).lo (gg 4).hi)] w0 w59 := hP.narrow (i := 3) rfl (fun _ => rfl) hx60
                    exact nxy53 (x58.2.2.2, (IntKind.i64.wrap (x24.1 + 1)), x60) (sliceV 1 γ25 (1 : Int).toNat (x24.2.1.length : Int).toNat) _ _ _ hD r (hs_cons rfl (hs_cons rfl (hs_cons rfl (hs_cons rfl (hs_cons rfl (hs_cons rfl (hs_cons rfl (hs_cons rfl (hs_cons rfl (hs_cons rfl (hs_cons rfl (hs_cons rfl (hs_cons rfl hs_nil))))))))))))) (hP.pick [0, 1, 2, 3] rfl rfl)
                · skip
                  have hD := (cond_f h54).symm.trans hD
                  refine wp_skip ?_
                  exact nxy53 (x24.2.2.2, x24.1, x24.2.1) γ25 _ _ _ hD r (hs_cons rfl (hs_cons rfl (hs_cons rfl (hs_cons rfl (hs_cons rfl (hs_cons rfl (hs_cons rfl (hs_cons rfl (hs_cons rfl (hs_cons rfl (hs_cons rfl (hs_cons rfl (hs_cons rfl hs_nil))))))))))))) (hP.pick [0, 1, 2, 3] rfl rfl)
              · skip
                rintro x61 γ62 fr w63 g r hP hD
                have hP : Post No [roK 4 1 boolE a1_v a1, cellC b1 ((planC a0)).toArray 24, memK mg21 x61.1, rowK 3 1 i64 γ62 x61.2.2] w0 w63 := hP
                exact nxy30 (x61.2.2, x61.1, x61.2.1) γ62 _ _ _ hD r (hs_cons rfl (hs_cons rfl (hs_cons rfl (hs_cons rfl (hs_cons rfl (hs_cons rfl (hs_cons rfl (hs_cons rfl (hs_cons rfl (hs_cons rfl (hs_cons rfl (hs_cons rfl hs_nil)))))))))))) (hP.pick [0, 1, 2, 3] rfl rfl)
          · skip
            rintro x64 γ65 fr w66 g r hP hD
            have hP : Post No [roK 4 1 boolE a1_v a1, cellC b1 ((planC a0)).toArray 24, memK mg21 x64.2.1, rowK 3 1 i64 γ65 x64.1] w0 w66 := hP
            refine wp_region_lit ?_
            refine seq_val (.int .i64 x24.2.2.1) r (fun R => y_move r rfl) rfl fun fr r => ?_
            refine seq_val (.int .i64 (IntKind.i64.wrap (x24.2.2.1 + 1))) r (fun R => y_bin r (u := (.int .i64 x24.2.2.1)) (u' := (.int .i64 1)) rfl rfl rfl rfl) rfl fun fr r => ?_
            refine seq_val (.int .i64 (IntKind.i64.wrap (x24.2.2.1 + 1))) r (fun R => y_assign r rfl) rfl fun fr r => ?_
            refine wpList_nil ?_
            exact nxy26 (x64.2.2, x64.1, (IntKind.i64.wrap (x24.2.2.1 + 1)), x64.2.1) γ65 _ _ _ hD r (hs_cons rfl (hs_cons rfl (hs_cons rfl (hs_cons rfl (hs_cons rfl (hs_cons rfl (hs_cons rfl (hs_cons rfl (hs_cons rfl (hs_cons rfl hs_nil)))))))))) (hP.pick [0, 1, 2, 3] rfl rfl)
        · skip
          have hD := (cond_f h28).symm.trans hD
          refine wp_exit ?_
          exact bky26 (x24.1, x24.2.1, x24.2.2.1, x24.2.2.2) γ25 _ _ _ hD r (hs_cons rfl (hs_cons rfl (hs_cons rfl (hs_cons rfl (hs_cons rfl (hs_cons rfl (hs_cons rfl (hs_cons rfl (hs_cons rfl (hs_cons rfl hs_nil)))))))))) (hP.pick [0, 1, 2, 3] rfl rfl)
      · skip
        rintro x67 γ68 fr w69 g r hP hD
        have hP : Post No [roK 4 1 boolE a1_v a1, cellC b1 ((planC a0)).toArray 24, memK mg21 x67.2.2.2, rowK 3 1 i64 γ68 x67.2.1] w0 w69 := hP
        refine wp_seq ?_
        refine wp_region_lit ?_
        refine seq_val (.pointer (some ⟨mg21.mb, 0, none⟩)) r (fun R => y_move r rfl) rfl fun fr r => ?_
        refine seq_val (.agg (planC a0).toArray) r (fun R => y_load_agg r (cs := (planC a0)) (n := 6) rfl (hP.cell (i := 1) rfl) ta24 rfl) rfl fun fr r => ?_
        refine seq_call r (c_plan_Plan_Head w69 a0) (fun R hc => y_call r rfl cl22 hc) rfl ?_
        rintro _ w70 ⟨rfl, hb⟩
        refine ⟨_, rfl, fun fr r => ?_⟩
        have hP : Post No [roK 4 1 boolE a1_v a1, cellC b1 ((planC a0)).toArray 24, memK mg21 x67.2.2.2, rowK 3 1 i64 γ68 x67.2.1] w0 w70 := hP.below hb
        obtain ⟨x71, hx71, hD⟩ := bindD_elim hD
        refine seq_call r (c_mem_Memory_Peek w70 x67.2.2.2 (hP.mem (i := 2) rfl) 0 (D.plan_Plan_Head a0) hx71) (fun R hc => y_call r rfl cl47 hc) rfl ?_
        rintro _ w72 ⟨rfl, hb⟩
        refine ⟨_, rfl, fun fr r => ?_⟩
        have hP : Post No [roK 4 1 boolE a1_v a1, cellC b1 ((planC a0)).toArray 24, memK mg21 x67.2.2.2, rowK 3 1 i64 γ68 x67.2.1] w0 w72 := hP.below hb
        refine seq_val (.int .u64 x71) r (fun R => y_assign r rfl) rfl fun fr r => ?_
        refine wpList_nil ?_
        refine wp_seq ?_
        refine wp_joinG (N := 100) (Y := Bool) (G := Unit) (fun x γ => [(0, (.agg (planC a0).toArray)), (1, a1_v), (2, (.pointer (some ⟨b1, 0, none⟩))), (29, (.bool x13)), (5, (.pointer (some ⟨mg21.mb, 0, none⟩))), (34, (.bool false)), (6, (.int .i64 x67.1)), (7, γ68), (8, (.int .i64 x67.2.2.1)), (12, (.int .u64 x71)), (4, (.bool x))]) (fun x γ w => Post No [roK 4 1 boolE a1_v a1, cellC b1 ((planC a0)).toArray 24, memK mg21 x67.2.2.2, rowK 3 1 i64 γ68 x67.2.1] w0 w) hD ?_ ?_
        · skip
          rintro y73 RPy73 nxy73 hD
          refine seq_split ((shrI .u64 x71 21) == (IntKind.u64.wrap x67.1)) (fun h74 => ?_) (fun h74 => ?_)
          · skip
            have hD := (cond_t h74).symm.trans hD
            obtain ⟨x75, hx75, hD⟩ := bindD_elim hD
            refine wp_freeF [.val (.int .u64 x71), .val (.int .u64 (shrI .u64 x71 21)), .val (.int .i64 x67.1), .val (.int .u64 (IntKind.u64.wrap x67.1)), .val (.bool ((shrI .u64 x71 21) == (IntKind.u64.wrap x67.1))), .val (.bool ((shrI .u64 x71 21) == (IntKind.u64.wrap x67.1))), .val (.agg (planC a0).toArray), .val (.pointer (some ⟨mg21.mb, 0, none⟩)), .pred (MkP (fun v76 : Value => v76) (fun v76 : Value => [rowK 3 1 i64 v76 x75])) (MkP.st _ _), .val (.int .i64 (x75.length : Int)), .val (.pointer (some ⟨b1, 0, none⟩)), .val (.int .i64 a0.nodes), .val γ68, .val (.int .i64 (x67.2.1.length : Int)), .val (.int .i64 (IntKind.i64.wrap (a0.nodes - (x67.2.1.length : Int)))), .val (.bool ((x75.length : Int) == (IntKind.i64.wrap (a0.nodes - (x67.2.1.length : Int))))), .val (.bool ((x75.length : Int) == (IntKind.i64.wrap (a0.nodes - (x67.2.1.length : Int))))), .val (.bool ((x75.length : Int) == (IntKind.i64.wrap (a0.nodes - (x67.2.1.length : Int)))))] mixed r (by kernel_rfl) ?_ ?_
            · skip
              refine eachF_cons r rfl (fun fr1 g w' hb' hd r' => ?_) ?_
              · exact y_move r' (v := (.int .u64 x71)) rfl ⟨Below.refl _ _, rfl⟩
              refine eachF_cons r rfl (fun fr1 g w' hb' hd r' => ?_) ?_
              · exact y_bin r' (u := (.int .u64 x71)) (u' := (.int .u64 21)) (v := (.int .u64 (shrI .u64 x71 21))) (hd 0 rfl).1 rfl rfl (bin_shr (by first | assumption | decide)) ⟨Below.refl _ _, rfl⟩
              refine eachF_cons r rfl (fun fr1 g w' hb' hd r' => ?_) ?_
              · exact y_move r' (v := (.int .i64 x67.1)) rfl ⟨Below.refl _ _, rfl⟩
              refine eachF_cons r rfl (fun fr1 g w' hb' hd r' => ?_) ?_
              · exact y_convert r' (n := x67.1) (hd 2 rfl).1 ti3 ti49 ⟨Below.refl _ _, rfl⟩
              refine eachF_cons r rfl (fun fr1 g w' hb' hd r' => ?_) ?_
              · exact y_bin r' (u := (.int .u64 (shrI .u64 x71 21))) (u' := (.int .u64 (IntKind.u64.wrap x67.1))) (v := (.bool ((shrI .u64 x71 21) == (IntKind.u64.wrap x67.1)))) (hd 1 rfl).1 (hd 3 rfl).1 rfl rfl ⟨Below.refl _ _, rfl⟩
              refine eachF_cons r rfl (fun fr1 g w' hb' hd r' => ?_) ?_
              · exact y_move r' (v := (.bool ((shrI .u64 x71 21) == (IntKind.u64.wrap x67.1)))) (hd 4 rfl).1 ⟨Below.refl _ _, rfl⟩
              refine eachF_want true r rfl rfl rfl (fun g w' hd => Eq.trans (show (g 5).v = .bool ((shrI .u64 x71 21) == (IntKind.u64.wrap x67.1)) from (hd 5 rfl).1) (congrArg Value.bool h74)) (fun fr1 g w' hb' hd r' => ?_) ?_
              · exact y_load_agg r' (cs := (planC a0)) (n := 6) rfl ((hP.below (dr hb')).cell (i := 1) rfl) ta24 rfl ⟨Below.refl _ _, rfl⟩
              refine eachF_want true r rfl rfl rfl (fun g w' hd => Eq.trans (show (g 5).v = .bool ((shrI .u64 x71 21) == (IntKind.u64.wrap x67.1)) from (hd 5 rfl).1) (congrArg Value.bool h74)) (fun fr1 g w' hb' hd r' => ?_) ?_
              · exact y_move r' (v := (.pointer (some ⟨mg21.mb, 0, none⟩))) rfl ⟨Below.refl _ _, rfl⟩
              refine eachF_want true r rfl rfl rfl (fun g w' hd => Eq.trans (show (g 5).v = .bool ((shrI .u64 x71 21) == (IntKind.u64.wrap x67.1)) from (hd 5 rfl).1) (congrArg Value.bool h74)) (fun fr1 g w' hb' hd r' => ?_) ?_
              · exact y_call r' (args := [(.agg (planC a0).toArray), (.pointer (some ⟨mg21.mb, 0, none⟩)), (.int .i64 0)]) (lc (hd 6 rfl).1 (lc (hd 7 rfl).1 (lc rfl l0))) cl63 ((c_free_List _ a0 x67.2.2.2 ((hP.below (dr hb')).mem (i := 2) rfl) 0 hx75).mono (by rintro _ w2 ⟨y, rfl, hq⟩; exact ⟨_, rfl, hq.chg.below, MkP.of y hq⟩))
              refine eachF_want true r rfl rfl rfl (fun g w' hd => Eq.trans (show (g 5).v = .bool ((shrI .u64 x71 21) == (IntKind.u64.wrap x67.1)) from (hd 5 rfl).1) (congrArg Value.bool h74)) (fun fr1 g w' hb' hd r' => ?_) ?_
              · obtain ⟨y, hy, hs, _⟩ := (hd 8 rfl).1; exact y_rowLen r' (RowAt.ro (hs.get (i := 0) rfl)) is36 hy ⟨Below.refl _ _, rfl⟩
              refine eachF_want true r rfl rfl rfl (fun g w' hd => Eq.trans (show (g 5).v = .bool ((shrI .u64 x71 21) == (IntKind.u64.wrap x67.1)) from (hd 5 rfl).1) (congrArg Value.bool h74)) (fun fr1 g w' hb' hd r' => ?_) ?_
              · exact y_fieldAddr r' (b := b1) (o := 0) (k := 0) rfl fo24_0 ⟨Below.refl _ _, rfl⟩
              refine eachF_want true r rfl rfl rfl (fun g w' hd => Eq.trans (show (g 5).v = .bool ((shrI .u64 x71 21) == (IntKind.u64.wrap x67.1)) from (hd 5 rfl).1) (congrArg Value.bool h74)) (fun fr1 g w' hb' hd r' => ?_) ?_
              · exact y_load_one r' (v := (.int .i64 a0.nodes)) (hd 10 rfl).1 ((hP.below (dr hb')).cell (i := 1) rfl) to3 rfl ⟨Below.refl _ _, rfl⟩
              refine eachF_want true r rfl rfl rfl (fun g w' hd => Eq.trans (show (g 5).v = .bool ((shrI .u64 x71 21) == (IntKind.u64.wrap x67.1)) from (hd 5 rfl).1) (congrArg Value.bool h74)) (fun fr1 g w' hb' hd r' => ?_) ?_
              · exact y_move r' (v := γ68) rfl ⟨Below.refl _ _, rfl⟩
              refine eachF_want true r rfl rfl rfl (fun g w' hd => Eq.trans (show (g 5).v = .bool ((shrI .u64 x71 21) == (IntKind.u64.wrap x67.1)) from (hd 5 rfl).1) (congrArg Value.bool h74)) (fun fr1 g w' hb' hd r' => ?_) ?_
              · exact y_rowLen r' ((hP.below (dr hb')).row (i := 3) rfl).ro is36 (hd 12 rfl).1 ⟨Below.refl _ _, rfl⟩
              refine eachF_want true r rfl rfl rfl (fun g w' hd => Eq.trans (show (g 5).v = .bool ((shrI .u64 x71 21) == (IntKind.u64.wrap x67.1)) from (hd 5 rfl).1) (congrArg Value.bool h74)) (fun fr1 g w' hb' hd r' => ?_) ?_
              · exact y_bin r' (u := (.int .i64 a0.nodes)) (u' := (.int .i64 (x67.2.1.length : Int))) (v := (.int .i64 (IntKind.i64.wrap (a0.nodes - (x67.2.1.length : Int))))) (hd 11 rfl).1 (hd 13 rfl).1 rfl rfl ⟨Below.refl _ _, rfl⟩
              refine eachF_want true r rfl rfl rfl (fun g w' hd => Eq.trans (show (g 5).v = .bool ((shrI .u64 x71 21) == (IntKind.u64.wrap x67.1)) from (hd 5 rfl).1) (congrArg Value.bool h74)) (fun fr1 g w' hb' hd r' => ?_) ?_
              · exact y_bin r' (u := (.int .i64 (x75.length : Int))) (u' := (.int .i64 (IntKind.i64.wrap (a0.nodes - (x67.2.1.length : Int))))) (v := (.bool ((x75.length : Int) == (IntKind.i64.wrap (a0.nodes - (x67.2.1.length : Int)))))) (hd 9 rfl).1 (hd 14 rfl).1 rfl rfl ⟨Below.refl _ _, rfl⟩
              refine eachF_cons r rfl (fun fr1 g w' hb' hd r' => ?_) ?_
              · exact y_pick r' (b := true) (v := (.bool ((x75.length : Int) == (IntKind.i64.wrap (a0.nodes - (x67.2.1.length : Int)))))) (Eq.trans (show (g 5).v = .bool ((shrI .u64 x71 21) == (IntKind.u64.wrap x67.1)) from (hd 5 rfl).1) (congrArg Value.bool h74)) (hd 15 rfl).1 ⟨Below.refl _ _, rfl⟩
              refine eachF_cons r rfl (fun fr1 g w' hb' hd r' => ?_) ?_
              · exact y_assign r' (v := (.bool ((x75.length : Int) == (IntKind.i64.wrap (a0.nodes - (x67.2.1.length : Int)))))) (hd 16 rfl).1 ⟨Below.refl _ _, rfl⟩
              exact eachF_nil
            · skip
              intro fr gg w78 hb hΦ hap r
              have g0 : (gg 0).v = (.int .u64 x71) := (hΦ 0 rfl).1
              have g1 : (gg 1).v = (.int .u64 (shrI .u64 x71 21)) := (hΦ 1 rfl).1
              have g2 : (gg 2).v = (.int .i64 x67.1) := (hΦ 2 rfl).1
              have g3 : (gg 3).v = (.int .u64 (IntKind.u64.wrap x67.1)) := (hΦ 3 rfl).1
              have g4 : (gg 4).v = (.bool ((shrI .u64 x71 21) == (IntKind.u64.wrap x67.1))) := (hΦ 4 rfl).1
              have g5 : (gg 5).v = (.bool ((shrI .u64 x71 21) == (IntKind.u64.wrap x67.1))) := (hΦ 5 rfl).1
              have g6 : (gg 6).v = (.agg (planC a0).toArray) := (hΦ 6 rfl).1
              have g7 : (gg 7).v = (.pointer (some ⟨mg21.mb, 0, none⟩)) := (hΦ 7 rfl).1
              obtain ⟨v76, g8, hs8⟩ := (hΦ 8 rfl).1
              have g9 : (gg 9).v = (.int .i64 (x75.length : Int)) := (hΦ 9 rfl).1
              have g10 : (gg 10).v = (.pointer (some ⟨b1, 0, none⟩)) := (hΦ 10 rfl).1
              have g11 : (gg 11).v = (.int .i64 a0.nodes) := (hΦ 11 rfl).1
              have g12 : (gg 12).v = γ68 := (hΦ 12 rfl).1
              have g13 : (gg 13).v = (.int .i64 (x67.2.1.length : Int)) := (hΦ 13 rfl).1
              have g14 : (gg 14).v = (.int .i64 (IntKind.i64.wrap (a0.nodes - (x67.2.1.length : Int)))) := (hΦ 14 rfl).1
              have g15 : (gg 15).v = (.bool ((x75.length : Int) == (IntKind.i64.wrap (a0.nodes - (x67.2.1.length : Int))))) := (hΦ 15 rfl).1
              have g16 : (gg 16).v = (.bool ((x75.length : Int) == (IntKind.i64.wrap (a0.nodes - (x67.2.1.length : Int))))) := (hΦ 16 rfl).1
              have g17 : (gg 17).v = (.bool ((x75.length : Int) == (IntKind.i64.wrap (a0.nodes - (x67.2.1.length : Int))))) := (hΦ 17 rfl).1
              have r := r.congr (sc g17 (sc g16 (sc g15 (sc g14 (sc g13 (sc g12 (sc g11 (sc g10 (sc g9 (sc g8 (sc g7 (sc g6 (sc g5 (sc g4 (sc g3 (sc g2 (sc g1 (sc g0 rfl))))))))))))))))))
              have hP : Post No [roK 4 1 boolE a1_v a1, cellC b1 ((planC a0)).toArray 24, memK mg21 x67.2.2.2, rowK 3 1 i64 γ68 x67.2.1, rowK 3 1 i64 v76 x75] w0 w78 := hP.addL (l := [([rowK 3 1 i64 v76 x75], (gg 8).lo, (gg 8).hi)]) hb ⟨hs8, (hΦ 8 rfl).2.1, disj_nil, trivial⟩
              exact nxy73 ((x75.length : Int) == (IntKind.i64.wrap (a0.nodes - (x67.2.1.length : Int)))) () _ _ _ hD r (hs_cons rfl (hs_cons rfl (hs_cons rfl (hs_cons rfl (hs_cons rfl (hs_cons rfl (hs_cons rfl (hs_cons rfl (hs_cons rfl (hs_cons rfl (hs_cons rfl hs_nil))))))))))) (hP.pick [0, 1, 2, 3] rfl rfl)
          · skip
            have hD := (cond_f h74).symm.trans hD
            refine wp_freeF [.val (.int .u64 x71), .val (.int .u64 (shrI .u64 x71 21)), .val (.int .i64 x67.1), .val (.int .u64 (IntKind.u64.wrap x67.1)), .val (.bool ((shrI .u64 x71 21) == (IntKind.u64.wrap x67.1))), .val (.bool ((shrI .u64 x71 21) == (IntKind.u64.wrap x67.1))), .val undef, .val undef, .val undef, .val undef, .val undef, .val undef, .val undef, .val undef, .val undef, .val undef, .val (.bool false), .val (.bool false)] mixed r (by kernel_rfl) ?_ ?_
            · skip
              refine eachF_cons r rfl (fun fr1 g w' hb' hd r' => ?_) ?_
              · exact y_move r' (v := (.int .u64 x71)) rfl ⟨Below.refl _ _, rfl⟩
              refine eachF_cons r rfl (fun fr1 g w' hb' hd r' => ?_) ?_
              · exact y_bin r' (u := (.int .u64 x71)) (u' := (.int .u64 21)) (v := (.int .u64 (shrI .u64 x71 21))) (hd 0 rfl).1 rfl rfl (bin_shr (by first | assumption | decide)) ⟨Below.refl _ _, rfl⟩
              refine eachF_cons r rfl (fun fr1 g w' hb' hd r' => ?_) ?_
              · exact y_move r' (v := (.int .i64 x67.1)) rfl ⟨Below.refl _ _, rfl⟩
              refine eachF_cons r rfl (fun fr1 g w' hb' hd r' => ?_) ?_
              · exact y_convert r' (n := x67.1) (hd 2 rfl).1 ti3 ti49 ⟨Below.refl _ _, rfl⟩
              refine eachF_cons r rfl (fun fr1 g w' hb' hd r' => ?_) ?_
              · exact y_bin r' (u := (.int .u64 (shrI .u64 x71 21))) (u' := (.int .u64 (IntKind.u64.wrap x67.1))) (v := (.bool ((shrI .u64 x71 21) == (IntKind.u64.wrap x67.1)))) (hd 1 rfl).1 (hd 3 rfl).1 rfl rfl ⟨Below.refl _ _, rfl⟩
              refine eachF_cons r rfl (fun fr1 g w' hb' hd r' => ?_) ?_
              · exact y_move r' (v := (.bool ((shrI .u64 x71 21) == (IntKind.u64.wrap x67.1)))) (hd 4 rfl).1 ⟨Below.refl _ _, rfl⟩
              refine eachF_skip true (.bool false) r rfl rfl rfl (fun g w' hd => Eq.trans (show (g 5).v = .bool ((shrI .u64 x71 21) == (IntKind.u64.wrap x67.1)) from (hd 5 rfl).1) (congrArg Value.bool h74)) (by simp [boolOf]) (fun _ _ => ⟨Below.refl _ _, rfl⟩) ?_
              refine eachF_skip true (.bool false) r rfl rfl rfl (fun g w' hd => Eq.trans (show (g 5).v = .bool ((shrI .u64 x71 21) == (IntKind.u64.wrap x67.1)) from (hd 5 rfl).1) (congrArg Value.bool h74)) (by simp [boolOf]) (fun _ _ => ⟨Below.refl _ _, rfl⟩) ?_
              refine eachF_skip true (.bool false) r rfl rfl rfl (fun g w' hd => Eq.trans (show (g 5).v = .bool ((shrI .u64 x71 21) == (IntKind.u64.wrap x67.1)) from (hd 5 rfl).1) (congrArg Value.bool h74)) (by simp [boolOf]) (fun _ _ => ⟨Below.refl _ _, rfl⟩) ?_
              refine eachF_skip true (.bool false) r rfl rfl rfl (fun g w' hd => Eq.trans (show (g 5).v = .bool ((shrI .u64 x71 21) == (IntKind.u64.wrap x67.1)) from (hd 5 rfl).1) (congrArg Value.bool h74)) (by simp [boolOf]) (fun _ _ => ⟨Below.refl _ _, rfl⟩) ?_
              refine eachF_skip true (.bool false) r rfl rfl rfl (fun g w' hd => Eq.trans (show (g 5).v = .bool ((shrI .u64 x71 21) == (IntKind.u64.wrap x67.1)) from (hd 5 rfl).1) (congrArg Value.bool h74)) (by simp [boolOf]) (fun _ _ => ⟨Below.refl _ _, rfl⟩) ?_
              refine eachF_skip true (.bool false) r rfl rfl rfl (fun g w' hd => Eq.trans (show (g 5).v = .bool ((shrI .u64 x71 21) == (IntKind.u64.wrap x67.1)) from (hd 5 rfl).1) (congrArg Value.bool h74)) (by simp [boolOf]) (fun _ _ => ⟨Below.refl _ _, rfl⟩) ?_
              refine eachF_skip true (.bool false) r rfl rfl rfl (fun g w' hd => Eq.trans (show (g 5).v = .bool ((shrI .u64 x71 21) == (IntKind.u64.wrap x67.1)) from (hd 5 rfl).1) (congrArg Value.bool h74)) (by simp [boolOf]) (fun _ _ => ⟨Below.refl _ _, rfl⟩) ?_
              refine eachF_skip true (.bool false) r rfl rfl rfl (fun g w' hd => Eq.trans (show (g 5).v = .bool ((shrI .u64 x71 21) == (IntKind.u64.wrap x67.1)) from (hd 5 rfl).1) (congrArg Value.bool h74)) (by simp [boolOf]) (fun _ _ => ⟨Below.refl _ _, rfl⟩) ?_
              refine eachF_skip true (.bool false) r rfl rfl rfl (fun g w' hd => Eq.trans (show (g 5).v = .bool ((shrI .u64 x71 21) == (IntKind.u64.wrap x67.1)) from (hd 5 rfl).1) (congrArg Value.bool h74)) (by simp [boolOf]) (fun _ _ => ⟨Below.refl _ _, rfl⟩) ?_
              refine eachF_skip true (.bool false) r rfl rfl rfl (fun g w' hd => Eq.trans (show (g 5).v = .bool ((shrI .u64 x71 21) == (IntKind.u64.wrap x67.1)) from (hd 5 rfl).1) (congrArg Value.bool h74)) (by simp [boolOf]) (fun _ _ => ⟨Below.refl _ _, rfl⟩) ?_
              refine eachF_cons r rfl (fun fr1 g w' hb' hd r' => ?_) ?_
              · exact y_pick r' (b := false) (v := (.bool false)) (Eq.trans (show (g 5).v = .bool ((shrI .u64 x71 21) == (IntKind.u64.wrap x67.1)) from (hd 5 rfl).1) (congrArg Value.bool h74)) rfl ⟨Below.refl _ _, rfl⟩
              refine eachF_cons r rfl (fun fr1 g w' hb' hd r' => ?_) ?_
              · exact y_assign r' (v := (.bool false)) (hd 16 rfl).1 ⟨Below.refl _ _, rfl⟩
              exact eachF_nil
            · skip
              intro fr gg w79 hb hΦ hap r
              have g0 : (gg 0).v = (.int .u64 x71) := (hΦ 0 rfl).1
              have g1 : (gg 1).v = (.int .u64 (shrI .u64 x71 21)) := (hΦ 1 rfl).1
              have g2 : (gg 2).v = (.int .i64 x67.1) := (hΦ 2 rfl).1
              have g3 : (gg 3).v = (.int .u64 (IntKind.u64.wrap x67.1)) := (hΦ 3 rfl).1
              have g4 : (gg 4).v = (.bool ((shrI .u64 x71 21) == (IntKind.u64.wrap x67.1))) := (hΦ 4 rfl).1
              have g5 : (gg 5).v = (.bool ((shrI .u64 x71 21) == (IntKind.u64.wrap x67.1))) := (hΦ 5 rfl).1
              have g6 : (gg 6).v = undef := (hΦ 6 rfl).1
              have g7 : (gg 7).v = undef := (hΦ 7 rfl).1
              have g8 : (gg 8).v = undef := (hΦ 8 rfl).1
              have g9 : (gg 9).v = undef := (hΦ 9 rfl).1
              have g10 : (gg 10).v = undef := (hΦ 10 rfl).1
              have g11 : (gg 11).v = undef := (hΦ 11 rfl).1
              have g12 : (gg 12).v = undef := (hΦ 12 rfl).1
              have g13 : (gg 13).v = undef := (hΦ 13 rfl).1
              have g14 : (gg 14).v = undef := (hΦ 14 rfl).1
              have g15 : (gg 15).v = undef := (hΦ 15 rfl).1
              have g16 : (gg 16).v = (.bool false) := (hΦ 16 rfl).1
              have g17 : (gg 17).v = (.bool false) := (hΦ 17 rfl).1
              have r := r.congr (sc g17 (sc g16 (sc g15 (sc g14 (sc g13 (sc g12 (sc g11 (sc g10 (sc g9 (sc g8 (sc g7 (sc g6 (sc g5 (sc g4 (sc g3 (sc g2 (sc g1 (sc g0 rfl))))))))))))))))))
              have hP : Post No [roK 4 1 boolE a1_v a1, cellC b1 ((planC a0)).toArray 24, memK mg21 x67.2.2.2, rowK 3 1 i64 γ68 x67.2.1] w0 w79 := hP.below hb
              exact nxy73 false () _ _ _ hD r (hs_cons rfl (hs_cons rfl (hs_cons rfl (hs_cons rfl (hs_cons rfl (hs_cons rfl (hs_cons rfl (hs_cons rfl (hs_cons rfl (hs_cons rfl (hs_cons rfl hs_nil))))))))))) (hP.pick [0, 1, 2, 3] rfl rfl)
        · skip
          rintro x80 γ81 fr w82 g r hP hD
          have hP : Post No [roK 4 1 boolE a1_v a1, cellC b1 ((planC a0)).toArray 24, memK mg21 x67.2.2.2, rowK 3 1 i64 γ68 x67.2.1] w0 w82 := hP
          refine wp_ret ?_
          have hv : x80 = res := Option.some.inj hD
          try dsimp only [Exit.then, Exit.inBlock]
          refine ret_tmp (fn := Try.f14) r (t := 4) rfl (v := (.bool x80)) rfl ?_
          subst hv
          exact ⟨rfl, hP.chg.below⟩

end Go.Proofs.Ytphnnjiaiemkcaa.Wk
