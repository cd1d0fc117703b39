/- Written by a program of ours (wip/gen.py): a law -/
import Derived.Test.YtphnnjiaiemkcaaLaids
set_option linter.unusedVariables false
namespace Go.Proofs.Ytphnnjiaiemkcaa.Wk
open Go.RowKit
theorem cl37 : callable Try.prog 37 = true := by kernel_rfl
theorem cl38 : callable Try.prog 38 = true := by kernel_rfl
theorem cl45 : callable Try.prog 45 = true := by kernel_rfl
theorem is41 : isSlice Try.prog 41 = true := by kernel_rfl
theorem sl41 : sliceTy Try.prog 41 1 = true := by kernel_rfl
theorem ti5 : intTy Try.prog 5 .u8 = true := by kernel_rfl
theorem to5 : tyO Try.prog 5 = true := by kernel_rfl

def D.cubiclelaw10_HazardClears (fu : Nat) (a0 : Plan) (a1 : Int) (a2 : List Int) : Option (Bool) := (Option.bind ((D.cubiclelaw10_awake fu ).bind (fun (x6 : Bool) => (bif (!x6) then (some true) else (bif (!(D.cubiclelaw10_fits a0 0 0 a1)) then (some true) else (bif (decide (a1 < 0)) then (some true) else (some (decide ((a2.length : Int) > 16)))))))) (fun (x12 : Bool) => (bif x12 then ((D.cubiclelaw10_awake fu ).bind (fun (x16 : Bool) => (some x16))) else ((D.cubiclelaw09_Laid fu a0).bind (fun (x18 : Mem) => (loopThen (fun (x22 : Int × Mem) => (bif (decide (x22.1 < (minI (a2.length : Int) a0.threads))) then ((getI a2 x22.1).bind (fun (x27 : Int) => ((D.mem_Memory_Cap fu x22.2 0).bind (fun (x29 : Cap) => ((D.prog_Run_None fu (fu, (D.hazard_Set a0 x22.1 (IntKind.i64.wrap (x27.tmod 3)) a1)) x22.2 x29 9).bind (fun (x30 : Unit × Int × Bool × Mem) => (some (Lp.next ((IntKind.i64.wrap (x22.1 + 1)), x30.2.2.2))))))))) else (some (Lp.brk (x22.1, x22.2))))) fu (0, x18) (fun (x32 : Int × Mem) => (loopThen (fun (x35 : Bool × Int × Mem) => (bif (decide (x35.2.1 < (minI (a2.length : Int) a0.threads))) then ((D.mem_Memory_Cap fu x35.2.2 0).bind (fun (x44 : Cap) => ((D.prog_Run_bool fu (fu, (D.hazard_Held (fu + 1) a0 a1)) x35.2.2 x44 99).bind (fun (x46 : Bool × Int × Bool × Mem) => (bif (!x46.1) then (some (Lp.ret false)) else ((D.mem_Memory_Cap fu x46.2.2.2 0).bind (fun (x53 : Cap) => ((D.prog_Run_None fu (fu, (D.hazard_Clear (fu + 1) a0 x35.2.1)) x46.2.2.2 x53 9).bind (fun (x55 : Unit × Int × Bool × Mem) => (some (Lp.next (x35.1, (IntKind.i64.wrap (x35.2.1 + 1)), x55.2.2.2)))))))))))) else (some (Lp.brk (x35.1, x35.2.1, x35.2.2))))) fu (false, 0, x32.2) (fun (x57 : Bool × Int × Mem) => ((D.mem_Memory_Cap fu x57.2.2 0).bind (fun (x64 : Cap) => ((D.prog_Run_bool fu (fu, (D.hazard_Held (fu + 1) a0 a1)) x57.2.2 x64 99).bind (fun (x66 : Bool × Int × Bool × Mem) => (Option.bind (bif (!x66.1) then (bif x66.2.2.1 then (some (x66.2.1 == (IntKind.i64.wrap (3 * a0.threads)))) else (some false)) else (some false)) (fun (x71 : Bool) => (some x71))))))))))))))))

set_option maxRecDepth 20000 in
set_option maxHeartbeats 2000000 in
theorem c_cubiclelaw10_HazardClears {fu : Nat} (w0 : World) (a0 : Plan) (a1 : Int) {a2_v : Value} (a2 : List Int) (a2_h : RoAt 5 1 u8E a2_v a2 w0) {res : Bool} (hD : D.cubiclelaw10_HazardClears fu a0 a1 a2 = some res) :
    Calls Try.prog 8 #[.agg (planC a0).toArray, .int .i64 a1, a2_v] w0 (PureRes (.bool res) w0) := by
  refine enter (l := [.agg (planC a0).toArray, .int .i64 a1, a2_v]) Try.func8 rfl 111 rfl rfl fun fr r => ?_
  have hP : Post No [] w0 w0 := Post.nil w0
  have hP : Post No [roK 5 1 u8E a2_v a2] w0 w0 := hP.addRo norw_nil a2_h rfl a2_h.lt
  unfold D.cubiclelaw10_HazardClears at hD
  refine wp_seq ?_
  refine wp_region_lit ?_
  refine seq_new (.cells ((planC a0)).toArray 24 (0, 0)) r (fun R => y_box r (v := (.agg (planC a0).toArray)) rfl) rfl fun fr b1 w2 n3 r => ?_
  have hP : Post No [roK 5 1 u8E a2_v a2, cellC b1 ((planC a0)).toArray 24] w0 w2 := hP.new n3
  refine seq_val (.bool false) r (fun R => y_assign r rfl) rfl fun fr r => ?_
  refine wpList_nil ?_
  refine wp_seq ?_
  refine wp_seq ?_
  refine wp_joinG (N := 111) (Y := Bool) (G := Unit) (fun x γ => [(0, (.agg (planC a0).toArray)), (1, (.int .i64 a1)), (2, a2_v), (3, (.pointer (some ⟨b1, 0, none⟩))), (6, (.bool false)), (33, (.bool x))]) (fun x γ w => Post No [roK 5 1 u8E a2_v a2, cellC b1 ((planC a0)).toArray 24] w0 w) hD ?_ ?_
  · skip
    rintro y5 RPy5 nxy5 hD
    refine wp_region_lit ?_
    obtain ⟨x6, hx6, hD⟩ := bindD_elim hD
    refine seq_call r (c_cubiclelaw10_awake w2  hx6) (fun R hc => y_call r rfl cl37 hc) rfl ?_
    rintro _ w7 ⟨rfl, hb⟩
    refine ⟨_, rfl, fun fr r => ?_⟩
    have hP : Post No [roK 5 1 u8E a2_v a2, cellC b1 ((planC a0)).toArray 24] w0 w7 := hP.below hb
    refine seq_val (.bool (!x6)) r (fun R => y_un r (u := (.bool x6)) rfl rfl) rfl fun fr r => ?_
    refine seq_val (.bool (!x6)) r (fun R => y_move r rfl) rfl fun fr r => ?_
    refine seq_split (!x6) (fun h8 => ?_) (fun h8 => ?_)
    · skip
      have hD := (cond_t h8).symm.trans hD
      refine seq_skip r rfl rfl rfl (v := .bool true) (congrArg Value.bool h8) (by simp [boolOf]) fun fr r => ?_
      refine seq_skip r rfl rfl rfl (v := .bool true) (congrArg Value.bool h8) (by simp [boolOf]) fun fr r => ?_
      refine seq_skip r rfl rfl rfl (v := .bool true) (congrArg Value.bool h8) (by simp [boolOf]) fun fr r => ?_
      refine seq_skip r rfl rfl rfl (v := .bool true) (congrArg Value.bool h8) (by simp [boolOf]) fun fr r => ?_
      refine seq_val (.bool true) r (fun R => y_pick r (b := true) (congrArg Value.bool h8) rfl) rfl fun fr r => ?_
      refine seq_val (.bool true) r (fun R => y_move r rfl) rfl fun fr r => ?_
      refine seq_skip r rfl rfl rfl (v := .bool true) (congrArg Value.bool (rfl : true = _)) (by simp [boolOf]) fun fr r => ?_
      refine seq_skip r rfl rfl rfl (v := .bool true) (congrArg Value.bool (rfl : true = _)) (by simp [boolOf]) fun fr r => ?_
      refine seq_val (.bool true) r (fun R => y_pick r (b := true) (congrArg Value.bool (rfl : true = _)) rfl) rfl fun fr r => ?_
      refine seq_val (.bool true) r (fun R => y_move r rfl) rfl fun fr r => ?_
      refine seq_skip r rfl rfl rfl (v := .bool true) (congrArg Value.bool (rfl : true = _)) (by simp [boolOf]) fun fr r => ?_
      refine seq_skip r rfl rfl rfl (v := .bool true) (congrArg Value.bool (rfl : true = _)) (by simp [boolOf]) fun fr r => ?_
      refine seq_skip r rfl rfl rfl (v := .bool true) (congrArg Value.bool (rfl : true = _)) (by simp [boolOf]) fun fr r => ?_
      refine seq_val (.bool true) r (fun R => y_pick r (b := true) (congrArg Value.bool (rfl : true = _)) rfl) rfl fun fr r => ?_
      refine wpList_nil ?_
      exact nxy5 true () _ _ _ hD r (hs_cons rfl (hs_cons rfl (hs_cons rfl (hs_cons rfl (hs_cons rfl (hs_cons rfl hs_nil)))))) (hP.pick [0, 1] rfl rfl)
    · skip
      have hD := (cond_f h8).symm.trans hD
      refine seq_want r rfl rfl rfl (congrArg Value.bool h8) ?_
      refine seq_val (.agg (planC a0).toArray) r (fun R => y_load_agg r (cs := (planC a0)) (n := 6) rfl (hP.cell (i := 1) rfl) ta24 rfl) rfl fun fr r => ?_
      refine seq_want r rfl rfl rfl (congrArg Value.bool h8) ?_
      refine seq_val (.int .i64 a1) r (fun R => y_move r rfl) rfl fun fr r => ?_
      refine seq_want r rfl rfl rfl (congrArg Value.bool h8) ?_
      refine seq_call r (c_cubiclelaw10_fits w7 a0 0 0 a1) (fun R hc => y_call r rfl cl38 hc) rfl ?_
      rintro _ w9 ⟨rfl, hb⟩
      refine ⟨_, rfl, fun fr r => ?_⟩
      have hP : Post No [roK 5 1 u8E a2_v a2, cellC b1 ((planC a0)).toArray 24] w0 w9 := hP.below hb
      refine seq_want r rfl rfl rfl (congrArg Value.bool h8) ?_
      refine seq_val (.bool (!(D.cubiclelaw10_fits a0 0 0 a1))) r (fun R => y_un r (u := (.bool (D.cubiclelaw10_fits a0 0 0 a1))) rfl rfl) rfl fun fr r => ?_
      refine seq_val (.bool (!(D.cubiclelaw10_fits a0 0 0 a1))) r (fun R => y_pick r (b := false) (congrArg Value.bool h8) rfl) rfl fun fr r => ?_
      refine seq_val (.bool (!(D.cubiclelaw10_fits a0 0 0 a1))) r (fun R => y_move r rfl) rfl fun fr r => ?_
      refine seq_split (!(D.cubiclelaw10_fits a0 0 0 a1)) (fun h10 => ?_) (fun h10 => ?_)
      · skip
        have hD := (cond_t h10).symm.trans hD
        refine seq_skip r rfl rfl rfl (v := .bool true) (congrArg Value.bool h10) (by simp [boolOf]) fun fr r => ?_
        refine seq_skip r rfl rfl rfl (v := .bool true) (congrArg Value.bool h10) (by simp [boolOf]) fun fr r => ?_
        refine seq_val (.bool true) r (fun R => y_pick r (b := true) (congrArg Value.bool h10) rfl) rfl fun fr r => ?_
        refine seq_val (.bool true) r (fun R => y_move r rfl) rfl fun fr r => ?_
        refine seq_skip r rfl rfl rfl (v := .bool true) (congrArg Value.bool (rfl : true = _)) (by simp [boolOf]) fun fr r => ?_
        refine seq_skip r rfl rfl rfl (v := .bool true) (congrArg Value.bool (rfl : true = _)) (by simp [boolOf]) fun fr r => ?_
        refine seq_skip r rfl rfl rfl (v := .bool true) (congrArg Value.bool (rfl : true = _)) (by simp [boolOf]) fun fr r => ?_
        refine seq_val (.bool true) r (fun R => y_pick r (b := true) (congrArg Value.bool (rfl : true = _)) rfl) rfl fun fr r => ?_
        refine wpList_nil ?_
        exact nxy5 true () _ _ _ hD r (hs_cons rfl (hs_cons rfl (hs_cons rfl (hs_cons rfl (hs_cons rfl (hs_cons rfl hs_nil)))))) (hP.pick [0, 1] rfl rfl)
      · skip
        have hD := (cond_f h10).symm.trans hD
        refine seq_want r rfl rfl rfl (congrArg Value.bool h10) ?_
        refine seq_val (.int .i64 a1) r (fun R => y_move r rfl) rfl fun fr r => ?_
        refine seq_want r rfl rfl rfl (congrArg Value.bool h10) ?_
        refine seq_val (.bool (decide (a1 < 0))) r (fun R => y_bin r (u := (.int .i64 a1)) (u' := (.int .i64 0)) rfl rfl rfl rfl) rfl fun fr r => ?_
        refine seq_val (.bool (decide (a1 < 0))) r (fun R => y_pick r (b := false) (congrArg Value.bool h10) rfl) rfl fun fr r => ?_
        refine seq_val (.bool (decide (a1 < 0))) r (fun R => y_move r rfl) rfl fun fr r => ?_
        refine seq_split (decide (a1 < 0)) (fun h11 => ?_) (fun h11 => ?_)
        · skip
          have hD := (cond_t h11).symm.trans hD
          refine seq_skip r rfl rfl rfl (v := .bool true) (congrArg Value.bool h11) (by simp [boolOf]) fun fr r => ?_
          refine seq_skip r rfl rfl rfl (v := .bool true) (congrArg Value.bool h11) (by simp [boolOf]) fun fr r => ?_
          refine seq_skip r rfl rfl rfl (v := .bool true) (congrArg Value.bool h11) (by simp [boolOf]) fun fr r => ?_
          refine seq_val (.bool true) r (fun R => y_pick r (b := true) (congrArg Value.bool h11) rfl) rfl fun fr r => ?_
          refine wpList_nil ?_
          exact nxy5 true () _ _ _ hD r (hs_cons rfl (hs_cons rfl (hs_cons rfl (hs_cons rfl (hs_cons rfl (hs_cons rfl hs_nil)))))) (hP.pick [0, 1] rfl rfl)
        · skip
          have hD := (cond_f h11).symm.trans hD
          refine seq_want r rfl rfl rfl (congrArg Value.bool h11) ?_
          refine seq_val a2_v r (fun R => y_move r rfl) rfl fun fr r => ?_
          refine seq_want r rfl rfl rfl (congrArg Value.bool h11) ?_
          refine seq_val (.int .i64 (a2.length : Int)) r (fun R => y_rowLen r (hP.ro (i := 0) rfl) is41 rfl) rfl fun fr r => ?_
          refine seq_want r rfl rfl rfl (congrArg Value.bool h11) ?_
          refine seq_val (.bool (decide ((a2.length : Int) > 16))) r (fun R => y_bin r (u := (.int .i64 (a2.length : Int))) (u' := (.int .i64 16)) rfl rfl rfl rfl) rfl fun fr r => ?_
          refine seq_val (.bool (decide ((a2.length : Int) > 16))) r (fun R => y_pick r (b := false) (congrArg Value.bool h11) rfl) rfl fun fr r => ?_
          refine wpList_nil ?_
          exact nxy5 (decide ((a2.length : Int) > 16)) () _ _ _ hD r (hs_cons rfl (hs_cons rfl (hs_cons rfl (hs_cons rfl (hs_cons rfl (hs_cons rfl hs_nil)))))) (hP.pick [0, 1] rfl rfl)
  · skip
    rintro x12 γ13 fr w14 g r hP hD
    have hP : Post No [roK 5 1 u8E a2_v a2, cellC b1 ((planC a0)).toArray 24] w0 w14 := hP
    refine wp_cond_split (t := x12) (r.ev rfl) (fun h15 => ?_) (fun h15 => ?_)
    · skip
      have hD := (cond_t h15).symm.trans hD
      refine wp_seq ?_
      refine wp_region_lit ?_
      obtain ⟨x16, hx16, hD⟩ := bindD_elim hD
      refine seq_call r (c_cubiclelaw10_awake w14  hx16) (fun R hc => y_call r rfl cl37 hc) rfl ?_
      rintro _ w17 ⟨rfl, hb⟩
      refine ⟨_, rfl, fun fr r => ?_⟩
      have hP : Post No [roK 5 1 u8E a2_v a2, cellC b1 ((planC a0)).toArray 24] w0 w17 := hP.below hb
      refine seq_val (.bool x16) r (fun R => y_assign r rfl) rfl fun fr r => ?_
      refine wpList_nil ?_
      refine wp_ret ?_
      have hv : x16 = res := Option.some.inj hD
      try dsimp only [Exit.then, Exit.inBlock]
      refine ret_tmp (fn := Try.f8) r (t := 6) rfl (v := (.bool x16)) rfl ?_
      subst hv
      exact ⟨rfl, hP.chg.below⟩
    · skip
      have hD := (cond_f h15).symm.trans hD
      refine wp_skip ?_
      refine wp_seq ?_
      refine wp_region_lit ?_
      refine seq_val (.agg (planC a0).toArray) r (fun R => y_load_agg r (cs := (planC a0)) (n := 6) rfl (hP.cell (i := 1) rfl) ta24 rfl) rfl fun fr r => ?_
      obtain ⟨x18, hx18, hD⟩ := bindD_elim hD
      refine seq_call r (c_cubiclelaw09_Laid w14 a0 hx18) (fun R hc => y_call r rfl cl39 hc) rfl ?_
      rintro _ w19 ⟨mg20, rfl, hq⟩
      refine ⟨_, rfl, fun fr r => ?_⟩
      have hP : Post No [roK 5 1 u8E a2_v a2, cellC b1 ((planC a0)).toArray 24, memK mg20 x18] w0 w19 := hP.add hq
      refine seq_val (.pointer (some ⟨mg20.mb, 0, none⟩)) r (fun R => y_assign r rfl) rfl fun fr r => ?_
      refine wpList_nil ?_
      refine wp_seq ?_
      refine wp_seq ?_
      refine wp_region_lit ?_
      refine seq_val (.pointer (some ⟨mg20.mb, 0, none⟩)) r (fun R => y_move r rfl) rfl fun fr r => ?_
      refine seq_val (.bool false) r (fun R => y_bin r (u := (.pointer (some ⟨mg20.mb, 0, none⟩))) (u' := (.pointer none)) (v := (.bool false)) rfl rfl rfl rfl) rfl fun fr r => ?_
      refine wpList_nil ?_
      refine wp_cond_split (t := false) (r.ev rfl) (fun h => absurd ((rfl : false = _).symm.trans h) (by decide)) (fun _ => ?_)
      refine wp_skip ?_
      refine wp_seq ?_
      refine wp_region_lit ?_
      refine seq_val a2_v r (fun R => y_move r rfl) rfl fun fr r => ?_
      refine seq_val (.int .i64 (a2.length : Int)) r (fun R => y_rowLen r (hP.ro (i := 0) rfl) is41 rfl) rfl fun fr r => ?_
      refine seq_val (.pointer (some ⟨b1, 1, none⟩)) r (fun R => y_fieldAddr r (o := 0) rfl fo24_1) rfl fun fr r => ?_
      refine seq_val (.int .i64 a0.threads) r (fun R => y_load_one r (v := (.int .i64 a0.threads)) rfl (hP.cell (i := 1) rfl) to3 rfl) rfl fun fr r => ?_
      refine seq_val (.int .i64 (minI (a2.length : Int) a0.threads)) r (fun R => y_min r (m := (a2.length : Int)) (n := a0.threads) rfl rfl) rfl fun fr r => ?_
      refine seq_val (.int .i64 (minI (a2.length : Int) a0.threads)) r (fun R => y_assign r rfl) rfl fun fr r => ?_
      refine wpList_nil ?_
      refine wp_seq ?_
      refine wp_seq ?_
      refine wp_region_lit ?_
      refine seq_val (.int .i64 0) r (fun R => y_assign r rfl) rfl fun fr r => ?_
      refine wpList_nil ?_
      refine wp_loopG (X := Int × Mem) (G := Unit) (x0 := (0, x18)) (fun x γ => [(0, (.agg (planC a0).toArray)), (1, (.int .i64 a1)), (2, a2_v), (3, (.pointer (some ⟨b1, 0, none⟩))), (6, (.bool false)), (33, (.bool x12)), (7, (.pointer (some ⟨mg20.mb, 0, none⟩))), (38, (.bool false)), (8, (.int .i64 (minI (a2.length : Int) a0.threads))), (9, (.int .i64 x.1))]) (fun x γ w => Post No [roK 5 1 u8E a2_v a2, cellC b1 ((planC a0)).toArray 24, memK mg20 x.2] w0 w) () r (hs_cons rfl (hs_cons rfl (hs_cons rfl (hs_cons rfl (hs_cons rfl (hs_cons rfl (hs_cons rfl (hs_cons rfl (hs_cons rfl (hs_cons rfl hs_nil)))))))))) hP hD ?_ ?_
      · skip
        rintro x22 γ23 fr w25 g y24 RPy24 nxy24 bky24 rty24 r hP hD
        have hP : Post No [roK 5 1 u8E a2_v a2, cellC b1 ((planC a0)).toArray 24, memK mg20 x22.2] w0 w25 := hP
        refine wp_seq ?_
        refine wp_seq ?_
        refine wp_region_lit ?_
        refine seq_val (.int .i64 x22.1) r (fun R => y_move r rfl) rfl fun fr r => ?_
        refine seq_val (.int .i64 (minI (a2.length : Int) a0.threads)) r (fun R => y_move r rfl) rfl fun fr r => ?_
        refine seq_val (.bool (decide (x22.1 < (minI (a2.length : Int) a0.threads)))) r (fun R => y_bin r (u := (.int .i64 x22.1)) (u' := (.int .i64 (minI (a2.length : Int) a0.threads))) rfl rfl rfl rfl) rfl fun fr r => ?_
        refine wpList_nil ?_
        refine wp_cond_split (t := (decide (x22.1 < (minI (a2.length : Int) a0.threads)))) (r.ev rfl) (fun h26 => ?_) (fun h26 => ?_)
        · skip
          have hD := (cond_t h26).symm.trans hD
          refine wp_skip ?_
          refine wp_seq ?_
          refine wp_block ?_
          obtain ⟨x27, hx27, hD⟩ := bindD_elim hD
          obtain ⟨x29, hx29, hD⟩ := bindD_elim hD
          obtain ⟨x30, hx30, hD⟩ := bindD_elim hD
          refine wp_freeE mg20.bs [.val (.agg (planC a0).toArray), .val (.int .i64 x22.1), .val a2_v, .val (.int .i64 x22.1), .val (.pointer (some ⟨rowB a2_v, rowO a2_v + x22.1.toNat * 1, none⟩)), .val (.int .u8 x27), .val (.int .u8 (x27.tmod 3)), .val (.int .i64 (IntKind.i64.wrap (x27.tmod 3))), .val (.int .i64 a1), .pred (PrP Try.prog encNone (fu, (D.hazard_Set a0 x22.1 (IntKind.i64.wrap (x27.tmod 3)) a1))) (PrP.st _), .val (.pointer (some ⟨mg20.mb, 0, none⟩)), .val (.pointer (some ⟨mg20.mb, 0, none⟩)), .val (.agg (capC x29).toArray), .eff (EffP w25.heap.size (memK mg20 x30.2.2.2) (fun _ : Unit => (.tuple #[(.agg #[]), (.int .i64 x30.2.1), (.bool x30.2.2.1)])) (fun _ : Unit => [])) (EffP.st _ _ _ _)] mixed r (fun b hb => hP.sep.lt (i := 2) rfl (.inl hb)) (by kernel_rfl) ?_ ?_
          · skip
            refine eachE_late r rfl (fun fr1 g w' hk' hd r' => ?_) ?_
            · exact y_load_agg r' (cs := (planC a0)) (n := 6) rfl (hP.cellK (j := 2) rfl (drK hk') (i := 1) rfl rfl) ta24 rfl ⟨Below.refl _ _, rfl⟩
            refine eachE_late r rfl (fun fr1 g w' hk' hd r' => ?_) ?_
            · exact y_move r' (v := (.int .i64 x22.1)) rfl ⟨Below.refl _ _, rfl⟩
            refine eachE_late r rfl (fun fr1 g w' hk' hd r' => ?_) ?_
            · exact y_move r' (v := a2_v) rfl ⟨Below.refl _ _, rfl⟩
            refine eachE_late r rfl (fun fr1 g w' hk' hd r' => ?_) ?_
            · exact y_move r' (v := (.int .i64 x22.1)) rfl ⟨Below.refl _ _, rfl⟩
            refine eachE_late r rfl (fun fr1 g w' hk' hd r' => ?_) ?_
            · exact y_rowAddr r' (show RoAt 0 _ _ _ _ _ from hP.okK (j := 2) rfl (drK hk') (i := 0) rfl rfl) hx27 sl41 (hd 2 rfl).1 (hd 3 rfl).1 ⟨Below.refl _ _, rfl⟩
            refine eachE_late r rfl (fun fr1 g w' hk' hd r' => ?_) ?_
            · exact y_loadL_one r' (u := (.int .u8 x27)) (RoAt.at_ (f := u8E) (x := x27) (show RoAt 0 _ _ _ _ _ from hP.okK (j := 2) rfl (drK hk') (i := 0) rfl rfl) (fun _ => rfl) hx27) (hd 4 rfl).1 to5 ⟨Below.refl _ _, rfl⟩
            refine eachE_late r rfl (fun fr1 g w' hk' hd r' => ?_) ?_
            · exact y_bin r' (u := (.int .u8 x27)) (u' := (.int .u8 3)) (v := (.int .u8 (x27.tmod 3))) (hd 5 rfl).1 rfl rfl rfl ⟨Below.refl _ _, rfl⟩
            refine eachE_late r rfl (fun fr1 g w' hk' hd r' => ?_) ?_
            · exact y_convert r' (n := (x27.tmod 3)) (hd 6 rfl).1 ti5 ti3 ⟨Below.refl _ _, rfl⟩
            refine eachE_late r rfl (fun fr1 g w' hk' hd r' => ?_) ?_
            · exact y_move r' (v := (.int .i64 a1)) rfl ⟨Below.refl _ _, rfl⟩
            refine eachE_early r rfl (by kernel_rfl) (fun fr1 g w' hb' hd r' => ?_) ?_
            · exact y_call r' (args := [(.agg (planC a0).toArray), (.int .i64 x22.1), (.int .i64 (IntKind.i64.wrap (x27.tmod 3))), (.int .i64 a1)]) (lc (hd 0 rfl).1 (lc (hd 1 rfl).1 (lc (hd 7 rfl).1 (lc (hd 8 rfl).1 l0)))) cl41 ((c_hazard_Set (F := No) (n := fu) (fun _ h => h.elim) a0 x22.1 (IntKind.i64.wrap (x27.tmod 3)) a1).mono (by rintro _ w2 ⟨y, rfl, hb2, hr2⟩; exact ⟨_, rfl, hb2, fresh_prog hr2⟩))
            refine eachE_early r rfl (by kernel_rfl) (fun fr1 g w' hb' hd r' => ?_) ?_
            · exact y_move r' (v := (.pointer (some ⟨mg20.mb, 0, none⟩))) rfl ⟨Below.refl _ _, rfl⟩
            refine eachE_late r rfl (fun fr1 g w' hk' hd r' => ?_) ?_
            · exact y_move r' (v := (.pointer (some ⟨mg20.mb, 0, none⟩))) rfl ⟨Below.refl _ _, rfl⟩
            refine eachE_early r rfl (by kernel_rfl) (fun fr1 g w' hb' hd r' => ?_) ?_
            · exact y_call r' (args := [(.pointer (some ⟨mg20.mb, 0, none⟩)), (.int .i64 0)]) (lc (hd 11 rfl).1 (lc rfl l0)) cl42 ((c_mem_Memory_Cap _ x22.2 ((hP.below (dr hb')).mem (i := 2) rfl) 0 hx29).mono (by rintro _ w2 ⟨rfl, hb2⟩; exact ⟨_, rfl, hb2, rfl⟩))
            refine eachE_early r rfl (by kernel_rfl) (fun fr1 g w' hb' hd r' => ?_) ?_
            · exact y_call r' (args := [(g 9).v, (.pointer (some ⟨mg20.mb, 0, none⟩)), (.agg (capC x29).toArray), (.int .i64 9)]) (lc rfl (lc (hd 10 rfl).1 (lc (hd 12 rfl).1 (lc rfl l0)))) cl40 ((c_prog_Run_None _ (fu, (D.hazard_Set a0 x22.1 (IntKind.i64.wrap (x27.tmod 3)) a1)) x22.2 x29 9 (Sep.beside (hd 9 rfl).1 ((hP.below (dr hb')).sep.pk [2] rfl rfl) (fun c hc b hb => by rcases List.mem_singleton.1 hc with rfl; exact hP.sep.lt (i := 2) rfl hb) (hd 9 rfl).2.1) hx30).mono (by rintro _ w2 ⟨rfl, hq⟩; exact ⟨_, rfl, hq.chg.kept, EffP.of () hq rfl (fun b hb => hP.sep.lt (i := 2) rfl hb)⟩))
            exact eachF_nil
          · skip
            intro fr gg w31 hb hΦ hap r
            have g0 : (gg 0).v = (.agg (planC a0).toArray) := (hΦ 0 rfl).1
            have g1 : (gg 1).v = (.int .i64 x22.1) := (hΦ 1 rfl).1
            have g2 : (gg 2).v = a2_v := (hΦ 2 rfl).1
            have g3 : (gg 3).v = (.int .i64 x22.1) := (hΦ 3 rfl).1
            have g4 : (gg 4).v = (.pointer (some ⟨rowB a2_v, rowO a2_v + x22.1.toNat * 1, none⟩)) := (hΦ 4 rfl).1
            have g5 : (gg 5).v = (.int .u8 x27) := (hΦ 5 rfl).1
            have g6 : (gg 6).v = (.int .u8 (x27.tmod 3)) := (hΦ 6 rfl).1
            have g7 : (gg 7).v = (.int .i64 (IntKind.i64.wrap (x27.tmod 3))) := (hΦ 7 rfl).1
            have g8 : (gg 8).v = (.int .i64 a1) := (hΦ 8 rfl).1
            obtain ⟨v28, hv9⟩ : ∃ v, v = (gg 9).v := ⟨_, rfl⟩
            have g9 : (gg 9).v = v28 := hv9.symm
            have hs9 : Fresh [progK Try.prog encNone (fu, (D.hazard_Set a0 x22.1 (IntKind.i64.wrap (x27.tmod 3)) a1)) v28 (rg (gg 9).lo (gg 9).hi)] (gg 9).lo (gg 9).hi w31 := by subst hv9; exact (hΦ 9 rfl).1
            have g10 : (gg 10).v = (.pointer (some ⟨mg20.mb, 0, none⟩)) := (hΦ 10 rfl).1
            have g11 : (gg 11).v = (.pointer (some ⟨mg20.mb, 0, none⟩)) := (hΦ 11 rfl).1
            have g12 : (gg 12).v = (.agg (capC x29).toArray) := (hΦ 12 rfl).1
            obtain ⟨⟨⟩, g13, hcE, _, hs13⟩ := (hΦ 13 rfl).1
            have r := r.congr (sc g13 (sc g12 (sc g11 (sc g10 (sc g9 (sc g8 (sc g7 (sc g6 (sc g5 (sc g4 (sc g3 (sc g2 (sc g1 (sc g0 rfl))))))))))))))
            have hP : Post No [roK 5 1 u8E a2_v a2, cellC b1 ((planC a0)).toArray 24, memK mg20 x30.2.2.2, progK Try.prog encNone (fu, (D.hazard_Set a0 x22.1 (IntKind.i64.wrap (x27.tmod 3)) a1)) v28 (rg (gg 9).lo (gg 9).hi)] w0 w31 := hP.effL (i := 2) (l := [([progK Try.prog encNone (fu, (D.hazard_Set a0 x22.1 (IntKind.i64.wrap (x27.tmod 3)) a1)) v28 (rg (gg 9).lo (gg 9).hi)], (gg 9).lo, (gg 9).hi)]) rfl hb hcE rfl rfl ⟨hs9, (hΦ 9 rfl).2.1, disj_nil, trivial⟩
            refine wp_region_lit ?_
            refine seq_val (.int .i64 x22.1) r (fun R => y_move r rfl) rfl fun fr r => ?_
            refine seq_val (.int .i64 (IntKind.i64.wrap (x22.1 + 1))) r (fun R => y_bin r (u := (.int .i64 x22.1)) (u' := (.int .i64 1)) rfl rfl rfl rfl) rfl fun fr r => ?_
            refine seq_val (.int .i64 (IntKind.i64.wrap (x22.1 + 1))) r (fun R => y_assign r rfl) rfl fun fr r => ?_
            refine wpList_nil ?_
            exact nxy24 ((IntKind.i64.wrap (x22.1 + 1)), x30.2.2.2) () _ _ _ hD r (hs_cons rfl (hs_cons rfl (hs_cons rfl (hs_cons rfl (hs_cons rfl (hs_cons rfl (hs_cons rfl (hs_cons rfl (hs_cons rfl (hs_cons rfl hs_nil)))))))))) (hP.pick [0, 1, 2] rfl rfl)
        · skip
          have hD := (cond_f h26).symm.trans hD
          refine wp_exit ?_
          exact bky24 (x22.1, x22.2) () _ _ _ hD r (hs_cons rfl (hs_cons rfl (hs_cons rfl (hs_cons rfl (hs_cons rfl (hs_cons rfl (hs_cons rfl (hs_cons rfl (hs_cons rfl (hs_cons rfl hs_nil)))))))))) (hP.pick [0, 1, 2] rfl rfl)
      · skip
        rintro x32 γ33 fr w34 g r hP hD
        have hP : Post No [roK 5 1 u8E a2_v a2, cellC b1 ((planC a0)).toArray 24, memK mg20 x32.2] w0 w34 := hP
        refine wp_seq ?_
        refine wp_seq ?_
        refine wp_region_lit ?_
        refine seq_val (.int .i64 0) r (fun R => y_assign r rfl) rfl fun fr r => ?_
        refine wpList_nil ?_
        refine wp_loopG (X := Bool × Int × Mem) (G := Unit) (x0 := (false, 0, x32.2)) (fun x γ => [(0, (.agg (planC a0).toArray)), (1, (.int .i64 a1)), (2, a2_v), (3, (.pointer (some ⟨b1, 0, none⟩))), (33, (.bool x12)), (7, (.pointer (some ⟨mg20.mb, 0, none⟩))), (38, (.bool false)), (8, (.int .i64 (minI (a2.length : Int) a0.threads))), (9, (.int .i64 x32.1)), (6, (.bool x.1)), (10, (.int .i64 x.2.1))]) (fun x γ w => Post No [roK 5 1 u8E a2_v a2, cellC b1 ((planC a0)).toArray 24, memK mg20 x.2.2] w0 w) () r (hs_cons rfl (hs_cons rfl (hs_cons rfl (hs_cons rfl (hs_cons rfl (hs_cons rfl (hs_cons rfl (hs_cons rfl (hs_cons rfl (hs_cons rfl (hs_cons rfl hs_nil))))))))))) hP hD ?_ ?_
        · skip
          rintro x35 γ36 fr w38 g y37 RPy37 nxy37 bky37 rty37 r hP hD
          have hP : Post No [roK 5 1 u8E a2_v a2, cellC b1 ((planC a0)).toArray 24, memK mg20 x35.2.2] w0 w38 := hP
          refine wp_seq ?_
          refine wp_seq ?_
          refine wp_region_lit ?_
          refine seq_val (.int .i64 x35.2.1) r (fun R => y_move r rfl) rfl fun fr r => ?_
          refine seq_val (.int .i64 (minI (a2.length : Int) a0.threads)) r (fun R => y_move r rfl) rfl fun fr r => ?_
          refine seq_val (.bool (decide (x35.2.1 < (minI (a2.length : Int) a0.threads)))) r (fun R => y_bin r (u := (.int .i64 x35.2.1)) (u' := (.int .i64 (minI (a2.length : Int) a0.threads))) rfl rfl rfl rfl) rfl fun fr r => ?_
          refine wpList_nil ?_
          refine wp_cond_split (t := (decide (x35.2.1 < (minI (a2.length : Int) a0.threads)))) (r.ev rfl) (fun h39 => ?_) (fun h39 => ?_)
          · skip
            have hD := (cond_t h39).symm.trans hD
            refine wp_skip ?_
            refine wp_seq ?_
            refine wp_block ?_
            refine wp_seq ?_
            refine wp_region_lit ?_
            refine seq_val (.agg (planC a0).toArray) r (fun R => y_load_agg r (cs := (planC a0)) (n := 6) rfl (hP.cell (i := 1) rfl) ta24 rfl) rfl fun fr r => ?_
            refine seq_val (.int .i64 a1) r (fun R => y_move r rfl) rfl fun fr r => ?_
            refine seq_call r (c_hazard_Held (F := No) (n := fu) (j := fu + 1) (fun _ h => h.elim) (by omega) a0 a1) (fun R hc => y_call r rfl cl44 hc) rfl ?_
            rintro _ w40 ⟨v41, rfl, hb, hr42⟩
            refine ⟨_, rfl, fun fr r => ?_⟩
            have hP : Post No [roK 5 1 u8E a2_v a2, cellC b1 ((planC a0)).toArray 24, memK mg20 x35.2.2, progK Try.prog encBool (fu, (D.hazard_Held (fu + 1) a0 a1)) v41 (rg w38.heap.size w40.heap.size)] w0 w40 := hP.addProg hb hr42
            refine seq_val (.pointer (some ⟨mg20.mb, 0, none⟩)) r (fun R => y_move r rfl) rfl fun fr r => ?_
            refine seq_val (.pointer (some ⟨mg20.mb, 0, none⟩)) r (fun R => y_move r rfl) rfl fun fr r => ?_
            obtain ⟨x44, hx44, hD⟩ := bindD_elim hD
            refine seq_call r (c_mem_Memory_Cap w40 x35.2.2 (hP.mem (i := 2) rfl) 0 hx44) (fun R hc => y_call r rfl cl42 hc) rfl ?_
            rintro _ w45 ⟨rfl, hb⟩
            refine ⟨_, rfl, fun fr r => ?_⟩
            have hP : Post No [roK 5 1 u8E a2_v a2, cellC b1 ((planC a0)).toArray 24, memK mg20 x35.2.2, progK Try.prog encBool (fu, (D.hazard_Held (fu + 1) a0 a1)) v41 (rg w38.heap.size w40.heap.size)] w0 w45 := hP.below hb
            obtain ⟨x46, hx46, hD⟩ := bindD_elim hD
            refine seq_call r (c_prog_Run_bool w45 (fu, (D.hazard_Held (fu + 1) a0 a1)) x35.2.2 x44 99 (hP.sep.pk [3, 2] rfl rfl) hx46) (fun R hc => y_call r rfl cl43 hc) rfl ?_
            rintro _ w47 ⟨rfl, hq⟩
            refine ⟨_, rfl, fun fr r => ?_⟩
            have hP : Post No [roK 5 1 u8E a2_v a2, cellC b1 ((planC a0)).toArray 24, memK mg20 x46.2.2.2, progK Try.prog encBool (fu, (D.hazard_Held (fu + 1) a0 a1)) v41 (rg w38.heap.size w40.heap.size)] w0 w47 := hP.setN (i := 2) rfl hq
            refine seq_val (.tuple #[(.bool x46.1), (.int .i64 x46.2.1), (.bool x46.2.2.1)]) r (fun R => y_move r rfl) rfl fun fr r => ?_
            refine seq_val (.bool x46.1) r (fun R => y_extract r (vs := #[(.bool x46.1), (.int .i64 x46.2.1), (.bool x46.2.2.1)]) rfl rfl) rfl fun fr r => ?_
            refine seq_val (.int .i64 x46.2.1) r (fun R => y_extract r (vs := #[(.bool x46.1), (.int .i64 x46.2.1), (.bool x46.2.2.1)]) rfl rfl) rfl fun fr r => ?_
            refine seq_val (.bool x46.2.2.1) r (fun R => y_extract r (vs := #[(.bool x46.1), (.int .i64 x46.2.1), (.bool x46.2.2.1)]) rfl rfl) rfl fun fr r => ?_
            refine seq_val (.bool x46.1) r (fun R => y_assign r rfl) rfl fun fr r => ?_
            refine seq_val (.int .i64 x46.2.1) r (fun R => y_assign r rfl) rfl fun fr r => ?_
            refine seq_val (.bool x46.2.2.1) r (fun R => y_assign r rfl) rfl fun fr r => ?_
            refine wpList_nil ?_
            refine wp_seq ?_
            refine wp_seq ?_
            refine wp_region_lit ?_
            refine seq_val (.bool x46.1) r (fun R => y_move r rfl) rfl fun fr r => ?_
            refine seq_val (.bool (!x46.1)) r (fun R => y_un r (u := (.bool x46.1)) rfl rfl) rfl fun fr r => ?_
            refine wpList_nil ?_
            refine wp_cond_split (t := (!x46.1)) (r.ev rfl) (fun h48 => ?_) (fun h48 => ?_)
            · skip
              have hD := (cond_t h48).symm.trans hD
              refine wp_seq ?_
              refine wp_region_lit ?_
              refine seq_val (.bool false) r (fun R => y_assign r rfl) rfl fun fr r => ?_
              refine wpList_nil ?_
              refine wp_ret ?_
              refine rty37 false _ _ hD fun hD => ?_
              have hv : false = res := Option.some.inj hD
              try dsimp only [Exit.then, Exit.inBlock]
              refine ret_tmp (fn := Try.f8) r (t := 6) rfl (v := (.bool false)) rfl ?_
              subst hv
              exact ⟨rfl, hP.chg.below⟩
            · skip
              have hD := (cond_f h48).symm.trans hD
              refine wp_skip ?_
              refine wp_region_lit ?_
              refine seq_val (.agg (planC a0).toArray) r (fun R => y_load_agg r (cs := (planC a0)) (n := 6) rfl (hP.cell (i := 1) rfl) ta24 rfl) rfl fun fr r => ?_
              refine seq_val (.int .i64 x35.2.1) r (fun R => y_move r rfl) rfl fun fr r => ?_
              refine seq_call r (c_hazard_Clear (F := No) (n := fu) (j := fu + 1) (fun _ h => h.elim) (by omega) a0 x35.2.1) (fun R hc => y_call r rfl cl45 hc) rfl ?_
              rintro _ w49 ⟨v50, rfl, hb, hr51⟩
              refine ⟨_, rfl, fun fr r => ?_⟩
              have hP : Post No [roK 5 1 u8E a2_v a2, cellC b1 ((planC a0)).toArray 24, memK mg20 x46.2.2.2, progK Try.prog encBool (fu, (D.hazard_Held (fu + 1) a0 a1)) v41 (rg w38.heap.size w40.heap.size), progK Try.prog encNone (fu, (D.hazard_Clear (fu + 1) a0 x35.2.1)) v50 (rg w47.heap.size w49.heap.size)] w0 w49 := hP.addProg hb hr51
              refine seq_val (.pointer (some ⟨mg20.mb, 0, none⟩)) r (fun R => y_move r rfl) rfl fun fr r => ?_
              refine seq_val (.pointer (some ⟨mg20.mb, 0, none⟩)) r (fun R => y_move r rfl) rfl fun fr r => ?_
              obtain ⟨x53, hx53, hD⟩ := bindD_elim hD
              refine seq_call r (c_mem_Memory_Cap w49 x46.2.2.2 (hP.mem (i := 2) rfl) 0 hx53) (fun R hc => y_call r rfl cl42 hc) rfl ?_
              rintro _ w54 ⟨rfl, hb⟩
              refine ⟨_, rfl, fun fr r => ?_⟩
              have hP : Post No [roK 5 1 u8E a2_v a2, cellC b1 ((planC a0)).toArray 24, memK mg20 x46.2.2.2, progK Try.prog encBool (fu, (D.hazard_Held (fu + 1) a0 a1)) v41 (rg w38.heap.size w40.heap.size), progK Try.prog encNone (fu, (D.hazard_Clear (fu + 1) a0 x35.2.1)) v50 (rg w47.heap.size w49.heap.size)] w0 w54 := hP.below hb
              obtain ⟨x55, hx55, hD⟩ := bindD_elim hD
              refine seq_call r (c_prog_Run_None w54 (fu, (D.hazard_Clear (fu + 1) a0 x35.2.1)) x46.2.2.2 x53 9 (hP.sep.pk [4, 2] rfl rfl) hx55) (fun R hc => y_call r rfl cl40 hc) rfl ?_
              rintro _ w56 ⟨rfl, hq⟩
              refine ⟨_, rfl, fun fr r => ?_⟩
              have hP : Post No [roK 5 1 u8E a2_v a2, cellC b1 ((planC a0)).toArray 24, memK mg20 x55.2.2.2, progK Try.prog encBool (fu, (D.hazard_Held (fu + 1) a0 a1)) v41 (rg w38.heap.size w40.heap.size), progK Try.prog encNone (fu, (D.hazard_Clear (fu + 1) a0 x35.2.1)) v50 (rg w47.heap.size w49.heap.size)] w0 w56 := hP.setN (i := 2) rfl hq
              refine wpList_nil ?_
              refine wp_region_lit ?_
              refine seq_val (.int .i64 x35.2.1) r (fun R => y_move r rfl) rfl fun fr r => ?_
              refine seq_val (.int .i64 (IntKind.i64.wrap (x35.2.1 + 1))) r (fun R => y_bin r (u := (.int .i64 x35.2.1)) (u' := (.int .i64 1)) rfl rfl rfl rfl) rfl fun fr r => ?_
              refine seq_val (.int .i64 (IntKind.i64.wrap (x35.2.1 + 1))) r (fun R => y_assign r rfl) rfl fun fr r => ?_
              refine wpList_nil ?_
              exact nxy37 (x35.1, (IntKind.i64.wrap (x35.2.1 + 1)), x55.2.2.2) () _ _ _ hD r (hs_cons rfl (hs_cons rfl (hs_cons rfl (hs_cons rfl (hs_cons rfl (hs_cons rfl (hs_cons rfl (hs_cons rfl (hs_cons rfl (hs_cons rfl (hs_cons rfl hs_nil))))))))))) (hP.pick [0, 1, 2] rfl rfl)
          · skip
            have hD := (cond_f h39).symm.trans hD
            refine wp_exit ?_
            exact bky37 (x35.1, x35.2.1, x35.2.2) () _ _ _ hD r (hs_cons rfl (hs_cons rfl (hs_cons rfl (hs_cons rfl (hs_cons rfl (hs_cons rfl (hs_cons rfl (hs_cons rfl (hs_cons rfl (hs_cons rfl (hs_cons rfl hs_nil))))))))))) (hP.pick [0, 1, 2] rfl rfl)
        · skip
          rintro x57 γ58 fr w59 g r hP hD
          have hP : Post No [roK 5 1 u8E a2_v a2, cellC b1 ((planC a0)).toArray 24, memK mg20 x57.2.2] w0 w59 := hP
          refine wp_seq ?_
          refine wp_region_lit ?_
          refine seq_val (.agg (planC a0).toArray) r (fun R => y_load_agg r (cs := (planC a0)) (n := 6) rfl (hP.cell (i := 1) rfl) ta24 rfl) rfl fun fr r => ?_
          refine seq_val (.int .i64 a1) r (fun R => y_move r rfl) rfl fun fr r => ?_
          refine seq_call r (c_hazard_Held (F := No) (n := fu) (j := fu + 1) (fun _ h => h.elim) (by omega) a0 a1) (fun R hc => y_call r rfl cl44 hc) rfl ?_
          rintro _ w60 ⟨v61, rfl, hb, hr62⟩
          refine ⟨_, rfl, fun fr r => ?_⟩
          have hP : Post No [roK 5 1 u8E a2_v a2, cellC b1 ((planC a0)).toArray 24, memK mg20 x57.2.2, progK Try.prog encBool (fu, (D.hazard_Held (fu + 1) a0 a1)) v61 (rg w59.heap.size w60.heap.size)] w0 w60 := hP.addProg hb hr62
          refine seq_val (.pointer (some ⟨mg20.mb, 0, none⟩)) r (fun R => y_move r rfl) rfl fun fr r => ?_
          refine seq_val (.pointer (some ⟨mg20.mb, 0, none⟩)) r (fun R => y_move r rfl) rfl fun fr r => ?_
          obtain ⟨x64, hx64, hD⟩ := bindD_elim hD
          refine seq_call r (c_mem_Memory_Cap w60 x57.2.2 (hP.mem (i := 2) rfl) 0 hx64) (fun R hc => y_call r rfl cl42 hc) rfl ?_
          rintro _ w65 ⟨rfl, hb⟩
          refine ⟨_, rfl, fun fr r => ?_⟩
          have hP : Post No [roK 5 1 u8E a2_v a2, cellC b1 ((planC a0)).toArray 24, memK mg20 x57.2.2, progK Try.prog encBool (fu, (D.hazard_Held (fu + 1) a0 a1)) v61 (rg w59.heap.size w60.heap.size)] w0 w65 := hP.below hb
          obtain ⟨x66, hx66, hD⟩ := bindD_elim hD
          refine seq_call r (c_prog_Run_bool w65 (fu, (D.hazard_Held (fu + 1) a0 a1)) x57.2.2 x64 99 (hP.sep.pk [3, 2] rfl rfl) hx66) (fun R hc => y_call r rfl cl43 hc) rfl ?_
          rintro _ w67 ⟨rfl, hq⟩
          refine ⟨_, rfl, fun fr r => ?_⟩
          have hP : Post No [roK 5 1 u8E a2_v a2, cellC b1 ((planC a0)).toArray 24, memK mg20 x66.2.2.2, progK Try.prog encBool (fu, (D.hazard_Held (fu + 1) a0 a1)) v61 (rg w59.heap.size w60.heap.size)] w0 w67 := hP.setN (i := 2) rfl hq
          refine seq_val (.tuple #[(.bool x66.1), (.int .i64 x66.2.1), (.bool x66.2.2.1)]) r (fun R => y_move r rfl) rfl fun fr r => ?_
          refine seq_val (.bool x66.1) r (fun R => y_extract r (vs := #[(.bool x66.1), (.int .i64 x66.2.1), (.bool x66.2.2.1)]) rfl rfl) rfl fun fr r => ?_
          refine seq_val (.int .i64 x66.2.1) r (fun R => y_extract r (vs := #[(.bool x66.1), (.int .i64 x66.2.1), (.bool x66.2.2.1)]) rfl rfl) rfl fun fr r => ?_
          refine seq_val (.bool x66.2.2.1) r (fun R => y_extract r (vs := #[(.bool x66.1), (.int .i64 x66.2.1), (.bool x66.2.2.1)]) rfl rfl) rfl fun fr r => ?_
          refine seq_val (.bool x66.1) r (fun R => y_assign r rfl) rfl fun fr r => ?_
          refine seq_val (.int .i64 x66.2.1) r (fun R => y_assign r rfl) rfl fun fr r => ?_
          refine seq_val (.bool x66.2.2.1) r (fun R => y_assign r rfl) rfl fun fr r => ?_
          refine wpList_nil ?_
          refine wp_seq ?_
          have hP : Post No [roK 5 1 u8E a2_v a2, cellC b1 ((planC a0)).toArray 24, memK mg20 x66.2.2.2] w0 w67 := hP.pick [0, 1, 2] rfl rfl
          refine wp_joinG (N := 111) (Y := Bool) (G := Unit) (fun x γ => [(0, (.agg (planC a0).toArray)), (1, (.int .i64 a1)), (2, a2_v), (3, (.pointer (some ⟨b1, 0, none⟩))), (33, (.bool x12)), (7, (.pointer (some ⟨mg20.mb, 0, none⟩))), (38, (.bool false)), (8, (.int .i64 (minI (a2.length : Int) a0.threads))), (9, (.int .i64 x32.1)), (10, (.int .i64 x57.2.1)), (14, (.bool x66.1)), (15, (.int .i64 x66.2.1)), (16, (.bool x66.2.2.1)), (6, (.bool x))]) (fun x γ w => Post No [roK 5 1 u8E a2_v a2, cellC b1 ((planC a0)).toArray 24, memK mg20 x66.2.2.2] w0 w) hD ?_ ?_
          · skip
            rintro y68 RPy68 nxy68 hD
            refine wp_region_lit ?_
            refine seq_val (.bool x66.1) r (fun R => y_move r rfl) rfl fun fr r => ?_
            refine seq_val (.bool (!x66.1)) r (fun R => y_un r (u := (.bool x66.1)) rfl rfl) rfl fun fr r => ?_
            refine seq_val (.bool (!x66.1)) r (fun R => y_move r rfl) rfl fun fr r => ?_
            refine seq_split (!x66.1) (fun h69 => ?_) (fun h69 => ?_)
            · skip
              have hD := (cond_t h69).symm.trans hD
              refine seq_want r rfl rfl rfl (congrArg Value.bool h69) ?_
              refine seq_val (.bool x66.2.2.1) r (fun R => y_move r rfl) rfl fun fr r => ?_
              refine seq_val (.bool x66.2.2.1) r (fun R => y_pick r (b := true) (congrArg Value.bool h69) rfl) rfl fun fr r => ?_
              refine seq_val (.bool x66.2.2.1) r (fun R => y_move r rfl) rfl fun fr r => ?_
              refine seq_split x66.2.2.1 (fun h70 => ?_) (fun h70 => ?_)
              · skip
                have hD := (cond_t h70).symm.trans hD
                refine seq_want r rfl rfl rfl (congrArg Value.bool h70) ?_
                refine seq_val (.int .i64 x66.2.1) r (fun R => y_move r rfl) rfl fun fr r => ?_
                refine seq_want r rfl rfl rfl (congrArg Value.bool h70) ?_
                refine seq_val (.pointer (some ⟨b1, 1, none⟩)) r (fun R => y_fieldAddr r (o := 0) rfl fo24_1) rfl fun fr r => ?_
                refine seq_want r rfl rfl rfl (congrArg Value.bool h70) ?_
                refine seq_val (.int .i64 a0.threads) r (fun R => y_load_one r (v := (.int .i64 a0.threads)) rfl (hP.cell (i := 1) rfl) to3 rfl) rfl fun fr r => ?_
                refine seq_want r rfl rfl rfl (congrArg Value.bool h70) ?_
                refine seq_val (.int .i64 (IntKind.i64.wrap (3 * a0.threads))) r (fun R => y_bin r (u := (.int .i64 3)) (u' := (.int .i64 a0.threads)) rfl rfl rfl rfl) rfl fun fr r => ?_
                refine seq_want r rfl rfl rfl (congrArg Value.bool h70) ?_
                refine seq_val (.bool (x66.2.1 == (IntKind.i64.wrap (3 * a0.threads)))) r (fun R => y_bin r (u := (.int .i64 x66.2.1)) (u' := (.int .i64 (IntKind.i64.wrap (3 * a0.threads)))) rfl rfl rfl rfl) rfl fun fr r => ?_
                refine seq_val (.bool (x66.2.1 == (IntKind.i64.wrap (3 * a0.threads)))) r (fun R => y_pick r (b := true) (congrArg Value.bool h70) rfl) rfl fun fr r => ?_
                refine seq_val (.bool (x66.2.1 == (IntKind.i64.wrap (3 * a0.threads)))) r (fun R => y_assign r rfl) rfl fun fr r => ?_
                refine wpList_nil ?_
                exact nxy68 (x66.2.1 == (IntKind.i64.wrap (3 * a0.threads))) () _ _ _ hD r (hs_cons rfl (hs_cons rfl (hs_cons rfl (hs_cons rfl (hs_cons rfl (hs_cons rfl (hs_cons rfl (hs_cons rfl (hs_cons rfl (hs_cons rfl (hs_cons rfl (hs_cons rfl (hs_cons rfl (hs_cons rfl hs_nil)))))))))))))) (hP.pick [0, 1, 2] rfl rfl)
              · skip
                have hD := (cond_f h70).symm.trans hD
                refine seq_skip r rfl rfl rfl (v := .bool false) (congrArg Value.bool h70) (by simp [boolOf]) fun fr r => ?_
                refine seq_skip r rfl rfl rfl (v := .bool false) (congrArg Value.bool h70) (by simp [boolOf]) fun fr r => ?_
                refine seq_skip r rfl rfl rfl (v := .bool false) (congrArg Value.bool h70) (by simp [boolOf]) fun fr r => ?_
                refine seq_skip r rfl rfl rfl (v := .bool false) (congrArg Value.bool h70) (by simp [boolOf]) fun fr r => ?_
                refine seq_skip r rfl rfl rfl (v := .bool false) (congrArg Value.bool h70) (by simp [boolOf]) fun fr r => ?_
                refine seq_val (.bool false) r (fun R => y_pick r (b := false) (congrArg Value.bool h70) rfl) rfl fun fr r => ?_
                refine seq_val (.bool false) r (fun R => y_assign r rfl) rfl fun fr r => ?_
                refine wpList_nil ?_
                exact nxy68 false () _ _ _ hD r (hs_cons rfl (hs_cons rfl (hs_cons rfl (hs_cons rfl (hs_cons rfl (hs_cons rfl (hs_cons rfl (hs_cons rfl (hs_cons rfl (hs_cons rfl (hs_cons rfl (hs_cons rfl (hs_cons rfl (hs_cons rfl hs_nil)))))))))))))) (hP.pick [0, 1, 2] rfl rfl)
            · skip
              have hD := (cond_f h69).symm.trans hD
              refine seq_skip r rfl rfl rfl (v := .bool false) (congrArg Value.bool h69) (by simp [boolOf]) fun fr r => ?_
              refine seq_val (.bool false) r (fun R => y_pick r (b := false) (congrArg Value.bool h69) rfl) rfl fun fr r => ?_
              refine seq_val (.bool false) r (fun R => y_move r rfl) rfl fun fr r => ?_
              refine seq_skip r rfl rfl rfl (v := .bool false) (congrArg Value.bool (rfl : false = _)) (by simp [boolOf]) fun fr r => ?_
              refine seq_skip r rfl rfl rfl (v := .bool false) (congrArg Value.bool (rfl : false = _)) (by simp [boolOf]) fun fr r => ?_
              refine seq_skip r rfl rfl rfl (v := .bool false) (congrArg Value.bool (rfl : false = _)) (by simp [boolOf]) fun fr r => ?_
              refine seq_skip r rfl rfl rfl (v := .bool false) (congrArg Value.bool (rfl : false = _)) (by simp [boolOf]) fun fr r => ?_
              refine seq_skip r rfl rfl rfl (v := .bool false) (congrArg Value.bool (rfl : false = _)) (by simp [boolOf]) fun fr r => ?_
              refine seq_val (.bool false) r (fun R => y_pick r (b := false) (congrArg Value.bool (rfl : false = _)) rfl) rfl fun fr r => ?_
              refine seq_val (.bool false) r (fun R => y_assign r rfl) rfl fun fr r => ?_
              refine wpList_nil ?_
              exact nxy68 false () _ _ _ hD r (hs_cons rfl (hs_cons rfl (hs_cons rfl (hs_cons rfl (hs_cons rfl (hs_cons rfl (hs_cons rfl (hs_cons rfl (hs_cons rfl (hs_cons rfl (hs_cons rfl (hs_cons rfl (hs_cons rfl (hs_cons rfl hs_nil)))))))))))))) (hP.pick [0, 1, 2] rfl rfl)
          · skip
            rintro x71 γ72 fr w73 g r hP hD
            have hP : Post No [roK 5 1 u8E a2_v a2, cellC b1 ((planC a0)).toArray 24, memK mg20 x66.2.2.2] w0 w73 := hP
            refine wp_ret ?_
            have hv : x71 = res := Option.some.inj hD
            try dsimp only [Exit.then, Exit.inBlock]
            refine ret_tmp (fn := Try.f8) r (t := 6) rfl (v := (.bool x71)) rfl ?_
            subst hv
            exact ⟨rfl, hP.chg.below⟩

end Go.Proofs.Ytphnnjiaiemkcaa.Wk
