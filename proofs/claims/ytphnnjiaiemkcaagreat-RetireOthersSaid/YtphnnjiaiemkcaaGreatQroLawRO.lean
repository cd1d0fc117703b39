/- Written by a program of ours (wip/gen.py): a law -/
import Derived.Test.YtphnnjiaiemkcaaGreatQroL11
set_option linter.unusedVariables false
namespace Go.Proofs.YtphnnjiaiemkcaaGreat.Wk
open Go.RowKit
theorem cl12 : callable Tryz.prog 12 = true := by kernel_rfl

theorem cl13 : callable Tryz.prog 13 = true := by kernel_rfl

theorem cl14 : callable Tryz.prog 14 = true := by kernel_rfl

theorem cl15 : callable Tryz.prog 15 = true := by kernel_rfl

theorem cl19 : callable Tryz.prog 19 = true := by kernel_rfl

theorem cl21 : callable Tryz.prog 21 = true := by kernel_rfl

def D.cubiclelaw11_RetireOthers (fu : Nat) (a0 : Plan) (a1 : List Int) : Option (Bool) := (Option.bind ((D.cubiclelaw11_awake fu ).bind (fun (x6 : Bool) => (bif (!x6) then (some true) else (bif (!(D.cubiclelaw11_few a0)) then (some true) else (bif (decide ((a1.length : Int) > 40)) then (some true) else (some (decide (a0.threads < 2)))))))) (fun (x12 : Bool) => (bif x12 then ((D.cubiclelaw11_awake fu ).bind (fun (x16 : Bool) => (some x16))) else ((D.cubiclelaw11_popped fu a0 (⟨0, 2, 0⟩ : State)).bind (fun (x18 : Mem) => (loopThen (fun (x24 : List Int × List Int × Int × Mem) => (bif (decide (x24.2.2.1 < (a1.length : Int))) then ((getI a1 x24.2.2.1).bind (fun (x29 : Int) => (Option.bind (bif (decide (x29 < 0)) then (some true) else (bif (decide (x29 ≥ a0.nodes)) then (some true) else ((D.cubicleref09_Has fu x24.1 x29).bind (fun (x33 : Bool) => (bif x33 then (some true) else ((D.cubicleref09_Has fu x24.2.1 x29).bind (fun (x36 : Bool) => (some x36)))))))) (fun (x38 : Bool) => (bif x38 then (some (Lp.next (x24.1, x24.2.1, (IntKind.i64.wrap (x24.2.2.1 + 1)), x24.2.2.2))) else ((D.mem_Memory_Cap fu x24.2.2.2 0).bind (fun (x46 : Cap) => ((D.prog_Run_int fu (fu, (D.retire_Put a0 (x24.2.2.1.tmod 2) x29)) x24.2.2.2 x46 9).bind (fun (x48 : Int × Int × Bool × Mem) => (Option.bind (bif (decide (x48.1 > 0)) then (some ((x24.2.2.1.tmod 2) == 0)) else (some false)) (fun (x52 : Bool) => (Option.bind (bif x52 then ((appD x24.1 ([x29])).bind (fun (x61 : List Int) => (some x61))) else (some x24.1)) (fun (x65 : List Int) => (Option.bind (bif (decide (x48.1 > 0)) then (some ((x24.2.2.1.tmod 2) == 1)) else (some false)) (fun (x70 : Bool) => (Option.bind (bif x70 then ((appD x24.2.1 ([x29])).bind (fun (x79 : List Int) => (some x79))) else (some x24.2.1)) (fun (x83 : List Int) => (some (Lp.next (x65, x83, (IntKind.i64.wrap (x24.2.2.1 + 1)), x48.2.2.2)))))))))))))))))))) else (some (Lp.brk (x24.1, x24.2.1, x24.2.2.1, x24.2.2.2))))) fu ([], [], 0, x18) (fun (x86 : List Int × List Int × Int × Mem) => ((D.mem_Memory_Cap fu x86.2.2.2 0).bind (fun (x93 : Cap) => ((D.prog_Run_int fu (fu, (D.retire_Scan (fu + 1) a0 0)) x86.2.2.2 x93 100000).bind (fun (x95 : Int × Int × Bool × Mem) => (Option.bind (bif (x95.1 == (x86.1.length : Int)) then ((D.retire_List fu a0 x95.2.2.2 0 0).bind (fun (x99 : List Int) => (bif ((x99.length : Int) == 0) then ((D.retire_List fu a0 x95.2.2.2 0 1).bind (fun (x104 : List Int) => ((D.cubicleref09_Same fu x104 x86.2.1).bind (fun (x108 : Bool) => (some x108))))) else (some false)))) else (some false)) (fun (x110 : Bool) => (some x110))))))))))))))

set_option maxRecDepth 20000 in
set_option maxHeartbeats 2000000 in
theorem c_cubiclelaw11_RetireOthers {fu : Nat} (w0 : World) (a0 : Plan) {a1_v : Value} (a1 : List Int) (a1_h : RoAt 3 1 i64 a1_v a1 w0) {res : Bool} (hD : D.cubiclelaw11_RetireOthers fu a0 a1 = some res) :
    Calls Tryz.prog 3 #[.agg (planC a0).toArray, a1_v] w0 (PureRes (.bool res) w0) := by
  refine enter (l := [.agg (planC a0).toArray, a1_v]) Tryz.func3 rfl 130 rfl rfl fun fr r => ?_
  have hP : Post No [] w0 w0 := Post.nil w0
  have hP : Post No [roK 3 1 i64 a1_v a1] w0 w0 := hP.addRo norw_nil a1_h rfl a1_h.lt
  unfold D.cubiclelaw11_RetireOthers at hD
  refine wp_seq ?_
  refine wp_region_lit ?_
  refine seq_new (.cells ((planC a0)).toArray 23 (0, 0)) r (fun R => y_box r (v := (.agg (planC a0).toArray)) rfl) rfl fun fr b1 w2 n3 r => ?_
  have hP : Post No [roK 3 1 i64 a1_v a1, cellC b1 ((planC a0)).toArray 23] w0 w2 := hP.new n3
  refine seq_val (.bool false) r (fun R => y_assign r rfl) rfl fun fr r => ?_
  refine wpList_nil ?_
  refine wp_seq ?_
  refine wp_seq ?_
  refine wp_joinG (N := 130) (Y := Bool) (G := Unit) (fun x γ => [(0, (.agg (planC a0).toArray)), (1, a1_v), (2, (.pointer (some ⟨b1, 0, none⟩))), (4, (.bool false)), (32, (.bool x))]) (fun x γ w => Post No [roK 3 1 i64 a1_v a1, cellC b1 ((planC a0)).toArray 23] w0 w) hD ?_ ?_
  · skip
    rintro y5 RPy5 nxy5 hD
    refine wp_region_lit ?_
    obtain ⟨x6, hx6, hD⟩ := bindD_elim hD
    refine seq_call r (c_cubiclelaw11_awake w2  hx6) (fun R hc => y_call r rfl cl12 hc) rfl ?_
    rintro _ w7 ⟨rfl, hb⟩
    refine ⟨_, rfl, fun fr r => ?_⟩
    have hP : Post No [roK 3 1 i64 a1_v a1, cellC b1 ((planC a0)).toArray 23] w0 w7 := hP.below hb
    refine seq_val (.bool (!x6)) r (fun R => y_un r (u := (.bool x6)) rfl rfl) rfl fun fr r => ?_
    refine seq_val (.bool (!x6)) r (fun R => y_move r rfl) rfl fun fr r => ?_
    refine seq_split (!x6) (fun h8 => ?_) (fun h8 => ?_)
    · skip
      have hD := (cond_t h8).symm.trans hD
      refine seq_skip r rfl rfl rfl (v := .bool true) (congrArg Value.bool h8) (by simp [boolOf]) fun fr r => ?_
      refine seq_skip r rfl rfl rfl (v := .bool true) (congrArg Value.bool h8) (by simp [boolOf]) fun fr r => ?_
      refine seq_skip r rfl rfl rfl (v := .bool true) (congrArg Value.bool h8) (by simp [boolOf]) fun fr r => ?_
      refine seq_val (.bool true) r (fun R => y_pick r (b := true) (congrArg Value.bool h8) rfl) rfl fun fr r => ?_
      refine seq_val (.bool true) r (fun R => y_move r rfl) rfl fun fr r => ?_
      refine seq_skip r rfl rfl rfl (v := .bool true) (congrArg Value.bool (rfl : true = _)) (by simp [boolOf]) fun fr r => ?_
      refine seq_skip r rfl rfl rfl (v := .bool true) (congrArg Value.bool (rfl : true = _)) (by simp [boolOf]) fun fr r => ?_
      refine seq_skip r rfl rfl rfl (v := .bool true) (congrArg Value.bool (rfl : true = _)) (by simp [boolOf]) fun fr r => ?_
      refine seq_val (.bool true) r (fun R => y_pick r (b := true) (congrArg Value.bool (rfl : true = _)) rfl) rfl fun fr r => ?_
      refine seq_val (.bool true) r (fun R => y_move r rfl) rfl fun fr r => ?_
      refine seq_skip r rfl rfl rfl (v := .bool true) (congrArg Value.bool (rfl : true = _)) (by simp [boolOf]) fun fr r => ?_
      refine seq_skip r rfl rfl rfl (v := .bool true) (congrArg Value.bool (rfl : true = _)) (by simp [boolOf]) fun fr r => ?_
      refine seq_skip r rfl rfl rfl (v := .bool true) (congrArg Value.bool (rfl : true = _)) (by simp [boolOf]) fun fr r => ?_
      refine seq_val (.bool true) r (fun R => y_pick r (b := true) (congrArg Value.bool (rfl : true = _)) rfl) rfl fun fr r => ?_
      refine wpList_nil ?_
      exact nxy5 true () _ _ _ hD r (hs_cons rfl (hs_cons rfl (hs_cons rfl (hs_cons rfl (hs_cons rfl hs_nil))))) (hP.pick [0, 1] rfl rfl)
    · skip
      have hD := (cond_f h8).symm.trans hD
      refine seq_want r rfl rfl rfl (congrArg Value.bool h8) ?_
      refine seq_val (.agg (planC a0).toArray) r (fun R => y_load_agg r (cs := (planC a0)) (n := 6) rfl (hP.cell (i := 1) rfl) ta23 rfl) rfl fun fr r => ?_
      refine seq_want r rfl rfl rfl (congrArg Value.bool h8) ?_
      refine seq_call r (c_cubiclelaw11_few w7 a0) (fun R hc => y_call r rfl cl13 hc) rfl ?_
      rintro _ w9 ⟨rfl, hb⟩
      refine ⟨_, rfl, fun fr r => ?_⟩
      have hP : Post No [roK 3 1 i64 a1_v a1, cellC b1 ((planC a0)).toArray 23] w0 w9 := hP.below hb
      refine seq_want r rfl rfl rfl (congrArg Value.bool h8) ?_
      refine seq_val (.bool (!(D.cubiclelaw11_few a0))) r (fun R => y_un r (u := (.bool (D.cubiclelaw11_few a0))) rfl rfl) rfl fun fr r => ?_
      refine seq_val (.bool (!(D.cubiclelaw11_few a0))) r (fun R => y_pick r (b := false) (congrArg Value.bool h8) rfl) rfl fun fr r => ?_
      refine seq_val (.bool (!(D.cubiclelaw11_few a0))) r (fun R => y_move r rfl) rfl fun fr r => ?_
      refine seq_split (!(D.cubiclelaw11_few a0)) (fun h10 => ?_) (fun h10 => ?_)
      · skip
        have hD := (cond_t h10).symm.trans hD
        refine seq_skip r rfl rfl rfl (v := .bool true) (congrArg Value.bool h10) (by simp [boolOf]) fun fr r => ?_
        refine seq_skip r rfl rfl rfl (v := .bool true) (congrArg Value.bool h10) (by simp [boolOf]) fun fr r => ?_
        refine seq_skip r rfl rfl rfl (v := .bool true) (congrArg Value.bool h10) (by simp [boolOf]) fun fr r => ?_
        refine seq_val (.bool true) r (fun R => y_pick r (b := true) (congrArg Value.bool h10) rfl) rfl fun fr r => ?_
        refine seq_val (.bool true) r (fun R => y_move r rfl) rfl fun fr r => ?_
        refine seq_skip r rfl rfl rfl (v := .bool true) (congrArg Value.bool (rfl : true = _)) (by simp [boolOf]) fun fr r => ?_
        refine seq_skip r rfl rfl rfl (v := .bool true) (congrArg Value.bool (rfl : true = _)) (by simp [boolOf]) fun fr r => ?_
        refine seq_skip r rfl rfl rfl (v := .bool true) (congrArg Value.bool (rfl : true = _)) (by simp [boolOf]) fun fr r => ?_
        refine seq_val (.bool true) r (fun R => y_pick r (b := true) (congrArg Value.bool (rfl : true = _)) rfl) rfl fun fr r => ?_
        refine wpList_nil ?_
        exact nxy5 true () _ _ _ hD r (hs_cons rfl (hs_cons rfl (hs_cons rfl (hs_cons rfl (hs_cons rfl hs_nil))))) (hP.pick [0, 1] rfl rfl)
      · skip
        have hD := (cond_f h10).symm.trans hD
        refine seq_want r rfl rfl rfl (congrArg Value.bool h10) ?_
        refine seq_val a1_v r (fun R => y_move r rfl) rfl fun fr r => ?_
        refine seq_want r rfl rfl rfl (congrArg Value.bool h10) ?_
        refine seq_val (.int .i64 (a1.length : Int)) r (fun R => y_rowLen r (hP.ro (i := 0) rfl) is24 rfl) rfl fun fr r => ?_
        refine seq_want r rfl rfl rfl (congrArg Value.bool h10) ?_
        refine seq_val (.bool (decide ((a1.length : Int) > 40))) r (fun R => y_bin r (u := (.int .i64 (a1.length : Int))) (u' := (.int .i64 40)) rfl rfl rfl rfl) rfl fun fr r => ?_
        refine seq_val (.bool (decide ((a1.length : Int) > 40))) r (fun R => y_pick r (b := false) (congrArg Value.bool h10) rfl) rfl fun fr r => ?_
        refine seq_val (.bool (decide ((a1.length : Int) > 40))) r (fun R => y_move r rfl) rfl fun fr r => ?_
        refine seq_split (decide ((a1.length : Int) > 40)) (fun h11 => ?_) (fun h11 => ?_)
        · skip
          have hD := (cond_t h11).symm.trans hD
          refine seq_skip r rfl rfl rfl (v := .bool true) (congrArg Value.bool h11) (by simp [boolOf]) fun fr r => ?_
          refine seq_skip r rfl rfl rfl (v := .bool true) (congrArg Value.bool h11) (by simp [boolOf]) fun fr r => ?_
          refine seq_skip r rfl rfl rfl (v := .bool true) (congrArg Value.bool h11) (by simp [boolOf]) fun fr r => ?_
          refine seq_val (.bool true) r (fun R => y_pick r (b := true) (congrArg Value.bool h11) rfl) rfl fun fr r => ?_
          refine wpList_nil ?_
          exact nxy5 true () _ _ _ hD r (hs_cons rfl (hs_cons rfl (hs_cons rfl (hs_cons rfl (hs_cons rfl hs_nil))))) (hP.pick [0, 1] rfl rfl)
        · skip
          have hD := (cond_f h11).symm.trans hD
          refine seq_want r rfl rfl rfl (congrArg Value.bool h11) ?_
          refine seq_val (.pointer (some ⟨b1, 1, none⟩)) r (fun R => y_fieldAddr r (o := 0) rfl fo23_1) rfl fun fr r => ?_
          refine seq_want r rfl rfl rfl (congrArg Value.bool h11) ?_
          refine seq_val (.int .i64 a0.threads) r (fun R => y_load_one r (v := (.int .i64 a0.threads)) rfl (hP.cell (i := 1) rfl) to3 rfl) rfl fun fr r => ?_
          refine seq_want r rfl rfl rfl (congrArg Value.bool h11) ?_
          refine seq_val (.bool (decide (a0.threads < 2))) r (fun R => y_bin r (u := (.int .i64 a0.threads)) (u' := (.int .i64 2)) rfl rfl rfl rfl) rfl fun fr r => ?_
          refine seq_val (.bool (decide (a0.threads < 2))) r (fun R => y_pick r (b := false) (congrArg Value.bool h11) rfl) rfl fun fr r => ?_
          refine wpList_nil ?_
          exact nxy5 (decide (a0.threads < 2)) () _ _ _ hD r (hs_cons rfl (hs_cons rfl (hs_cons rfl (hs_cons rfl (hs_cons rfl hs_nil))))) (hP.pick [0, 1] rfl rfl)
  · skip
    rintro x12 γ13 fr w14 g r hP hD
    have hP : Post No [roK 3 1 i64 a1_v a1, cellC b1 ((planC a0)).toArray 23] w0 w14 := hP
    refine wp_cond_split (t := x12) (r.ev rfl) (fun h15 => ?_) (fun h15 => ?_)
    · skip
      have hD := (cond_t h15).symm.trans hD
      refine wp_seq ?_
      refine wp_region_lit ?_
      obtain ⟨x16, hx16, hD⟩ := bindD_elim hD
      refine seq_call r (c_cubiclelaw11_awake w14  hx16) (fun R hc => y_call r rfl cl12 hc) rfl ?_
      rintro _ w17 ⟨rfl, hb⟩
      refine ⟨_, rfl, fun fr r => ?_⟩
      have hP : Post No [roK 3 1 i64 a1_v a1, cellC b1 ((planC a0)).toArray 23] w0 w17 := hP.below hb
      refine seq_val (.bool x16) r (fun R => y_assign r rfl) rfl fun fr r => ?_
      refine wpList_nil ?_
      refine wp_ret ?_
      have hv : x16 = res := Option.some.inj hD
      try dsimp only [Exit.then, Exit.inBlock]
      refine ret_tmp (fn := Tryz.f3) r (t := 4) rfl (v := (.bool x16)) rfl ?_
      subst hv
      exact ⟨rfl, hP.chg.below⟩
    · skip
      have hD := (cond_f h15).symm.trans hD
      refine wp_skip ?_
      refine wp_seq ?_
      refine wp_region_lit ?_
      refine seq_val (.agg (planC a0).toArray) r (fun R => y_load_agg r (cs := (planC a0)) (n := 6) rfl (hP.cell (i := 1) rfl) ta23 rfl) rfl fun fr r => ?_
      refine seq_val (.agg (stateC (⟨0, 2, 0⟩ : State)).toArray) r (fun R => y_build r (by kernel_rfl)) rfl fun fr r => ?_
      obtain ⟨x18, hx18, hD⟩ := bindD_elim hD
      refine seq_call r (c_cubiclelaw11_popped w14 a0 (⟨0, 2, 0⟩ : State) hx18) (fun R hc => y_call r rfl cl14 hc) rfl ?_
      rintro _ w19 ⟨mg20, rfl, hq⟩
      refine ⟨_, rfl, fun fr r => ?_⟩
      have hP : Post No [roK 3 1 i64 a1_v a1, cellC b1 ((planC a0)).toArray 23, memK mg20 x18] w0 w19 := hP.add hq
      refine seq_val (.pointer (some ⟨mg20.mb, 0, none⟩)) r (fun R => y_assign r rfl) rfl fun fr r => ?_
      refine wpList_nil ?_
      refine wp_seq ?_
      refine wp_seq ?_
      refine wp_region_lit ?_
      refine seq_val (.pointer (some ⟨mg20.mb, 0, none⟩)) r (fun R => y_move r rfl) rfl fun fr r => ?_
      refine seq_val (.bool false) r (fun R => y_bin r (u := (.pointer (some ⟨mg20.mb, 0, none⟩))) (u' := (.pointer none)) (v := (.bool false)) rfl rfl rfl rfl) rfl fun fr r => ?_
      refine wpList_nil ?_
      refine wp_cond_split (t := false) (r.ev rfl) (fun h => absurd ((rfl : false = _).symm.trans h) (by decide)) (fun _ => ?_)
      refine wp_skip ?_
      refine wp_seq ?_
      refine wp_region_lit ?_
      refine seq_val (Value.slice none 0 0) r (fun R => y_assign r rfl) rfl fun fr r => ?_
      refine seq_val (Value.slice none 0 0) r (fun R => y_assign r rfl) rfl fun fr r => ?_
      refine wpList_nil ?_
      refine wp_seq ?_
      refine wp_seq ?_
      refine wp_region_lit ?_
      refine seq_val (.int .i64 0) r (fun R => y_assign r rfl) rfl fun fr r => ?_
      refine wpList_nil ?_
      have hP : Post No [roK 3 1 i64 a1_v a1, cellC b1 ((planC a0)).toArray 23, memK mg20 x18, rowK 3 1 i64 (Value.slice none 0 0) ([])] w0 w19 := hP.nilRow 3 1 i64
      have hP : Post No [roK 3 1 i64 a1_v a1, cellC b1 ((planC a0)).toArray 23, memK mg20 x18, rowK 3 1 i64 (Value.slice none 0 0) ([]), rowK 3 1 i64 (Value.slice none 0 0) ([])] w0 w19 := hP.nilRow 3 1 i64
      refine wp_loopG (X := List Int × List Int × Int × Mem) (G := Value × Value) (x0 := ([], [], 0, x18)) (fun x γ => [(0, (.agg (planC a0).toArray)), (1, a1_v), (2, (.pointer (some ⟨b1, 0, none⟩))), (4, (.bool false)), (32, (.bool x12)), (5, (.pointer (some ⟨mg20.mb, 0, none⟩))), (38, (.bool false)), (6, γ.1), (7, γ.2), (8, (.int .i64 x.2.2.1))]) (fun x γ w => Post No [roK 3 1 i64 a1_v a1, cellC b1 ((planC a0)).toArray 23, memK mg20 x.2.2.2, rowK 3 1 i64 γ.1 x.1, rowK 3 1 i64 γ.2 x.2.1] w0 w) ((Value.slice none 0 0), (Value.slice none 0 0)) r (hs_cons rfl (hs_cons rfl (hs_cons rfl (hs_cons rfl (hs_cons rfl (hs_cons rfl (hs_cons rfl (hs_cons rfl (hs_cons rfl (hs_cons rfl hs_nil)))))))))) hP hD ?_ ?_
      · skip
        rintro x24 γ25 fr w27 g y26 RPy26 nxy26 bky26 rty26 r hP hD
        have hP : Post No [roK 3 1 i64 a1_v a1, cellC b1 ((planC a0)).toArray 23, memK mg20 x24.2.2.2, rowK 3 1 i64 γ25.1 x24.1, rowK 3 1 i64 γ25.2 x24.2.1] w0 w27 := hP
        refine wp_seq ?_
        refine wp_seq ?_
        refine wp_region_lit ?_
        refine seq_val (.int .i64 x24.2.2.1) r (fun R => y_move r rfl) rfl fun fr r => ?_
        refine seq_val a1_v r (fun R => y_move r rfl) rfl fun fr r => ?_
        refine seq_val (.int .i64 (a1.length : Int)) r (fun R => y_rowLen r (hP.ro (i := 0) rfl) is24 rfl) rfl fun fr r => ?_
        refine seq_val (.bool (decide (x24.2.2.1 < (a1.length : Int)))) r (fun R => y_bin r (u := (.int .i64 x24.2.2.1)) (u' := (.int .i64 (a1.length : Int))) rfl rfl rfl rfl) rfl fun fr r => ?_
        refine wpList_nil ?_
        refine wp_cond_split (t := (decide (x24.2.2.1 < (a1.length : Int)))) (r.ev rfl) (fun h28 => ?_) (fun h28 => ?_)
        · skip
          have hD := (cond_t h28).symm.trans hD
          refine wp_skip ?_
          refine wp_seq ?_
          refine wp_block ?_
          refine wp_seq ?_
          refine wp_region_lit ?_
          refine seq_val a1_v r (fun R => y_move r rfl) rfl fun fr r => ?_
          refine seq_val (.int .i64 x24.2.2.1) r (fun R => y_move r rfl) rfl fun fr r => ?_
          obtain ⟨x29, hx29, hD⟩ := bindD_elim hD
          refine seq_val (.pointer (some ⟨rowB a1_v, rowO a1_v + x24.2.2.1.toNat * 1, none⟩)) r (fun R => y_rowAddr r (hP.ro (i := 0) rfl) hx29 sl24 rfl rfl) rfl fun fr r => ?_
          refine seq_val (.int .i64 x29) r (fun R => y_loadL_one r (u := (.int .i64 x29)) (RoAt.at_ (f := i64) (x := x29) (hP.ro (i := 0) rfl) (fun _ => rfl) hx29) rfl to3) rfl fun fr r => ?_
          refine seq_val (.int .i64 x29) r (fun R => y_assign r rfl) rfl fun fr r => ?_
          refine wpList_nil ?_
          refine wp_seq ?_
          refine wp_seq ?_
          refine wp_joinG (N := 130) (Y := Bool) (G := Unit) (fun x γ => [(0, (.agg (planC a0).toArray)), (1, a1_v), (2, (.pointer (some ⟨b1, 0, none⟩))), (4, (.bool false)), (32, (.bool x12)), (5, (.pointer (some ⟨mg20.mb, 0, none⟩))), (38, (.bool false)), (6, γ25.1), (7, γ25.2), (8, (.int .i64 x24.2.2.1)), (42, (.bool (decide (x24.2.2.1 < (a1.length : Int))))), (9, (.int .i64 x29)), (66, (.bool x))]) (fun x γ w => Post No [roK 3 1 i64 a1_v a1, cellC b1 ((planC a0)).toArray 23, memK mg20 x24.2.2.2, rowK 3 1 i64 γ25.1 x24.1, rowK 3 1 i64 γ25.2 x24.2.1] w0 w) hD ?_ ?_
          · skip
            rintro y30 RPy30 nxy30 hD
            refine wp_region_lit ?_
            refine seq_val (.int .i64 x29) r (fun R => y_move r rfl) rfl fun fr r => ?_
            refine seq_val (.bool (decide (x29 < 0))) r (fun R => y_bin r (u := (.int .i64 x29)) (u' := (.int .i64 0)) rfl rfl rfl rfl) rfl fun fr r => ?_
            refine seq_val (.bool (decide (x29 < 0))) r (fun R => y_move r rfl) rfl fun fr r => ?_
            refine seq_split (decide (x29 < 0)) (fun h31 => ?_) (fun h31 => ?_)
            · skip
              have hD := (cond_t h31).symm.trans hD
              refine seq_skip r rfl rfl rfl (v := .bool true) (congrArg Value.bool h31) (by simp [boolOf]) fun fr r => ?_
              refine seq_skip r rfl rfl rfl (v := .bool true) (congrArg Value.bool h31) (by simp [boolOf]) fun fr r => ?_
              refine seq_skip r rfl rfl rfl (v := .bool true) (congrArg Value.bool h31) (by simp [boolOf]) fun fr r => ?_
              refine seq_skip r rfl rfl rfl (v := .bool true) (congrArg Value.bool h31) (by simp [boolOf]) fun fr r => ?_
              refine seq_val (.bool true) r (fun R => y_pick r (b := true) (congrArg Value.bool h31) rfl) rfl fun fr r => ?_
              refine seq_val (.bool true) r (fun R => y_move r rfl) rfl fun fr r => ?_
              refine seq_skip r rfl rfl rfl (v := .bool true) (congrArg Value.bool (rfl : true = _)) (by simp [boolOf]) fun fr r => ?_
              refine seq_skip r rfl rfl rfl (v := .bool true) (congrArg Value.bool (rfl : true = _)) (by simp [boolOf]) fun fr r => ?_
              refine seq_skip r rfl rfl rfl (v := .bool true) (congrArg Value.bool (rfl : true = _)) (by simp [boolOf]) fun fr r => ?_
              refine seq_val (.bool true) r (fun R => y_pick r (b := true) (congrArg Value.bool (rfl : true = _)) rfl) rfl fun fr r => ?_
              refine seq_val (.bool true) r (fun R => y_move r rfl) rfl fun fr r => ?_
              refine seq_skip r rfl rfl rfl (v := .bool true) (congrArg Value.bool (rfl : true = _)) (by simp [boolOf]) fun fr r => ?_
              refine seq_skip r rfl rfl rfl (v := .bool true) (congrArg Value.bool (rfl : true = _)) (by simp [boolOf]) fun fr r => ?_
              refine seq_skip r rfl rfl rfl (v := .bool true) (congrArg Value.bool (rfl : true = _)) (by simp [boolOf]) fun fr r => ?_
              refine seq_val (.bool true) r (fun R => y_pick r (b := true) (congrArg Value.bool (rfl : true = _)) rfl) rfl fun fr r => ?_
              refine wpList_nil ?_
              exact nxy30 true () _ _ _ hD r (hs_cons rfl (hs_cons rfl (hs_cons rfl (hs_cons rfl (hs_cons rfl (hs_cons rfl (hs_cons rfl (hs_cons rfl (hs_cons rfl (hs_cons rfl (hs_cons rfl (hs_cons rfl (hs_cons rfl hs_nil))))))))))))) (hP.pick [0, 1, 2, 3, 4] rfl rfl)
            · skip
              have hD := (cond_f h31).symm.trans hD
              refine seq_want r rfl rfl rfl (congrArg Value.bool h31) ?_
              refine seq_val (.int .i64 x29) r (fun R => y_move r rfl) rfl fun fr r => ?_
              refine seq_want r rfl rfl rfl (congrArg Value.bool h31) ?_
              refine seq_val (.pointer (some ⟨b1, 0, none⟩)) r (fun R => y_fieldAddr r (o := 0) rfl fo23_0) rfl fun fr r => ?_
              refine seq_want r rfl rfl rfl (congrArg Value.bool h31) ?_
              refine seq_val (.int .i64 a0.nodes) r (fun R => y_load_one r (v := (.int .i64 a0.nodes)) rfl (hP.cell (i := 1) rfl) to3 rfl) rfl fun fr r => ?_
              refine seq_want r rfl rfl rfl (congrArg Value.bool h31) ?_
              refine seq_val (.bool (decide (x29 ≥ a0.nodes))) r (fun R => y_bin r (u := (.int .i64 x29)) (u' := (.int .i64 a0.nodes)) rfl rfl rfl rfl) rfl fun fr r => ?_
              refine seq_val (.bool (decide (x29 ≥ a0.nodes))) r (fun R => y_pick r (b := false) (congrArg Value.bool h31) rfl) rfl fun fr r => ?_
              refine seq_val (.bool (decide (x29 ≥ a0.nodes))) r (fun R => y_move r rfl) rfl fun fr r => ?_
              refine seq_split (decide (x29 ≥ a0.nodes)) (fun h32 => ?_) (fun h32 => ?_)
              · skip
                have hD := (cond_t h32).symm.trans hD
                refine seq_skip r rfl rfl rfl (v := .bool true) (congrArg Value.bool h32) (by simp [boolOf]) fun fr r => ?_
                refine seq_skip r rfl rfl rfl (v := .bool true) (congrArg Value.bool h32) (by simp [boolOf]) fun fr r => ?_
                refine seq_skip r rfl rfl rfl (v := .bool true) (congrArg Value.bool h32) (by simp [boolOf]) fun fr r => ?_
                refine seq_val (.bool true) r (fun R => y_pick r (b := true) (congrArg Value.bool h32) rfl) rfl fun fr r => ?_
                refine seq_val (.bool true) r (fun R => y_move r rfl) rfl fun fr r => ?_
                refine seq_skip r rfl rfl rfl (v := .bool true) (congrArg Value.bool (rfl : true = _)) (by simp [boolOf]) fun fr r => ?_
                refine seq_skip r rfl rfl rfl (v := .bool true) (congrArg Value.bool (rfl : true = _)) (by simp [boolOf]) fun fr r => ?_
                refine seq_skip r rfl rfl rfl (v := .bool true) (congrArg Value.bool (rfl : true = _)) (by simp [boolOf]) fun fr r => ?_
                refine seq_val (.bool true) r (fun R => y_pick r (b := true) (congrArg Value.bool (rfl : true = _)) rfl) rfl fun fr r => ?_
                refine wpList_nil ?_
                exact nxy30 true () _ _ _ hD r (hs_cons rfl (hs_cons rfl (hs_cons rfl (hs_cons rfl (hs_cons rfl (hs_cons rfl (hs_cons rfl (hs_cons rfl (hs_cons rfl (hs_cons rfl (hs_cons rfl (hs_cons rfl (hs_cons rfl hs_nil))))))))))))) (hP.pick [0, 1, 2, 3, 4] rfl rfl)
              · skip
                have hD := (cond_f h32).symm.trans hD
                refine seq_want r rfl rfl rfl (congrArg Value.bool h32) ?_
                refine seq_val γ25.1 r (fun R => y_move r rfl) rfl fun fr r => ?_
                refine seq_want r rfl rfl rfl (congrArg Value.bool h32) ?_
                refine seq_val (.int .i64 x29) r (fun R => y_move r rfl) rfl fun fr r => ?_
                refine seq_want r rfl rfl rfl (congrArg Value.bool h32) ?_
                obtain ⟨x33, hx33, hD⟩ := bindD_elim hD
                refine seq_call r (c_cubicleref09_Has w27 x24.1 (hP.row (i := 3) rfl).ro x29 hx33) (fun R hc => y_call r rfl cl15 hc) rfl ?_
                rintro _ w34 ⟨rfl, hb⟩
                refine ⟨_, rfl, fun fr r => ?_⟩
                have hP : Post No [roK 3 1 i64 a1_v a1, cellC b1 ((planC a0)).toArray 23, memK mg20 x24.2.2.2, rowK 3 1 i64 γ25.1 x24.1, rowK 3 1 i64 γ25.2 x24.2.1] w0 w34 := hP.below hb
                refine seq_val (.bool x33) r (fun R => y_pick r (b := false) (congrArg Value.bool h32) rfl) rfl fun fr r => ?_
                refine seq_val (.bool x33) r (fun R => y_move r rfl) rfl fun fr r => ?_
                refine seq_split x33 (fun h35 => ?_) (fun h35 => ?_)
                · skip
                  have hD := (cond_t h35).symm.trans hD
                  refine seq_skip r rfl rfl rfl (v := .bool true) (congrArg Value.bool h35) (by simp [boolOf]) fun fr r => ?_
                  refine seq_skip r rfl rfl rfl (v := .bool true) (congrArg Value.bool h35) (by simp [boolOf]) fun fr r => ?_
                  refine seq_skip r rfl rfl rfl (v := .bool true) (congrArg Value.bool h35) (by simp [boolOf]) fun fr r => ?_
                  refine seq_val (.bool true) r (fun R => y_pick r (b := true) (congrArg Value.bool h35) rfl) rfl fun fr r => ?_
                  refine wpList_nil ?_
                  exact nxy30 true () _ _ _ hD r (hs_cons rfl (hs_cons rfl (hs_cons rfl (hs_cons rfl (hs_cons rfl (hs_cons rfl (hs_cons rfl (hs_cons rfl (hs_cons rfl (hs_cons rfl (hs_cons rfl (hs_cons rfl (hs_cons rfl hs_nil))))))))))))) (hP.pick [0, 1, 2, 3, 4] rfl rfl)
                · skip
                  have hD := (cond_f h35).symm.trans hD
                  refine seq_want r rfl rfl rfl (congrArg Value.bool h35) ?_
                  refine seq_val γ25.2 r (fun R => y_move r rfl) rfl fun fr r => ?_
                  refine seq_want r rfl rfl rfl (congrArg Value.bool h35) ?_
                  refine seq_val (.int .i64 x29) r (fun R => y_move r rfl) rfl fun fr r => ?_
                  refine seq_want r rfl rfl rfl (congrArg Value.bool h35) ?_
                  obtain ⟨x36, hx36, hD⟩ := bindD_elim hD
                  refine seq_call r (c_cubicleref09_Has w34 x24.2.1 (hP.row (i := 4) rfl).ro x29 hx36) (fun R hc => y_call r rfl cl15 hc) rfl ?_
                  rintro _ w37 ⟨rfl, hb⟩
                  refine ⟨_, rfl, fun fr r => ?_⟩
                  have hP : Post No [roK 3 1 i64 a1_v a1, cellC b1 ((planC a0)).toArray 23, memK mg20 x24.2.2.2, rowK 3 1 i64 γ25.1 x24.1, rowK 3 1 i64 γ25.2 x24.2.1] w0 w37 := hP.below hb
                  refine seq_val (.bool x36) r (fun R => y_pick r (b := false) (congrArg Value.bool h35) rfl) rfl fun fr r => ?_
                  refine wpList_nil ?_
                  exact nxy30 x36 () _ _ _ hD r (hs_cons rfl (hs_cons rfl (hs_cons rfl (hs_cons rfl (hs_cons rfl (hs_cons rfl (hs_cons rfl (hs_cons rfl (hs_cons rfl (hs_cons rfl (hs_cons rfl (hs_cons rfl (hs_cons rfl hs_nil))))))))))))) (hP.pick [0, 1, 2, 3, 4] rfl rfl)
          · skip
            rintro x38 γ39 fr w40 g r hP hD
            have hP : Post No [roK 3 1 i64 a1_v a1, cellC b1 ((planC a0)).toArray 23, memK mg20 x24.2.2.2, rowK 3 1 i64 γ25.1 x24.1, rowK 3 1 i64 γ25.2 x24.2.1] w0 w40 := hP
            refine wp_cond_split (t := x38) (r.ev rfl) (fun h41 => ?_) (fun h41 => ?_)
            · skip
              have hD := (cond_t h41).symm.trans hD
              refine wp_exit ?_
              refine wp_region_lit ?_
              refine seq_val (.int .i64 x24.2.2.1) r (fun R => y_move r rfl) rfl fun fr r => ?_
              refine seq_val (.int .i64 (IntKind.i64.wrap (x24.2.2.1 + 1))) r (fun R => y_bin r (u := (.int .i64 x24.2.2.1)) (u' := (.int .i64 1)) rfl rfl rfl rfl) rfl fun fr r => ?_
              refine seq_val (.int .i64 (IntKind.i64.wrap (x24.2.2.1 + 1))) r (fun R => y_assign r rfl) rfl fun fr r => ?_
              refine wpList_nil ?_
              exact nxy26 (x24.1, x24.2.1, (IntKind.i64.wrap (x24.2.2.1 + 1)), x24.2.2.2) (γ25.1, γ25.2) _ _ _ hD r (hs_cons rfl (hs_cons rfl (hs_cons rfl (hs_cons rfl (hs_cons rfl (hs_cons rfl (hs_cons rfl (hs_cons rfl (hs_cons rfl (hs_cons rfl hs_nil)))))))))) (hP.pick [0, 1, 2, 3, 4] rfl rfl)
            · skip
              have hD := (cond_f h41).symm.trans hD
              refine wp_skip ?_
              refine wp_seq ?_
              refine wp_region_lit ?_
              refine seq_val (.agg (planC a0).toArray) r (fun R => y_load_agg r (cs := (planC a0)) (n := 6) rfl (hP.cell (i := 1) rfl) ta23 rfl) rfl fun fr r => ?_
              refine seq_val (.int .i64 x24.2.2.1) r (fun R => y_move r rfl) rfl fun fr r => ?_
              refine seq_val (.int .i64 (x24.2.2.1.tmod 2)) r (fun R => y_bin r (u := (.int .i64 x24.2.2.1)) (u' := (.int .i64 2)) rfl rfl rfl rfl) rfl fun fr r => ?_
              refine seq_val (.int .i64 x29) r (fun R => y_move r rfl) rfl fun fr r => ?_
              refine seq_call r (c_retire_Put (F := No) (n := fu) (fun _ h => h.elim) a0 (x24.2.2.1.tmod 2) x29) (fun R hc => y_call r rfl cl17 hc) rfl ?_
              rintro _ w42 ⟨v43, rfl, hb, hr44⟩
              refine ⟨_, rfl, fun fr r => ?_⟩
              have hP : Post No [roK 3 1 i64 a1_v a1, cellC b1 ((planC a0)).toArray 23, memK mg20 x24.2.2.2, rowK 3 1 i64 γ25.1 x24.1, rowK 3 1 i64 γ25.2 x24.2.1, progK Tryz.prog encInt (fu, (D.retire_Put a0 (x24.2.2.1.tmod 2) x29)) v43 (rg w40.heap.size w42.heap.size)] w0 w42 := hP.addProg hb hr44
              refine seq_val (.pointer (some ⟨mg20.mb, 0, none⟩)) r (fun R => y_move r rfl) rfl fun fr r => ?_
              refine seq_val (.pointer (some ⟨mg20.mb, 0, none⟩)) r (fun R => y_move r rfl) rfl fun fr r => ?_
              obtain ⟨x46, hx46, hD⟩ := bindD_elim hD
              refine seq_call r (c_mem_Memory_Cap w42 x24.2.2.2 (hP.mem (i := 2) rfl) 0 hx46) (fun R hc => y_call r rfl cl18 hc) rfl ?_
              rintro _ w47 ⟨rfl, hb⟩
              refine ⟨_, rfl, fun fr r => ?_⟩
              have hP : Post No [roK 3 1 i64 a1_v a1, cellC b1 ((planC a0)).toArray 23, memK mg20 x24.2.2.2, rowK 3 1 i64 γ25.1 x24.1, rowK 3 1 i64 γ25.2 x24.2.1, progK Tryz.prog encInt (fu, (D.retire_Put a0 (x24.2.2.1.tmod 2) x29)) v43 (rg w40.heap.size w42.heap.size)] w0 w47 := hP.below hb
              obtain ⟨x48, hx48, hD⟩ := bindD_elim hD
              refine seq_call r (c_prog_Run_int w47 (fu, (D.retire_Put a0 (x24.2.2.1.tmod 2) x29)) x24.2.2.2 x46 9 (hP.sep.pk [5, 2] rfl rfl) hx48) (fun R hc => y_call r rfl cl16 hc) rfl ?_
              rintro _ w49 ⟨rfl, hq⟩
              refine ⟨_, rfl, fun fr r => ?_⟩
              have hP : Post No [roK 3 1 i64 a1_v a1, cellC b1 ((planC a0)).toArray 23, memK mg20 x48.2.2.2, rowK 3 1 i64 γ25.1 x24.1, rowK 3 1 i64 γ25.2 x24.2.1, progK Tryz.prog encInt (fu, (D.retire_Put a0 (x24.2.2.1.tmod 2) x29)) v43 (rg w40.heap.size w42.heap.size)] w0 w49 := hP.setN (i := 2) rfl hq
              refine seq_val (.tuple #[(.int .i64 x48.1), (.int .i64 x48.2.1), (.bool x48.2.2.1)]) r (fun R => y_move r rfl) rfl fun fr r => ?_
              refine seq_val (.int .i64 x48.1) r (fun R => y_extract r (vs := #[(.int .i64 x48.1), (.int .i64 x48.2.1), (.bool x48.2.2.1)]) rfl rfl) rfl fun fr r => ?_
              refine seq_val (.int .i64 x48.2.1) r (fun R => y_extract r (vs := #[(.int .i64 x48.1), (.int .i64 x48.2.1), (.bool x48.2.2.1)]) rfl rfl) rfl fun fr r => ?_
              refine seq_val (.bool x48.2.2.1) r (fun R => y_extract r (vs := #[(.int .i64 x48.1), (.int .i64 x48.2.1), (.bool x48.2.2.1)]) rfl rfl) rfl fun fr r => ?_
              refine seq_val (.int .i64 x48.1) r (fun R => y_assign r rfl) rfl fun fr r => ?_
              refine seq_val (.int .i64 x48.2.1) r (fun R => y_assign r rfl) rfl fun fr r => ?_
              refine seq_val (.bool x48.2.2.1) r (fun R => y_assign r rfl) rfl fun fr r => ?_
              refine wpList_nil ?_
              refine wp_seq ?_
              refine wp_seq ?_
              have hP : Post No [roK 3 1 i64 a1_v a1, cellC b1 ((planC a0)).toArray 23, memK mg20 x48.2.2.2, rowK 3 1 i64 γ25.1 x24.1, rowK 3 1 i64 γ25.2 x24.2.1] w0 w49 := hP.pick [0, 1, 2, 3, 4] rfl rfl
              refine wp_joinG (N := 130) (Y := Bool) (G := Unit) (fun x γ => [(0, (.agg (planC a0).toArray)), (1, a1_v), (2, (.pointer (some ⟨b1, 0, none⟩))), (4, (.bool false)), (32, (.bool x12)), (5, (.pointer (some ⟨mg20.mb, 0, none⟩))), (38, (.bool false)), (6, γ25.1), (7, γ25.2), (8, (.int .i64 x24.2.2.1)), (42, (.bool (decide (x24.2.2.1 < (a1.length : Int))))), (9, (.int .i64 x29)), (66, (.bool x38)), (10, (.int .i64 x48.1)), (86, (.bool x))]) (fun x γ w => Post No [roK 3 1 i64 a1_v a1, cellC b1 ((planC a0)).toArray 23, memK mg20 x48.2.2.2, rowK 3 1 i64 γ25.1 x24.1, rowK 3 1 i64 γ25.2 x24.2.1] w0 w) hD ?_ ?_
              · skip
                rintro y50 RPy50 nxy50 hD
                refine wp_region_lit ?_
                refine seq_val (.int .i64 x48.1) r (fun R => y_move r rfl) rfl fun fr r => ?_
                refine seq_val (.bool (decide (x48.1 > 0))) r (fun R => y_bin r (u := (.int .i64 x48.1)) (u' := (.int .i64 0)) rfl rfl rfl rfl) rfl fun fr r => ?_
                refine seq_val (.bool (decide (x48.1 > 0))) r (fun R => y_move r rfl) rfl fun fr r => ?_
                refine seq_split (decide (x48.1 > 0)) (fun h51 => ?_) (fun h51 => ?_)
                · skip
                  have hD := (cond_t h51).symm.trans hD
                  refine seq_want r rfl rfl rfl (congrArg Value.bool h51) ?_
                  refine seq_val (.int .i64 x24.2.2.1) r (fun R => y_move r rfl) rfl fun fr r => ?_
                  refine seq_want r rfl rfl rfl (congrArg Value.bool h51) ?_
                  refine seq_val (.int .i64 (x24.2.2.1.tmod 2)) r (fun R => y_bin r (u := (.int .i64 x24.2.2.1)) (u' := (.int .i64 2)) rfl rfl rfl rfl) rfl fun fr r => ?_
                  refine seq_want r rfl rfl rfl (congrArg Value.bool h51) ?_
                  refine seq_val (.bool ((x24.2.2.1.tmod 2) == 0)) r (fun R => y_bin r (u := (.int .i64 (x24.2.2.1.tmod 2))) (u' := (.int .i64 0)) rfl rfl rfl rfl) rfl fun fr r => ?_
                  refine seq_val (.bool ((x24.2.2.1.tmod 2) == 0)) r (fun R => y_pick r (b := true) (congrArg Value.bool h51) rfl) rfl fun fr r => ?_
                  refine wpList_nil ?_
                  exact nxy50 ((x24.2.2.1.tmod 2) == 0) () _ _ _ hD r (hs_cons rfl (hs_cons rfl (hs_cons rfl (hs_cons rfl (hs_cons rfl (hs_cons rfl (hs_cons rfl (hs_cons rfl (hs_cons rfl (hs_cons rfl (hs_cons rfl (hs_cons rfl (hs_cons rfl (hs_cons rfl (hs_cons rfl hs_nil))))))))))))))) (hP.pick [0, 1, 2, 3, 4] rfl rfl)
                · skip
                  have hD := (cond_f h51).symm.trans hD
                  refine seq_skip r rfl rfl rfl (v := .bool false) (congrArg Value.bool h51) (by simp [boolOf]) fun fr r => ?_
                  refine seq_skip r rfl rfl rfl (v := .bool false) (congrArg Value.bool h51) (by simp [boolOf]) fun fr r => ?_
                  refine seq_skip r rfl rfl rfl (v := .bool false) (congrArg Value.bool h51) (by simp [boolOf]) fun fr r => ?_
                  refine seq_val (.bool false) r (fun R => y_pick r (b := false) (congrArg Value.bool h51) rfl) rfl fun fr r => ?_
                  refine wpList_nil ?_
                  exact nxy50 false () _ _ _ hD r (hs_cons rfl (hs_cons rfl (hs_cons rfl (hs_cons rfl (hs_cons rfl (hs_cons rfl (hs_cons rfl (hs_cons rfl (hs_cons rfl (hs_cons rfl (hs_cons rfl (hs_cons rfl (hs_cons rfl (hs_cons rfl (hs_cons rfl hs_nil))))))))))))))) (hP.pick [0, 1, 2, 3, 4] rfl rfl)
              · skip
                rintro x52 γ53 fr w54 g r hP hD
                have hP : Post No [roK 3 1 i64 a1_v a1, cellC b1 ((planC a0)).toArray 23, memK mg20 x48.2.2.2, rowK 3 1 i64 γ25.1 x24.1, rowK 3 1 i64 γ25.2 x24.2.1] w0 w54 := hP
                refine wp_joinG (N := 130) (Y := List Int) (G := Value) (fun x γ => [(0, (.agg (planC a0).toArray)), (1, a1_v), (2, (.pointer (some ⟨b1, 0, none⟩))), (4, (.bool false)), (32, (.bool x12)), (5, (.pointer (some ⟨mg20.mb, 0, none⟩))), (38, (.bool false)), (7, γ25.2), (8, (.int .i64 x24.2.2.1)), (42, (.bool (decide (x24.2.2.1 < (a1.length : Int))))), (9, (.int .i64 x29)), (66, (.bool x38)), (10, (.int .i64 x48.1)), (86, (.bool x52)), (6, γ)]) (fun x γ w => Post No [roK 3 1 i64 a1_v a1, cellC b1 ((planC a0)).toArray 23, memK mg20 x48.2.2.2, rowK 3 1 i64 γ x, rowK 3 1 i64 γ25.2 x24.2.1] w0 w) hD ?_ ?_
                · skip
                  rintro y55 RPy55 nxy55 hD
                  refine wp_cond_split (t := x52) (r.ev rfl) (fun h56 => ?_) (fun h56 => ?_)
                  · skip
                    have hD := (cond_t h56).symm.trans hD
                    refine wp_region_lit ?_
                    refine seq_val γ25.1 r (fun R => y_move r rfl) rfl fun fr r => ?_
                    refine seq_val (.int .i64 x29) r (fun R => y_move r rfl) rfl fun fr r => ?_
                    refine seq_newS (.cells (([x29]).flatMap i64).toArray 3 (0, 0)) 1 r (fun R => y_bslice r (by kernel_rfl)) rfl fun fr b57 w58 n59 r => ?_
                    have hP : Post No [roK 3 1 i64 a1_v a1, cellC b1 ((planC a0)).toArray 23, memK mg20 x48.2.2.2, rowK 3 1 i64 γ25.1 x24.1, rowK 3 1 i64 γ25.2 x24.2.1, rowK 3 1 i64 (.slice (some ⟨b57, 0, none⟩) 1 1) ([x29])] w0 w58 := hP.newRow n59 (fun _ => rfl) rfl
                    obtain ⟨x61, hx61, hD⟩ := bindD_elim hD
                    refine seq_app 3 1 i64 γ25.1 r (fun R => y_append r rt24 (fun _ => rfl) (fun _ => rfl) (hP.row (i := 3) rfl) (hP.row (i := 5) rfl).ro hx61 rfl rfl) rfl fun fr v62 w63 ha64 r => ?_
                    have hP : Post No [roK 3 1 i64 a1_v a1, cellC b1 ((planC a0)).toArray 23, memK mg20 x48.2.2.2, rowK 3 1 i64 v62 x61, rowK 3 1 i64 γ25.2 x24.2.1, rowK 3 1 i64 (.slice (some ⟨b57, 0, none⟩) 1 1) ([x29])] w0 w63 := hP.append (i := 3) rfl ha64
                    refine seq_val v62 r (fun R => y_assign r rfl) rfl fun fr r => ?_
                    refine wpList_nil ?_
                    exact nxy55 x61 v62 _ _ _ hD r (hs_cons rfl (hs_cons rfl (hs_cons rfl (hs_cons rfl (hs_cons rfl (hs_cons rfl (hs_cons rfl (hs_cons rfl (hs_cons rfl (hs_cons rfl (hs_cons rfl (hs_cons rfl (hs_cons rfl (hs_cons rfl (hs_cons rfl hs_nil))))))))))))))) (hP.pick [0, 1, 2, 3, 4] rfl rfl)
                  · skip
                    have hD := (cond_f h56).symm.trans hD
                    refine wp_skip ?_
                    exact nxy55 x24.1 γ25.1 _ _ _ hD r (hs_cons rfl (hs_cons rfl (hs_cons rfl (hs_cons rfl (hs_cons rfl (hs_cons rfl (hs_cons rfl (hs_cons rfl (hs_cons rfl (hs_cons rfl (hs_cons rfl (hs_cons rfl (hs_cons rfl (hs_cons rfl (hs_cons rfl hs_nil))))))))))))))) (hP.pick [0, 1, 2, 3, 4] rfl rfl)
                · skip
                  rintro x65 γ66 fr w67 g r hP hD
                  have hP : Post No [roK 3 1 i64 a1_v a1, cellC b1 ((planC a0)).toArray 23, memK mg20 x48.2.2.2, rowK 3 1 i64 γ66 x65, rowK 3 1 i64 γ25.2 x24.2.1] w0 w67 := hP
                  refine wp_seq ?_
                  refine wp_joinG (N := 130) (Y := Bool) (G := Unit) (fun x γ => [(0, (.agg (planC a0).toArray)), (1, a1_v), (2, (.pointer (some ⟨b1, 0, none⟩))), (4, (.bool false)), (32, (.bool x12)), (5, (.pointer (some ⟨mg20.mb, 0, none⟩))), (38, (.bool false)), (7, γ25.2), (8, (.int .i64 x24.2.2.1)), (42, (.bool (decide (x24.2.2.1 < (a1.length : Int))))), (9, (.int .i64 x29)), (66, (.bool x38)), (10, (.int .i64 x48.1)), (86, (.bool x52)), (6, γ66), (97, (.bool x))]) (fun x γ w => Post No [roK 3 1 i64 a1_v a1, cellC b1 ((planC a0)).toArray 23, memK mg20 x48.2.2.2, rowK 3 1 i64 γ66 x65, rowK 3 1 i64 γ25.2 x24.2.1] w0 w) hD ?_ ?_
                  · skip
                    rintro y68 RPy68 nxy68 hD
                    refine wp_region_lit ?_
                    refine seq_val (.int .i64 x48.1) r (fun R => y_move r rfl) rfl fun fr r => ?_
                    refine seq_val (.bool (decide (x48.1 > 0))) r (fun R => y_bin r (u := (.int .i64 x48.1)) (u' := (.int .i64 0)) rfl rfl rfl rfl) rfl fun fr r => ?_
                    refine seq_val (.bool (decide (x48.1 > 0))) r (fun R => y_move r rfl) rfl fun fr r => ?_
                    refine seq_split (decide (x48.1 > 0)) (fun h69 => ?_) (fun h69 => ?_)
                    · skip
                      have hD := (cond_t h69).symm.trans hD
                      refine seq_want r rfl rfl rfl (congrArg Value.bool h69) ?_
                      refine seq_val (.int .i64 x24.2.2.1) r (fun R => y_move r rfl) rfl fun fr r => ?_
                      refine seq_want r rfl rfl rfl (congrArg Value.bool h69) ?_
                      refine seq_val (.int .i64 (x24.2.2.1.tmod 2)) r (fun R => y_bin r (u := (.int .i64 x24.2.2.1)) (u' := (.int .i64 2)) rfl rfl rfl rfl) rfl fun fr r => ?_
                      refine seq_want r rfl rfl rfl (congrArg Value.bool h69) ?_
                      refine seq_val (.bool ((x24.2.2.1.tmod 2) == 1)) r (fun R => y_bin r (u := (.int .i64 (x24.2.2.1.tmod 2))) (u' := (.int .i64 1)) rfl rfl rfl rfl) rfl fun fr r => ?_
                      refine seq_val (.bool ((x24.2.2.1.tmod 2) == 1)) r (fun R => y_pick r (b := true) (congrArg Value.bool h69) rfl) rfl fun fr r => ?_
                      refine wpList_nil ?_
                      exact nxy68 ((x24.2.2.1.tmod 2) == 1) () _ _ _ hD r (hs_cons rfl (hs_cons rfl (hs_cons rfl (hs_cons rfl (hs_cons rfl (hs_cons rfl (hs_cons rfl (hs_cons rfl (hs_cons rfl (hs_cons rfl (hs_cons rfl (hs_cons rfl (hs_cons rfl (hs_cons rfl (hs_cons rfl (hs_cons rfl hs_nil)))))))))))))))) (hP.pick [0, 1, 2, 3, 4] rfl rfl)
                    · skip
                      have hD := (cond_f h69).symm.trans hD
                      refine seq_skip r rfl rfl rfl (v := .bool false) (congrArg Value.bool h69) (by simp [boolOf]) fun fr r => ?_
                      refine seq_skip r rfl rfl rfl (v := .bool false) (congrArg Value.bool h69) (by simp [boolOf]) fun fr r => ?_
                      refine seq_skip r rfl rfl rfl (v := .bool false) (congrArg Value.bool h69) (by simp [boolOf]) fun fr r => ?_
                      refine seq_val (.bool false) r (fun R => y_pick r (b := false) (congrArg Value.bool h69) rfl) rfl fun fr r => ?_
                      refine wpList_nil ?_
                      exact nxy68 false () _ _ _ hD r (hs_cons rfl (hs_cons rfl (hs_cons rfl (hs_cons rfl (hs_cons rfl (hs_cons rfl (hs_cons rfl (hs_cons rfl (hs_cons rfl (hs_cons rfl (hs_cons rfl (hs_cons rfl (hs_cons rfl (hs_cons rfl (hs_cons rfl (hs_cons rfl hs_nil)))))))))))))))) (hP.pick [0, 1, 2, 3, 4] rfl rfl)
                  · skip
                    rintro x70 γ71 fr w72 g r hP hD
                    have hP : Post No [roK 3 1 i64 a1_v a1, cellC b1 ((planC a0)).toArray 23, memK mg20 x48.2.2.2, rowK 3 1 i64 γ66 x65, rowK 3 1 i64 γ25.2 x24.2.1] w0 w72 := hP
                    refine wp_joinG (N := 130) (Y := List Int) (G := Value) (fun x γ => [(0, (.agg (planC a0).toArray)), (1, a1_v), (2, (.pointer (some ⟨b1, 0, none⟩))), (4, (.bool false)), (32, (.bool x12)), (5, (.pointer (some ⟨mg20.mb, 0, none⟩))), (38, (.bool false)), (8, (.int .i64 x24.2.2.1)), (42, (.bool (decide (x24.2.2.1 < (a1.length : Int))))), (9, (.int .i64 x29)), (66, (.bool x38)), (10, (.int .i64 x48.1)), (86, (.bool x52)), (6, γ66), (97, (.bool x70)), (7, γ)]) (fun x γ w => Post No [roK 3 1 i64 a1_v a1, cellC b1 ((planC a0)).toArray 23, memK mg20 x48.2.2.2, rowK 3 1 i64 γ66 x65, rowK 3 1 i64 γ x] w0 w) hD ?_ ?_
                    · skip
                      rintro y73 RPy73 nxy73 hD
                      refine wp_cond_split (t := x70) (r.ev rfl) (fun h74 => ?_) (fun h74 => ?_)
                      · skip
                        have hD := (cond_t h74).symm.trans hD
                        refine wp_region_lit ?_
                        refine seq_val γ25.2 r (fun R => y_move r rfl) rfl fun fr r => ?_
                        refine seq_val (.int .i64 x29) r (fun R => y_move r rfl) rfl fun fr r => ?_
                        refine seq_newS (.cells (([x29]).flatMap i64).toArray 3 (0, 0)) 1 r (fun R => y_bslice r (by kernel_rfl)) rfl fun fr b75 w76 n77 r => ?_
                        have hP : Post No [roK 3 1 i64 a1_v a1, cellC b1 ((planC a0)).toArray 23, memK mg20 x48.2.2.2, rowK 3 1 i64 γ66 x65, rowK 3 1 i64 γ25.2 x24.2.1, rowK 3 1 i64 (.slice (some ⟨b75, 0, none⟩) 1 1) ([x29])] w0 w76 := hP.newRow n77 (fun _ => rfl) rfl
                        obtain ⟨x79, hx79, hD⟩ := bindD_elim hD
                        refine seq_app 3 1 i64 γ25.2 r (fun R => y_append r rt24 (fun _ => rfl) (fun _ => rfl) (hP.row (i := 4) rfl) (hP.row (i := 5) rfl).ro hx79 rfl rfl) rfl fun fr v80 w81 ha82 r => ?_
                        have hP : Post No [roK 3 1 i64 a1_v a1, cellC b1 ((planC a0)).toArray 23, memK mg20 x48.2.2.2, rowK 3 1 i64 γ66 x65, rowK 3 1 i64 v80 x79, rowK 3 1 i64 (.slice (some ⟨b75, 0, none⟩) 1 1) ([x29])] w0 w81 := hP.append (i := 4) rfl ha82
                        refine seq_val v80 r (fun R => y_assign r rfl) rfl fun fr r => ?_
                        refine wpList_nil ?_
                        exact nxy73 x79 v80 _ _ _ hD r (hs_cons rfl (hs_cons rfl (hs_cons rfl (hs_cons rfl (hs_cons rfl (hs_cons rfl (hs_cons rfl (hs_cons rfl (hs_cons rfl (hs_cons rfl (hs_cons rfl (hs_cons rfl (hs_cons rfl (hs_cons rfl (hs_cons rfl (hs_cons rfl hs_nil)))))))))))))))) (hP.pick [0, 1, 2, 3, 4] rfl rfl)
                      · skip
                        have hD := (cond_f h74).symm.trans hD
                        refine wp_skip ?_
                        exact nxy73 x24.2.1 γ25.2 _ _ _ hD r (hs_cons rfl (hs_cons rfl (hs_cons rfl (hs_cons rfl (hs_cons rfl (hs_cons rfl (hs_cons rfl (hs_cons rfl (hs_cons rfl (hs_cons rfl (hs_cons rfl (hs_cons rfl (hs_cons rfl (hs_cons rfl (hs_cons rfl (hs_cons rfl hs_nil)))))))))))))))) (hP.pick [0, 1, 2, 3, 4] rfl rfl)
                    · skip
                      rintro x83 γ84 fr w85 g r hP hD
                      have hP : Post No [roK 3 1 i64 a1_v a1, cellC b1 ((planC a0)).toArray 23, memK mg20 x48.2.2.2, rowK 3 1 i64 γ66 x65, rowK 3 1 i64 γ84 x83] w0 w85 := hP
                      refine wp_region_lit ?_
                      refine seq_val (.int .i64 x24.2.2.1) r (fun R => y_move r rfl) rfl fun fr r => ?_
                      refine seq_val (.int .i64 (IntKind.i64.wrap (x24.2.2.1 + 1))) r (fun R => y_bin r (u := (.int .i64 x24.2.2.1)) (u' := (.int .i64 1)) rfl rfl rfl rfl) rfl fun fr r => ?_
                      refine seq_val (.int .i64 (IntKind.i64.wrap (x24.2.2.1 + 1))) r (fun R => y_assign r rfl) rfl fun fr r => ?_
                      refine wpList_nil ?_
                      exact nxy26 (x65, x83, (IntKind.i64.wrap (x24.2.2.1 + 1)), x48.2.2.2) (γ66, γ84) _ _ _ hD r (hs_cons rfl (hs_cons rfl (hs_cons rfl (hs_cons rfl (hs_cons rfl (hs_cons rfl (hs_cons rfl (hs_cons rfl (hs_cons rfl (hs_cons rfl hs_nil)))))))))) (hP.pick [0, 1, 2, 3, 4] rfl rfl)
        · skip
          have hD := (cond_f h28).symm.trans hD
          refine wp_exit ?_
          exact bky26 (x24.1, x24.2.1, x24.2.2.1, x24.2.2.2) (γ25.1, γ25.2) _ _ _ hD r (hs_cons rfl (hs_cons rfl (hs_cons rfl (hs_cons rfl (hs_cons rfl (hs_cons rfl (hs_cons rfl (hs_cons rfl (hs_cons rfl (hs_cons rfl hs_nil)))))))))) (hP.pick [0, 1, 2, 3, 4] rfl rfl)
      · skip
        rintro x86 γ87 fr w88 g r hP hD
        have hP : Post No [roK 3 1 i64 a1_v a1, cellC b1 ((planC a0)).toArray 23, memK mg20 x86.2.2.2, rowK 3 1 i64 γ87.1 x86.1, rowK 3 1 i64 γ87.2 x86.2.1] w0 w88 := hP
        refine wp_seq ?_
        refine wp_region_lit ?_
        refine seq_val (.agg (planC a0).toArray) r (fun R => y_load_agg r (cs := (planC a0)) (n := 6) rfl (hP.cell (i := 1) rfl) ta23 rfl) rfl fun fr r => ?_
        refine seq_call r (c_retire_Scan (F := No) (n := fu) (j := fu + 1) (fun _ h => h.elim) (by omega) a0 0) (fun R hc => y_call r rfl cl19 hc) rfl ?_
        rintro _ w89 ⟨v90, rfl, hb, hr91⟩
        refine ⟨_, rfl, fun fr r => ?_⟩
        have hP : Post No [roK 3 1 i64 a1_v a1, cellC b1 ((planC a0)).toArray 23, memK mg20 x86.2.2.2, rowK 3 1 i64 γ87.1 x86.1, rowK 3 1 i64 γ87.2 x86.2.1, progK Tryz.prog encInt (fu, (D.retire_Scan (fu + 1) a0 0)) v90 (rg w88.heap.size w89.heap.size)] w0 w89 := hP.addProg hb hr91
        refine seq_val (.pointer (some ⟨mg20.mb, 0, none⟩)) r (fun R => y_move r rfl) rfl fun fr r => ?_
        refine seq_val (.pointer (some ⟨mg20.mb, 0, none⟩)) r (fun R => y_move r rfl) rfl fun fr r => ?_
        obtain ⟨x93, hx93, hD⟩ := bindD_elim hD
        refine seq_call r (c_mem_Memory_Cap w89 x86.2.2.2 (hP.mem (i := 2) rfl) 0 hx93) (fun R hc => y_call r rfl cl18 hc) rfl ?_
        rintro _ w94 ⟨rfl, hb⟩
        refine ⟨_, rfl, fun fr r => ?_⟩
        have hP : Post No [roK 3 1 i64 a1_v a1, cellC b1 ((planC a0)).toArray 23, memK mg20 x86.2.2.2, rowK 3 1 i64 γ87.1 x86.1, rowK 3 1 i64 γ87.2 x86.2.1, progK Tryz.prog encInt (fu, (D.retire_Scan (fu + 1) a0 0)) v90 (rg w88.heap.size w89.heap.size)] w0 w94 := hP.below hb
        obtain ⟨x95, hx95, hD⟩ := bindD_elim hD
        refine seq_call r (c_prog_Run_int w94 (fu, (D.retire_Scan (fu + 1) a0 0)) x86.2.2.2 x93 100000 (hP.sep.pk [5, 2] rfl rfl) hx95) (fun R hc => y_call r rfl cl16 hc) rfl ?_
        rintro _ w96 ⟨rfl, hq⟩
        refine ⟨_, rfl, fun fr r => ?_⟩
        have hP : Post No [roK 3 1 i64 a1_v a1, cellC b1 ((planC a0)).toArray 23, memK mg20 x95.2.2.2, rowK 3 1 i64 γ87.1 x86.1, rowK 3 1 i64 γ87.2 x86.2.1, progK Tryz.prog encInt (fu, (D.retire_Scan (fu + 1) a0 0)) v90 (rg w88.heap.size w89.heap.size)] w0 w96 := hP.setN (i := 2) rfl hq
        refine seq_val (.tuple #[(.int .i64 x95.1), (.int .i64 x95.2.1), (.bool x95.2.2.1)]) r (fun R => y_move r rfl) rfl fun fr r => ?_
        refine seq_val (.int .i64 x95.1) r (fun R => y_extract r (vs := #[(.int .i64 x95.1), (.int .i64 x95.2.1), (.bool x95.2.2.1)]) rfl rfl) rfl fun fr r => ?_
        refine seq_val (.int .i64 x95.2.1) r (fun R => y_extract r (vs := #[(.int .i64 x95.1), (.int .i64 x95.2.1), (.bool x95.2.2.1)]) rfl rfl) rfl fun fr r => ?_
        refine seq_val (.bool x95.2.2.1) r (fun R => y_extract r (vs := #[(.int .i64 x95.1), (.int .i64 x95.2.1), (.bool x95.2.2.1)]) rfl rfl) rfl fun fr r => ?_
        refine seq_val (.int .i64 x95.1) r (fun R => y_assign r rfl) rfl fun fr r => ?_
        refine seq_val (.int .i64 x95.2.1) r (fun R => y_assign r rfl) rfl fun fr r => ?_
        refine seq_val (.bool x95.2.2.1) r (fun R => y_assign r rfl) rfl fun fr r => ?_
        refine wpList_nil ?_
        refine wp_seq ?_
        have hP : Post No [roK 3 1 i64 a1_v a1, cellC b1 ((planC a0)).toArray 23, memK mg20 x95.2.2.2, rowK 3 1 i64 γ87.1 x86.1, rowK 3 1 i64 γ87.2 x86.2.1] w0 w96 := hP.pick [0, 1, 2, 3, 4] rfl rfl
        refine wp_joinG (N := 130) (Y := Bool) (G := Unit) (fun x γ => [(0, (.agg (planC a0).toArray)), (1, a1_v), (2, (.pointer (some ⟨b1, 0, none⟩))), (32, (.bool x12)), (5, (.pointer (some ⟨mg20.mb, 0, none⟩))), (38, (.bool false)), (6, γ87.1), (7, γ87.2), (8, (.int .i64 x86.2.2.1)), (13, (.int .i64 x95.1)), (4, (.bool x))]) (fun x γ w => Post No [roK 3 1 i64 a1_v a1, cellC b1 ((planC a0)).toArray 23, memK mg20 x95.2.2.2, rowK 3 1 i64 γ87.1 x86.1, rowK 3 1 i64 γ87.2 x86.2.1] w0 w) hD ?_ ?_
        · skip
          rintro y97 RPy97 nxy97 hD
          refine wp_region_lit ?_
          refine seq_val (.int .i64 x95.1) r (fun R => y_move r rfl) rfl fun fr r => ?_
          refine seq_val γ87.1 r (fun R => y_move r rfl) rfl fun fr r => ?_
          refine seq_val (.int .i64 (x86.1.length : Int)) r (fun R => y_rowLen r (hP.row (i := 3) rfl).ro is24 rfl) rfl fun fr r => ?_
          refine seq_val (.bool (x95.1 == (x86.1.length : Int))) r (fun R => y_bin r (u := (.int .i64 x95.1)) (u' := (.int .i64 (x86.1.length : Int))) rfl rfl rfl rfl) rfl fun fr r => ?_
          refine seq_val (.bool (x95.1 == (x86.1.length : Int))) r (fun R => y_move r rfl) rfl fun fr r => ?_
          refine seq_split (x95.1 == (x86.1.length : Int)) (fun h98 => ?_) (fun h98 => ?_)
          · skip
            have hD := (cond_t h98).symm.trans hD
            refine seq_want r rfl rfl rfl (congrArg Value.bool h98) ?_
            refine seq_val (.agg (planC a0).toArray) r (fun R => y_load_agg r (cs := (planC a0)) (n := 6) rfl (hP.cell (i := 1) rfl) ta23 rfl) rfl fun fr r => ?_
            refine seq_want r rfl rfl rfl (congrArg Value.bool h98) ?_
            refine seq_val (.pointer (some ⟨mg20.mb, 0, none⟩)) r (fun R => y_move r rfl) rfl fun fr r => ?_
            refine seq_want r rfl rfl rfl (congrArg Value.bool h98) ?_
            obtain ⟨x99, hx99, hD⟩ := bindD_elim hD
            refine seq_call r (c_retire_List w96 a0 x95.2.2.2 (hP.mem (i := 2) rfl) 0 0 hx99) (fun R hc => y_call r rfl cl20 hc) rfl ?_
            rintro _ w100 ⟨v101, rfl, hq⟩
            refine ⟨_, rfl, fun fr r => ?_⟩
            have hP : Post No [roK 3 1 i64 a1_v a1, cellC b1 ((planC a0)).toArray 23, memK mg20 x95.2.2.2, rowK 3 1 i64 γ87.1 x86.1, rowK 3 1 i64 γ87.2 x86.2.1, rowK 3 1 i64 v101 x99] w0 w100 := hP.add hq
            refine seq_want r rfl rfl rfl (congrArg Value.bool h98) ?_
            refine seq_val (.int .i64 (x99.length : Int)) r (fun R => y_rowLen r (hP.row (i := 5) rfl).ro is24 rfl) rfl fun fr r => ?_
            refine seq_want r rfl rfl rfl (congrArg Value.bool h98) ?_
            refine seq_val (.bool ((x99.length : Int) == 0)) r (fun R => y_bin r (u := (.int .i64 (x99.length : Int))) (u' := (.int .i64 0)) rfl rfl rfl rfl) rfl fun fr r => ?_
            refine seq_val (.bool ((x99.length : Int) == 0)) r (fun R => y_pick r (b := true) (congrArg Value.bool h98) rfl) rfl fun fr r => ?_
            refine seq_val (.bool ((x99.length : Int) == 0)) r (fun R => y_move r rfl) rfl fun fr r => ?_
            refine seq_split ((x99.length : Int) == 0) (fun h103 => ?_) (fun h103 => ?_)
            · skip
              have hD := (cond_t h103).symm.trans hD
              refine seq_want r rfl rfl rfl (congrArg Value.bool h103) ?_
              refine seq_val (.agg (planC a0).toArray) r (fun R => y_load_agg r (cs := (planC a0)) (n := 6) rfl (hP.cell (i := 1) rfl) ta23 rfl) rfl fun fr r => ?_
              refine seq_want r rfl rfl rfl (congrArg Value.bool h103) ?_
              refine seq_val (.pointer (some ⟨mg20.mb, 0, none⟩)) r (fun R => y_move r rfl) rfl fun fr r => ?_
              refine seq_want r rfl rfl rfl (congrArg Value.bool h103) ?_
              obtain ⟨x104, hx104, hD⟩ := bindD_elim hD
              refine seq_call r (c_retire_List w100 a0 x95.2.2.2 (hP.mem (i := 2) rfl) 0 1 hx104) (fun R hc => y_call r rfl cl20 hc) rfl ?_
              rintro _ w105 ⟨v106, rfl, hq⟩
              refine ⟨_, rfl, fun fr r => ?_⟩
              have hP : Post No [roK 3 1 i64 a1_v a1, cellC b1 ((planC a0)).toArray 23, memK mg20 x95.2.2.2, rowK 3 1 i64 γ87.1 x86.1, rowK 3 1 i64 γ87.2 x86.2.1, rowK 3 1 i64 v101 x99, rowK 3 1 i64 v106 x104] w0 w105 := hP.add hq
              refine seq_want r rfl rfl rfl (congrArg Value.bool h103) ?_
              refine seq_val γ87.2 r (fun R => y_move r rfl) rfl fun fr r => ?_
              refine seq_want r rfl rfl rfl (congrArg Value.bool h103) ?_
              obtain ⟨x108, hx108, hD⟩ := bindD_elim hD
              refine seq_call r (c_cubicleref09_Same w105 x104 (hP.row (i := 6) rfl).ro x86.2.1 (hP.row (i := 4) rfl).ro hx108) (fun R hc => y_call r rfl cl21 hc) rfl ?_
              rintro _ w109 ⟨rfl, hb⟩
              refine ⟨_, rfl, fun fr r => ?_⟩
              have hP : Post No [roK 3 1 i64 a1_v a1, cellC b1 ((planC a0)).toArray 23, memK mg20 x95.2.2.2, rowK 3 1 i64 γ87.1 x86.1, rowK 3 1 i64 γ87.2 x86.2.1, rowK 3 1 i64 v101 x99, rowK 3 1 i64 v106 x104] w0 w109 := hP.below hb
              refine seq_val (.bool x108) r (fun R => y_pick r (b := true) (congrArg Value.bool h103) rfl) rfl fun fr r => ?_
              refine seq_val (.bool x108) r (fun R => y_assign r rfl) rfl fun fr r => ?_
              refine wpList_nil ?_
              exact nxy97 x108 () _ _ _ hD r (hs_cons rfl (hs_cons rfl (hs_cons rfl (hs_cons rfl (hs_cons rfl (hs_cons rfl (hs_cons rfl (hs_cons rfl (hs_cons rfl (hs_cons rfl (hs_cons rfl hs_nil))))))))))) (hP.pick [0, 1, 2, 3, 4] rfl rfl)
            · skip
              have hD := (cond_f h103).symm.trans hD
              refine seq_skip r rfl rfl rfl (v := .bool false) (congrArg Value.bool h103) (by simp [boolOf]) fun fr r => ?_
              refine seq_skip r rfl rfl rfl (v := .bool false) (congrArg Value.bool h103) (by simp [boolOf]) fun fr r => ?_
              refine seq_skip r rfl rfl rfl (v := .bool false) (congrArg Value.bool h103) (by simp [boolOf]) fun fr r => ?_
              refine seq_skip r rfl rfl rfl (v := .bool false) (congrArg Value.bool h103) (by simp [boolOf]) fun fr r => ?_
              refine seq_skip r rfl rfl rfl (v := .bool false) (congrArg Value.bool h103) (by simp [boolOf]) fun fr r => ?_
              refine seq_val (.bool false) r (fun R => y_pick r (b := false) (congrArg Value.bool h103) rfl) rfl fun fr r => ?_
              refine seq_val (.bool false) r (fun R => y_assign r rfl) rfl fun fr r => ?_
              refine wpList_nil ?_
              exact nxy97 false () _ _ _ hD r (hs_cons rfl (hs_cons rfl (hs_cons rfl (hs_cons rfl (hs_cons rfl (hs_cons rfl (hs_cons rfl (hs_cons rfl (hs_cons rfl (hs_cons rfl (hs_cons rfl hs_nil))))))))))) (hP.pick [0, 1, 2, 3, 4] rfl rfl)
          · skip
            have hD := (cond_f h98).symm.trans hD
            refine seq_skip r rfl rfl rfl (v := .bool false) (congrArg Value.bool h98) (by simp [boolOf]) fun fr r => ?_
            refine seq_skip r rfl rfl rfl (v := .bool false) (congrArg Value.bool h98) (by simp [boolOf]) fun fr r => ?_
            refine seq_skip r rfl rfl rfl (v := .bool false) (congrArg Value.bool h98) (by simp [boolOf]) fun fr r => ?_
            refine seq_skip r rfl rfl rfl (v := .bool false) (congrArg Value.bool h98) (by simp [boolOf]) fun fr r => ?_
            refine seq_skip r rfl rfl rfl (v := .bool false) (congrArg Value.bool h98) (by simp [boolOf]) fun fr r => ?_
            refine seq_val (.bool false) r (fun R => y_pick r (b := false) (congrArg Value.bool h98) rfl) rfl fun fr r => ?_
            refine seq_val (.bool false) r (fun R => y_move r rfl) rfl fun fr r => ?_
            refine seq_skip r rfl rfl rfl (v := .bool false) (congrArg Value.bool (rfl : false = _)) (by simp [boolOf]) fun fr r => ?_
            refine seq_skip r rfl rfl rfl (v := .bool false) (congrArg Value.bool (rfl : false = _)) (by simp [boolOf]) fun fr r => ?_
            refine seq_skip r rfl rfl rfl (v := .bool false) (congrArg Value.bool (rfl : false = _)) (by simp [boolOf]) fun fr r => ?_
            refine seq_skip r rfl rfl rfl (v := .bool false) (congrArg Value.bool (rfl : false = _)) (by simp [boolOf]) fun fr r => ?_
            refine seq_skip r rfl rfl rfl (v := .bool false) (congrArg Value.bool (rfl : false = _)) (by simp [boolOf]) fun fr r => ?_
            refine seq_val (.bool false) r (fun R => y_pick r (b := false) (congrArg Value.bool (rfl : false = _)) rfl) rfl fun fr r => ?_
            refine seq_val (.bool false) r (fun R => y_assign r rfl) rfl fun fr r => ?_
            refine wpList_nil ?_
            exact nxy97 false () _ _ _ hD r (hs_cons rfl (hs_cons rfl (hs_cons rfl (hs_cons rfl (hs_cons rfl (hs_cons rfl (hs_cons rfl (hs_cons rfl (hs_cons rfl (hs_cons rfl (hs_cons rfl hs_nil))))))))))) (hP.pick [0, 1, 2, 3, 4] rfl rfl)
        · skip
          rintro x110 γ111 fr w112 g r hP hD
          have hP : Post No [roK 3 1 i64 a1_v a1, cellC b1 ((planC a0)).toArray 23, memK mg20 x95.2.2.2, rowK 3 1 i64 γ87.1 x86.1, rowK 3 1 i64 γ87.2 x86.2.1] w0 w112 := hP
          refine wp_ret ?_
          have hv : x110 = res := Option.some.inj hD
          try dsimp only [Exit.then, Exit.inBlock]
          refine ret_tmp (fn := Tryz.f3) r (t := 4) rfl (v := (.bool x110)) rfl ?_
          subst hv
          exact ⟨rfl, hP.chg.below⟩

end Go.Proofs.YtphnnjiaiemkcaaGreat.Wk
