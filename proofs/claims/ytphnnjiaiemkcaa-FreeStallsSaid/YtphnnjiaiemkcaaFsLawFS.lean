/- Written by a program of ours (wip/gen.py): a law -/
import Derived.Test.YtphnnjiaiemkcaaFsLists
set_option linter.unusedVariables false
namespace Go.Proofs.Ytphnnjiaiemkcaa.Wk
open Go.RowKit
theorem cl55 : callable Try.prog 55 = true := by kernel_rfl

theorem cl57 : callable Try.prog 57 = true := by kernel_rfl

theorem cl65 : callable Try.prog 65 = true := by kernel_rfl

theorem is87 : isSlice Try.prog 87 = true := by kernel_rfl

theorem sl87 : sliceTy Try.prog 87 1 = true := by kernel_rfl

theorem ti5 : intTy Try.prog 5 .u8 = true := by kernel_rfl

def D.cubiclelaw09_FreeStalls (fu : Nat) (a0 : Plan) (a1 : Int) (a2 : List Bool) : Option (Bool) := (Option.bind ((D.cubiclelaw09_awake fu ).bind (fun (x6 : Bool) => (bif (!x6) then (some true) else (bif (!(D.cubicleref06_Few a0)) then (some true) else (bif (!(D.cubicleref06_Formed a0)) then (some true) else (some (decide ((a2.length : Int) > 40)))))))) (fun (x13 : Bool) => (bif x13 then ((D.cubiclelaw09_awake fu ).bind (fun (x17 : Bool) => (some x17))) else ((D.cubiclelaw09_Laid fu a0).bind (fun (x19 : Mem) => (loopThen (fun (x33 : Int × Mem × (Nat × T Int)) => (bif (decide (x33.1 < (IntKind.i64.wrap (a1.tmod 3)))) then ((D.mem_Memory_Cap fu x33.2.1 0).bind (fun (x38 : Cap) => ((D.prog_Prog_int_Step fu x33.2.2 x33.2.1 x38).bind (fun (x39 : (Nat × T Int) × Bool × Mem) => (some (Lp.next ((IntKind.i64.wrap (x33.1 + 1)), x39.2.2, x39.1))))))) else (some (Lp.brk (x33.1, x33.2.1, x33.2.2))))) fu (0, x19, (fu, (D.free_Pop (fu + 1) a0))) (fun (x47 : Int × Mem × (Nat × T Int)) => (loopThen (fun (x51 : List Int × Int × Mem) => (bif (decide (x51.2.1 < (a2.length : Int))) then ((getI a2 x51.2.1).bind (fun (x56 : Bool) => (Option.bind (bif x56 then ((D.mem_Memory_Cap fu x51.2.2 0).bind (fun (x63 : Cap) => ((D.prog_Run_int fu (fu, (D.free_Pop (fu + 1) a0)) x51.2.2 x63 9).bind (fun (x65 : Int × Int × Bool × Mem) => (Option.bind (bif (decide (x65.1 ≥ 0)) then ((appD x51.1 ([x65.1])).bind (fun (x73 : List Int) => (some x73))) else (some x51.1)) (fun (x77 : List Int) => (some (x77, x65.2.2.2)))))))) else (Option.bind (bif (decide ((x51.1.length : Int) > 0)) then ((getI x51.1 0).bind (fun (x82 : Int) => ((D.mem_Memory_Cap fu x51.2.2 0).bind (fun (x84 : Cap) => ((D.prog_Run_int fu (fu, (D.free_Push (fu + 1) a0 x82)) x51.2.2 x84 9).bind (fun (x85 : Int × Int × Bool × Mem) => ((sliceD x51.1 1 (x51.1.length : Int)).bind (fun (x87 : List Int) => (some (x85.2.2.2, x87)))))))))) else (some (x51.2.2, x51.1))) (fun (x88 : Mem × List Int) => (some (x88.2, x88.1))))) (fun (x91 : List Int × Mem) => (some (Lp.next (x91.1, (IntKind.i64.wrap (x51.2.1 + 1)), x91.2))))))) else (some (Lp.brk (x51.1, x51.2.1, x51.2.2))))) fu ([], 0, x47.2.1) (fun (x94 : List Int × Int × Mem) => ((D.mem_Memory_Cap fu x94.2.2 0).bind (fun (x97 : Cap) => ((D.prog_Run_int fu x47.2.2 x94.2.2 x97 9).bind (fun (x98 : Int × Int × Bool × Mem) => ((D.free_List fu a0 x98.2.2.2 0).bind (fun (x100 : List Int) => (bif (decide (x98.1 < 0)) then (Option.bind (bif x98.2.2.1 then (bif ((x94.1.length : Int) == a0.nodes) then (some ((x100.length : Int) == 0)) else (some false)) else (some false)) (fun (x108 : Bool) => (some x108))) else (Option.bind (bif x98.2.2.1 then ((D.cubicleref09_Has fu x94.1 x98.1).bind (fun (x113 : Bool) => (bif (!x113) then ((D.cubicleref09_Has fu x100 x98.1).bind (fun (x116 : Bool) => (bif (!x116) then (some ((IntKind.i64.wrap ((IntKind.i64.wrap ((x100.length : Int) + (x94.1.length : Int))) + 1)) == a0.nodes)) else (some false)))) else (some false)))) else (some false)) (fun (x119 : Bool) => (some x119)))))))))))))))))))

set_option maxRecDepth 20000 in
set_option maxHeartbeats 2000000 in
theorem c_cubiclelaw09_FreeStalls {fu : Nat} (w0 : World) (a0 : Plan) (a1 : Int) {a2_v : Value} (a2 : List Bool) (a2_h : RoAt 4 1 boolE a2_v a2 w0) {res : Bool} (hD : D.cubiclelaw09_FreeStalls fu a0 a1 a2 = some res) :
    Calls Try.prog 15 #[.agg (planC a0).toArray, .int .u8 a1, a2_v] w0 (PureRes (.bool res) w0) := by
  refine enter (l := [.agg (planC a0).toArray, .int .u8 a1, a2_v]) Try.func15 rfl 152 rfl rfl fun fr r => ?_
  have hP : Post No [] w0 w0 := Post.nil w0
  have hP : Post No [roK 4 1 boolE a2_v a2] w0 w0 := hP.addRo norw_nil a2_h rfl a2_h.lt
  unfold D.cubiclelaw09_FreeStalls at hD
  refine wp_seq ?_
  refine wp_region_lit ?_
  refine seq_new (.cells ((planC a0)).toArray 24 (0, 0)) r (fun R => y_box r (v := (.agg (planC a0).toArray)) rfl) rfl fun fr b1 w2 n3 r => ?_
  have hP : Post No [roK 4 1 boolE a2_v a2, cellC b1 ((planC a0)).toArray 24] w0 w2 := hP.new n3
  refine seq_val (.bool false) r (fun R => y_assign r rfl) rfl fun fr r => ?_
  refine wpList_nil ?_
  refine wp_seq ?_
  refine wp_seq ?_
  refine wp_joinG (N := 152) (Y := Bool) (G := Unit) (fun x γ => [(0, (.agg (planC a0).toArray)), (1, (.int .u8 a1)), (2, a2_v), (3, (.pointer (some ⟨b1, 0, none⟩))), (6, (.bool false)), (37, (.bool x))]) (fun x γ w => Post No [roK 4 1 boolE a2_v a2, cellC b1 ((planC a0)).toArray 24] w0 w) hD ?_ ?_
  · skip
    rintro y5 RPy5 nxy5 hD
    refine wp_region_lit ?_
    obtain ⟨x6, hx6, hD⟩ := bindD_elim hD
    refine seq_call r (c_cubiclelaw09_awake w2  hx6) (fun R hc => y_call r rfl cl55 hc) rfl ?_
    rintro _ w7 ⟨rfl, hb⟩
    refine ⟨_, rfl, fun fr r => ?_⟩
    have hP : Post No [roK 4 1 boolE a2_v a2, cellC b1 ((planC a0)).toArray 24] w0 w7 := hP.below hb
    refine seq_val (.bool (!x6)) r (fun R => y_un r (u := (.bool x6)) rfl rfl) rfl fun fr r => ?_
    refine seq_val (.bool (!x6)) r (fun R => y_move r rfl) rfl fun fr r => ?_
    refine seq_split (!x6) (fun h8 => ?_) (fun h8 => ?_)
    · skip
      have hD := (cond_t h8).symm.trans hD
      refine seq_skip r rfl rfl rfl (v := .bool true) (congrArg Value.bool h8) (by simp [boolOf]) fun fr r => ?_
      refine seq_skip r rfl rfl rfl (v := .bool true) (congrArg Value.bool h8) (by simp [boolOf]) fun fr r => ?_
      refine seq_skip r rfl rfl rfl (v := .bool true) (congrArg Value.bool h8) (by simp [boolOf]) fun fr r => ?_
      refine seq_val (.bool true) r (fun R => y_pick r (b := true) (congrArg Value.bool h8) rfl) rfl fun fr r => ?_
      refine seq_val (.bool true) r (fun R => y_move r rfl) rfl fun fr r => ?_
      refine seq_skip r rfl rfl rfl (v := .bool true) (congrArg Value.bool (rfl : true = _)) (by simp [boolOf]) fun fr r => ?_
      refine seq_skip r rfl rfl rfl (v := .bool true) (congrArg Value.bool (rfl : true = _)) (by simp [boolOf]) fun fr r => ?_
      refine seq_skip r rfl rfl rfl (v := .bool true) (congrArg Value.bool (rfl : true = _)) (by simp [boolOf]) fun fr r => ?_
      refine seq_val (.bool true) r (fun R => y_pick r (b := true) (congrArg Value.bool (rfl : true = _)) rfl) rfl fun fr r => ?_
      refine seq_val (.bool true) r (fun R => y_move r rfl) rfl fun fr r => ?_
      refine seq_skip r rfl rfl rfl (v := .bool true) (congrArg Value.bool (rfl : true = _)) (by simp [boolOf]) fun fr r => ?_
      refine seq_skip r rfl rfl rfl (v := .bool true) (congrArg Value.bool (rfl : true = _)) (by simp [boolOf]) fun fr r => ?_
      refine seq_skip r rfl rfl rfl (v := .bool true) (congrArg Value.bool (rfl : true = _)) (by simp [boolOf]) fun fr r => ?_
      refine seq_val (.bool true) r (fun R => y_pick r (b := true) (congrArg Value.bool (rfl : true = _)) rfl) rfl fun fr r => ?_
      refine wpList_nil ?_
      exact nxy5 true () _ _ _ hD r (hs_cons rfl (hs_cons rfl (hs_cons rfl (hs_cons rfl (hs_cons rfl (hs_cons rfl hs_nil)))))) (hP.pick [0, 1] rfl rfl)
    · skip
      have hD := (cond_f h8).symm.trans hD
      refine seq_want r rfl rfl rfl (congrArg Value.bool h8) ?_
      refine seq_val (.agg (planC a0).toArray) r (fun R => y_load_agg r (cs := (planC a0)) (n := 6) rfl (hP.cell (i := 1) rfl) ta24 rfl) rfl fun fr r => ?_
      refine seq_want r rfl rfl rfl (congrArg Value.bool h8) ?_
      refine seq_call r (c_cubicleref06_Few w7 a0) (fun R hc => y_call r rfl cl23 hc) rfl ?_
      rintro _ w9 ⟨rfl, hb⟩
      refine ⟨_, rfl, fun fr r => ?_⟩
      have hP : Post No [roK 4 1 boolE a2_v a2, cellC b1 ((planC a0)).toArray 24] w0 w9 := hP.below hb
      refine seq_want r rfl rfl rfl (congrArg Value.bool h8) ?_
      refine seq_val (.bool (!(D.cubicleref06_Few a0))) r (fun R => y_un r (u := (.bool (D.cubicleref06_Few a0))) rfl rfl) rfl fun fr r => ?_
      refine seq_val (.bool (!(D.cubicleref06_Few a0))) r (fun R => y_pick r (b := false) (congrArg Value.bool h8) rfl) rfl fun fr r => ?_
      refine seq_val (.bool (!(D.cubicleref06_Few a0))) r (fun R => y_move r rfl) rfl fun fr r => ?_
      refine seq_split (!(D.cubicleref06_Few a0)) (fun h10 => ?_) (fun h10 => ?_)
      · skip
        have hD := (cond_t h10).symm.trans hD
        refine seq_skip r rfl rfl rfl (v := .bool true) (congrArg Value.bool h10) (by simp [boolOf]) fun fr r => ?_
        refine seq_skip r rfl rfl rfl (v := .bool true) (congrArg Value.bool h10) (by simp [boolOf]) fun fr r => ?_
        refine seq_skip r rfl rfl rfl (v := .bool true) (congrArg Value.bool h10) (by simp [boolOf]) fun fr r => ?_
        refine seq_val (.bool true) r (fun R => y_pick r (b := true) (congrArg Value.bool h10) rfl) rfl fun fr r => ?_
        refine seq_val (.bool true) r (fun R => y_move r rfl) rfl fun fr r => ?_
        refine seq_skip r rfl rfl rfl (v := .bool true) (congrArg Value.bool (rfl : true = _)) (by simp [boolOf]) fun fr r => ?_
        refine seq_skip r rfl rfl rfl (v := .bool true) (congrArg Value.bool (rfl : true = _)) (by simp [boolOf]) fun fr r => ?_
        refine seq_skip r rfl rfl rfl (v := .bool true) (congrArg Value.bool (rfl : true = _)) (by simp [boolOf]) fun fr r => ?_
        refine seq_val (.bool true) r (fun R => y_pick r (b := true) (congrArg Value.bool (rfl : true = _)) rfl) rfl fun fr r => ?_
        refine wpList_nil ?_
        exact nxy5 true () _ _ _ hD r (hs_cons rfl (hs_cons rfl (hs_cons rfl (hs_cons rfl (hs_cons rfl (hs_cons rfl hs_nil)))))) (hP.pick [0, 1] rfl rfl)
      · skip
        have hD := (cond_f h10).symm.trans hD
        refine seq_want r rfl rfl rfl (congrArg Value.bool h10) ?_
        refine seq_val (.agg (planC a0).toArray) r (fun R => y_load_agg r (cs := (planC a0)) (n := 6) rfl (hP.cell (i := 1) rfl) ta24 rfl) rfl fun fr r => ?_
        refine seq_want r rfl rfl rfl (congrArg Value.bool h10) ?_
        refine seq_call r (c_cubicleref06_Formed w9 a0) (fun R hc => y_call r rfl cl24 hc) rfl ?_
        rintro _ w11 ⟨rfl, hb⟩
        refine ⟨_, rfl, fun fr r => ?_⟩
        have hP : Post No [roK 4 1 boolE a2_v a2, cellC b1 ((planC a0)).toArray 24] w0 w11 := hP.below hb
        refine seq_want r rfl rfl rfl (congrArg Value.bool h10) ?_
        refine seq_val (.bool (!(D.cubicleref06_Formed a0))) r (fun R => y_un r (u := (.bool (D.cubicleref06_Formed a0))) rfl rfl) rfl fun fr r => ?_
        refine seq_val (.bool (!(D.cubicleref06_Formed a0))) r (fun R => y_pick r (b := false) (congrArg Value.bool h10) rfl) rfl fun fr r => ?_
        refine seq_val (.bool (!(D.cubicleref06_Formed a0))) r (fun R => y_move r rfl) rfl fun fr r => ?_
        refine seq_split (!(D.cubicleref06_Formed a0)) (fun h12 => ?_) (fun h12 => ?_)
        · skip
          have hD := (cond_t h12).symm.trans hD
          refine seq_skip r rfl rfl rfl (v := .bool true) (congrArg Value.bool h12) (by simp [boolOf]) fun fr r => ?_
          refine seq_skip r rfl rfl rfl (v := .bool true) (congrArg Value.bool h12) (by simp [boolOf]) fun fr r => ?_
          refine seq_skip r rfl rfl rfl (v := .bool true) (congrArg Value.bool h12) (by simp [boolOf]) fun fr r => ?_
          refine seq_val (.bool true) r (fun R => y_pick r (b := true) (congrArg Value.bool h12) rfl) rfl fun fr r => ?_
          refine wpList_nil ?_
          exact nxy5 true () _ _ _ hD r (hs_cons rfl (hs_cons rfl (hs_cons rfl (hs_cons rfl (hs_cons rfl (hs_cons rfl hs_nil)))))) (hP.pick [0, 1] rfl rfl)
        · skip
          have hD := (cond_f h12).symm.trans hD
          refine seq_want r rfl rfl rfl (congrArg Value.bool h12) ?_
          refine seq_val a2_v r (fun R => y_move r rfl) rfl fun fr r => ?_
          refine seq_want r rfl rfl rfl (congrArg Value.bool h12) ?_
          refine seq_val (.int .i64 (a2.length : Int)) r (fun R => y_rowLen r (hP.ro (i := 0) rfl) is87 rfl) rfl fun fr r => ?_
          refine seq_want r rfl rfl rfl (congrArg Value.bool h12) ?_
          refine seq_val (.bool (decide ((a2.length : Int) > 40))) r (fun R => y_bin r (u := (.int .i64 (a2.length : Int))) (u' := (.int .i64 40)) rfl rfl rfl rfl) rfl fun fr r => ?_
          refine seq_val (.bool (decide ((a2.length : Int) > 40))) r (fun R => y_pick r (b := false) (congrArg Value.bool h12) rfl) rfl fun fr r => ?_
          refine wpList_nil ?_
          exact nxy5 (decide ((a2.length : Int) > 40)) () _ _ _ hD r (hs_cons rfl (hs_cons rfl (hs_cons rfl (hs_cons rfl (hs_cons rfl (hs_cons rfl hs_nil)))))) (hP.pick [0, 1] rfl rfl)
  · skip
    rintro x13 γ14 fr w15 g r hP hD
    have hP : Post No [roK 4 1 boolE a2_v a2, cellC b1 ((planC a0)).toArray 24] w0 w15 := hP
    refine wp_cond_split (t := x13) (r.ev rfl) (fun h16 => ?_) (fun h16 => ?_)
    · skip
      have hD := (cond_t h16).symm.trans hD
      refine wp_seq ?_
      refine wp_region_lit ?_
      obtain ⟨x17, hx17, hD⟩ := bindD_elim hD
      refine seq_call r (c_cubiclelaw09_awake w15  hx17) (fun R hc => y_call r rfl cl55 hc) rfl ?_
      rintro _ w18 ⟨rfl, hb⟩
      refine ⟨_, rfl, fun fr r => ?_⟩
      have hP : Post No [roK 4 1 boolE a2_v a2, cellC b1 ((planC a0)).toArray 24] w0 w18 := hP.below hb
      refine seq_val (.bool x17) r (fun R => y_assign r rfl) rfl fun fr r => ?_
      refine wpList_nil ?_
      refine wp_ret ?_
      have hv : x17 = res := Option.some.inj hD
      try dsimp only [Exit.then, Exit.inBlock]
      refine ret_tmp (fn := Try.f15) r (t := 6) rfl (v := (.bool x17)) rfl ?_
      subst hv
      exact ⟨rfl, hP.chg.below⟩
    · skip
      have hD := (cond_f h16).symm.trans hD
      refine wp_skip ?_
      refine wp_seq ?_
      refine wp_region_lit ?_
      refine seq_val (.agg (planC a0).toArray) r (fun R => y_load_agg r (cs := (planC a0)) (n := 6) rfl (hP.cell (i := 1) rfl) ta24 rfl) rfl fun fr r => ?_
      obtain ⟨x19, hx19, hD⟩ := bindD_elim hD
      refine seq_call r (c_cubiclelaw09_Laid w15 a0 hx19) (fun R hc => y_call r rfl cl39 hc) rfl ?_
      rintro _ w20 ⟨mg21, rfl, hq⟩
      refine ⟨_, rfl, fun fr r => ?_⟩
      have hP : Post No [roK 4 1 boolE a2_v a2, cellC b1 ((planC a0)).toArray 24, memK mg21 x19] w0 w20 := hP.add hq
      refine seq_val (.pointer (some ⟨mg21.mb, 0, none⟩)) r (fun R => y_assign r rfl) rfl fun fr r => ?_
      refine wpList_nil ?_
      refine wp_seq ?_
      refine wp_seq ?_
      refine wp_region_lit ?_
      refine seq_val (.pointer (some ⟨mg21.mb, 0, none⟩)) r (fun R => y_move r rfl) rfl fun fr r => ?_
      refine seq_val (.bool false) r (fun R => y_bin r (u := (.pointer (some ⟨mg21.mb, 0, none⟩))) (u' := (.pointer none)) (v := (.bool false)) rfl rfl rfl rfl) rfl fun fr r => ?_
      refine wpList_nil ?_
      refine wp_cond_split (t := false) (r.ev rfl) (fun h => absurd ((rfl : false = _).symm.trans h) (by decide)) (fun _ => ?_)
      refine wp_skip ?_
      refine wp_seq ?_
      refine wp_region_lit ?_
      refine seq_val (.agg (planC a0).toArray) r (fun R => y_load_agg r (cs := (planC a0)) (n := 6) rfl (hP.cell (i := 1) rfl) ta24 rfl) rfl fun fr r => ?_
      refine seq_call r ((c_free_Pop (n := fu) (k := fu + 1) (by omega)) No w20 (fun _ h => h.elim) a0) (fun R hc => y_call r rfl cl58 hc) rfl ?_
      rintro _ w23 ⟨v24, rfl, hb, hr25⟩
      refine ⟨_, rfl, fun fr r => ?_⟩
      have hP : Post No [roK 4 1 boolE a2_v a2, cellC b1 ((planC a0)).toArray 24, memK mg21 x19, progK Try.prog encInt (fu, (D.free_Pop (fu + 1) a0)) v24 (rg w20.heap.size w23.heap.size)] w0 w23 := hP.addProg hb hr25
      refine seq_new (.cells (progCells false encInt.zero 0 0 0 0 .nilFunc) 103 (0, 0)) r (fun R => y_alloc tz103) rfl fun fr b27 w28 n29 r => ?_
      have hP : Post No [roK 4 1 boolE a2_v a2, cellC b1 ((planC a0)).toArray 24, memK mg21 x19, progK Try.prog encInt (fu, (D.free_Pop (fu + 1) a0)) v24 (rg w20.heap.size w23.heap.size), cellC b27 (progCells false encInt.zero 0 0 0 0 .nilFunc) 103] w0 w28 := hP.new n29
      refine seq_upd (.cells v24.cells 103 (0, 0)) r (fun R => y_storep r (hP.prog (i := 3) rfl).shape rfl rfl (hP.cell (i := 4) rfl) ts103 rfl) rfl fun fr w31 u32 r => ?_
      have hP : Post No [roK 4 1 boolE a2_v a2, cellC b1 ((planC a0)).toArray 24, memK mg21 x19, progK Try.prog encInt (fu, (D.free_Pop (fu + 1) a0)) v24 (rg w20.heap.size w23.heap.size), cellC b27 v24.cells 103] w0 w31 := hP.upd (i := 4) rfl u32
      refine wpList_nil ?_
      refine wp_seq ?_
      refine wp_seq ?_
      refine wp_region_lit ?_
      refine seq_val (.int .i64 0) r (fun R => y_assign r rfl) rfl fun fr r => ?_
      refine wpList_nil ?_
      refine wp_loopG (X := Int × Mem × (Nat × T Int)) (G := Value × List Nat) (x0 := (0, x19, (fu, (D.free_Pop (fu + 1) a0)))) (fun x γ => [(0, (.agg (planC a0).toArray)), (1, (.int .u8 a1)), (2, a2_v), (3, (.pointer (some ⟨b1, 0, none⟩))), (6, (.bool false)), (37, (.bool x13)), (7, (.pointer (some ⟨mg21.mb, 0, none⟩))), (42, (.bool false)), (8, (.pointer (some ⟨b27, 0, none⟩))), (9, (.int .i64 x.1))]) (fun x γ w => Post No [roK 4 1 boolE a2_v a2, cellC b1 ((planC a0)).toArray 24, memK mg21 x.2.1, progK Try.prog encInt x.2.2 γ.1 γ.2, cellC b27 γ.1.cells 103] w0 w) (v24, (rg w20.heap.size w23.heap.size)) r (hs_cons rfl (hs_cons rfl (hs_cons rfl (hs_cons rfl (hs_cons rfl (hs_cons rfl (hs_cons rfl (hs_cons rfl (hs_cons rfl (hs_cons rfl hs_nil)))))))))) hP hD ?_ ?_
      · skip
        rintro x33 γ34 fr w36 g y35 RPy35 nxy35 bky35 rty35 r hP hD
        have hP : Post No [roK 4 1 boolE a2_v a2, cellC b1 ((planC a0)).toArray 24, memK mg21 x33.2.1, progK Try.prog encInt x33.2.2 γ34.1 γ34.2, cellC b27 γ34.1.cells 103] w0 w36 := hP
        refine wp_seq ?_
        refine wp_seq ?_
        refine wp_region_lit ?_
        refine seq_val (.int .i64 x33.1) r (fun R => y_move r rfl) rfl fun fr r => ?_
        refine seq_val (.int .u8 a1) r (fun R => y_move r rfl) rfl fun fr r => ?_
        refine seq_val (.int .u8 (a1.tmod 3)) r (fun R => y_bin r (u := (.int .u8 a1)) (u' := (.int .u8 3)) rfl rfl rfl rfl) rfl fun fr r => ?_
        refine seq_val (.int .i64 (IntKind.i64.wrap (a1.tmod 3))) r (fun R => y_convert r rfl ti5 ti3) rfl fun fr r => ?_
        refine seq_val (.bool (decide (x33.1 < (IntKind.i64.wrap (a1.tmod 3))))) r (fun R => y_bin r (u := (.int .i64 x33.1)) (u' := (.int .i64 (IntKind.i64.wrap (a1.tmod 3)))) rfl rfl rfl rfl) rfl fun fr r => ?_
        refine wpList_nil ?_
        refine wp_cond_split (t := (decide (x33.1 < (IntKind.i64.wrap (a1.tmod 3))))) (r.ev rfl) (fun h37 => ?_) (fun h37 => ?_)
        · skip
          have hD := (cond_t h37).symm.trans hD
          refine wp_skip ?_
          refine wp_seq ?_
          refine wp_block ?_
          refine wp_seq ?_
          obtain ⟨x38, hx38, hD⟩ := bindD_elim hD
          obtain ⟨x39, hx39, hD⟩ := bindD_elim hD
          refine wp_freeE mg21.bs [.val γ34.1, .val (.pointer (some ⟨mg21.mb, 0, none⟩)), .val (.pointer (some ⟨mg21.mb, 0, none⟩)), .val (.agg (capC x38).toArray), .eff (EffR Try.prog encInt w36.heap.size γ34.2 (memK mg21 x39.2.2) x39.1 (.bool x39.2.1)) EffR.st, .dep 4 (fun u v => v = u ∧ ∃ y, v = .tuple #[y, (.bool x39.2.1)] ∧ Shape encInt y), .dep 5 (fun u v => Shape encInt v ∧ u = .tuple #[v, (.bool x39.2.1)]), .val (.bool x39.2.1), .cell 103 7, .storedD 8 6 (fun v => v.cells) 103 7, .val (.bool x39.2.1)] mixed r (fun b hb => hP.sep.lt (i := 2) rfl (.inl hb)) (by kernel_rfl) ?_ ?_
          · skip
            refine eachE_early r rfl (by kernel_rfl) (fun fr1 g w' hb' hd r' => ?_) ?_
            · exact y_loadp r' ((hP.below (dr hb')).prog (i := 3) rfl).shape rfl ((hP.below (dr hb')).cell (i := 4) rfl) ta103 ⟨Below.refl _ _, rfl⟩
            refine eachE_early r rfl (by kernel_rfl) (fun fr1 g w' hb' hd r' => ?_) ?_
            · exact y_move r' (v := (.pointer (some ⟨mg21.mb, 0, none⟩))) rfl ⟨Below.refl _ _, rfl⟩
            refine eachE_late r rfl (fun fr1 g w' hk' hd r' => ?_) ?_
            · exact y_move r' (v := (.pointer (some ⟨mg21.mb, 0, none⟩))) rfl ⟨Below.refl _ _, rfl⟩
            refine eachE_early r rfl (by kernel_rfl) (fun fr1 g w' hb' hd r' => ?_) ?_
            · exact y_call r' (args := [(.pointer (some ⟨mg21.mb, 0, none⟩)), (.int .i64 0)]) (lc (hd 2 rfl).1 (lc rfl l0)) cl42 ((c_mem_Memory_Cap _ x33.2.1 ((hP.below (dr hb')).mem (i := 2) rfl) 0 hx38).mono (by rintro _ w2 ⟨rfl, hb2⟩; exact ⟨_, rfl, hb2, rfl⟩))
            refine eachE_early r rfl (by kernel_rfl) (fun fr1 g w' hb' hd r' => ?_) ?_
            · exact y_call r' (args := [γ34.1, (.pointer (some ⟨mg21.mb, 0, none⟩)), (.agg (capC x38).toArray)]) (lc (hd 0 rfl).1 (lc (hd 1 rfl).1 (lc (hd 3 rfl).1 l0))) cl64 ((c_prog_Prog_int_Step _ x33.2.2 x33.2.1 x38 ((hP.below (dr hb')).sep.pk [3, 2] rfl rfl) hx39).mono (by rintro _ w2 ⟨y, F, rfl, hq⟩; exact ⟨_, rfl, hq.chg.kept, EffR.of hq (fun b hb => hP.sep.lt (i := 2) rfl hb) (fun b hb => hP.sep.lt (i := 3) rfl (.inr hb))⟩))
            refine eachE_late r rfl (fun fr1 g w' hk' hd r' => ?_) ?_
            · obtain ⟨y, F, hv, _, _, _, hr, _⟩ := (hd 4 rfl).1; exact y_move r' (v := (g 4).v) rfl ⟨Below.refl _ _, rfl, y, hv, hr.shape⟩
            refine eachE_late r rfl (fun fr1 g w' hk' hd r' => ?_) ?_
            · obtain ⟨_, y, hv, hs⟩ := (hd 5 rfl).1; exact y_extract r' (vs := #[y, (.bool x39.2.1)]) hv rfl ⟨Below.refl _ _, hs, hv⟩
            refine eachE_late r rfl (fun fr1 g w' hk' hd r' => ?_) ?_
            · obtain ⟨_, y, hv, hs⟩ := (hd 5 rfl).1; exact y_extract r' (vs := #[y, (.bool x39.2.1)]) hv rfl ⟨Below.refl _ _, rfl⟩
            refine eachE_late r rfl (fun fr1 g w' hk' hd r' => ?_) ?_
            · exact y_alloc tz103 (fun b w2 n2 => ⟨n2.below, b, rfl, n2.eq, _, n2.at_, rfl⟩)
            refine eachE_late r rfl (fun fr1 g w' hk' hd r' => ?_) ?_
            · obtain ⟨hp, _, c, hc, hn⟩ := (hd 8 rfl).1; obtain ⟨hs, _⟩ := (hd 6 rfl).1; exact y_storep r' hs hp rfl hc ts103 hn (fun w2 u2 => ⟨u2, rfl, hs.cells.1⟩)
            refine eachE_late r rfl (fun fr1 g w' hk' hd r' => ?_) ?_
            · exact y_assign r' (v := (.bool x39.2.1)) (hd 7 rfl).1 ⟨Below.refl _ _, rfl⟩
            exact eachF_nil
          · skip
            intro fr gg w44 hb hΦ hap r
            have g0 : (gg 0).v = γ34.1 := (hΦ 0 rfl).1
            have g1 : (gg 1).v = (.pointer (some ⟨mg21.mb, 0, none⟩)) := (hΦ 1 rfl).1
            have g2 : (gg 2).v = (.pointer (some ⟨mg21.mb, 0, none⟩)) := (hΦ 2 rfl).1
            have g3 : (gg 3).v = (.agg (capC x38).toArray) := (hΦ 3 rfl).1
            obtain ⟨v40, F41, g4, hcE, _, _, hrE, hFE⟩ := (hΦ 4 rfl).1
            have g5 := (hΦ 5 rfl).1.1.trans g4
            have g6 : (gg 6).v = v40 := tup_eq ((hΦ 6 rfl).1.2.symm.trans g5)
            have g7 : (gg 7).v = (.bool x39.2.1) := (hΦ 7 rfl).1
            obtain ⟨b43, ee_b43⟩ : ∃ b, b = (gg 8).lo := ⟨_, rfl⟩
            have g8 : (gg 8).v = (.pointer (some ⟨b43, 0, none⟩)) := by rw [ee_b43]; exact (hΦ 8 rfl).1.1
            have h_b43 : w44.heap[b43]? = some (.cells v40.cells 103 (0, 0)) := by rw [ee_b43, ← g6]; exact (hΦ 9 rfl).1.2
            have hs8 : Fresh [cellC b43 v40.cells 103] (gg 8).lo (gg 8).hi w44 := by subst ee_b43; exact Fresh.cell (hΦ 8 rfl).1.2.1 h_b43
            have g10 : (gg 10).v = (.bool x39.2.1) := (hΦ 10 rfl).1
            have r := r.congr (sc g10 (sc g8 (sc g7 (sc g6 (sc g5 (sc g4 (sc g3 (sc g2 (sc g1 (sc g0 rfl))))))))))
            have hP : Post No [roK 4 1 boolE a2_v a2, cellC b1 ((planC a0)).toArray 24, memK mg21 x39.2.2, progK Try.prog encInt x33.2.2 γ34.1 γ34.2, cellC b27 γ34.1.cells 103, progK Try.prog encInt x39.1 v40 F41, cellC b43 v40.cells 103] w0 w44 := hP.effR (i := 2) (k := 3) (l := [([cellC b43 v40.cells 103], (gg 8).lo, (gg 8).hi)]) rfl rfl rfl hb hcE rfl rfl rfl hrE hFE (hΦ 4 rfl).2.1 (hΦ 4 rfl).2.2.2 ⟨hs8, (hΦ 8 rfl).2.1, disj_nil, trivial⟩ (disj_cons (hap 4 8 rfl) disj_nil)
            refine wp_region_lit ?_
            refine seq_val v40 r (fun R => y_loadp r (hP.prog (i := 5) rfl).shape rfl (hP.cell (i := 6) rfl) ta103) rfl fun fr r => ?_
            refine seq_upd (.cells v40.cells 103 (0, 0)) r (fun R => y_storep r (hP.prog (i := 5) rfl).shape rfl rfl (hP.cell (i := 4) rfl) ts103 (by have h := (hP.prog (i := 3) rfl).shape.cells.1; simpa using h)) rfl fun fr w45 u46 r => ?_
            have hP : Post No [roK 4 1 boolE a2_v a2, cellC b1 ((planC a0)).toArray 24, memK mg21 x39.2.2, progK Try.prog encInt x33.2.2 γ34.1 γ34.2, cellC b27 v40.cells 103, progK Try.prog encInt x39.1 v40 F41, cellC b43 v40.cells 103] w0 w45 := hP.upd (i := 4) rfl u46
            refine wpList_nil ?_
            refine wp_region_lit ?_
            refine seq_val (.int .i64 x33.1) r (fun R => y_move r rfl) rfl fun fr r => ?_
            refine seq_val (.int .i64 (IntKind.i64.wrap (x33.1 + 1))) r (fun R => y_bin r (u := (.int .i64 x33.1)) (u' := (.int .i64 1)) rfl rfl rfl rfl) rfl fun fr r => ?_
            refine seq_val (.int .i64 (IntKind.i64.wrap (x33.1 + 1))) r (fun R => y_assign r rfl) rfl fun fr r => ?_
            refine wpList_nil ?_
            exact nxy35 ((IntKind.i64.wrap (x33.1 + 1)), x39.2.2, x39.1) (v40, F41) _ _ _ hD r (hs_cons rfl (hs_cons rfl (hs_cons rfl (hs_cons rfl (hs_cons rfl (hs_cons rfl (hs_cons rfl (hs_cons rfl (hs_cons rfl (hs_cons rfl hs_nil)))))))))) (hP.pick [0, 1, 2, 5, 4] rfl rfl)
        · skip
          have hD := (cond_f h37).symm.trans hD
          refine wp_exit ?_
          exact bky35 (x33.1, x33.2.1, x33.2.2) (γ34.1, γ34.2) _ _ _ hD r (hs_cons rfl (hs_cons rfl (hs_cons rfl (hs_cons rfl (hs_cons rfl (hs_cons rfl (hs_cons rfl (hs_cons rfl (hs_cons rfl (hs_cons rfl hs_nil)))))))))) (hP.pick [0, 1, 2, 3, 4] rfl rfl)
      · skip
        rintro x47 γ48 fr w49 g r hP hD
        have hP : Post No [roK 4 1 boolE a2_v a2, cellC b1 ((planC a0)).toArray 24, memK mg21 x47.2.1, progK Try.prog encInt x47.2.2 γ48.1 γ48.2, cellC b27 γ48.1.cells 103] w0 w49 := hP
        refine wp_seq ?_
        refine wp_region_lit ?_
        refine seq_val (Value.slice none 0 0) r (fun R => y_assign r rfl) rfl fun fr r => ?_
        refine wpList_nil ?_
        refine wp_seq ?_
        refine wp_seq ?_
        refine wp_region_lit ?_
        refine seq_val (.int .i64 0) r (fun R => y_assign r rfl) rfl fun fr r => ?_
        refine wpList_nil ?_
        have hP : Post No [roK 4 1 boolE a2_v a2, cellC b1 ((planC a0)).toArray 24, memK mg21 x47.2.1, progK Try.prog encInt x47.2.2 γ48.1 γ48.2, cellC b27 γ48.1.cells 103, rowK 3 1 i64 (Value.slice none 0 0) ([])] w0 w49 := hP.nilRow 3 1 i64
        refine wp_loopG (X := List Int × Int × Mem) (G := Value) (x0 := ([], 0, x47.2.1)) (fun x γ => [(0, (.agg (planC a0).toArray)), (1, (.int .u8 a1)), (2, a2_v), (3, (.pointer (some ⟨b1, 0, none⟩))), (6, (.bool false)), (37, (.bool x13)), (7, (.pointer (some ⟨mg21.mb, 0, none⟩))), (42, (.bool false)), (8, (.pointer (some ⟨b27, 0, none⟩))), (9, (.int .i64 x47.1)), (12, γ), (13, (.int .i64 x.2.1))]) (fun x γ w => Post No [roK 4 1 boolE a2_v a2, cellC b1 ((planC a0)).toArray 24, memK mg21 x.2.2, progK Try.prog encInt x47.2.2 γ48.1 γ48.2, cellC b27 γ48.1.cells 103, rowK 3 1 i64 γ x.1] w0 w) (Value.slice none 0 0) r (hs_cons rfl (hs_cons rfl (hs_cons rfl (hs_cons rfl (hs_cons rfl (hs_cons rfl (hs_cons rfl (hs_cons rfl (hs_cons rfl (hs_cons rfl (hs_cons rfl (hs_cons rfl hs_nil)))))))))))) hP hD ?_ ?_
        · skip
          rintro x51 γ52 fr w54 g y53 RPy53 nxy53 bky53 rty53 r hP hD
          have hP : Post No [roK 4 1 boolE a2_v a2, cellC b1 ((planC a0)).toArray 24, memK mg21 x51.2.2, progK Try.prog encInt x47.2.2 γ48.1 γ48.2, cellC b27 γ48.1.cells 103, rowK 3 1 i64 γ52 x51.1] w0 w54 := hP
          refine wp_seq ?_
          refine wp_seq ?_
          refine wp_region_lit ?_
          refine seq_val (.int .i64 x51.2.1) r (fun R => y_move r rfl) rfl fun fr r => ?_
          refine seq_val a2_v r (fun R => y_move r rfl) rfl fun fr r => ?_
          refine seq_val (.int .i64 (a2.length : Int)) r (fun R => y_rowLen r (hP.ro (i := 0) rfl) is87 rfl) rfl fun fr r => ?_
          refine seq_val (.bool (decide (x51.2.1 < (a2.length : Int)))) r (fun R => y_bin r (u := (.int .i64 x51.2.1)) (u' := (.int .i64 (a2.length : Int))) rfl rfl rfl rfl) rfl fun fr r => ?_
          refine wpList_nil ?_
          refine wp_cond_split (t := (decide (x51.2.1 < (a2.length : Int)))) (r.ev rfl) (fun h55 => ?_) (fun h55 => ?_)
          · skip
            have hD := (cond_t h55).symm.trans hD
            refine wp_skip ?_
            refine wp_seq ?_
            refine wp_block ?_
            refine wp_seq ?_
            refine wp_region_lit ?_
            refine seq_val a2_v r (fun R => y_move r rfl) rfl fun fr r => ?_
            refine seq_val (.int .i64 x51.2.1) r (fun R => y_move r rfl) rfl fun fr r => ?_
            obtain ⟨x56, hx56, hD⟩ := bindD_elim hD
            refine seq_val (.pointer (some ⟨rowB a2_v, rowO a2_v + x51.2.1.toNat * 1, none⟩)) r (fun R => y_rowAddr r (hP.ro (i := 0) rfl) hx56 sl87 rfl rfl) rfl fun fr r => ?_
            refine seq_val (.bool x56) r (fun R => y_loadL_one r (u := (.bool x56)) (RoAt.at_ (f := boolE) (x := x56) (hP.ro (i := 0) rfl) (fun _ => rfl) hx56) rfl to4) rfl fun fr r => ?_
            refine wpList_nil ?_
            refine wp_joinG (N := 152) (Y := List Int × Mem) (G := Value) (fun x γ => [(0, (.agg (planC a0).toArray)), (1, (.int .u8 a1)), (2, a2_v), (3, (.pointer (some ⟨b1, 0, none⟩))), (6, (.bool false)), (37, (.bool x13)), (7, (.pointer (some ⟨mg21.mb, 0, none⟩))), (42, (.bool false)), (8, (.pointer (some ⟨b27, 0, none⟩))), (9, (.int .i64 x47.1)), (13, (.int .i64 x51.2.1)), (64, (.bool (decide (x51.2.1 < (a2.length : Int))))), (70, (.bool x56)), (12, γ)]) (fun x γ w => Post No [roK 4 1 boolE a2_v a2, cellC b1 ((planC a0)).toArray 24, memK mg21 x.2, progK Try.prog encInt x47.2.2 γ48.1 γ48.2, cellC b27 γ48.1.cells 103, rowK 3 1 i64 γ x.1] w0 w) hD ?_ ?_
            · skip
              rintro y57 RPy57 nxy57 hD
              refine wp_cond_split (t := x56) (r.ev rfl) (fun h58 => ?_) (fun h58 => ?_)
              · skip
                have hD := (cond_t h58).symm.trans hD
                refine wp_seq ?_
                refine wp_region_lit ?_
                refine seq_val (.agg (planC a0).toArray) r (fun R => y_load_agg r (cs := (planC a0)) (n := 6) rfl (hP.cell (i := 1) rfl) ta24 rfl) rfl fun fr r => ?_
                refine seq_call r ((c_free_Pop (n := fu) (k := fu + 1) (by omega)) No w54 (fun _ h => h.elim) a0) (fun R hc => y_call r rfl cl58 hc) rfl ?_
                rintro _ w59 ⟨v60, rfl, hb, hr61⟩
                refine ⟨_, rfl, fun fr r => ?_⟩
                have hP : Post No [roK 4 1 boolE a2_v a2, cellC b1 ((planC a0)).toArray 24, memK mg21 x51.2.2, progK Try.prog encInt x47.2.2 γ48.1 γ48.2, cellC b27 γ48.1.cells 103, rowK 3 1 i64 γ52 x51.1, progK Try.prog encInt (fu, (D.free_Pop (fu + 1) a0)) v60 (rg w54.heap.size w59.heap.size)] w0 w59 := hP.addProg hb hr61
                refine seq_val (.pointer (some ⟨mg21.mb, 0, none⟩)) r (fun R => y_move r rfl) rfl fun fr r => ?_
                refine seq_val (.pointer (some ⟨mg21.mb, 0, none⟩)) r (fun R => y_move r rfl) rfl fun fr r => ?_
                obtain ⟨x63, hx63, hD⟩ := bindD_elim hD
                refine seq_call r (c_mem_Memory_Cap w59 x51.2.2 (hP.mem (i := 2) rfl) 0 hx63) (fun R hc => y_call r rfl cl42 hc) rfl ?_
                rintro _ w64 ⟨rfl, hb⟩
                refine ⟨_, rfl, fun fr r => ?_⟩
                have hP : Post No [roK 4 1 boolE a2_v a2, cellC b1 ((planC a0)).toArray 24, memK mg21 x51.2.2, progK Try.prog encInt x47.2.2 γ48.1 γ48.2, cellC b27 γ48.1.cells 103, rowK 3 1 i64 γ52 x51.1, progK Try.prog encInt (fu, (D.free_Pop (fu + 1) a0)) v60 (rg w54.heap.size w59.heap.size)] w0 w64 := hP.below hb
                obtain ⟨x65, hx65, hD⟩ := bindD_elim hD
                refine seq_call r (c_prog_Run_int w64 (fu, (D.free_Pop (fu + 1) a0)) x51.2.2 x63 9 (hP.sep.pk [6, 2] rfl rfl) hx65) (fun R hc => y_call r rfl cl57 hc) rfl ?_
                rintro _ w66 ⟨rfl, hq⟩
                refine ⟨_, rfl, fun fr r => ?_⟩
                have hP : Post No [roK 4 1 boolE a2_v a2, cellC b1 ((planC a0)).toArray 24, memK mg21 x65.2.2.2, progK Try.prog encInt x47.2.2 γ48.1 γ48.2, cellC b27 γ48.1.cells 103, rowK 3 1 i64 γ52 x51.1, progK Try.prog encInt (fu, (D.free_Pop (fu + 1) a0)) v60 (rg w54.heap.size w59.heap.size)] w0 w66 := hP.setN (i := 2) rfl hq
                refine seq_val (.tuple #[(.int .i64 x65.1), (.int .i64 x65.2.1), (.bool x65.2.2.1)]) r (fun R => y_move r rfl) rfl fun fr r => ?_
                refine seq_val (.int .i64 x65.1) r (fun R => y_extract r (vs := #[(.int .i64 x65.1), (.int .i64 x65.2.1), (.bool x65.2.2.1)]) rfl rfl) rfl fun fr r => ?_
                refine seq_val (.int .i64 x65.2.1) r (fun R => y_extract r (vs := #[(.int .i64 x65.1), (.int .i64 x65.2.1), (.bool x65.2.2.1)]) rfl rfl) rfl fun fr r => ?_
                refine seq_val (.bool x65.2.2.1) r (fun R => y_extract r (vs := #[(.int .i64 x65.1), (.int .i64 x65.2.1), (.bool x65.2.2.1)]) rfl rfl) rfl fun fr r => ?_
                refine seq_val (.int .i64 x65.1) r (fun R => y_assign r rfl) rfl fun fr r => ?_
                refine seq_val (.int .i64 x65.2.1) r (fun R => y_assign r rfl) rfl fun fr r => ?_
                refine seq_val (.bool x65.2.2.1) r (fun R => y_assign r rfl) rfl fun fr r => ?_
                refine wpList_nil ?_
                refine wp_seq ?_
                refine wp_region_lit ?_
                refine seq_val (.int .i64 x65.1) r (fun R => y_move r rfl) rfl fun fr r => ?_
                refine seq_val (.bool (decide (x65.1 ≥ 0))) r (fun R => y_bin r (u := (.int .i64 x65.1)) (u' := (.int .i64 0)) rfl rfl rfl rfl) rfl fun fr r => ?_
                refine wpList_nil ?_
                have hP : Post No [roK 4 1 boolE a2_v a2, cellC b1 ((planC a0)).toArray 24, memK mg21 x65.2.2.2, progK Try.prog encInt x47.2.2 γ48.1 γ48.2, cellC b27 γ48.1.cells 103, rowK 3 1 i64 γ52 x51.1] w0 w66 := hP.pick [0, 1, 2, 3, 4, 5] rfl rfl
                refine wp_joinG (N := 152) (Y := List Int) (G := Value) (fun x γ => [(0, (.agg (planC a0).toArray)), (1, (.int .u8 a1)), (2, a2_v), (3, (.pointer (some ⟨b1, 0, none⟩))), (6, (.bool false)), (37, (.bool x13)), (7, (.pointer (some ⟨mg21.mb, 0, none⟩))), (42, (.bool false)), (8, (.pointer (some ⟨b27, 0, none⟩))), (9, (.int .i64 x47.1)), (13, (.int .i64 x51.2.1)), (64, (.bool (decide (x51.2.1 < (a2.length : Int))))), (70, (.bool x56)), (14, (.int .i64 x65.1)), (82, (.bool (decide (x65.1 ≥ 0)))), (12, γ)]) (fun x γ w => Post No [roK 4 1 boolE a2_v a2, cellC b1 ((planC a0)).toArray 24, memK mg21 x65.2.2.2, progK Try.prog encInt x47.2.2 γ48.1 γ48.2, cellC b27 γ48.1.cells 103, rowK 3 1 i64 γ x] w0 w) hD ?_ ?_
                · skip
                  rintro y67 RPy67 nxy67 hD
                  refine wp_cond_split (t := (decide (x65.1 ≥ 0))) (r.ev rfl) (fun h68 => ?_) (fun h68 => ?_)
                  · skip
                    have hD := (cond_t h68).symm.trans hD
                    refine wp_region_lit ?_
                    refine seq_val γ52 r (fun R => y_move r rfl) rfl fun fr r => ?_
                    refine seq_val (.int .i64 x65.1) r (fun R => y_move r rfl) rfl fun fr r => ?_
                    refine seq_newS (.cells (([x65.1]).flatMap i64).toArray 3 (0, 0)) 1 r (fun R => y_bslice r (by kernel_rfl)) rfl fun fr b69 w70 n71 r => ?_
                    have hP : Post No [roK 4 1 boolE a2_v a2, cellC b1 ((planC a0)).toArray 24, memK mg21 x65.2.2.2, progK Try.prog encInt x47.2.2 γ48.1 γ48.2, cellC b27 γ48.1.cells 103, rowK 3 1 i64 γ52 x51.1, rowK 3 1 i64 (.slice (some ⟨b69, 0, none⟩) 1 1) ([x65.1])] w0 w70 := hP.newRow n71 (fun _ => rfl) rfl
                    obtain ⟨x73, hx73, hD⟩ := bindD_elim hD
                    refine seq_app 3 1 i64 γ52 r (fun R => y_append r rt36 (fun _ => rfl) (fun _ => rfl) (hP.row (i := 5) rfl) (hP.row (i := 6) rfl).ro hx73 rfl rfl) rfl fun fr v74 w75 ha76 r => ?_
                    have hP : Post No [roK 4 1 boolE a2_v a2, cellC b1 ((planC a0)).toArray 24, memK mg21 x65.2.2.2, progK Try.prog encInt x47.2.2 γ48.1 γ48.2, cellC b27 γ48.1.cells 103, rowK 3 1 i64 v74 x73, rowK 3 1 i64 (.slice (some ⟨b69, 0, none⟩) 1 1) ([x65.1])] w0 w75 := hP.append (i := 5) rfl ha76
                    refine seq_val v74 r (fun R => y_assign r rfl) rfl fun fr r => ?_
                    refine wpList_nil ?_
                    exact nxy67 x73 v74 _ _ _ hD r (hs_cons rfl (hs_cons rfl (hs_cons rfl (hs_cons rfl (hs_cons rfl (hs_cons rfl (hs_cons rfl (hs_cons rfl (hs_cons rfl (hs_cons rfl (hs_cons rfl (hs_cons rfl (hs_cons rfl (hs_cons rfl (hs_cons rfl (hs_cons rfl hs_nil)))))))))))))))) (hP.pick [0, 1, 2, 3, 4, 5] rfl rfl)
                  · skip
                    have hD := (cond_f h68).symm.trans hD
                    refine wp_skip ?_
                    exact nxy67 x51.1 γ52 _ _ _ hD r (hs_cons rfl (hs_cons rfl (hs_cons rfl (hs_cons rfl (hs_cons rfl (hs_cons rfl (hs_cons rfl (hs_cons rfl (hs_cons rfl (hs_cons rfl (hs_cons rfl (hs_cons rfl (hs_cons rfl (hs_cons rfl (hs_cons rfl (hs_cons rfl hs_nil)))))))))))))))) (hP.pick [0, 1, 2, 3, 4, 5] rfl rfl)
                · skip
                  rintro x77 γ78 fr w79 g r hP hD
                  have hP : Post No [roK 4 1 boolE a2_v a2, cellC b1 ((planC a0)).toArray 24, memK mg21 x65.2.2.2, progK Try.prog encInt x47.2.2 γ48.1 γ48.2, cellC b27 γ48.1.cells 103, rowK 3 1 i64 γ78 x77] w0 w79 := hP
                  exact nxy57 (x77, x65.2.2.2) γ78 _ _ _ hD r (hs_cons rfl (hs_cons rfl (hs_cons rfl (hs_cons rfl (hs_cons rfl (hs_cons rfl (hs_cons rfl (hs_cons rfl (hs_cons rfl (hs_cons rfl (hs_cons rfl (hs_cons rfl (hs_cons rfl (hs_cons rfl hs_nil)))))))))))))) (hP.pick [0, 1, 2, 3, 4, 5] rfl rfl)
              · skip
                have hD := (cond_f h58).symm.trans hD
                refine wp_seq ?_
                refine wp_region_lit ?_
                refine seq_val γ52 r (fun R => y_move r rfl) rfl fun fr r => ?_
                refine seq_val (.int .i64 (x51.1.length : Int)) r (fun R => y_rowLen r (hP.row (i := 5) rfl).ro is36 rfl) rfl fun fr r => ?_
                refine seq_val (.bool (decide ((x51.1.length : Int) > 0))) r (fun R => y_bin r (u := (.int .i64 (x51.1.length : Int))) (u' := (.int .i64 0)) rfl rfl rfl rfl) rfl fun fr r => ?_
                refine wpList_nil ?_
                refine wp_joinG (N := 152) (Y := Mem × List Int) (G := Value) (fun x γ => [(0, (.agg (planC a0).toArray)), (1, (.int .u8 a1)), (2, a2_v), (3, (.pointer (some ⟨b1, 0, none⟩))), (6, (.bool false)), (37, (.bool x13)), (7, (.pointer (some ⟨mg21.mb, 0, none⟩))), (42, (.bool false)), (8, (.pointer (some ⟨b27, 0, none⟩))), (9, (.int .i64 x47.1)), (13, (.int .i64 x51.2.1)), (64, (.bool (decide (x51.2.1 < (a2.length : Int))))), (70, (.bool x56)), (89, (.bool (decide ((x51.1.length : Int) > 0)))), (12, γ)]) (fun x γ w => Post No [roK 4 1 boolE a2_v a2, cellC b1 ((planC a0)).toArray 24, memK mg21 x.1, progK Try.prog encInt x47.2.2 γ48.1 γ48.2, cellC b27 γ48.1.cells 103, rowK 3 1 i64 γ x.2] w0 w) hD ?_ ?_
                · skip
                  rintro y80 RPy80 nxy80 hD
                  refine wp_cond_split (t := (decide ((x51.1.length : Int) > 0))) (r.ev rfl) (fun h81 => ?_) (fun h81 => ?_)
                  · skip
                    have hD := (cond_t h81).symm.trans hD
                    refine wp_seq ?_
                    obtain ⟨x82, hx82, hD⟩ := bindD_elim hD
                    obtain ⟨x84, hx84, hD⟩ := bindD_elim hD
                    obtain ⟨x85, hx85, hD⟩ := bindD_elim hD
                    refine wp_freeE mg21.bs [.val (.agg (planC a0).toArray), .val γ52, .val (.pointer (some ⟨rowB γ52, rowO γ52 + (0 : Int).toNat * 1, none⟩)), .val (.int .i64 x82), .pred (PrP Try.prog encInt (fu, (D.free_Push (fu + 1) a0 x82))) (PrP.st _), .val (.pointer (some ⟨mg21.mb, 0, none⟩)), .val (.pointer (some ⟨mg21.mb, 0, none⟩)), .val (.agg (capC x84).toArray), .eff (EffP w54.heap.size (memK mg21 x85.2.2.2) (fun _ : Unit => (.tuple #[(.int .i64 x85.1), (.int .i64 x85.2.1), (.bool x85.2.2.1)])) (fun _ : Unit => [])) (EffP.st _ _ _ _)] mixed r (fun b hb => hP.sep.lt (i := 2) rfl (.inl hb)) (by kernel_rfl) ?_ ?_
                    · skip
                      refine eachE_late r rfl (fun fr1 g w' hk' hd r' => ?_) ?_
                      · exact y_load_agg r' (cs := (planC a0)) (n := 6) rfl (hP.cellK (j := 2) rfl (drK hk') (i := 1) rfl rfl) ta24 rfl ⟨Below.refl _ _, rfl⟩
                      refine eachE_late r rfl (fun fr1 g w' hk' hd r' => ?_) ?_
                      · exact y_move r' (v := γ52) rfl ⟨Below.refl _ _, rfl⟩
                      refine eachE_late r rfl (fun fr1 g w' hk' hd r' => ?_) ?_
                      · exact y_rowAddr r' (show RowAt _ _ _ _ _ _ from hP.okK (j := 2) rfl (drK hk') (i := 5) rfl rfl).ro hx82 sl36 (hd 1 rfl).1 rfl ⟨Below.refl _ _, rfl⟩
                      refine eachE_late r rfl (fun fr1 g w' hk' hd r' => ?_) ?_
                      · exact y_loadL_one r' (u := (.int .i64 x82)) (RoAt.at_ (f := i64) (x := x82) (show RowAt _ _ _ _ _ _ from hP.okK (j := 2) rfl (drK hk') (i := 5) rfl rfl).ro (fun _ => rfl) hx82) (hd 2 rfl).1 to3 ⟨Below.refl _ _, rfl⟩
                      refine eachE_early r rfl (by kernel_rfl) (fun fr1 g w' hb' hd r' => ?_) ?_
                      · exact y_call r' (args := [(.agg (planC a0).toArray), (.int .i64 x82)]) (lc (hd 0 rfl).1 (lc (hd 3 rfl).1 l0)) cl60 (((c_free_Push (n := fu) (k := fu + 1) (by omega)) No _ (fun _ h => h.elim) a0 x82).mono (by rintro _ w2 ⟨y, rfl, hb2, hr2⟩; exact ⟨_, rfl, hb2, fresh_prog hr2⟩))
                      refine eachE_early r rfl (by kernel_rfl) (fun fr1 g w' hb' hd r' => ?_) ?_
                      · exact y_move r' (v := (.pointer (some ⟨mg21.mb, 0, none⟩))) rfl ⟨Below.refl _ _, rfl⟩
                      refine eachE_late r rfl (fun fr1 g w' hk' hd r' => ?_) ?_
                      · exact y_move r' (v := (.pointer (some ⟨mg21.mb, 0, none⟩))) rfl ⟨Below.refl _ _, rfl⟩
                      refine eachE_early r rfl (by kernel_rfl) (fun fr1 g w' hb' hd r' => ?_) ?_
                      · exact y_call r' (args := [(.pointer (some ⟨mg21.mb, 0, none⟩)), (.int .i64 0)]) (lc (hd 6 rfl).1 (lc rfl l0)) cl42 ((c_mem_Memory_Cap _ x51.2.2 ((hP.below (dr hb')).mem (i := 2) rfl) 0 hx84).mono (by rintro _ w2 ⟨rfl, hb2⟩; exact ⟨_, rfl, hb2, rfl⟩))
                      refine eachE_early r rfl (by kernel_rfl) (fun fr1 g w' hb' hd r' => ?_) ?_
                      · exact y_call r' (args := [(g 4).v, (.pointer (some ⟨mg21.mb, 0, none⟩)), (.agg (capC x84).toArray), (.int .i64 9)]) (lc rfl (lc (hd 5 rfl).1 (lc (hd 7 rfl).1 (lc rfl l0)))) cl57 ((c_prog_Run_int _ (fu, (D.free_Push (fu + 1) a0 x82)) x51.2.2 x84 9 (Sep.beside (hd 4 rfl).1 ((hP.below (dr hb')).sep.pk [2] rfl rfl) (fun c hc b hb => by rcases List.mem_singleton.1 hc with rfl; exact hP.sep.lt (i := 2) rfl hb) (hd 4 rfl).2.1) hx85).mono (by rintro _ w2 ⟨rfl, hq⟩; exact ⟨_, rfl, hq.chg.kept, EffP.of () hq rfl (fun b hb => hP.sep.lt (i := 2) rfl hb)⟩))
                      exact eachF_nil
                    · skip
                      intro fr gg w86 hb hΦ hap r
                      have g0 : (gg 0).v = (.agg (planC a0).toArray) := (hΦ 0 rfl).1
                      have g1 : (gg 1).v = γ52 := (hΦ 1 rfl).1
                      have g2 : (gg 2).v = (.pointer (some ⟨rowB γ52, rowO γ52 + (0 : Int).toNat * 1, none⟩)) := (hΦ 2 rfl).1
                      have g3 : (gg 3).v = (.int .i64 x82) := (hΦ 3 rfl).1
                      obtain ⟨v83, hv4⟩ : ∃ v, v = (gg 4).v := ⟨_, rfl⟩
                      have g4 : (gg 4).v = v83 := hv4.symm
                      have hs4 : Fresh [progK Try.prog encInt (fu, (D.free_Push (fu + 1) a0 x82)) v83 (rg (gg 4).lo (gg 4).hi)] (gg 4).lo (gg 4).hi w86 := by subst hv4; exact (hΦ 4 rfl).1
                      have g5 : (gg 5).v = (.pointer (some ⟨mg21.mb, 0, none⟩)) := (hΦ 5 rfl).1
                      have g6 : (gg 6).v = (.pointer (some ⟨mg21.mb, 0, none⟩)) := (hΦ 6 rfl).1
                      have g7 : (gg 7).v = (.agg (capC x84).toArray) := (hΦ 7 rfl).1
                      obtain ⟨⟨⟩, g8, hcE, _, hs8⟩ := (hΦ 8 rfl).1
                      have r := r.congr (sc g8 (sc g7 (sc g6 (sc g5 (sc g4 (sc g3 (sc g2 (sc g1 (sc g0 rfl)))))))))
                      have hP : Post No [roK 4 1 boolE a2_v a2, cellC b1 ((planC a0)).toArray 24, memK mg21 x85.2.2.2, progK Try.prog encInt x47.2.2 γ48.1 γ48.2, cellC b27 γ48.1.cells 103, rowK 3 1 i64 γ52 x51.1, progK Try.prog encInt (fu, (D.free_Push (fu + 1) a0 x82)) v83 (rg (gg 4).lo (gg 4).hi)] w0 w86 := hP.effL (i := 2) (l := [([progK Try.prog encInt (fu, (D.free_Push (fu + 1) a0 x82)) v83 (rg (gg 4).lo (gg 4).hi)], (gg 4).lo, (gg 4).hi)]) rfl hb hcE rfl rfl ⟨hs4, (hΦ 4 rfl).2.1, disj_nil, trivial⟩
                      refine wp_region_lit ?_
                      refine seq_val γ52 r (fun R => y_move r rfl) rfl fun fr r => ?_
                      obtain ⟨x87, hx87, hD⟩ := bindD_elim hD
                      refine seq_val (sliceV 1 γ52 (1 : Int).toNat (x51.1.length : Int).toNat) r (fun R => y_cut r (hP.row (i := 5) rfl).ro sl36 rfl rfl rfl rfl rfl rfl rfl hx87) rfl fun fr r => ?_
                      refine seq_val (sliceV 1 γ52 (1 : Int).toNat (x51.1.length : Int).toNat) r (fun R => y_assign r rfl) rfl fun fr r => ?_
                      refine wpList_nil ?_
                      have hP : Post No [roK 4 1 boolE a2_v a2, cellC b1 ((planC a0)).toArray 24, memK mg21 x85.2.2.2, progK Try.prog encInt x47.2.2 γ48.1 γ48.2, cellC b27 γ48.1.cells 103, rowK 3 1 i64 (sliceV 1 γ52 (1 : Int).toNat (x51.1.length : Int).toNat) x87, progK Try.prog encInt (fu, (D.free_Push (fu + 1) a0 x82)) v83 (rg (gg 4).lo (gg 4).hi)] w0 w86 := hP.narrow (i := 5) rfl (fun _ => rfl) hx87
                      exact nxy80 (x85.2.2.2, x87) (sliceV 1 γ52 (1 : Int).toNat (x51.1.length : Int).toNat) _ _ _ hD r (hs_cons rfl (hs_cons rfl (hs_cons rfl (hs_cons rfl (hs_cons rfl (hs_cons rfl (hs_cons rfl (hs_cons rfl (hs_cons rfl (hs_cons rfl (hs_cons rfl (hs_cons rfl (hs_cons rfl (hs_cons rfl (hs_cons rfl hs_nil))))))))))))))) (hP.pick [0, 1, 2, 3, 4, 5] rfl rfl)
                  · skip
                    have hD := (cond_f h81).symm.trans hD
                    refine wp_skip ?_
                    exact nxy80 (x51.2.2, x51.1) γ52 _ _ _ hD r (hs_cons rfl (hs_cons rfl (hs_cons rfl (hs_cons rfl (hs_cons rfl (hs_cons rfl (hs_cons rfl (hs_cons rfl (hs_cons rfl (hs_cons rfl (hs_cons rfl (hs_cons rfl (hs_cons rfl (hs_cons rfl (hs_cons rfl hs_nil))))))))))))))) (hP.pick [0, 1, 2, 3, 4, 5] rfl rfl)
                · skip
                  rintro x88 γ89 fr w90 g r hP hD
                  have hP : Post No [roK 4 1 boolE a2_v a2, cellC b1 ((planC a0)).toArray 24, memK mg21 x88.1, progK Try.prog encInt x47.2.2 γ48.1 γ48.2, cellC b27 γ48.1.cells 103, rowK 3 1 i64 γ89 x88.2] w0 w90 := hP
                  exact nxy57 (x88.2, x88.1) γ89 _ _ _ hD r (hs_cons rfl (hs_cons rfl (hs_cons rfl (hs_cons rfl (hs_cons rfl (hs_cons rfl (hs_cons rfl (hs_cons rfl (hs_cons rfl (hs_cons rfl (hs_cons rfl (hs_cons rfl (hs_cons rfl (hs_cons rfl hs_nil)))))))))))))) (hP.pick [0, 1, 2, 3, 4, 5] rfl rfl)
            · skip
              rintro x91 γ92 fr w93 g r hP hD
              have hP : Post No [roK 4 1 boolE a2_v a2, cellC b1 ((planC a0)).toArray 24, memK mg21 x91.2, progK Try.prog encInt x47.2.2 γ48.1 γ48.2, cellC b27 γ48.1.cells 103, rowK 3 1 i64 γ92 x91.1] w0 w93 := hP
              refine wp_region_lit ?_
              refine seq_val (.int .i64 x51.2.1) r (fun R => y_move r rfl) rfl fun fr r => ?_
              refine seq_val (.int .i64 (IntKind.i64.wrap (x51.2.1 + 1))) r (fun R => y_bin r (u := (.int .i64 x51.2.1)) (u' := (.int .i64 1)) rfl rfl rfl rfl) rfl fun fr r => ?_
              refine seq_val (.int .i64 (IntKind.i64.wrap (x51.2.1 + 1))) r (fun R => y_assign r rfl) rfl fun fr r => ?_
              refine wpList_nil ?_
              exact nxy53 (x91.1, (IntKind.i64.wrap (x51.2.1 + 1)), x91.2) γ92 _ _ _ hD r (hs_cons rfl (hs_cons rfl (hs_cons rfl (hs_cons rfl (hs_cons rfl (hs_cons rfl (hs_cons rfl (hs_cons rfl (hs_cons rfl (hs_cons rfl (hs_cons rfl (hs_cons rfl hs_nil)))))))))))) (hP.pick [0, 1, 2, 3, 4, 5] rfl rfl)
          · skip
            have hD := (cond_f h55).symm.trans hD
            refine wp_exit ?_
            exact bky53 (x51.1, x51.2.1, x51.2.2) γ52 _ _ _ hD r (hs_cons rfl (hs_cons rfl (hs_cons rfl (hs_cons rfl (hs_cons rfl (hs_cons rfl (hs_cons rfl (hs_cons rfl (hs_cons rfl (hs_cons rfl (hs_cons rfl (hs_cons rfl hs_nil)))))))))))) (hP.pick [0, 1, 2, 3, 4, 5] rfl rfl)
        · skip
          rintro x94 γ95 fr w96 g r hP hD
          have hP : Post No [roK 4 1 boolE a2_v a2, cellC b1 ((planC a0)).toArray 24, memK mg21 x94.2.2, progK Try.prog encInt x47.2.2 γ48.1 γ48.2, cellC b27 γ48.1.cells 103, rowK 3 1 i64 γ95 x94.1] w0 w96 := hP
          refine wp_seq ?_
          obtain ⟨x97, hx97, hD⟩ := bindD_elim hD
          obtain ⟨x98, hx98, hD⟩ := bindD_elim hD
          refine wp_freeE mg21.bs [.val γ48.1, .val (.pointer (some ⟨mg21.mb, 0, none⟩)), .val (.pointer (some ⟨mg21.mb, 0, none⟩)), .val (.agg (capC x97).toArray), .eff (EffP w96.heap.size (memK mg21 x98.2.2.2) (fun _ : Unit => (.tuple #[(.int .i64 x98.1), (.int .i64 x98.2.1), (.bool x98.2.2.1)])) (fun _ : Unit => [])) (EffP.st _ _ _ _), .val (.tuple #[(.int .i64 x98.1), (.int .i64 x98.2.1), (.bool x98.2.2.1)]), .val (.int .i64 x98.1), .val (.int .i64 x98.2.1), .val (.bool x98.2.2.1), .val (.int .i64 x98.1), .val (.int .i64 x98.2.1), .val (.bool x98.2.2.1)] mixed r (fun b hb => hP.sep.lt (i := 2) rfl (.inl hb)) (by kernel_rfl) ?_ ?_
          · skip
            refine eachE_early r rfl (by kernel_rfl) (fun fr1 g w' hb' hd r' => ?_) ?_
            · exact y_loadp r' ((hP.below (dr hb')).prog (i := 3) rfl).shape rfl ((hP.below (dr hb')).cell (i := 4) rfl) ta103 ⟨Below.refl _ _, rfl⟩
            refine eachE_early r rfl (by kernel_rfl) (fun fr1 g w' hb' hd r' => ?_) ?_
            · exact y_move r' (v := (.pointer (some ⟨mg21.mb, 0, none⟩))) rfl ⟨Below.refl _ _, rfl⟩
            refine eachE_late r rfl (fun fr1 g w' hk' hd r' => ?_) ?_
            · exact y_move r' (v := (.pointer (some ⟨mg21.mb, 0, none⟩))) rfl ⟨Below.refl _ _, rfl⟩
            refine eachE_early r rfl (by kernel_rfl) (fun fr1 g w' hb' hd r' => ?_) ?_
            · exact y_call r' (args := [(.pointer (some ⟨mg21.mb, 0, none⟩)), (.int .i64 0)]) (lc (hd 2 rfl).1 (lc rfl l0)) cl42 ((c_mem_Memory_Cap _ x94.2.2 ((hP.below (dr hb')).mem (i := 2) rfl) 0 hx97).mono (by rintro _ w2 ⟨rfl, hb2⟩; exact ⟨_, rfl, hb2, rfl⟩))
            refine eachE_early r rfl (by kernel_rfl) (fun fr1 g w' hb' hd r' => ?_) ?_
            · exact y_call r' (args := [γ48.1, (.pointer (some ⟨mg21.mb, 0, none⟩)), (.agg (capC x97).toArray), (.int .i64 9)]) (lc (hd 0 rfl).1 (lc (hd 1 rfl).1 (lc (hd 3 rfl).1 (lc rfl l0)))) cl57 ((c_prog_Run_int _ x47.2.2 x94.2.2 x97 9 ((hP.below (dr hb')).sep.pk [3, 2] rfl rfl) hx98).mono (by rintro _ w2 ⟨rfl, hq⟩; exact ⟨_, rfl, hq.chg.kept, EffP.of () hq rfl (fun b hb => hP.sep.lt (i := 2) rfl hb)⟩))
            refine eachE_late r rfl (fun fr1 g w' hk' hd r' => ?_) ?_
            · exact y_move r' (v := (.tuple #[(.int .i64 x98.1), (.int .i64 x98.2.1), (.bool x98.2.2.1)])) (EffP.val (hd 4 rfl).1) ⟨Below.refl _ _, rfl⟩
            refine eachE_late r rfl (fun fr1 g w' hk' hd r' => ?_) ?_
            · exact y_extract r' (vs := #[(.int .i64 x98.1), (.int .i64 x98.2.1), (.bool x98.2.2.1)]) (hd 5 rfl).1 rfl ⟨Below.refl _ _, rfl⟩
            refine eachE_late r rfl (fun fr1 g w' hk' hd r' => ?_) ?_
            · exact y_extract r' (vs := #[(.int .i64 x98.1), (.int .i64 x98.2.1), (.bool x98.2.2.1)]) (hd 5 rfl).1 rfl ⟨Below.refl _ _, rfl⟩
            refine eachE_late r rfl (fun fr1 g w' hk' hd r' => ?_) ?_
            · exact y_extract r' (vs := #[(.int .i64 x98.1), (.int .i64 x98.2.1), (.bool x98.2.2.1)]) (hd 5 rfl).1 rfl ⟨Below.refl _ _, rfl⟩
            refine eachE_late r rfl (fun fr1 g w' hk' hd r' => ?_) ?_
            · exact y_assign r' (v := (.int .i64 x98.1)) (hd 6 rfl).1 ⟨Below.refl _ _, rfl⟩
            refine eachE_late r rfl (fun fr1 g w' hk' hd r' => ?_) ?_
            · exact y_assign r' (v := (.int .i64 x98.2.1)) (hd 7 rfl).1 ⟨Below.refl _ _, rfl⟩
            refine eachE_late r rfl (fun fr1 g w' hk' hd r' => ?_) ?_
            · exact y_assign r' (v := (.bool x98.2.2.1)) (hd 8 rfl).1 ⟨Below.refl _ _, rfl⟩
            exact eachF_nil
          · skip
            intro fr gg w99 hb hΦ hap r
            have g0 : (gg 0).v = γ48.1 := (hΦ 0 rfl).1
            have g1 : (gg 1).v = (.pointer (some ⟨mg21.mb, 0, none⟩)) := (hΦ 1 rfl).1
            have g2 : (gg 2).v = (.pointer (some ⟨mg21.mb, 0, none⟩)) := (hΦ 2 rfl).1
            have g3 : (gg 3).v = (.agg (capC x97).toArray) := (hΦ 3 rfl).1
            obtain ⟨⟨⟩, g4, hcE, _, hs4⟩ := (hΦ 4 rfl).1
            have g5 : (gg 5).v = (.tuple #[(.int .i64 x98.1), (.int .i64 x98.2.1), (.bool x98.2.2.1)]) := (hΦ 5 rfl).1
            have g6 : (gg 6).v = (.int .i64 x98.1) := (hΦ 6 rfl).1
            have g7 : (gg 7).v = (.int .i64 x98.2.1) := (hΦ 7 rfl).1
            have g8 : (gg 8).v = (.bool x98.2.2.1) := (hΦ 8 rfl).1
            have g9 : (gg 9).v = (.int .i64 x98.1) := (hΦ 9 rfl).1
            have g10 : (gg 10).v = (.int .i64 x98.2.1) := (hΦ 10 rfl).1
            have g11 : (gg 11).v = (.bool x98.2.2.1) := (hΦ 11 rfl).1
            have r := r.congr (sc g11 (sc g10 (sc g9 (sc g8 (sc g7 (sc g6 (sc g5 (sc g4 (sc g3 (sc g2 (sc g1 (sc g0 rfl))))))))))))
            have hP : Post No [roK 4 1 boolE a2_v a2, cellC b1 ((planC a0)).toArray 24, memK mg21 x98.2.2.2, progK Try.prog encInt x47.2.2 γ48.1 γ48.2, cellC b27 γ48.1.cells 103, rowK 3 1 i64 γ95 x94.1] w0 w99 := hP.effL (i := 2) (l := []) rfl hb hcE rfl rfl trivial
            refine wp_seq ?_
            refine wp_region_lit ?_
            refine seq_val (.agg (planC a0).toArray) r (fun R => y_load_agg r (cs := (planC a0)) (n := 6) rfl (hP.cell (i := 1) rfl) ta24 rfl) rfl fun fr r => ?_
            refine seq_val (.pointer (some ⟨mg21.mb, 0, none⟩)) r (fun R => y_move r rfl) rfl fun fr r => ?_
            obtain ⟨x100, hx100, hD⟩ := bindD_elim hD
            refine seq_call r (c_free_List w99 a0 x98.2.2.2 (hP.mem (i := 2) rfl) 0 hx100) (fun R hc => y_call r rfl cl63 hc) rfl ?_
            rintro _ w101 ⟨v102, rfl, hq⟩
            refine ⟨_, rfl, fun fr r => ?_⟩
            have hP : Post No [roK 4 1 boolE a2_v a2, cellC b1 ((planC a0)).toArray 24, memK mg21 x98.2.2.2, progK Try.prog encInt x47.2.2 γ48.1 γ48.2, cellC b27 γ48.1.cells 103, rowK 3 1 i64 γ95 x94.1, rowK 3 1 i64 v102 x100] w0 w101 := hP.add hq
            refine seq_val v102 r (fun R => y_assign r rfl) rfl fun fr r => ?_
            refine wpList_nil ?_
            refine wp_seq ?_
            refine wp_seq ?_
            refine wp_region_lit ?_
            refine seq_val (.int .i64 x98.1) r (fun R => y_move r rfl) rfl fun fr r => ?_
            refine seq_val (.bool (decide (x98.1 < 0))) r (fun R => y_bin r (u := (.int .i64 x98.1)) (u' := (.int .i64 0)) rfl rfl rfl rfl) rfl fun fr r => ?_
            refine wpList_nil ?_
            refine wp_cond_split (t := (decide (x98.1 < 0))) (r.ev rfl) (fun h104 => ?_) (fun h104 => ?_)
            · skip
              have hD := (cond_t h104).symm.trans hD
              refine wp_seq ?_
              refine wp_joinG (N := 152) (Y := Bool) (G := Unit) (fun x γ => [(0, (.agg (planC a0).toArray)), (1, (.int .u8 a1)), (2, a2_v), (3, (.pointer (some ⟨b1, 0, none⟩))), (37, (.bool x13)), (7, (.pointer (some ⟨mg21.mb, 0, none⟩))), (42, (.bool false)), (8, (.pointer (some ⟨b27, 0, none⟩))), (9, (.int .i64 x47.1)), (12, γ95), (13, (.int .i64 x94.2.1)), (17, (.int .i64 x98.1)), (19, (.bool x98.2.2.1)), (20, v102), (114, (.bool (decide (x98.1 < 0)))), (6, (.bool x))]) (fun x γ w => Post No [roK 4 1 boolE a2_v a2, cellC b1 ((planC a0)).toArray 24, memK mg21 x98.2.2.2, progK Try.prog encInt x47.2.2 γ48.1 γ48.2, cellC b27 γ48.1.cells 103, rowK 3 1 i64 γ95 x94.1, rowK 3 1 i64 v102 x100] w0 w) hD ?_ ?_
              · skip
                rintro y105 RPy105 nxy105 hD
                refine wp_region_lit ?_
                refine seq_val (.bool x98.2.2.1) r (fun R => y_move r rfl) rfl fun fr r => ?_
                refine seq_val (.bool x98.2.2.1) r (fun R => y_move r rfl) rfl fun fr r => ?_
                refine seq_split x98.2.2.1 (fun h106 => ?_) (fun h106 => ?_)
                · skip
                  have hD := (cond_t h106).symm.trans hD
                  refine seq_want r rfl rfl rfl (congrArg Value.bool h106) ?_
                  refine seq_val γ95 r (fun R => y_move r rfl) rfl fun fr r => ?_
                  refine seq_want r rfl rfl rfl (congrArg Value.bool h106) ?_
                  refine seq_val (.int .i64 (x94.1.length : Int)) r (fun R => y_rowLen r (hP.row (i := 5) rfl).ro is36 rfl) rfl fun fr r => ?_
                  refine seq_want r rfl rfl rfl (congrArg Value.bool h106) ?_
                  refine seq_val (.pointer (some ⟨b1, 0, none⟩)) r (fun R => y_fieldAddr r (o := 0) rfl fo24_0) rfl fun fr r => ?_
                  refine seq_want r rfl rfl rfl (congrArg Value.bool h106) ?_
                  refine seq_val (.int .i64 a0.nodes) r (fun R => y_load_one r (v := (.int .i64 a0.nodes)) rfl (hP.cell (i := 1) rfl) to3 rfl) rfl fun fr r => ?_
                  refine seq_want r rfl rfl rfl (congrArg Value.bool h106) ?_
                  refine seq_val (.bool ((x94.1.length : Int) == a0.nodes)) r (fun R => y_bin r (u := (.int .i64 (x94.1.length : Int))) (u' := (.int .i64 a0.nodes)) rfl rfl rfl rfl) rfl fun fr r => ?_
                  refine seq_val (.bool ((x94.1.length : Int) == a0.nodes)) r (fun R => y_pick r (b := true) (congrArg Value.bool h106) rfl) rfl fun fr r => ?_
                  refine seq_val (.bool ((x94.1.length : Int) == a0.nodes)) r (fun R => y_move r rfl) rfl fun fr r => ?_
                  refine seq_split ((x94.1.length : Int) == a0.nodes) (fun h107 => ?_) (fun h107 => ?_)
                  · skip
                    have hD := (cond_t h107).symm.trans hD
                    refine seq_want r rfl rfl rfl (congrArg Value.bool h107) ?_
                    refine seq_val v102 r (fun R => y_move r rfl) rfl fun fr r => ?_
                    refine seq_want r rfl rfl rfl (congrArg Value.bool h107) ?_
                    refine seq_val (.int .i64 (x100.length : Int)) r (fun R => y_rowLen r (hP.row (i := 6) rfl).ro is36 rfl) rfl fun fr r => ?_
                    refine seq_want r rfl rfl rfl (congrArg Value.bool h107) ?_
                    refine seq_val (.bool ((x100.length : Int) == 0)) r (fun R => y_bin r (u := (.int .i64 (x100.length : Int))) (u' := (.int .i64 0)) rfl rfl rfl rfl) rfl fun fr r => ?_
                    refine seq_val (.bool ((x100.length : Int) == 0)) r (fun R => y_pick r (b := true) (congrArg Value.bool h107) rfl) rfl fun fr r => ?_
                    refine seq_val (.bool ((x100.length : Int) == 0)) r (fun R => y_assign r rfl) rfl fun fr r => ?_
                    refine wpList_nil ?_
                    exact nxy105 ((x100.length : Int) == 0) () _ _ _ hD r (hs_cons rfl (hs_cons rfl (hs_cons rfl (hs_cons rfl (hs_cons rfl (hs_cons rfl (hs_cons rfl (hs_cons rfl (hs_cons rfl (hs_cons rfl (hs_cons rfl (hs_cons rfl (hs_cons rfl (hs_cons rfl (hs_cons rfl (hs_cons rfl hs_nil)))))))))))))))) (hP.pick [0, 1, 2, 3, 4, 5, 6] rfl rfl)
                  · skip
                    have hD := (cond_f h107).symm.trans hD
                    refine seq_skip r rfl rfl rfl (v := .bool false) (congrArg Value.bool h107) (by simp [boolOf]) fun fr r => ?_
                    refine seq_skip r rfl rfl rfl (v := .bool false) (congrArg Value.bool h107) (by simp [boolOf]) fun fr r => ?_
                    refine seq_skip r rfl rfl rfl (v := .bool false) (congrArg Value.bool h107) (by simp [boolOf]) fun fr r => ?_
                    refine seq_val (.bool false) r (fun R => y_pick r (b := false) (congrArg Value.bool h107) rfl) rfl fun fr r => ?_
                    refine seq_val (.bool false) r (fun R => y_assign r rfl) rfl fun fr r => ?_
                    refine wpList_nil ?_
                    exact nxy105 false () _ _ _ hD r (hs_cons rfl (hs_cons rfl (hs_cons rfl (hs_cons rfl (hs_cons rfl (hs_cons rfl (hs_cons rfl (hs_cons rfl (hs_cons rfl (hs_cons rfl (hs_cons rfl (hs_cons rfl (hs_cons rfl (hs_cons rfl (hs_cons rfl (hs_cons rfl hs_nil)))))))))))))))) (hP.pick [0, 1, 2, 3, 4, 5, 6] rfl rfl)
                · skip
                  have hD := (cond_f h106).symm.trans hD
                  refine seq_skip r rfl rfl rfl (v := .bool false) (congrArg Value.bool h106) (by simp [boolOf]) fun fr r => ?_
                  refine seq_skip r rfl rfl rfl (v := .bool false) (congrArg Value.bool h106) (by simp [boolOf]) fun fr r => ?_
                  refine seq_skip r rfl rfl rfl (v := .bool false) (congrArg Value.bool h106) (by simp [boolOf]) fun fr r => ?_
                  refine seq_skip r rfl rfl rfl (v := .bool false) (congrArg Value.bool h106) (by simp [boolOf]) fun fr r => ?_
                  refine seq_skip r rfl rfl rfl (v := .bool false) (congrArg Value.bool h106) (by simp [boolOf]) fun fr r => ?_
                  refine seq_val (.bool false) r (fun R => y_pick r (b := false) (congrArg Value.bool h106) rfl) rfl fun fr r => ?_
                  refine seq_val (.bool false) r (fun R => y_move r rfl) rfl fun fr r => ?_
                  refine seq_skip r rfl rfl rfl (v := .bool false) (congrArg Value.bool (rfl : false = _)) (by simp [boolOf]) fun fr r => ?_
                  refine seq_skip r rfl rfl rfl (v := .bool false) (congrArg Value.bool (rfl : false = _)) (by simp [boolOf]) fun fr r => ?_
                  refine seq_skip r rfl rfl rfl (v := .bool false) (congrArg Value.bool (rfl : false = _)) (by simp [boolOf]) fun fr r => ?_
                  refine seq_val (.bool false) r (fun R => y_pick r (b := false) (congrArg Value.bool (rfl : false = _)) rfl) rfl fun fr r => ?_
                  refine seq_val (.bool false) r (fun R => y_assign r rfl) rfl fun fr r => ?_
                  refine wpList_nil ?_
                  exact nxy105 false () _ _ _ hD r (hs_cons rfl (hs_cons rfl (hs_cons rfl (hs_cons rfl (hs_cons rfl (hs_cons rfl (hs_cons rfl (hs_cons rfl (hs_cons rfl (hs_cons rfl (hs_cons rfl (hs_cons rfl (hs_cons rfl (hs_cons rfl (hs_cons rfl (hs_cons rfl hs_nil)))))))))))))))) (hP.pick [0, 1, 2, 3, 4, 5, 6] rfl rfl)
              · skip
                rintro x108 γ109 fr w110 g r hP hD
                have hP : Post No [roK 4 1 boolE a2_v a2, cellC b1 ((planC a0)).toArray 24, memK mg21 x98.2.2.2, progK Try.prog encInt x47.2.2 γ48.1 γ48.2, cellC b27 γ48.1.cells 103, rowK 3 1 i64 γ95 x94.1, rowK 3 1 i64 v102 x100] w0 w110 := hP
                refine wp_ret ?_
                have hv : x108 = res := Option.some.inj hD
                try dsimp only [Exit.then, Exit.inBlock]
                refine ret_tmp (fn := Try.f15) r (t := 6) rfl (v := (.bool x108)) rfl ?_
                subst hv
                exact ⟨rfl, hP.chg.below⟩
            · skip
              have hD := (cond_f h104).symm.trans hD
              refine wp_skip ?_
              refine wp_seq ?_
              refine wp_joinG (N := 152) (Y := Bool) (G := Unit) (fun x γ => [(0, (.agg (planC a0).toArray)), (1, (.int .u8 a1)), (2, a2_v), (3, (.pointer (some ⟨b1, 0, none⟩))), (37, (.bool x13)), (7, (.pointer (some ⟨mg21.mb, 0, none⟩))), (42, (.bool false)), (8, (.pointer (some ⟨b27, 0, none⟩))), (9, (.int .i64 x47.1)), (12, γ95), (13, (.int .i64 x94.2.1)), (17, (.int .i64 x98.1)), (19, (.bool x98.2.2.1)), (20, v102), (114, (.bool (decide (x98.1 < 0)))), (6, (.bool x))]) (fun x γ w => Post No [roK 4 1 boolE a2_v a2, cellC b1 ((planC a0)).toArray 24, memK mg21 x98.2.2.2, progK Try.prog encInt x47.2.2 γ48.1 γ48.2, cellC b27 γ48.1.cells 103, rowK 3 1 i64 γ95 x94.1, rowK 3 1 i64 v102 x100] w0 w) hD ?_ ?_
              · skip
                rintro y111 RPy111 nxy111 hD
                refine wp_region_lit ?_
                refine seq_val (.bool x98.2.2.1) r (fun R => y_move r rfl) rfl fun fr r => ?_
                refine seq_val (.bool x98.2.2.1) r (fun R => y_move r rfl) rfl fun fr r => ?_
                refine seq_split x98.2.2.1 (fun h112 => ?_) (fun h112 => ?_)
                · skip
                  have hD := (cond_t h112).symm.trans hD
                  refine seq_want r rfl rfl rfl (congrArg Value.bool h112) ?_
                  refine seq_val γ95 r (fun R => y_move r rfl) rfl fun fr r => ?_
                  refine seq_want r rfl rfl rfl (congrArg Value.bool h112) ?_
                  refine seq_val (.int .i64 x98.1) r (fun R => y_move r rfl) rfl fun fr r => ?_
                  refine seq_want r rfl rfl rfl (congrArg Value.bool h112) ?_
                  obtain ⟨x113, hx113, hD⟩ := bindD_elim hD
                  refine seq_call r (c_cubicleref09_Has w101 x94.1 (hP.row (i := 5) rfl).ro x98.1 hx113) (fun R hc => y_call r rfl cl65 hc) rfl ?_
                  rintro _ w114 ⟨rfl, hb⟩
                  refine ⟨_, rfl, fun fr r => ?_⟩
                  have hP : Post No [roK 4 1 boolE a2_v a2, cellC b1 ((planC a0)).toArray 24, memK mg21 x98.2.2.2, progK Try.prog encInt x47.2.2 γ48.1 γ48.2, cellC b27 γ48.1.cells 103, rowK 3 1 i64 γ95 x94.1, rowK 3 1 i64 v102 x100] w0 w114 := hP.below hb
                  refine seq_want r rfl rfl rfl (congrArg Value.bool h112) ?_
                  refine seq_val (.bool (!x113)) r (fun R => y_un r (u := (.bool x113)) rfl rfl) rfl fun fr r => ?_
                  refine seq_val (.bool (!x113)) r (fun R => y_pick r (b := true) (congrArg Value.bool h112) rfl) rfl fun fr r => ?_
                  refine seq_val (.bool (!x113)) r (fun R => y_move r rfl) rfl fun fr r => ?_
                  refine seq_split (!x113) (fun h115 => ?_) (fun h115 => ?_)
                  · skip
                    have hD := (cond_t h115).symm.trans hD
                    refine seq_want r rfl rfl rfl (congrArg Value.bool h115) ?_
                    refine seq_val v102 r (fun R => y_move r rfl) rfl fun fr r => ?_
                    refine seq_want r rfl rfl rfl (congrArg Value.bool h115) ?_
                    refine seq_val (.int .i64 x98.1) r (fun R => y_move r rfl) rfl fun fr r => ?_
                    refine seq_want r rfl rfl rfl (congrArg Value.bool h115) ?_
                    obtain ⟨x116, hx116, hD⟩ := bindD_elim hD
                    refine seq_call r (c_cubicleref09_Has w114 x100 (hP.row (i := 6) rfl).ro x98.1 hx116) (fun R hc => y_call r rfl cl65 hc) rfl ?_
                    rintro _ w117 ⟨rfl, hb⟩
                    refine ⟨_, rfl, fun fr r => ?_⟩
                    have hP : Post No [roK 4 1 boolE a2_v a2, cellC b1 ((planC a0)).toArray 24, memK mg21 x98.2.2.2, progK Try.prog encInt x47.2.2 γ48.1 γ48.2, cellC b27 γ48.1.cells 103, rowK 3 1 i64 γ95 x94.1, rowK 3 1 i64 v102 x100] w0 w117 := hP.below hb
                    refine seq_want r rfl rfl rfl (congrArg Value.bool h115) ?_
                    refine seq_val (.bool (!x116)) r (fun R => y_un r (u := (.bool x116)) rfl rfl) rfl fun fr r => ?_
                    refine seq_val (.bool (!x116)) r (fun R => y_pick r (b := true) (congrArg Value.bool h115) rfl) rfl fun fr r => ?_
                    refine seq_val (.bool (!x116)) r (fun R => y_move r rfl) rfl fun fr r => ?_
                    refine seq_split (!x116) (fun h118 => ?_) (fun h118 => ?_)
                    · skip
                      have hD := (cond_t h118).symm.trans hD
                      refine seq_want r rfl rfl rfl (congrArg Value.bool h118) ?_
                      refine seq_val v102 r (fun R => y_move r rfl) rfl fun fr r => ?_
                      refine seq_want r rfl rfl rfl (congrArg Value.bool h118) ?_
                      refine seq_val (.int .i64 (x100.length : Int)) r (fun R => y_rowLen r (hP.row (i := 6) rfl).ro is36 rfl) rfl fun fr r => ?_
                      refine seq_want r rfl rfl rfl (congrArg Value.bool h118) ?_
                      refine seq_val γ95 r (fun R => y_move r rfl) rfl fun fr r => ?_
                      refine seq_want r rfl rfl rfl (congrArg Value.bool h118) ?_
                      refine seq_val (.int .i64 (x94.1.length : Int)) r (fun R => y_rowLen r (hP.row (i := 5) rfl).ro is36 rfl) rfl fun fr r => ?_
                      refine seq_want r rfl rfl rfl (congrArg Value.bool h118) ?_
                      refine seq_val (.int .i64 (IntKind.i64.wrap ((x100.length : Int) + (x94.1.length : Int)))) r (fun R => y_bin r (u := (.int .i64 (x100.length : Int))) (u' := (.int .i64 (x94.1.length : Int))) rfl rfl rfl rfl) rfl fun fr r => ?_
                      refine seq_want r rfl rfl rfl (congrArg Value.bool h118) ?_
                      refine seq_val (.int .i64 (IntKind.i64.wrap ((IntKind.i64.wrap ((x100.length : Int) + (x94.1.length : Int))) + 1))) r (fun R => y_bin r (u := (.int .i64 (IntKind.i64.wrap ((x100.length : Int) + (x94.1.length : Int))))) (u' := (.int .i64 1)) rfl rfl rfl rfl) rfl fun fr r => ?_
                      refine seq_want r rfl rfl rfl (congrArg Value.bool h118) ?_
                      refine seq_val (.pointer (some ⟨b1, 0, none⟩)) r (fun R => y_fieldAddr r (o := 0) rfl fo24_0) rfl fun fr r => ?_
                      refine seq_want r rfl rfl rfl (congrArg Value.bool h118) ?_
                      refine seq_val (.int .i64 a0.nodes) r (fun R => y_load_one r (v := (.int .i64 a0.nodes)) rfl (hP.cell (i := 1) rfl) to3 rfl) rfl fun fr r => ?_
                      refine seq_want r rfl rfl rfl (congrArg Value.bool h118) ?_
                      refine seq_val (.bool ((IntKind.i64.wrap ((IntKind.i64.wrap ((x100.length : Int) + (x94.1.length : Int))) + 1)) == a0.nodes)) r (fun R => y_bin r (u := (.int .i64 (IntKind.i64.wrap ((IntKind.i64.wrap ((x100.length : Int) + (x94.1.length : Int))) + 1)))) (u' := (.int .i64 a0.nodes)) rfl rfl rfl rfl) rfl fun fr r => ?_
                      refine seq_val (.bool ((IntKind.i64.wrap ((IntKind.i64.wrap ((x100.length : Int) + (x94.1.length : Int))) + 1)) == a0.nodes)) r (fun R => y_pick r (b := true) (congrArg Value.bool h118) rfl) rfl fun fr r => ?_
                      refine seq_val (.bool ((IntKind.i64.wrap ((IntKind.i64.wrap ((x100.length : Int) + (x94.1.length : Int))) + 1)) == a0.nodes)) r (fun R => y_assign r rfl) rfl fun fr r => ?_
                      refine wpList_nil ?_
                      exact nxy111 ((IntKind.i64.wrap ((IntKind.i64.wrap ((x100.length : Int) + (x94.1.length : Int))) + 1)) == a0.nodes) () _ _ _ hD r (hs_cons rfl (hs_cons rfl (hs_cons rfl (hs_cons rfl (hs_cons rfl (hs_cons rfl (hs_cons rfl (hs_cons rfl (hs_cons rfl (hs_cons rfl (hs_cons rfl (hs_cons rfl (hs_cons rfl (hs_cons rfl (hs_cons rfl (hs_cons rfl hs_nil)))))))))))))))) (hP.pick [0, 1, 2, 3, 4, 5, 6] rfl rfl)
                    · skip
                      have hD := (cond_f h118).symm.trans hD
                      refine seq_skip r rfl rfl rfl (v := .bool false) (congrArg Value.bool h118) (by simp [boolOf]) fun fr r => ?_
                      refine seq_skip r rfl rfl rfl (v := .bool false) (congrArg Value.bool h118) (by simp [boolOf]) fun fr r => ?_
                      refine seq_skip r rfl rfl rfl (v := .bool false) (congrArg Value.bool h118) (by simp [boolOf]) fun fr r => ?_
                      refine seq_skip r rfl rfl rfl (v := .bool false) (congrArg Value.bool h118) (by simp [boolOf]) fun fr r => ?_
                      refine seq_skip r rfl rfl rfl (v := .bool false) (congrArg Value.bool h118) (by simp [boolOf]) fun fr r => ?_
                      refine seq_skip r rfl rfl rfl (v := .bool false) (congrArg Value.bool h118) (by simp [boolOf]) fun fr r => ?_
                      refine seq_skip r rfl rfl rfl (v := .bool false) (congrArg Value.bool h118) (by simp [boolOf]) fun fr r => ?_
                      refine seq_skip r rfl rfl rfl (v := .bool false) (congrArg Value.bool h118) (by simp [boolOf]) fun fr r => ?_
                      refine seq_skip r rfl rfl rfl (v := .bool false) (congrArg Value.bool h118) (by simp [boolOf]) fun fr r => ?_
                      refine seq_val (.bool false) r (fun R => y_pick r (b := false) (congrArg Value.bool h118) rfl) rfl fun fr r => ?_
                      refine seq_val (.bool false) r (fun R => y_assign r rfl) rfl fun fr r => ?_
                      refine wpList_nil ?_
                      exact nxy111 false () _ _ _ hD r (hs_cons rfl (hs_cons rfl (hs_cons rfl (hs_cons rfl (hs_cons rfl (hs_cons rfl (hs_cons rfl (hs_cons rfl (hs_cons rfl (hs_cons rfl (hs_cons rfl (hs_cons rfl (hs_cons rfl (hs_cons rfl (hs_cons rfl (hs_cons rfl hs_nil)))))))))))))))) (hP.pick [0, 1, 2, 3, 4, 5, 6] rfl rfl)
                  · skip
                    have hD := (cond_f h115).symm.trans hD
                    refine seq_skip r rfl rfl rfl (v := .bool false) (congrArg Value.bool h115) (by simp [boolOf]) fun fr r => ?_
                    refine seq_skip r rfl rfl rfl (v := .bool false) (congrArg Value.bool h115) (by simp [boolOf]) fun fr r => ?_
                    refine seq_skip r rfl rfl rfl (v := .bool false) (congrArg Value.bool h115) (by simp [boolOf]) fun fr r => ?_
                    refine seq_skip r rfl rfl rfl (v := .bool false) (congrArg Value.bool h115) (by simp [boolOf]) fun fr r => ?_
                    refine seq_val (.bool false) r (fun R => y_pick r (b := false) (congrArg Value.bool h115) rfl) rfl fun fr r => ?_
                    refine seq_val (.bool false) r (fun R => y_move r rfl) rfl fun fr r => ?_
                    refine seq_skip r rfl rfl rfl (v := .bool false) (congrArg Value.bool (rfl : false = _)) (by simp [boolOf]) fun fr r => ?_
                    refine seq_skip r rfl rfl rfl (v := .bool false) (congrArg Value.bool (rfl : false = _)) (by simp [boolOf]) fun fr r => ?_
                    refine seq_skip r rfl rfl rfl (v := .bool false) (congrArg Value.bool (rfl : false = _)) (by simp [boolOf]) fun fr r => ?_
                    refine seq_skip r rfl rfl rfl (v := .bool false) (congrArg Value.bool (rfl : false = _)) (by simp [boolOf]) fun fr r => ?_
                    refine seq_skip r rfl rfl rfl (v := .bool false) (congrArg Value.bool (rfl : false = _)) (by simp [boolOf]) fun fr r => ?_
                    refine seq_skip r rfl rfl rfl (v := .bool false) (congrArg Value.bool (rfl : false = _)) (by simp [boolOf]) fun fr r => ?_
                    refine seq_skip r rfl rfl rfl (v := .bool false) (congrArg Value.bool (rfl : false = _)) (by simp [boolOf]) fun fr r => ?_
                    refine seq_skip r rfl rfl rfl (v := .bool false) (congrArg Value.bool (rfl : false = _)) (by simp [boolOf]) fun fr r => ?_
                    refine seq_skip r rfl rfl rfl (v := .bool false) (congrArg Value.bool (rfl : false = _)) (by simp [boolOf]) fun fr r => ?_
                    refine seq_val (.bool false) r (fun R => y_pick r (b := false) (congrArg Value.bool (rfl : false = _)) rfl) rfl fun fr r => ?_
                    refine seq_val (.bool false) r (fun R => y_assign r rfl) rfl fun fr r => ?_
                    refine wpList_nil ?_
                    exact nxy111 false () _ _ _ hD r (hs_cons rfl (hs_cons rfl (hs_cons rfl (hs_cons rfl (hs_cons rfl (hs_cons rfl (hs_cons rfl (hs_cons rfl (hs_cons rfl (hs_cons rfl (hs_cons rfl (hs_cons rfl (hs_cons rfl (hs_cons rfl (hs_cons rfl (hs_cons rfl hs_nil)))))))))))))))) (hP.pick [0, 1, 2, 3, 4, 5, 6] rfl rfl)
                · skip
                  have hD := (cond_f h112).symm.trans hD
                  refine seq_skip r rfl rfl rfl (v := .bool false) (congrArg Value.bool h112) (by simp [boolOf]) fun fr r => ?_
                  refine seq_skip r rfl rfl rfl (v := .bool false) (congrArg Value.bool h112) (by simp [boolOf]) fun fr r => ?_
                  refine seq_skip r rfl rfl rfl (v := .bool false) (congrArg Value.bool h112) (by simp [boolOf]) fun fr r => ?_
                  refine seq_skip r rfl rfl rfl (v := .bool false) (congrArg Value.bool h112) (by simp [boolOf]) fun fr r => ?_
                  refine seq_val (.bool false) r (fun R => y_pick r (b := false) (congrArg Value.bool h112) rfl) rfl fun fr r => ?_
                  refine seq_val (.bool false) r (fun R => y_move r rfl) rfl fun fr r => ?_
                  refine seq_skip r rfl rfl rfl (v := .bool false) (congrArg Value.bool (rfl : false = _)) (by simp [boolOf]) fun fr r => ?_
                  refine seq_skip r rfl rfl rfl (v := .bool false) (congrArg Value.bool (rfl : false = _)) (by simp [boolOf]) fun fr r => ?_
                  refine seq_skip r rfl rfl rfl (v := .bool false) (congrArg Value.bool (rfl : false = _)) (by simp [boolOf]) fun fr r => ?_
                  refine seq_skip r rfl rfl rfl (v := .bool false) (congrArg Value.bool (rfl : false = _)) (by simp [boolOf]) fun fr r => ?_
                  refine seq_val (.bool false) r (fun R => y_pick r (b := false) (congrArg Value.bool (rfl : false = _)) rfl) rfl fun fr r => ?_
                  refine seq_val (.bool false) r (fun R => y_move r rfl) rfl fun fr r => ?_
                  refine seq_skip r rfl rfl rfl (v := .bool false) (congrArg Value.bool (rfl : false = _)) (by simp [boolOf]) fun fr r => ?_
                  refine seq_skip r rfl rfl rfl (v := .bool false) (congrArg Value.bool (rfl : false = _)) (by simp [boolOf]) fun fr r => ?_
                  refine seq_skip r rfl rfl rfl (v := .bool false) (congrArg Value.bool (rfl : false = _)) (by simp [boolOf]) fun fr r => ?_
                  refine seq_skip r rfl rfl rfl (v := .bool false) (congrArg Value.bool (rfl : false = _)) (by simp [boolOf]) fun fr r => ?_
                  refine seq_skip r rfl rfl rfl (v := .bool false) (congrArg Value.bool (rfl : false = _)) (by simp [boolOf]) fun fr r => ?_
                  refine seq_skip r rfl rfl rfl (v := .bool false) (congrArg Value.bool (rfl : false = _)) (by simp [boolOf]) fun fr r => ?_
                  refine seq_skip r rfl rfl rfl (v := .bool false) (congrArg Value.bool (rfl : false = _)) (by simp [boolOf]) fun fr r => ?_
                  refine seq_skip r rfl rfl rfl (v := .bool false) (congrArg Value.bool (rfl : false = _)) (by simp [boolOf]) fun fr r => ?_
                  refine seq_skip r rfl rfl rfl (v := .bool false) (congrArg Value.bool (rfl : false = _)) (by simp [boolOf]) fun fr r => ?_
                  refine seq_val (.bool false) r (fun R => y_pick r (b := false) (congrArg Value.bool (rfl : false = _)) rfl) rfl fun fr r => ?_
                  refine seq_val (.bool false) r (fun R => y_assign r rfl) rfl fun fr r => ?_
                  refine wpList_nil ?_
                  exact nxy111 false () _ _ _ hD r (hs_cons rfl (hs_cons rfl (hs_cons rfl (hs_cons rfl (hs_cons rfl (hs_cons rfl (hs_cons rfl (hs_cons rfl (hs_cons rfl (hs_cons rfl (hs_cons rfl (hs_cons rfl (hs_cons rfl (hs_cons rfl (hs_cons rfl (hs_cons rfl hs_nil)))))))))))))))) (hP.pick [0, 1, 2, 3, 4, 5, 6] rfl rfl)
              · skip
                rintro x119 γ120 fr w121 g r hP hD
                have hP : Post No [roK 4 1 boolE a2_v a2, cellC b1 ((planC a0)).toArray 24, memK mg21 x98.2.2.2, progK Try.prog encInt x47.2.2 γ48.1 γ48.2, cellC b27 γ48.1.cells 103, rowK 3 1 i64 γ95 x94.1, rowK 3 1 i64 v102 x100] w0 w121 := hP
                refine wp_ret ?_
                have hv : x119 = res := Option.some.inj hD
                try dsimp only [Exit.then, Exit.inBlock]
                refine ret_tmp (fn := Try.f15) r (t := 6) rfl (v := (.bool x119)) rfl ?_
                subst hv
                exact ⟨rfl, hP.chg.below⟩

end Go.Proofs.Ytphnnjiaiemkcaa.Wk
