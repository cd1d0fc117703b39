/- Written by a program of ours (wip/gen.py): a law -/
import Derived.Test.YtphnnjiaiemkcaaGreatQaqL12
set_option linter.unusedVariables false
namespace Go.Proofs.YtphnnjiaiemkcaaGreat.Wk
open Go.RowKit
theorem cl16 : callable Tryz.prog 16 = true := by kernel_rfl

theorem cl31 : callable Tryz.prog 31 = true := by kernel_rfl

theorem cl32 : callable Tryz.prog 32 = true := by kernel_rfl

theorem cl36 : callable Tryz.prog 36 = true := by kernel_rfl

theorem eg70 : Tryz.prog.eqGuardType Tryz.prog.depth 70 = false := by kernel_rfl

theorem eqs70 (x y : Grant) (w : World) : (binOp .eql 70 (.agg (grantC x).toArray) (.agg (grantC y).toArray)).run Tryz.prog w = .ok (.bool (x == y)) w ∧ (binOp .neq 70 (.agg (grantC x).toArray) (.agg (grantC y).toArray)).run Tryz.prog w = .ok (.bool (!(x == y))) w :=
  eq_ints [(.i64, x.node, y.node), (.i64, x.gen, y.gen), (.i64, x.e, y.e)] (by kernel_rfl) (by kernel_rfl) (by kernel_rfl) (by kernel_rfl) (by cases x; cases y; rw [Bool.eq_iff_iff]; simp)

theorem ti5 : intTy Tryz.prog 5 .u8 = true := by kernel_rfl

def D.cubiclelaw12_AllocQuota (fu : Nat) (a0 : Plan) (a1 : Int) : Option (Bool) := (Option.bind ((D.cubiclelaw12_awake fu ).bind (fun (x6 : Bool) => (bif (!x6) then (some true) else (some (!(D.cubiclelaw12_few a0)))))) (fun (x10 : Bool) => (bif x10 then ((D.cubiclelaw12_awake fu ).bind (fun (x14 : Bool) => (some x14))) else ((D.cubiclelaw09_Laid fu a0).bind (fun (x16 : Mem) => (loopThen (fun (x20 : Bool × Int × Mem) => (bif (decide (x20.2.1 < a0.nodes)) then ((D.mem_Memory_Cap fu x20.2.2 0).bind (fun (x29 : Cap) => ((D.prog_Run_Grant fu (fu, (D.alloc_New (fu + 1) a0 0 0)) x20.2.2 x29 100).bind (fun (x31 : Grant × Int × Bool × Mem) => (Option.bind (bif (!x31.2.2.1) then (some true) else (some (!(x31.1 == (⟨x20.2.1, 0, 0⟩ : Grant))))) (fun (x41 : Bool) => (bif x41 then (some (Lp.ret false)) else (some (Lp.next (x20.1, (IntKind.i64.wrap (x20.2.1 + 1)), x31.2.2.2)))))))))) else (some (Lp.brk (x20.1, x20.2.1, x20.2.2))))) fu (false, 0, x16) (fun (x45 : Bool × Int × Mem) => ((D.mem_Memory_Cap fu x45.2.2 0).bind (fun (x52 : Cap) => ((D.prog_Run_Grant fu (fu, (D.alloc_New (fu + 1) a0 0 0)) x45.2.2 x52 100).bind (fun (x54 : Grant × Int × Bool × Mem) => ((guardI (decide (a0.nodes ≠ 0))).bind (fun (x62 : Unit) => ((D.mem_Memory_Cap fu x54.2.2.2 0).bind (fun (x67 : Cap) => ((D.prog_Run_int fu (fu, (D.alloc_Retire (fu + 1) a0 0 ((IntKind.i64.wrap a1).tmod a0.nodes))) x54.2.2.2 x67 1000).bind (fun (x69 : Int × Int × Bool × Mem) => ((D.mem_Memory_Cap fu x69.2.2.2 0).bind (fun (x75 : Cap) => ((D.prog_Run_Grant fu (fu, (D.alloc_New (fu + 1) a0 0 0)) x69.2.2.2 x75 1000).bind (fun (x77 : Grant × Int × Bool × Mem) => ((D.mem_Memory_Cap fu x77.2.2.2 0).bind (fun (x89 : Cap) => ((D.prog_Run_Grant fu (fu, (D.alloc_New (fu + 1) a0 0 0)) x77.2.2.2 x89 1000).bind (fun (x91 : Grant × Int × Bool × Mem) => (Option.bind (bif x54.2.2.1 then (bif (x54.1 == (⟨(-1), 0, 4⟩ : Grant)) then (bif (x77.1 == (⟨((IntKind.i64.wrap a1).tmod a0.nodes), 1, 0⟩ : Grant)) then (some (x91.1 == (⟨(-1), 0, 4⟩ : Grant))) else (some false)) else (some false)) else (some false)) (fun (x103 : Bool) => (some x103))))))))))))))))))))))))))))

set_option maxRecDepth 20000 in
set_option maxHeartbeats 2000000 in
theorem c_cubiclelaw12_AllocQuota {fu : Nat} (w0 : World) (a0 : Plan) (a1 : Int) {res : Bool} (hD : D.cubiclelaw12_AllocQuota fu a0 a1 = some res) :
    Calls Tryz.prog 7 #[.agg (planC a0).toArray, .int .u8 a1] w0 (PureRes (.bool res) w0) := by
  refine enter (l := [.agg (planC a0).toArray, .int .u8 a1]) Tryz.func7 rfl 115 rfl rfl fun fr r => ?_
  have hP : Post No [] w0 w0 := Post.nil w0
  unfold D.cubiclelaw12_AllocQuota at hD
  refine wp_seq ?_
  refine wp_region_lit ?_
  refine seq_new (.cells ((planC a0)).toArray 23 (0, 0)) r (fun R => y_box r (v := (.agg (planC a0).toArray)) rfl) rfl fun fr b1 w2 n3 r => ?_
  have hP : Post No [cellC b1 ((planC a0)).toArray 23] w0 w2 := hP.new n3
  refine seq_val (.bool false) r (fun R => y_assign r rfl) rfl fun fr r => ?_
  refine wpList_nil ?_
  refine wp_seq ?_
  refine wp_seq ?_
  refine wp_joinG (N := 115) (Y := Bool) (G := Unit) (fun x γ => [(0, (.agg (planC a0).toArray)), (1, (.int .u8 a1)), (2, (.pointer (some ⟨b1, 0, none⟩))), (4, (.bool false)), (26, (.bool x))]) (fun x γ w => Post No [cellC b1 ((planC a0)).toArray 23] w0 w) hD ?_ ?_
  · skip
    rintro y5 RPy5 nxy5 hD
    refine wp_region_lit ?_
    obtain ⟨x6, hx6, hD⟩ := bindD_elim hD
    refine seq_call r (c_cubiclelaw12_awake w2  hx6) (fun R hc => y_call r rfl cl31 hc) rfl ?_
    rintro _ w7 ⟨rfl, hb⟩
    refine ⟨_, rfl, fun fr r => ?_⟩
    have hP : Post No [cellC b1 ((planC a0)).toArray 23] w0 w7 := hP.below hb
    refine seq_val (.bool (!x6)) r (fun R => y_un r (u := (.bool x6)) rfl rfl) rfl fun fr r => ?_
    refine seq_val (.bool (!x6)) r (fun R => y_move r rfl) rfl fun fr r => ?_
    refine seq_split (!x6) (fun h8 => ?_) (fun h8 => ?_)
    · skip
      have hD := (cond_t h8).symm.trans hD
      refine seq_skip r rfl rfl rfl (v := .bool true) (congrArg Value.bool h8) (by simp [boolOf]) fun fr r => ?_
      refine seq_skip r rfl rfl rfl (v := .bool true) (congrArg Value.bool h8) (by simp [boolOf]) fun fr r => ?_
      refine seq_skip r rfl rfl rfl (v := .bool true) (congrArg Value.bool h8) (by simp [boolOf]) fun fr r => ?_
      refine seq_val (.bool true) r (fun R => y_pick r (b := true) (congrArg Value.bool h8) rfl) rfl fun fr r => ?_
      refine wpList_nil ?_
      exact nxy5 true () _ _ _ hD r (hs_cons rfl (hs_cons rfl (hs_cons rfl (hs_cons rfl (hs_cons rfl hs_nil))))) (hP.pick [0] rfl rfl)
    · skip
      have hD := (cond_f h8).symm.trans hD
      refine seq_want r rfl rfl rfl (congrArg Value.bool h8) ?_
      refine seq_val (.agg (planC a0).toArray) r (fun R => y_load_agg r (cs := (planC a0)) (n := 6) rfl (hP.cell (i := 0) rfl) ta23 rfl) rfl fun fr r => ?_
      refine seq_want r rfl rfl rfl (congrArg Value.bool h8) ?_
      refine seq_call r (c_cubiclelaw12_few w7 a0) (fun R hc => y_call r rfl cl32 hc) rfl ?_
      rintro _ w9 ⟨rfl, hb⟩
      refine ⟨_, rfl, fun fr r => ?_⟩
      have hP : Post No [cellC b1 ((planC a0)).toArray 23] w0 w9 := hP.below hb
      refine seq_want r rfl rfl rfl (congrArg Value.bool h8) ?_
      refine seq_val (.bool (!(D.cubiclelaw12_few a0))) r (fun R => y_un r (u := (.bool (D.cubiclelaw12_few a0))) rfl rfl) rfl fun fr r => ?_
      refine seq_val (.bool (!(D.cubiclelaw12_few a0))) r (fun R => y_pick r (b := false) (congrArg Value.bool h8) rfl) rfl fun fr r => ?_
      refine wpList_nil ?_
      exact nxy5 (!(D.cubiclelaw12_few a0)) () _ _ _ hD r (hs_cons rfl (hs_cons rfl (hs_cons rfl (hs_cons rfl (hs_cons rfl hs_nil))))) (hP.pick [0] rfl rfl)
  · skip
    rintro x10 γ11 fr w12 g r hP hD
    have hP : Post No [cellC b1 ((planC a0)).toArray 23] w0 w12 := hP
    refine wp_cond_split (t := x10) (r.ev rfl) (fun h13 => ?_) (fun h13 => ?_)
    · skip
      have hD := (cond_t h13).symm.trans hD
      refine wp_seq ?_
      refine wp_region_lit ?_
      obtain ⟨x14, hx14, hD⟩ := bindD_elim hD
      refine seq_call r (c_cubiclelaw12_awake w12  hx14) (fun R hc => y_call r rfl cl31 hc) rfl ?_
      rintro _ w15 ⟨rfl, hb⟩
      refine ⟨_, rfl, fun fr r => ?_⟩
      have hP : Post No [cellC b1 ((planC a0)).toArray 23] w0 w15 := hP.below hb
      refine seq_val (.bool x14) r (fun R => y_assign r rfl) rfl fun fr r => ?_
      refine wpList_nil ?_
      refine wp_ret ?_
      have hv : x14 = res := Option.some.inj hD
      try dsimp only [Exit.then, Exit.inBlock]
      refine ret_tmp (fn := Tryz.f7) r (t := 4) rfl (v := (.bool x14)) rfl ?_
      subst hv
      exact ⟨rfl, hP.chg.below⟩
    · skip
      have hD := (cond_f h13).symm.trans hD
      refine wp_skip ?_
      refine wp_seq ?_
      refine wp_region_lit ?_
      refine seq_val (.agg (planC a0).toArray) r (fun R => y_load_agg r (cs := (planC a0)) (n := 6) rfl (hP.cell (i := 0) rfl) ta23 rfl) rfl fun fr r => ?_
      obtain ⟨x16, hx16, hD⟩ := bindD_elim hD
      refine seq_call r (c_cubiclelaw09_Laid w12 a0 hx16) (fun R hc => y_call r rfl cl33 hc) rfl ?_
      rintro _ w17 ⟨mg18, rfl, hq⟩
      refine ⟨_, rfl, fun fr r => ?_⟩
      have hP : Post No [cellC b1 ((planC a0)).toArray 23, memK mg18 x16] w0 w17 := hP.add hq
      refine seq_val (.pointer (some ⟨mg18.mb, 0, none⟩)) r (fun R => y_assign r rfl) rfl fun fr r => ?_
      refine wpList_nil ?_
      refine wp_seq ?_
      refine wp_seq ?_
      refine wp_region_lit ?_
      refine seq_val (.pointer (some ⟨mg18.mb, 0, none⟩)) r (fun R => y_move r rfl) rfl fun fr r => ?_
      refine seq_val (.bool false) r (fun R => y_bin r (u := (.pointer (some ⟨mg18.mb, 0, none⟩))) (u' := (.pointer none)) (v := (.bool false)) rfl rfl rfl rfl) rfl fun fr r => ?_
      refine wpList_nil ?_
      refine wp_cond_split (t := false) (r.ev rfl) (fun h => absurd ((rfl : false = _).symm.trans h) (by decide)) (fun _ => ?_)
      refine wp_skip ?_
      refine wp_seq ?_
      refine wp_seq ?_
      refine wp_region_lit ?_
      refine seq_val (.int .i64 0) r (fun R => y_assign r rfl) rfl fun fr r => ?_
      refine wpList_nil ?_
      refine wp_loopG (X := Bool × Int × Mem) (G := Unit) (x0 := (false, 0, x16)) (fun x γ => [(0, (.agg (planC a0).toArray)), (1, (.int .u8 a1)), (2, (.pointer (some ⟨b1, 0, none⟩))), (26, (.bool x10)), (5, (.pointer (some ⟨mg18.mb, 0, none⟩))), (31, (.bool false)), (4, (.bool x.1)), (6, (.int .i64 x.2.1))]) (fun x γ w => Post No [cellC b1 ((planC a0)).toArray 23, memK mg18 x.2.2] w0 w) () r (hs_cons rfl (hs_cons rfl (hs_cons rfl (hs_cons rfl (hs_cons rfl (hs_cons rfl (hs_cons rfl (hs_cons rfl hs_nil)))))))) hP hD ?_ ?_
      · skip
        rintro x20 γ21 fr w23 g y22 RPy22 nxy22 bky22 rty22 r hP hD
        have hP : Post No [cellC b1 ((planC a0)).toArray 23, memK mg18 x20.2.2] w0 w23 := hP
        refine wp_seq ?_
        refine wp_seq ?_
        refine wp_region_lit ?_
        refine seq_val (.int .i64 x20.2.1) r (fun R => y_move r rfl) rfl fun fr r => ?_
        refine seq_val (.pointer (some ⟨b1, 0, none⟩)) r (fun R => y_fieldAddr r (o := 0) rfl fo23_0) rfl fun fr r => ?_
        refine seq_val (.int .i64 a0.nodes) r (fun R => y_load_one r (v := (.int .i64 a0.nodes)) rfl (hP.cell (i := 0) rfl) to3 rfl) rfl fun fr r => ?_
        refine seq_val (.bool (decide (x20.2.1 < a0.nodes))) r (fun R => y_bin r (u := (.int .i64 x20.2.1)) (u' := (.int .i64 a0.nodes)) rfl rfl rfl rfl) rfl fun fr r => ?_
        refine wpList_nil ?_
        refine wp_cond_split (t := (decide (x20.2.1 < a0.nodes))) (r.ev rfl) (fun h24 => ?_) (fun h24 => ?_)
        · skip
          have hD := (cond_t h24).symm.trans hD
          refine wp_skip ?_
          refine wp_seq ?_
          refine wp_block ?_
          refine wp_seq ?_
          refine wp_region_lit ?_
          refine seq_val (.agg (planC a0).toArray) r (fun R => y_load_agg r (cs := (planC a0)) (n := 6) rfl (hP.cell (i := 0) rfl) ta23 rfl) rfl fun fr r => ?_
          refine seq_call r (c_alloc_New (F := No) (n := fu) (j := fu + 1) (fun _ h => h.elim) (by omega) a0 0 0) (fun R hc => y_call r rfl cl35 hc) rfl ?_
          rintro _ w25 ⟨v26, rfl, hb, hr27⟩
          refine ⟨_, rfl, fun fr r => ?_⟩
          have hP : Post No [cellC b1 ((planC a0)).toArray 23, memK mg18 x20.2.2, progK Tryz.prog encGrant (fu, (D.alloc_New (fu + 1) a0 0 0)) v26 (rg w23.heap.size w25.heap.size)] w0 w25 := hP.addProg hb hr27
          refine seq_val (.pointer (some ⟨mg18.mb, 0, none⟩)) r (fun R => y_move r rfl) rfl fun fr r => ?_
          refine seq_val (.pointer (some ⟨mg18.mb, 0, none⟩)) r (fun R => y_move r rfl) rfl fun fr r => ?_
          obtain ⟨x29, hx29, hD⟩ := bindD_elim hD
          refine seq_call r (c_mem_Memory_Cap w25 x20.2.2 (hP.mem (i := 1) rfl) 0 hx29) (fun R hc => y_call r rfl cl18 hc) rfl ?_
          rintro _ w30 ⟨rfl, hb⟩
          refine ⟨_, rfl, fun fr r => ?_⟩
          have hP : Post No [cellC b1 ((planC a0)).toArray 23, memK mg18 x20.2.2, progK Tryz.prog encGrant (fu, (D.alloc_New (fu + 1) a0 0 0)) v26 (rg w23.heap.size w25.heap.size)] w0 w30 := hP.below hb
          obtain ⟨x31, hx31, hD⟩ := bindD_elim hD
          refine seq_call r (c_prog_Run_Grant w30 (fu, (D.alloc_New (fu + 1) a0 0 0)) x20.2.2 x29 100 (hP.sep.pk [2, 1] rfl rfl) hx31) (fun R hc => y_call r rfl cl34 hc) rfl ?_
          rintro _ w32 ⟨rfl, hq⟩
          refine ⟨_, rfl, fun fr r => ?_⟩
          have hP : Post No [cellC b1 ((planC a0)).toArray 23, memK mg18 x31.2.2.2, progK Tryz.prog encGrant (fu, (D.alloc_New (fu + 1) a0 0 0)) v26 (rg w23.heap.size w25.heap.size)] w0 w32 := hP.setN (i := 1) rfl hq
          refine seq_val (.tuple #[(.agg (grantC x31.1).toArray), (.int .i64 x31.2.1), (.bool x31.2.2.1)]) r (fun R => y_move r rfl) rfl fun fr r => ?_
          refine seq_val (.agg (grantC x31.1).toArray) r (fun R => y_extract r (vs := #[(.agg (grantC x31.1).toArray), (.int .i64 x31.2.1), (.bool x31.2.2.1)]) rfl rfl) rfl fun fr r => ?_
          refine seq_val (.int .i64 x31.2.1) r (fun R => y_extract r (vs := #[(.agg (grantC x31.1).toArray), (.int .i64 x31.2.1), (.bool x31.2.2.1)]) rfl rfl) rfl fun fr r => ?_
          refine seq_val (.bool x31.2.2.1) r (fun R => y_extract r (vs := #[(.agg (grantC x31.1).toArray), (.int .i64 x31.2.1), (.bool x31.2.2.1)]) rfl rfl) rfl fun fr r => ?_
          refine seq_new (.cells ((grantC (⟨0, 0, 0⟩ : Grant))).toArray 70 (0, 0)) r (fun R => y_alloc tz70) rfl fun fr b33 w34 n35 r => ?_
          have hP : Post No [cellC b1 ((planC a0)).toArray 23, memK mg18 x31.2.2.2, progK Tryz.prog encGrant (fu, (D.alloc_New (fu + 1) a0 0 0)) v26 (rg w23.heap.size w25.heap.size), cellC b33 ((grantC (⟨0, 0, 0⟩ : Grant))).toArray 70] w0 w34 := hP.new n35
          refine seq_upd (.cells ((grantC x31.1)).toArray 70 (0, 0)) r (fun R => y_store r (o := 0) (v := (.agg (grantC x31.1).toArray)) rfl rfl (hP.cell (i := 3) rfl) ts70 (Nat.le_of_ble_eq_true rfl) rfl rfl) rfl fun fr w37 u38 r => ?_
          have hP : Post No [cellC b1 ((planC a0)).toArray 23, memK mg18 x31.2.2.2, progK Tryz.prog encGrant (fu, (D.alloc_New (fu + 1) a0 0 0)) v26 (rg w23.heap.size w25.heap.size), cellC b33 ((grantC x31.1)).toArray 70] w0 w37 := hP.upd (i := 3) rfl u38
          refine seq_val (.int .i64 x31.2.1) r (fun R => y_assign r rfl) rfl fun fr r => ?_
          refine seq_val (.bool x31.2.2.1) r (fun R => y_assign r rfl) rfl fun fr r => ?_
          refine wpList_nil ?_
          refine wp_seq ?_
          have hP : Post No [cellC b1 ((planC a0)).toArray 23, memK mg18 x31.2.2.2, cellC b33 ((grantC x31.1)).toArray 70] w0 w37 := hP.pick [0, 1, 3] rfl rfl
          refine wp_joinG (N := 115) (Y := Bool) (G := Unit) (fun x γ => [(0, (.agg (planC a0).toArray)), (1, (.int .u8 a1)), (2, (.pointer (some ⟨b1, 0, none⟩))), (26, (.bool x10)), (5, (.pointer (some ⟨mg18.mb, 0, none⟩))), (31, (.bool false)), (4, (.bool x20.1)), (6, (.int .i64 x20.2.1)), (35, (.bool (decide (x20.2.1 < a0.nodes)))), (7, (.pointer (some ⟨b33, 0, none⟩))), (9, (.bool x31.2.2.1)), (55, (.bool x))]) (fun x γ w => Post No [cellC b1 ((planC a0)).toArray 23, memK mg18 x31.2.2.2, cellC b33 ((grantC x31.1)).toArray 70] w0 w) hD ?_ ?_
          · skip
            rintro y39 RPy39 nxy39 hD
            refine wp_region_lit ?_
            refine seq_val (.bool x31.2.2.1) r (fun R => y_move r rfl) rfl fun fr r => ?_
            refine seq_val (.bool (!x31.2.2.1)) r (fun R => y_un r (u := (.bool x31.2.2.1)) rfl rfl) rfl fun fr r => ?_
            refine seq_val (.bool (!x31.2.2.1)) r (fun R => y_move r rfl) rfl fun fr r => ?_
            refine seq_split (!x31.2.2.1) (fun h40 => ?_) (fun h40 => ?_)
            · skip
              have hD := (cond_t h40).symm.trans hD
              refine seq_skip r rfl rfl rfl (v := .bool true) (congrArg Value.bool h40) (by simp [boolOf]) fun fr r => ?_
              refine seq_skip r rfl rfl rfl (v := .bool true) (congrArg Value.bool h40) (by simp [boolOf]) fun fr r => ?_
              refine seq_skip r rfl rfl rfl (v := .bool true) (congrArg Value.bool h40) (by simp [boolOf]) fun fr r => ?_
              refine seq_skip r rfl rfl rfl (v := .bool true) (congrArg Value.bool h40) (by simp [boolOf]) fun fr r => ?_
              refine seq_val (.bool true) r (fun R => y_pick r (b := true) (congrArg Value.bool h40) rfl) rfl fun fr r => ?_
              refine wpList_nil ?_
              exact nxy39 true () _ _ _ hD r (hs_cons rfl (hs_cons rfl (hs_cons rfl (hs_cons rfl (hs_cons rfl (hs_cons rfl (hs_cons rfl (hs_cons rfl (hs_cons rfl (hs_cons rfl (hs_cons rfl (hs_cons rfl hs_nil)))))))))))) (hP.pick [0, 1, 2] rfl rfl)
            · skip
              have hD := (cond_f h40).symm.trans hD
              refine seq_want r rfl rfl rfl (congrArg Value.bool h40) ?_
              refine seq_val (.agg (grantC x31.1).toArray) r (fun R => y_load_agg r (cs := (grantC x31.1)) (n := 3) rfl (hP.cell (i := 2) rfl) ta70 rfl) rfl fun fr r => ?_
              refine seq_want r rfl rfl rfl (congrArg Value.bool h40) ?_
              refine seq_val (.int .i64 x20.2.1) r (fun R => y_move r rfl) rfl fun fr r => ?_
              refine seq_want r rfl rfl rfl (congrArg Value.bool h40) ?_
              refine seq_val (.agg (grantC (⟨x20.2.1, 0, 0⟩ : Grant)).toArray) r (fun R => y_build r (by kernel_rfl)) rfl fun fr r => ?_
              refine seq_want r rfl rfl rfl (congrArg Value.bool h40) ?_
              refine seq_val (.bool (!(x31.1 == (⟨x20.2.1, 0, 0⟩ : Grant)))) r (fun R => y_bin r (u := (.agg (grantC x31.1).toArray)) (u' := (.agg (grantC (⟨x20.2.1, 0, 0⟩ : Grant)).toArray)) (v := (.bool (!(x31.1 == (⟨x20.2.1, 0, 0⟩ : Grant))))) rfl rfl (run_eqGuard_agg _ _ _ _ _ _ _ eg70) (eqs70 _ _ _).2) rfl fun fr r => ?_
              refine seq_val (.bool (!(x31.1 == (⟨x20.2.1, 0, 0⟩ : Grant)))) r (fun R => y_pick r (b := false) (congrArg Value.bool h40) rfl) rfl fun fr r => ?_
              refine wpList_nil ?_
              exact nxy39 (!(x31.1 == (⟨x20.2.1, 0, 0⟩ : Grant))) () _ _ _ hD r (hs_cons rfl (hs_cons rfl (hs_cons rfl (hs_cons rfl (hs_cons rfl (hs_cons rfl (hs_cons rfl (hs_cons rfl (hs_cons rfl (hs_cons rfl (hs_cons rfl (hs_cons rfl hs_nil)))))))))))) (hP.pick [0, 1, 2] rfl rfl)
          · skip
            rintro x41 γ42 fr w43 g r hP hD
            have hP : Post No [cellC b1 ((planC a0)).toArray 23, memK mg18 x31.2.2.2, cellC b33 ((grantC x31.1)).toArray 70] w0 w43 := hP
            refine wp_cond_split (t := x41) (r.ev rfl) (fun h44 => ?_) (fun h44 => ?_)
            · skip
              have hD := (cond_t h44).symm.trans hD
              refine wp_seq ?_
              refine wp_region_lit ?_
              refine seq_val (.bool false) r (fun R => y_assign r rfl) rfl fun fr r => ?_
              refine wpList_nil ?_
              refine wp_ret ?_
              refine rty22 false _ _ hD fun hD => ?_
              have hv : false = res := Option.some.inj hD
              try dsimp only [Exit.then, Exit.inBlock]
              refine ret_tmp (fn := Tryz.f7) r (t := 4) rfl (v := (.bool false)) rfl ?_
              subst hv
              exact ⟨rfl, hP.chg.below⟩
            · skip
              have hD := (cond_f h44).symm.trans hD
              refine wp_skip ?_
              refine wp_region_lit ?_
              refine seq_val (.int .i64 x20.2.1) r (fun R => y_move r rfl) rfl fun fr r => ?_
              refine seq_val (.int .i64 (IntKind.i64.wrap (x20.2.1 + 1))) r (fun R => y_bin r (u := (.int .i64 x20.2.1)) (u' := (.int .i64 1)) rfl rfl rfl rfl) rfl fun fr r => ?_
              refine seq_val (.int .i64 (IntKind.i64.wrap (x20.2.1 + 1))) r (fun R => y_assign r rfl) rfl fun fr r => ?_
              refine wpList_nil ?_
              exact nxy22 (x20.1, (IntKind.i64.wrap (x20.2.1 + 1)), x31.2.2.2) () _ _ _ hD r (hs_cons rfl (hs_cons rfl (hs_cons rfl (hs_cons rfl (hs_cons rfl (hs_cons rfl (hs_cons rfl (hs_cons rfl hs_nil)))))))) (hP.pick [0, 1] rfl rfl)
        · skip
          have hD := (cond_f h24).symm.trans hD
          refine wp_exit ?_
          exact bky22 (x20.1, x20.2.1, x20.2.2) () _ _ _ hD r (hs_cons rfl (hs_cons rfl (hs_cons rfl (hs_cons rfl (hs_cons rfl (hs_cons rfl (hs_cons rfl (hs_cons rfl hs_nil)))))))) (hP.pick [0, 1] rfl rfl)
      · skip
        rintro x45 γ46 fr w47 g r hP hD
        have hP : Post No [cellC b1 ((planC a0)).toArray 23, memK mg18 x45.2.2] w0 w47 := hP
        refine wp_seq ?_
        refine wp_region_lit ?_
        refine seq_val (.agg (planC a0).toArray) r (fun R => y_load_agg r (cs := (planC a0)) (n := 6) rfl (hP.cell (i := 0) rfl) ta23 rfl) rfl fun fr r => ?_
        refine seq_call r (c_alloc_New (F := No) (n := fu) (j := fu + 1) (fun _ h => h.elim) (by omega) a0 0 0) (fun R hc => y_call r rfl cl35 hc) rfl ?_
        rintro _ w48 ⟨v49, rfl, hb, hr50⟩
        refine ⟨_, rfl, fun fr r => ?_⟩
        have hP : Post No [cellC b1 ((planC a0)).toArray 23, memK mg18 x45.2.2, progK Tryz.prog encGrant (fu, (D.alloc_New (fu + 1) a0 0 0)) v49 (rg w47.heap.size w48.heap.size)] w0 w48 := hP.addProg hb hr50
        refine seq_val (.pointer (some ⟨mg18.mb, 0, none⟩)) r (fun R => y_move r rfl) rfl fun fr r => ?_
        refine seq_val (.pointer (some ⟨mg18.mb, 0, none⟩)) r (fun R => y_move r rfl) rfl fun fr r => ?_
        obtain ⟨x52, hx52, hD⟩ := bindD_elim hD
        refine seq_call r (c_mem_Memory_Cap w48 x45.2.2 (hP.mem (i := 1) rfl) 0 hx52) (fun R hc => y_call r rfl cl18 hc) rfl ?_
        rintro _ w53 ⟨rfl, hb⟩
        refine ⟨_, rfl, fun fr r => ?_⟩
        have hP : Post No [cellC b1 ((planC a0)).toArray 23, memK mg18 x45.2.2, progK Tryz.prog encGrant (fu, (D.alloc_New (fu + 1) a0 0 0)) v49 (rg w47.heap.size w48.heap.size)] w0 w53 := hP.below hb
        obtain ⟨x54, hx54, hD⟩ := bindD_elim hD
        refine seq_call r (c_prog_Run_Grant w53 (fu, (D.alloc_New (fu + 1) a0 0 0)) x45.2.2 x52 100 (hP.sep.pk [2, 1] rfl rfl) hx54) (fun R hc => y_call r rfl cl34 hc) rfl ?_
        rintro _ w55 ⟨rfl, hq⟩
        refine ⟨_, rfl, fun fr r => ?_⟩
        have hP : Post No [cellC b1 ((planC a0)).toArray 23, memK mg18 x54.2.2.2, progK Tryz.prog encGrant (fu, (D.alloc_New (fu + 1) a0 0 0)) v49 (rg w47.heap.size w48.heap.size)] w0 w55 := hP.setN (i := 1) rfl hq
        refine seq_val (.tuple #[(.agg (grantC x54.1).toArray), (.int .i64 x54.2.1), (.bool x54.2.2.1)]) r (fun R => y_move r rfl) rfl fun fr r => ?_
        refine seq_val (.agg (grantC x54.1).toArray) r (fun R => y_extract r (vs := #[(.agg (grantC x54.1).toArray), (.int .i64 x54.2.1), (.bool x54.2.2.1)]) rfl rfl) rfl fun fr r => ?_
        refine seq_val (.int .i64 x54.2.1) r (fun R => y_extract r (vs := #[(.agg (grantC x54.1).toArray), (.int .i64 x54.2.1), (.bool x54.2.2.1)]) rfl rfl) rfl fun fr r => ?_
        refine seq_val (.bool x54.2.2.1) r (fun R => y_extract r (vs := #[(.agg (grantC x54.1).toArray), (.int .i64 x54.2.1), (.bool x54.2.2.1)]) rfl rfl) rfl fun fr r => ?_
        refine seq_new (.cells ((grantC (⟨0, 0, 0⟩ : Grant))).toArray 70 (0, 0)) r (fun R => y_alloc tz70) rfl fun fr b56 w57 n58 r => ?_
        have hP : Post No [cellC b1 ((planC a0)).toArray 23, memK mg18 x54.2.2.2, progK Tryz.prog encGrant (fu, (D.alloc_New (fu + 1) a0 0 0)) v49 (rg w47.heap.size w48.heap.size), cellC b56 ((grantC (⟨0, 0, 0⟩ : Grant))).toArray 70] w0 w57 := hP.new n58
        refine seq_upd (.cells ((grantC x54.1)).toArray 70 (0, 0)) r (fun R => y_store r (o := 0) (v := (.agg (grantC x54.1).toArray)) rfl rfl (hP.cell (i := 3) rfl) ts70 (Nat.le_of_ble_eq_true rfl) rfl rfl) rfl fun fr w60 u61 r => ?_
        have hP : Post No [cellC b1 ((planC a0)).toArray 23, memK mg18 x54.2.2.2, progK Tryz.prog encGrant (fu, (D.alloc_New (fu + 1) a0 0 0)) v49 (rg w47.heap.size w48.heap.size), cellC b56 ((grantC x54.1)).toArray 70] w0 w60 := hP.upd (i := 3) rfl u61
        refine seq_val (.int .i64 x54.2.1) r (fun R => y_assign r rfl) rfl fun fr r => ?_
        refine seq_val (.bool x54.2.2.1) r (fun R => y_assign r rfl) rfl fun fr r => ?_
        refine wpList_nil ?_
        refine wp_seq ?_
        refine wp_region_lit ?_
        refine seq_val (.int .u8 a1) r (fun R => y_move r rfl) rfl fun fr r => ?_
        refine seq_val (.int .i64 (IntKind.i64.wrap a1)) r (fun R => y_convert r rfl ti5 ti3) rfl fun fr r => ?_
        refine seq_val (.pointer (some ⟨b1, 0, none⟩)) r (fun R => y_fieldAddr r (o := 0) rfl fo23_0) rfl fun fr r => ?_
        refine seq_val (.int .i64 a0.nodes) r (fun R => y_load_one r (v := (.int .i64 a0.nodes)) rfl (hP.cell (i := 0) rfl) to3 rfl) rfl fun fr r => ?_
        obtain ⟨x62, hx62, hD⟩ := bindD_elim hD
        refine seq_val (.int .i64 ((IntKind.i64.wrap a1).tmod a0.nodes)) r (fun R => y_bin r (u := (.int .i64 (IntKind.i64.wrap a1))) (u' := (.int .i64 a0.nodes)) rfl rfl rfl (bin_rem (guardI_eq hx62))) rfl fun fr r => ?_
        refine seq_val (.int .i64 ((IntKind.i64.wrap a1).tmod a0.nodes)) r (fun R => y_assign r rfl) rfl fun fr r => ?_
        refine wpList_nil ?_
        refine wp_seq ?_
        refine wp_region_lit ?_
        refine seq_val (.agg (planC a0).toArray) r (fun R => y_load_agg r (cs := (planC a0)) (n := 6) rfl (hP.cell (i := 0) rfl) ta23 rfl) rfl fun fr r => ?_
        refine seq_val (.int .i64 ((IntKind.i64.wrap a1).tmod a0.nodes)) r (fun R => y_move r rfl) rfl fun fr r => ?_
        refine seq_call r (c_alloc_Retire (F := No) (n := fu) (j := fu + 1) (fun _ h => h.elim) (by omega) a0 0 ((IntKind.i64.wrap a1).tmod a0.nodes)) (fun R hc => y_call r rfl cl36 hc) rfl ?_
        rintro _ w63 ⟨v64, rfl, hb, hr65⟩
        refine ⟨_, rfl, fun fr r => ?_⟩
        have hP : Post No [cellC b1 ((planC a0)).toArray 23, memK mg18 x54.2.2.2, progK Tryz.prog encGrant (fu, (D.alloc_New (fu + 1) a0 0 0)) v49 (rg w47.heap.size w48.heap.size), cellC b56 ((grantC x54.1)).toArray 70, progK Tryz.prog encInt (fu, (D.alloc_Retire (fu + 1) a0 0 ((IntKind.i64.wrap a1).tmod a0.nodes))) v64 (rg w60.heap.size w63.heap.size)] w0 w63 := hP.addProg hb hr65
        refine seq_val (.pointer (some ⟨mg18.mb, 0, none⟩)) r (fun R => y_move r rfl) rfl fun fr r => ?_
        refine seq_val (.pointer (some ⟨mg18.mb, 0, none⟩)) r (fun R => y_move r rfl) rfl fun fr r => ?_
        obtain ⟨x67, hx67, hD⟩ := bindD_elim hD
        refine seq_call r (c_mem_Memory_Cap w63 x54.2.2.2 (hP.mem (i := 1) rfl) 0 hx67) (fun R hc => y_call r rfl cl18 hc) rfl ?_
        rintro _ w68 ⟨rfl, hb⟩
        refine ⟨_, rfl, fun fr r => ?_⟩
        have hP : Post No [cellC b1 ((planC a0)).toArray 23, memK mg18 x54.2.2.2, progK Tryz.prog encGrant (fu, (D.alloc_New (fu + 1) a0 0 0)) v49 (rg w47.heap.size w48.heap.size), cellC b56 ((grantC x54.1)).toArray 70, progK Tryz.prog encInt (fu, (D.alloc_Retire (fu + 1) a0 0 ((IntKind.i64.wrap a1).tmod a0.nodes))) v64 (rg w60.heap.size w63.heap.size)] w0 w68 := hP.below hb
        obtain ⟨x69, hx69, hD⟩ := bindD_elim hD
        refine seq_call r (c_prog_Run_int w68 (fu, (D.alloc_Retire (fu + 1) a0 0 ((IntKind.i64.wrap a1).tmod a0.nodes))) x54.2.2.2 x67 1000 (hP.sep.pk [4, 1] rfl rfl) hx69) (fun R hc => y_call r rfl cl16 hc) rfl ?_
        rintro _ w70 ⟨rfl, hq⟩
        refine ⟨_, rfl, fun fr r => ?_⟩
        have hP : Post No [cellC b1 ((planC a0)).toArray 23, memK mg18 x69.2.2.2, progK Tryz.prog encGrant (fu, (D.alloc_New (fu + 1) a0 0 0)) v49 (rg w47.heap.size w48.heap.size), cellC b56 ((grantC x54.1)).toArray 70, progK Tryz.prog encInt (fu, (D.alloc_Retire (fu + 1) a0 0 ((IntKind.i64.wrap a1).tmod a0.nodes))) v64 (rg w60.heap.size w63.heap.size)] w0 w70 := hP.setN (i := 1) rfl hq
        refine wpList_nil ?_
        refine wp_seq ?_
        refine wp_region_lit ?_
        refine seq_val (.agg (planC a0).toArray) r (fun R => y_load_agg r (cs := (planC a0)) (n := 6) rfl (hP.cell (i := 0) rfl) ta23 rfl) rfl fun fr r => ?_
        refine seq_call r (c_alloc_New (F := No) (n := fu) (j := fu + 1) (fun _ h => h.elim) (by omega) a0 0 0) (fun R hc => y_call r rfl cl35 hc) rfl ?_
        rintro _ w71 ⟨v72, rfl, hb, hr73⟩
        refine ⟨_, rfl, fun fr r => ?_⟩
        have hP : Post No [cellC b1 ((planC a0)).toArray 23, memK mg18 x69.2.2.2, progK Tryz.prog encGrant (fu, (D.alloc_New (fu + 1) a0 0 0)) v49 (rg w47.heap.size w48.heap.size), cellC b56 ((grantC x54.1)).toArray 70, progK Tryz.prog encInt (fu, (D.alloc_Retire (fu + 1) a0 0 ((IntKind.i64.wrap a1).tmod a0.nodes))) v64 (rg w60.heap.size w63.heap.size), progK Tryz.prog encGrant (fu, (D.alloc_New (fu + 1) a0 0 0)) v72 (rg w70.heap.size w71.heap.size)] w0 w71 := hP.addProg hb hr73
        refine seq_val (.pointer (some ⟨mg18.mb, 0, none⟩)) r (fun R => y_move r rfl) rfl fun fr r => ?_
        refine seq_val (.pointer (some ⟨mg18.mb, 0, none⟩)) r (fun R => y_move r rfl) rfl fun fr r => ?_
        obtain ⟨x75, hx75, hD⟩ := bindD_elim hD
        refine seq_call r (c_mem_Memory_Cap w71 x69.2.2.2 (hP.mem (i := 1) rfl) 0 hx75) (fun R hc => y_call r rfl cl18 hc) rfl ?_
        rintro _ w76 ⟨rfl, hb⟩
        refine ⟨_, rfl, fun fr r => ?_⟩
        have hP : Post No [cellC b1 ((planC a0)).toArray 23, memK mg18 x69.2.2.2, progK Tryz.prog encGrant (fu, (D.alloc_New (fu + 1) a0 0 0)) v49 (rg w47.heap.size w48.heap.size), cellC b56 ((grantC x54.1)).toArray 70, progK Tryz.prog encInt (fu, (D.alloc_Retire (fu + 1) a0 0 ((IntKind.i64.wrap a1).tmod a0.nodes))) v64 (rg w60.heap.size w63.heap.size), progK Tryz.prog encGrant (fu, (D.alloc_New (fu + 1) a0 0 0)) v72 (rg w70.heap.size w71.heap.size)] w0 w76 := hP.below hb
        obtain ⟨x77, hx77, hD⟩ := bindD_elim hD
        refine seq_call r (c_prog_Run_Grant w76 (fu, (D.alloc_New (fu + 1) a0 0 0)) x69.2.2.2 x75 1000 (hP.sep.pk [5, 1] rfl rfl) hx77) (fun R hc => y_call r rfl cl34 hc) rfl ?_
        rintro _ w78 ⟨rfl, hq⟩
        refine ⟨_, rfl, fun fr r => ?_⟩
        have hP : Post No [cellC b1 ((planC a0)).toArray 23, memK mg18 x77.2.2.2, progK Tryz.prog encGrant (fu, (D.alloc_New (fu + 1) a0 0 0)) v49 (rg w47.heap.size w48.heap.size), cellC b56 ((grantC x54.1)).toArray 70, progK Tryz.prog encInt (fu, (D.alloc_Retire (fu + 1) a0 0 ((IntKind.i64.wrap a1).tmod a0.nodes))) v64 (rg w60.heap.size w63.heap.size), progK Tryz.prog encGrant (fu, (D.alloc_New (fu + 1) a0 0 0)) v72 (rg w70.heap.size w71.heap.size)] w0 w78 := hP.setN (i := 1) rfl hq
        refine seq_val (.tuple #[(.agg (grantC x77.1).toArray), (.int .i64 x77.2.1), (.bool x77.2.2.1)]) r (fun R => y_move r rfl) rfl fun fr r => ?_
        refine seq_val (.agg (grantC x77.1).toArray) r (fun R => y_extract r (vs := #[(.agg (grantC x77.1).toArray), (.int .i64 x77.2.1), (.bool x77.2.2.1)]) rfl rfl) rfl fun fr r => ?_
        refine seq_val (.int .i64 x77.2.1) r (fun R => y_extract r (vs := #[(.agg (grantC x77.1).toArray), (.int .i64 x77.2.1), (.bool x77.2.2.1)]) rfl rfl) rfl fun fr r => ?_
        refine seq_val (.bool x77.2.2.1) r (fun R => y_extract r (vs := #[(.agg (grantC x77.1).toArray), (.int .i64 x77.2.1), (.bool x77.2.2.1)]) rfl rfl) rfl fun fr r => ?_
        refine seq_new (.cells ((grantC (⟨0, 0, 0⟩ : Grant))).toArray 70 (0, 0)) r (fun R => y_alloc tz70) rfl fun fr b79 w80 n81 r => ?_
        have hP : Post No [cellC b1 ((planC a0)).toArray 23, memK mg18 x77.2.2.2, progK Tryz.prog encGrant (fu, (D.alloc_New (fu + 1) a0 0 0)) v49 (rg w47.heap.size w48.heap.size), cellC b56 ((grantC x54.1)).toArray 70, progK Tryz.prog encInt (fu, (D.alloc_Retire (fu + 1) a0 0 ((IntKind.i64.wrap a1).tmod a0.nodes))) v64 (rg w60.heap.size w63.heap.size), progK Tryz.prog encGrant (fu, (D.alloc_New (fu + 1) a0 0 0)) v72 (rg w70.heap.size w71.heap.size), cellC b79 ((grantC (⟨0, 0, 0⟩ : Grant))).toArray 70] w0 w80 := hP.new n81
        refine seq_upd (.cells ((grantC x77.1)).toArray 70 (0, 0)) r (fun R => y_store r (o := 0) (v := (.agg (grantC x77.1).toArray)) rfl rfl (hP.cell (i := 6) rfl) ts70 (Nat.le_of_ble_eq_true rfl) rfl rfl) rfl fun fr w83 u84 r => ?_
        have hP : Post No [cellC b1 ((planC a0)).toArray 23, memK mg18 x77.2.2.2, progK Tryz.prog encGrant (fu, (D.alloc_New (fu + 1) a0 0 0)) v49 (rg w47.heap.size w48.heap.size), cellC b56 ((grantC x54.1)).toArray 70, progK Tryz.prog encInt (fu, (D.alloc_Retire (fu + 1) a0 0 ((IntKind.i64.wrap a1).tmod a0.nodes))) v64 (rg w60.heap.size w63.heap.size), progK Tryz.prog encGrant (fu, (D.alloc_New (fu + 1) a0 0 0)) v72 (rg w70.heap.size w71.heap.size), cellC b79 ((grantC x77.1)).toArray 70] w0 w83 := hP.upd (i := 6) rfl u84
        refine seq_val (.int .i64 x77.2.1) r (fun R => y_assign r rfl) rfl fun fr r => ?_
        refine seq_val (.bool x77.2.2.1) r (fun R => y_assign r rfl) rfl fun fr r => ?_
        refine wpList_nil ?_
        refine wp_seq ?_
        refine wp_region_lit ?_
        refine seq_val (.agg (planC a0).toArray) r (fun R => y_load_agg r (cs := (planC a0)) (n := 6) rfl (hP.cell (i := 0) rfl) ta23 rfl) rfl fun fr r => ?_
        refine seq_call r (c_alloc_New (F := No) (n := fu) (j := fu + 1) (fun _ h => h.elim) (by omega) a0 0 0) (fun R hc => y_call r rfl cl35 hc) rfl ?_
        rintro _ w85 ⟨v86, rfl, hb, hr87⟩
        refine ⟨_, rfl, fun fr r => ?_⟩
        have hP : Post No [cellC b1 ((planC a0)).toArray 23, memK mg18 x77.2.2.2, progK Tryz.prog encGrant (fu, (D.alloc_New (fu + 1) a0 0 0)) v49 (rg w47.heap.size w48.heap.size), cellC b56 ((grantC x54.1)).toArray 70, progK Tryz.prog encInt (fu, (D.alloc_Retire (fu + 1) a0 0 ((IntKind.i64.wrap a1).tmod a0.nodes))) v64 (rg w60.heap.size w63.heap.size), progK Tryz.prog encGrant (fu, (D.alloc_New (fu + 1) a0 0 0)) v72 (rg w70.heap.size w71.heap.size), cellC b79 ((grantC x77.1)).toArray 70, progK Tryz.prog encGrant (fu, (D.alloc_New (fu + 1) a0 0 0)) v86 (rg w83.heap.size w85.heap.size)] w0 w85 := hP.addProg hb hr87
        refine seq_val (.pointer (some ⟨mg18.mb, 0, none⟩)) r (fun R => y_move r rfl) rfl fun fr r => ?_
        refine seq_val (.pointer (some ⟨mg18.mb, 0, none⟩)) r (fun R => y_move r rfl) rfl fun fr r => ?_
        obtain ⟨x89, hx89, hD⟩ := bindD_elim hD
        refine seq_call r (c_mem_Memory_Cap w85 x77.2.2.2 (hP.mem (i := 1) rfl) 0 hx89) (fun R hc => y_call r rfl cl18 hc) rfl ?_
        rintro _ w90 ⟨rfl, hb⟩
        refine ⟨_, rfl, fun fr r => ?_⟩
        have hP : Post No [cellC b1 ((planC a0)).toArray 23, memK mg18 x77.2.2.2, progK Tryz.prog encGrant (fu, (D.alloc_New (fu + 1) a0 0 0)) v49 (rg w47.heap.size w48.heap.size), cellC b56 ((grantC x54.1)).toArray 70, progK Tryz.prog encInt (fu, (D.alloc_Retire (fu + 1) a0 0 ((IntKind.i64.wrap a1).tmod a0.nodes))) v64 (rg w60.heap.size w63.heap.size), progK Tryz.prog encGrant (fu, (D.alloc_New (fu + 1) a0 0 0)) v72 (rg w70.heap.size w71.heap.size), cellC b79 ((grantC x77.1)).toArray 70, progK Tryz.prog encGrant (fu, (D.alloc_New (fu + 1) a0 0 0)) v86 (rg w83.heap.size w85.heap.size)] w0 w90 := hP.below hb
        obtain ⟨x91, hx91, hD⟩ := bindD_elim hD
        refine seq_call r (c_prog_Run_Grant w90 (fu, (D.alloc_New (fu + 1) a0 0 0)) x77.2.2.2 x89 1000 (hP.sep.pk [7, 1] rfl rfl) hx91) (fun R hc => y_call r rfl cl34 hc) rfl ?_
        rintro _ w92 ⟨rfl, hq⟩
        refine ⟨_, rfl, fun fr r => ?_⟩
        have hP : Post No [cellC b1 ((planC a0)).toArray 23, memK mg18 x91.2.2.2, progK Tryz.prog encGrant (fu, (D.alloc_New (fu + 1) a0 0 0)) v49 (rg w47.heap.size w48.heap.size), cellC b56 ((grantC x54.1)).toArray 70, progK Tryz.prog encInt (fu, (D.alloc_Retire (fu + 1) a0 0 ((IntKind.i64.wrap a1).tmod a0.nodes))) v64 (rg w60.heap.size w63.heap.size), progK Tryz.prog encGrant (fu, (D.alloc_New (fu + 1) a0 0 0)) v72 (rg w70.heap.size w71.heap.size), cellC b79 ((grantC x77.1)).toArray 70, progK Tryz.prog encGrant (fu, (D.alloc_New (fu + 1) a0 0 0)) v86 (rg w83.heap.size w85.heap.size)] w0 w92 := hP.setN (i := 1) rfl hq
        refine seq_val (.tuple #[(.agg (grantC x91.1).toArray), (.int .i64 x91.2.1), (.bool x91.2.2.1)]) r (fun R => y_move r rfl) rfl fun fr r => ?_
        refine seq_val (.agg (grantC x91.1).toArray) r (fun R => y_extract r (vs := #[(.agg (grantC x91.1).toArray), (.int .i64 x91.2.1), (.bool x91.2.2.1)]) rfl rfl) rfl fun fr r => ?_
        refine seq_val (.int .i64 x91.2.1) r (fun R => y_extract r (vs := #[(.agg (grantC x91.1).toArray), (.int .i64 x91.2.1), (.bool x91.2.2.1)]) rfl rfl) rfl fun fr r => ?_
        refine seq_val (.bool x91.2.2.1) r (fun R => y_extract r (vs := #[(.agg (grantC x91.1).toArray), (.int .i64 x91.2.1), (.bool x91.2.2.1)]) rfl rfl) rfl fun fr r => ?_
        refine seq_new (.cells ((grantC (⟨0, 0, 0⟩ : Grant))).toArray 70 (0, 0)) r (fun R => y_alloc tz70) rfl fun fr b93 w94 n95 r => ?_
        have hP : Post No [cellC b1 ((planC a0)).toArray 23, memK mg18 x91.2.2.2, progK Tryz.prog encGrant (fu, (D.alloc_New (fu + 1) a0 0 0)) v49 (rg w47.heap.size w48.heap.size), cellC b56 ((grantC x54.1)).toArray 70, progK Tryz.prog encInt (fu, (D.alloc_Retire (fu + 1) a0 0 ((IntKind.i64.wrap a1).tmod a0.nodes))) v64 (rg w60.heap.size w63.heap.size), progK Tryz.prog encGrant (fu, (D.alloc_New (fu + 1) a0 0 0)) v72 (rg w70.heap.size w71.heap.size), cellC b79 ((grantC x77.1)).toArray 70, progK Tryz.prog encGrant (fu, (D.alloc_New (fu + 1) a0 0 0)) v86 (rg w83.heap.size w85.heap.size), cellC b93 ((grantC (⟨0, 0, 0⟩ : Grant))).toArray 70] w0 w94 := hP.new n95
        refine seq_upd (.cells ((grantC x91.1)).toArray 70 (0, 0)) r (fun R => y_store r (o := 0) (v := (.agg (grantC x91.1).toArray)) rfl rfl (hP.cell (i := 8) rfl) ts70 (Nat.le_of_ble_eq_true rfl) rfl rfl) rfl fun fr w97 u98 r => ?_
        have hP : Post No [cellC b1 ((planC a0)).toArray 23, memK mg18 x91.2.2.2, progK Tryz.prog encGrant (fu, (D.alloc_New (fu + 1) a0 0 0)) v49 (rg w47.heap.size w48.heap.size), cellC b56 ((grantC x54.1)).toArray 70, progK Tryz.prog encInt (fu, (D.alloc_Retire (fu + 1) a0 0 ((IntKind.i64.wrap a1).tmod a0.nodes))) v64 (rg w60.heap.size w63.heap.size), progK Tryz.prog encGrant (fu, (D.alloc_New (fu + 1) a0 0 0)) v72 (rg w70.heap.size w71.heap.size), cellC b79 ((grantC x77.1)).toArray 70, progK Tryz.prog encGrant (fu, (D.alloc_New (fu + 1) a0 0 0)) v86 (rg w83.heap.size w85.heap.size), cellC b93 ((grantC x91.1)).toArray 70] w0 w97 := hP.upd (i := 8) rfl u98
        refine seq_val (.int .i64 x91.2.1) r (fun R => y_assign r rfl) rfl fun fr r => ?_
        refine seq_val (.bool x91.2.2.1) r (fun R => y_assign r rfl) rfl fun fr r => ?_
        refine wpList_nil ?_
        refine wp_seq ?_
        have hP : Post No [cellC b1 ((planC a0)).toArray 23, memK mg18 x91.2.2.2, cellC b56 ((grantC x54.1)).toArray 70, cellC b79 ((grantC x77.1)).toArray 70, cellC b93 ((grantC x91.1)).toArray 70] w0 w97 := hP.pick [0, 1, 3, 6, 8] rfl rfl
        refine wp_joinG (N := 115) (Y := Bool) (G := Unit) (fun x γ => [(0, (.agg (planC a0).toArray)), (1, (.int .u8 a1)), (2, (.pointer (some ⟨b1, 0, none⟩))), (26, (.bool x10)), (5, (.pointer (some ⟨mg18.mb, 0, none⟩))), (31, (.bool false)), (6, (.int .i64 x45.2.1)), (10, (.pointer (some ⟨b56, 0, none⟩))), (12, (.bool x54.2.2.1)), (13, (.int .i64 ((IntKind.i64.wrap a1).tmod a0.nodes))), (14, (.pointer (some ⟨b79, 0, none⟩))), (17, (.pointer (some ⟨b93, 0, none⟩))), (4, (.bool x))]) (fun x γ w => Post No [cellC b1 ((planC a0)).toArray 23, memK mg18 x91.2.2.2, cellC b56 ((grantC x54.1)).toArray 70, cellC b79 ((grantC x77.1)).toArray 70, cellC b93 ((grantC x91.1)).toArray 70] w0 w) hD ?_ ?_
        · skip
          rintro y99 RPy99 nxy99 hD
          refine wp_region_lit ?_
          refine seq_val (.bool x54.2.2.1) r (fun R => y_move r rfl) rfl fun fr r => ?_
          refine seq_val (.bool x54.2.2.1) r (fun R => y_move r rfl) rfl fun fr r => ?_
          refine seq_split x54.2.2.1 (fun h100 => ?_) (fun h100 => ?_)
          · skip
            have hD := (cond_t h100).symm.trans hD
            refine seq_want r rfl rfl rfl (congrArg Value.bool h100) ?_
            refine seq_val (.agg (grantC x54.1).toArray) r (fun R => y_load_agg r (cs := (grantC x54.1)) (n := 3) rfl (hP.cell (i := 2) rfl) ta70 rfl) rfl fun fr r => ?_
            refine seq_want r rfl rfl rfl (congrArg Value.bool h100) ?_
            refine seq_val (.agg (grantC (⟨(-1), 0, 4⟩ : Grant)).toArray) r (fun R => y_build r (by kernel_rfl)) rfl fun fr r => ?_
            refine seq_want r rfl rfl rfl (congrArg Value.bool h100) ?_
            refine seq_val (.bool (x54.1 == (⟨(-1), 0, 4⟩ : Grant))) r (fun R => y_bin r (u := (.agg (grantC x54.1).toArray)) (u' := (.agg (grantC (⟨(-1), 0, 4⟩ : Grant)).toArray)) (v := (.bool (x54.1 == (⟨(-1), 0, 4⟩ : Grant)))) rfl rfl (run_eqGuard_agg _ _ _ _ _ _ _ eg70) (eqs70 _ _ _).1) rfl fun fr r => ?_
            refine seq_val (.bool (x54.1 == (⟨(-1), 0, 4⟩ : Grant))) r (fun R => y_pick r (b := true) (congrArg Value.bool h100) rfl) rfl fun fr r => ?_
            refine seq_val (.bool (x54.1 == (⟨(-1), 0, 4⟩ : Grant))) r (fun R => y_move r rfl) rfl fun fr r => ?_
            refine seq_split (x54.1 == (⟨(-1), 0, 4⟩ : Grant)) (fun h101 => ?_) (fun h101 => ?_)
            · skip
              have hD := (cond_t h101).symm.trans hD
              refine seq_want r rfl rfl rfl (congrArg Value.bool h101) ?_
              refine seq_val (.agg (grantC x77.1).toArray) r (fun R => y_load_agg r (cs := (grantC x77.1)) (n := 3) rfl (hP.cell (i := 3) rfl) ta70 rfl) rfl fun fr r => ?_
              refine seq_want r rfl rfl rfl (congrArg Value.bool h101) ?_
              refine seq_val (.int .i64 ((IntKind.i64.wrap a1).tmod a0.nodes)) r (fun R => y_move r rfl) rfl fun fr r => ?_
              refine seq_want r rfl rfl rfl (congrArg Value.bool h101) ?_
              refine seq_val (.agg (grantC (⟨((IntKind.i64.wrap a1).tmod a0.nodes), 1, 0⟩ : Grant)).toArray) r (fun R => y_build r (by kernel_rfl)) rfl fun fr r => ?_
              refine seq_want r rfl rfl rfl (congrArg Value.bool h101) ?_
              refine seq_val (.bool (x77.1 == (⟨((IntKind.i64.wrap a1).tmod a0.nodes), 1, 0⟩ : Grant))) r (fun R => y_bin r (u := (.agg (grantC x77.1).toArray)) (u' := (.agg (grantC (⟨((IntKind.i64.wrap a1).tmod a0.nodes), 1, 0⟩ : Grant)).toArray)) (v := (.bool (x77.1 == (⟨((IntKind.i64.wrap a1).tmod a0.nodes), 1, 0⟩ : Grant)))) rfl rfl (run_eqGuard_agg _ _ _ _ _ _ _ eg70) (eqs70 _ _ _).1) rfl fun fr r => ?_
              refine seq_val (.bool (x77.1 == (⟨((IntKind.i64.wrap a1).tmod a0.nodes), 1, 0⟩ : Grant))) r (fun R => y_pick r (b := true) (congrArg Value.bool h101) rfl) rfl fun fr r => ?_
              refine seq_val (.bool (x77.1 == (⟨((IntKind.i64.wrap a1).tmod a0.nodes), 1, 0⟩ : Grant))) r (fun R => y_move r rfl) rfl fun fr r => ?_
              refine seq_split (x77.1 == (⟨((IntKind.i64.wrap a1).tmod a0.nodes), 1, 0⟩ : Grant)) (fun h102 => ?_) (fun h102 => ?_)
              · skip
                have hD := (cond_t h102).symm.trans hD
                refine seq_want r rfl rfl rfl (congrArg Value.bool h102) ?_
                refine seq_val (.agg (grantC x91.1).toArray) r (fun R => y_load_agg r (cs := (grantC x91.1)) (n := 3) rfl (hP.cell (i := 4) rfl) ta70 rfl) rfl fun fr r => ?_
                refine seq_want r rfl rfl rfl (congrArg Value.bool h102) ?_
                refine seq_val (.agg (grantC (⟨(-1), 0, 4⟩ : Grant)).toArray) r (fun R => y_build r (by kernel_rfl)) rfl fun fr r => ?_
                refine seq_want r rfl rfl rfl (congrArg Value.bool h102) ?_
                refine seq_val (.bool (x91.1 == (⟨(-1), 0, 4⟩ : Grant))) r (fun R => y_bin r (u := (.agg (grantC x91.1).toArray)) (u' := (.agg (grantC (⟨(-1), 0, 4⟩ : Grant)).toArray)) (v := (.bool (x91.1 == (⟨(-1), 0, 4⟩ : Grant)))) rfl rfl (run_eqGuard_agg _ _ _ _ _ _ _ eg70) (eqs70 _ _ _).1) rfl fun fr r => ?_
                refine seq_val (.bool (x91.1 == (⟨(-1), 0, 4⟩ : Grant))) r (fun R => y_pick r (b := true) (congrArg Value.bool h102) rfl) rfl fun fr r => ?_
                refine seq_val (.bool (x91.1 == (⟨(-1), 0, 4⟩ : Grant))) r (fun R => y_assign r rfl) rfl fun fr r => ?_
                refine wpList_nil ?_
                exact nxy99 (x91.1 == (⟨(-1), 0, 4⟩ : Grant)) () _ _ _ hD r (hs_cons rfl (hs_cons rfl (hs_cons rfl (hs_cons rfl (hs_cons rfl (hs_cons rfl (hs_cons rfl (hs_cons rfl (hs_cons rfl (hs_cons rfl (hs_cons rfl (hs_cons rfl (hs_cons rfl hs_nil))))))))))))) (hP.pick [0, 1, 2, 3, 4] rfl rfl)
              · skip
                have hD := (cond_f h102).symm.trans hD
                refine seq_skip r rfl rfl rfl (v := .bool false) (congrArg Value.bool h102) (by simp [boolOf]) fun fr r => ?_
                refine seq_skip r rfl rfl rfl (v := .bool false) (congrArg Value.bool h102) (by simp [boolOf]) fun fr r => ?_
                refine seq_skip r rfl rfl rfl (v := .bool false) (congrArg Value.bool h102) (by simp [boolOf]) fun fr r => ?_
                refine seq_val (.bool false) r (fun R => y_pick r (b := false) (congrArg Value.bool h102) rfl) rfl fun fr r => ?_
                refine seq_val (.bool false) r (fun R => y_assign r rfl) rfl fun fr r => ?_
                refine wpList_nil ?_
                exact nxy99 false () _ _ _ hD r (hs_cons rfl (hs_cons rfl (hs_cons rfl (hs_cons rfl (hs_cons rfl (hs_cons rfl (hs_cons rfl (hs_cons rfl (hs_cons rfl (hs_cons rfl (hs_cons rfl (hs_cons rfl (hs_cons rfl hs_nil))))))))))))) (hP.pick [0, 1, 2, 3, 4] rfl rfl)
            · skip
              have hD := (cond_f h101).symm.trans hD
              refine seq_skip r rfl rfl rfl (v := .bool false) (congrArg Value.bool h101) (by simp [boolOf]) fun fr r => ?_
              refine seq_skip r rfl rfl rfl (v := .bool false) (congrArg Value.bool h101) (by simp [boolOf]) fun fr r => ?_
              refine seq_skip r rfl rfl rfl (v := .bool false) (congrArg Value.bool h101) (by simp [boolOf]) fun fr r => ?_
              refine seq_skip r rfl rfl rfl (v := .bool false) (congrArg Value.bool h101) (by simp [boolOf]) fun fr r => ?_
              refine seq_val (.bool false) r (fun R => y_pick r (b := false) (congrArg Value.bool h101) rfl) rfl fun fr r => ?_
              refine seq_val (.bool false) r (fun R => y_move r rfl) rfl fun fr r => ?_
              refine seq_skip r rfl rfl rfl (v := .bool false) (congrArg Value.bool (rfl : false = _)) (by simp [boolOf]) fun fr r => ?_
              refine seq_skip r rfl rfl rfl (v := .bool false) (congrArg Value.bool (rfl : false = _)) (by simp [boolOf]) fun fr r => ?_
              refine seq_skip r rfl rfl rfl (v := .bool false) (congrArg Value.bool (rfl : false = _)) (by simp [boolOf]) fun fr r => ?_
              refine seq_val (.bool false) r (fun R => y_pick r (b := false) (congrArg Value.bool (rfl : false = _)) rfl) rfl fun fr r => ?_
              refine seq_val (.bool false) r (fun R => y_assign r rfl) rfl fun fr r => ?_
              refine wpList_nil ?_
              exact nxy99 false () _ _ _ hD r (hs_cons rfl (hs_cons rfl (hs_cons rfl (hs_cons rfl (hs_cons rfl (hs_cons rfl (hs_cons rfl (hs_cons rfl (hs_cons rfl (hs_cons rfl (hs_cons rfl (hs_cons rfl (hs_cons rfl hs_nil))))))))))))) (hP.pick [0, 1, 2, 3, 4] rfl rfl)
          · skip
            have hD := (cond_f h100).symm.trans hD
            refine seq_skip r rfl rfl rfl (v := .bool false) (congrArg Value.bool h100) (by simp [boolOf]) fun fr r => ?_
            refine seq_skip r rfl rfl rfl (v := .bool false) (congrArg Value.bool h100) (by simp [boolOf]) fun fr r => ?_
            refine seq_skip r rfl rfl rfl (v := .bool false) (congrArg Value.bool h100) (by simp [boolOf]) fun fr r => ?_
            refine seq_val (.bool false) r (fun R => y_pick r (b := false) (congrArg Value.bool h100) rfl) rfl fun fr r => ?_
            refine seq_val (.bool false) r (fun R => y_move r rfl) rfl fun fr r => ?_
            refine seq_skip r rfl rfl rfl (v := .bool false) (congrArg Value.bool (rfl : false = _)) (by simp [boolOf]) fun fr r => ?_
            refine seq_skip r rfl rfl rfl (v := .bool false) (congrArg Value.bool (rfl : false = _)) (by simp [boolOf]) fun fr r => ?_
            refine seq_skip r rfl rfl rfl (v := .bool false) (congrArg Value.bool (rfl : false = _)) (by simp [boolOf]) fun fr r => ?_
            refine seq_skip r rfl rfl rfl (v := .bool false) (congrArg Value.bool (rfl : false = _)) (by simp [boolOf]) fun fr r => ?_
            refine seq_val (.bool false) r (fun R => y_pick r (b := false) (congrArg Value.bool (rfl : false = _)) rfl) rfl fun fr r => ?_
            refine seq_val (.bool false) r (fun R => y_move r rfl) rfl fun fr r => ?_
            refine seq_skip r rfl rfl rfl (v := .bool false) (congrArg Value.bool (rfl : false = _)) (by simp [boolOf]) fun fr r => ?_
            refine seq_skip r rfl rfl rfl (v := .bool false) (congrArg Value.bool (rfl : false = _)) (by simp [boolOf]) fun fr r => ?_
            refine seq_skip r rfl rfl rfl (v := .bool false) (congrArg Value.bool (rfl : false = _)) (by simp [boolOf]) fun fr r => ?_
            refine seq_val (.bool false) r (fun R => y_pick r (b := false) (congrArg Value.bool (rfl : false = _)) rfl) rfl fun fr r => ?_
            refine seq_val (.bool false) r (fun R => y_assign r rfl) rfl fun fr r => ?_
            refine wpList_nil ?_
            exact nxy99 false () _ _ _ hD r (hs_cons rfl (hs_cons rfl (hs_cons rfl (hs_cons rfl (hs_cons rfl (hs_cons rfl (hs_cons rfl (hs_cons rfl (hs_cons rfl (hs_cons rfl (hs_cons rfl (hs_cons rfl (hs_cons rfl hs_nil))))))))))))) (hP.pick [0, 1, 2, 3, 4] rfl rfl)
        · skip
          rintro x103 γ104 fr w105 g r hP hD
          have hP : Post No [cellC b1 ((planC a0)).toArray 23, memK mg18 x91.2.2.2, cellC b56 ((grantC x54.1)).toArray 70, cellC b79 ((grantC x77.1)).toArray 70, cellC b93 ((grantC x91.1)).toArray 70] w0 w105 := hP
          refine wp_ret ?_
          have hv : x103 = res := Option.some.inj hD
          try dsimp only [Exit.then, Exit.inBlock]
          refine ret_tmp (fn := Tryz.f7) r (t := 4) rfl (v := (.bool x103)) rfl ?_
          subst hv
          exact ⟨rfl, hP.chg.below⟩

end Go.Proofs.YtphnnjiaiemkcaaGreat.Wk
