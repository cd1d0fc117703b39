/- Written by a program of ours (wip/gen.py): a law -/
import Derived.Test.YtphnnjiaiemkcaaFaLists
set_option linter.unusedVariables false
namespace Go.Proofs.Ytphnnjiaiemkcaa.Wk
open Go.RowKit
theorem cl55 : callable Try.prog 55 = true := by kernel_rfl

theorem cl56 : callable Try.prog 56 = true := by kernel_rfl

theorem cl57 : callable Try.prog 57 = true := by kernel_rfl

theorem cl59 : callable Try.prog 59 = true := by kernel_rfl

theorem cl61 : callable Try.prog 61 = true := by kernel_rfl

theorem cl62 : callable Try.prog 62 = true := by kernel_rfl

theorem is87 : isSlice Try.prog 87 = true := by kernel_rfl

theorem sl87 : sliceTy Try.prog 87 1 = true := by kernel_rfl

def D.cubiclelaw09_FreeAlone (fu : Nat) (a0 : Plan) (a1 : List Bool) : Option (Bool) := (Option.bind ((D.cubiclelaw09_awake fu ).bind (fun (x6 : Bool) => (bif (!x6) then (some true) else (bif (!(D.cubicleref06_Few a0)) then (some true) else (bif (!(D.cubicleref06_Formed a0)) then (some true) else (some (decide ((a1.length : Int) > 60)))))))) (fun (x13 : Bool) => (bif x13 then ((D.cubiclelaw09_awake fu ).bind (fun (x17 : Bool) => (some x17))) else ((D.cubiclelaw09_Laid fu a0).bind (fun (x19 : Mem) => ((D.cubicleref09_Fresh fu a0.nodes).bind (fun (x23 : List Int) => (loopThen (fun (x28 : Bool × List Int × List Int × Int × Mem) => (bif (decide (x28.2.2.2.1 < (a1.length : Int))) then ((getI a1 x28.2.2.2.1).bind (fun (x33 : Bool) => (bif x33 then ((D.mem_Memory_Cap fu x28.2.2.2.2 0).bind (fun (x39 : Cap) => ((D.prog_Run_int fu (fu, (D.free_Pop (fu + 1) a0)) x28.2.2.2.2 x39 9).bind (fun (x41 : Int × Int × Bool × Mem) => ((D.cubicleref09_Pop fu x28.2.1).bind (fun (x43 : Int × List Int) => (Option.bind (bif (x41.1 != x43.1) then (some true) else (bif (!x41.2.2.1) then (some true) else (bif (x41.2.1 != 3) then (bif (decide (x41.1 ≥ 0)) then (some true) else (bif (decide (x41.1 < 0)) then (some (x41.2.1 != 1)) else (some false))) else (bif (decide (x41.1 < 0)) then (some (x41.2.1 != 1)) else (some false))))) (fun (x54 : Bool) => (bif x54 then (some (Lp.ret false)) else (Option.bind (bif (decide (x41.1 ≥ 0)) then ((appD x28.2.2.1 ([x41.1])).bind (fun (x64 : List Int) => (some x64))) else (some x28.2.2.1)) (fun (x68 : List Int) => ((D.free_List fu a0 x41.2.2.2 0).bind (fun (x71 : List Int) => ((D.cubicleref09_Same fu x71 x43.2).bind (fun (x75 : Bool) => (bif (!x75) then (some (Lp.ret false)) else (some (Lp.next (x28.1, x43.2, x68, (IntKind.i64.wrap (x28.2.2.2.1 + 1)), x41.2.2.2))))))))))))))))))) else (bif (decide ((x28.2.2.1.length : Int) > 0)) then ((getI x28.2.2.1 (IntKind.i64.wrap ((x28.2.2.1.length : Int) - 1))).bind (fun (x79 : Int) => ((sliceD x28.2.2.1 0 (IntKind.i64.wrap ((x28.2.2.1.length : Int) - 1))).bind (fun (x80 : List Int) => ((D.mem_Memory_Cap fu x28.2.2.2.2 0).bind (fun (x85 : Cap) => ((D.prog_Run_int fu (fu, (D.free_Push (fu + 1) a0 x79)) x28.2.2.2.2 x85 9).bind (fun (x87 : Int × Int × Bool × Mem) => ((D.cubicleref09_Push fu x28.2.1 x79).bind (fun (x89 : List Int) => (Option.bind (bif (x87.1 != x79) then (some true) else (bif (!x87.2.2.1) then (some true) else (some (x87.2.1 != 3)))) (fun (x96 : Bool) => (bif x96 then (some (Lp.ret false)) else ((D.free_List fu a0 x87.2.2.2 0).bind (fun (x100 : List Int) => ((D.cubicleref09_Same fu x100 x89).bind (fun (x104 : Bool) => (bif (!x104) then (some (Lp.ret false)) else (some (Lp.next (x28.1, x89, x80, (IntKind.i64.wrap (x28.2.2.2.1 + 1)), x87.2.2.2))))))))))))))))))))) else ((D.free_List fu a0 x28.2.2.2.2 0).bind (fun (x107 : List Int) => ((D.cubicleref09_Same fu x107 x28.2.1).bind (fun (x111 : Bool) => (bif (!x111) then (some (Lp.ret false)) else (some (Lp.next (x28.1, x28.2.1, x28.2.2.1, (IntKind.i64.wrap (x28.2.2.2.1 + 1)), x28.2.2.2.2)))))))))))) else (some (Lp.brk (x28.1, x28.2.1, x28.2.2.1, x28.2.2.2.1, x28.2.2.2.2))))) fu (false, x23, [], 0, x19) (fun (x114 : Bool × List Int × List Int × Int × Mem) => ((D.mem_Memory_Cap fu x114.2.2.2.2 0).bind (fun (x121 : Cap) => ((D.prog_Run_int fu (fu, (D.free_Push (fu + 1) a0 a0.nodes)) x114.2.2.2.2 x121 9).bind (fun (x123 : Int × Int × Bool × Mem) => (Option.bind (bif (x123.1 == (-1)) then (bif (x123.2.1 == 0) then (some x123.2.2.1) else (some false)) else (some false)) (fun (x128 : Bool) => (some x128))))))))))))))))

set_option maxRecDepth 20000 in
set_option maxHeartbeats 2000000 in
theorem c_cubiclelaw09_FreeAlone {fu : Nat} (w0 : World) (a0 : Plan) {a1_v : Value} (a1 : List Bool) (a1_h : RoAt 4 1 boolE a1_v a1 w0) {res : Bool} (hD : D.cubiclelaw09_FreeAlone fu a0 a1 = some res) :
    Calls Try.prog 13 #[.agg (planC a0).toArray, a1_v] w0 (PureRes (.bool res) w0) := by
  refine enter (l := [.agg (planC a0).toArray, a1_v]) Try.func13 rfl 167 rfl rfl fun fr r => ?_
  have hP : Post No [] w0 w0 := Post.nil w0
  have hP : Post No [roK 4 1 boolE a1_v a1] w0 w0 := hP.addRo norw_nil a1_h rfl a1_h.lt
  unfold D.cubiclelaw09_FreeAlone at hD
  refine wp_seq ?_
  refine wp_region_lit ?_
  refine seq_new (.cells ((planC a0)).toArray 24 (0, 0)) r (fun R => y_box r (v := (.agg (planC a0).toArray)) rfl) rfl fun fr b1 w2 n3 r => ?_
  have hP : Post No [roK 4 1 boolE a1_v a1, cellC b1 ((planC a0)).toArray 24] w0 w2 := hP.new n3
  refine seq_val (.bool false) r (fun R => y_assign r rfl) rfl fun fr r => ?_
  refine wpList_nil ?_
  refine wp_seq ?_
  refine wp_seq ?_
  refine wp_joinG (N := 167) (Y := Bool) (G := Unit) (fun x γ => [(0, (.agg (planC a0).toArray)), (1, a1_v), (2, (.pointer (some ⟨b1, 0, none⟩))), (4, (.bool false)), (37, (.bool x))]) (fun x γ w => Post No [roK 4 1 boolE a1_v a1, cellC b1 ((planC a0)).toArray 24] w0 w) hD ?_ ?_
  · skip
    rintro y5 RPy5 nxy5 hD
    refine wp_region_lit ?_
    obtain ⟨x6, hx6, hD⟩ := bindD_elim hD
    refine seq_call r (c_cubiclelaw09_awake w2  hx6) (fun R hc => y_call r rfl cl55 hc) rfl ?_
    rintro _ w7 ⟨rfl, hb⟩
    refine ⟨_, rfl, fun fr r => ?_⟩
    have hP : Post No [roK 4 1 boolE a1_v a1, cellC b1 ((planC a0)).toArray 24] w0 w7 := hP.below hb
    refine seq_val (.bool (!x6)) r (fun R => y_un r (u := (.bool x6)) rfl rfl) rfl fun fr r => ?_
    refine seq_val (.bool (!x6)) r (fun R => y_move r rfl) rfl fun fr r => ?_
    refine seq_split (!x6) (fun h8 => ?_) (fun h8 => ?_)
    · skip
      have hD := (cond_t h8).symm.trans hD
      refine seq_skip r rfl rfl rfl (v := .bool true) (congrArg Value.bool h8) (by simp [boolOf]) fun fr r => ?_
      refine seq_skip r rfl rfl rfl (v := .bool true) (congrArg Value.bool h8) (by simp [boolOf]) fun fr r => ?_
      refine seq_skip r rfl rfl rfl (v := .bool true) (congrArg Value.bool h8) (by simp [boolOf]) fun fr r => ?_
      refine seq_val (.bool true) r (fun R => y_pick r (b := true) (congrArg Value.bool h8) rfl) rfl fun fr r => ?_
      refine seq_val (.bool true) r (fun R => y_move r rfl) rfl fun fr r => ?_
      refine seq_skip r rfl rfl rfl (v := .bool true) (congrArg Value.bool (rfl : true = _)) (by simp [boolOf]) fun fr r => ?_
      refine seq_skip r rfl rfl rfl (v := .bool true) (congrArg Value.bool (rfl : true = _)) (by simp [boolOf]) fun fr r => ?_
      refine seq_skip r rfl rfl rfl (v := .bool true) (congrArg Value.bool (rfl : true = _)) (by simp [boolOf]) fun fr r => ?_
      refine seq_val (.bool true) r (fun R => y_pick r (b := true) (congrArg Value.bool (rfl : true = _)) rfl) rfl fun fr r => ?_
      refine seq_val (.bool true) r (fun R => y_move r rfl) rfl fun fr r => ?_
      refine seq_skip r rfl rfl rfl (v := .bool true) (congrArg Value.bool (rfl : true = _)) (by simp [boolOf]) fun fr r => ?_
      refine seq_skip r rfl rfl rfl (v := .bool true) (congrArg Value.bool (rfl : true = _)) (by simp [boolOf]) fun fr r => ?_
      refine seq_skip r rfl rfl rfl (v := .bool true) (congrArg Value.bool (rfl : true = _)) (by simp [boolOf]) fun fr r => ?_
      refine seq_val (.bool true) r (fun R => y_pick r (b := true) (congrArg Value.bool (rfl : true = _)) rfl) rfl fun fr r => ?_
      refine wpList_nil ?_
      exact nxy5 true () _ _ _ hD r (hs_cons rfl (hs_cons rfl (hs_cons rfl (hs_cons rfl (hs_cons rfl hs_nil))))) (hP.pick [0, 1] rfl rfl)
    · skip
      have hD := (cond_f h8).symm.trans hD
      refine seq_want r rfl rfl rfl (congrArg Value.bool h8) ?_
      refine seq_val (.agg (planC a0).toArray) r (fun R => y_load_agg r (cs := (planC a0)) (n := 6) rfl (hP.cell (i := 1) rfl) ta24 rfl) rfl fun fr r => ?_
      refine seq_want r rfl rfl rfl (congrArg Value.bool h8) ?_
      refine seq_call r (c_cubicleref06_Few w7 a0) (fun R hc => y_call r rfl cl23 hc) rfl ?_
      rintro _ w9 ⟨rfl, hb⟩
      refine ⟨_, rfl, fun fr r => ?_⟩
      have hP : Post No [roK 4 1 boolE a1_v a1, cellC b1 ((planC a0)).toArray 24] w0 w9 := hP.below hb
      refine seq_want r rfl rfl rfl (congrArg Value.bool h8) ?_
      refine seq_val (.bool (!(D.cubicleref06_Few a0))) r (fun R => y_un r (u := (.bool (D.cubicleref06_Few a0))) rfl rfl) rfl fun fr r => ?_
      refine seq_val (.bool (!(D.cubicleref06_Few a0))) r (fun R => y_pick r (b := false) (congrArg Value.bool h8) rfl) rfl fun fr r => ?_
      refine seq_val (.bool (!(D.cubicleref06_Few a0))) r (fun R => y_move r rfl) rfl fun fr r => ?_
      refine seq_split (!(D.cubicleref06_Few a0)) (fun h10 => ?_) (fun h10 => ?_)
      · skip
        have hD := (cond_t h10).symm.trans hD
        refine seq_skip r rfl rfl rfl (v := .bool true) (congrArg Value.bool h10) (by simp [boolOf]) fun fr r => ?_
        refine seq_skip r rfl rfl rfl (v := .bool true) (congrArg Value.bool h10) (by simp [boolOf]) fun fr r => ?_
        refine seq_skip r rfl rfl rfl (v := .bool true) (congrArg Value.bool h10) (by simp [boolOf]) fun fr r => ?_
        refine seq_val (.bool true) r (fun R => y_pick r (b := true) (congrArg Value.bool h10) rfl) rfl fun fr r => ?_
        refine seq_val (.bool true) r (fun R => y_move r rfl) rfl fun fr r => ?_
        refine seq_skip r rfl rfl rfl (v := .bool true) (congrArg Value.bool (rfl : true = _)) (by simp [boolOf]) fun fr r => ?_
        refine seq_skip r rfl rfl rfl (v := .bool true) (congrArg Value.bool (rfl : true = _)) (by simp [boolOf]) fun fr r => ?_
        refine seq_skip r rfl rfl rfl (v := .bool true) (congrArg Value.bool (rfl : true = _)) (by simp [boolOf]) fun fr r => ?_
        refine seq_val (.bool true) r (fun R => y_pick r (b := true) (congrArg Value.bool (rfl : true = _)) rfl) rfl fun fr r => ?_
        refine wpList_nil ?_
        exact nxy5 true () _ _ _ hD r (hs_cons rfl (hs_cons rfl (hs_cons rfl (hs_cons rfl (hs_cons rfl hs_nil))))) (hP.pick [0, 1] rfl rfl)
      · skip
        have hD := (cond_f h10).symm.trans hD
        refine seq_want r rfl rfl rfl (congrArg Value.bool h10) ?_
        refine seq_val (.agg (planC a0).toArray) r (fun R => y_load_agg r (cs := (planC a0)) (n := 6) rfl (hP.cell (i := 1) rfl) ta24 rfl) rfl fun fr r => ?_
        refine seq_want r rfl rfl rfl (congrArg Value.bool h10) ?_
        refine seq_call r (c_cubicleref06_Formed w9 a0) (fun R hc => y_call r rfl cl24 hc) rfl ?_
        rintro _ w11 ⟨rfl, hb⟩
        refine ⟨_, rfl, fun fr r => ?_⟩
        have hP : Post No [roK 4 1 boolE a1_v a1, cellC b1 ((planC a0)).toArray 24] w0 w11 := hP.below hb
        refine seq_want r rfl rfl rfl (congrArg Value.bool h10) ?_
        refine seq_val (.bool (!(D.cubicleref06_Formed a0))) r (fun R => y_un r (u := (.bool (D.cubicleref06_Formed a0))) rfl rfl) rfl fun fr r => ?_
        refine seq_val (.bool (!(D.cubicleref06_Formed a0))) r (fun R => y_pick r (b := false) (congrArg Value.bool h10) rfl) rfl fun fr r => ?_
        refine seq_val (.bool (!(D.cubicleref06_Formed a0))) r (fun R => y_move r rfl) rfl fun fr r => ?_
        refine seq_split (!(D.cubicleref06_Formed a0)) (fun h12 => ?_) (fun h12 => ?_)
        · skip
          have hD := (cond_t h12).symm.trans hD
          refine seq_skip r rfl rfl rfl (v := .bool true) (congrArg Value.bool h12) (by simp [boolOf]) fun fr r => ?_
          refine seq_skip r rfl rfl rfl (v := .bool true) (congrArg Value.bool h12) (by simp [boolOf]) fun fr r => ?_
          refine seq_skip r rfl rfl rfl (v := .bool true) (congrArg Value.bool h12) (by simp [boolOf]) fun fr r => ?_
          refine seq_val (.bool true) r (fun R => y_pick r (b := true) (congrArg Value.bool h12) rfl) rfl fun fr r => ?_
          refine wpList_nil ?_
          exact nxy5 true () _ _ _ hD r (hs_cons rfl (hs_cons rfl (hs_cons rfl (hs_cons rfl (hs_cons rfl hs_nil))))) (hP.pick [0, 1] rfl rfl)
        · skip
          have hD := (cond_f h12).symm.trans hD
          refine seq_want r rfl rfl rfl (congrArg Value.bool h12) ?_
          refine seq_val a1_v r (fun R => y_move r rfl) rfl fun fr r => ?_
          refine seq_want r rfl rfl rfl (congrArg Value.bool h12) ?_
          refine seq_val (.int .i64 (a1.length : Int)) r (fun R => y_rowLen r (hP.ro (i := 0) rfl) is87 rfl) rfl fun fr r => ?_
          refine seq_want r rfl rfl rfl (congrArg Value.bool h12) ?_
          refine seq_val (.bool (decide ((a1.length : Int) > 60))) r (fun R => y_bin r (u := (.int .i64 (a1.length : Int))) (u' := (.int .i64 60)) rfl rfl rfl rfl) rfl fun fr r => ?_
          refine seq_val (.bool (decide ((a1.length : Int) > 60))) r (fun R => y_pick r (b := false) (congrArg Value.bool h12) rfl) rfl fun fr r => ?_
          refine wpList_nil ?_
          exact nxy5 (decide ((a1.length : Int) > 60)) () _ _ _ hD r (hs_cons rfl (hs_cons rfl (hs_cons rfl (hs_cons rfl (hs_cons rfl hs_nil))))) (hP.pick [0, 1] rfl rfl)
  · skip
    rintro x13 γ14 fr w15 g r hP hD
    have hP : Post No [roK 4 1 boolE a1_v a1, cellC b1 ((planC a0)).toArray 24] w0 w15 := hP
    refine wp_cond_split (t := x13) (r.ev rfl) (fun h16 => ?_) (fun h16 => ?_)
    · skip
      have hD := (cond_t h16).symm.trans hD
      refine wp_seq ?_
      refine wp_region_lit ?_
      obtain ⟨x17, hx17, hD⟩ := bindD_elim hD
      refine seq_call r (c_cubiclelaw09_awake w15  hx17) (fun R hc => y_call r rfl cl55 hc) rfl ?_
      rintro _ w18 ⟨rfl, hb⟩
      refine ⟨_, rfl, fun fr r => ?_⟩
      have hP : Post No [roK 4 1 boolE a1_v a1, cellC b1 ((planC a0)).toArray 24] w0 w18 := hP.below hb
      refine seq_val (.bool x17) r (fun R => y_assign r rfl) rfl fun fr r => ?_
      refine wpList_nil ?_
      refine wp_ret ?_
      have hv : x17 = res := Option.some.inj hD
      try dsimp only [Exit.then, Exit.inBlock]
      refine ret_tmp (fn := Try.f13) r (t := 4) rfl (v := (.bool x17)) rfl ?_
      subst hv
      exact ⟨rfl, hP.chg.below⟩
    · skip
      have hD := (cond_f h16).symm.trans hD
      refine wp_skip ?_
      refine wp_seq ?_
      refine wp_region_lit ?_
      refine seq_val (.agg (planC a0).toArray) r (fun R => y_load_agg r (cs := (planC a0)) (n := 6) rfl (hP.cell (i := 1) rfl) ta24 rfl) rfl fun fr r => ?_
      obtain ⟨x19, hx19, hD⟩ := bindD_elim hD
      refine seq_call r (c_cubiclelaw09_Laid w15 a0 hx19) (fun R hc => y_call r rfl cl39 hc) rfl ?_
      rintro _ w20 ⟨mg21, rfl, hq⟩
      refine ⟨_, rfl, fun fr r => ?_⟩
      have hP : Post No [roK 4 1 boolE a1_v a1, cellC b1 ((planC a0)).toArray 24, memK mg21 x19] w0 w20 := hP.add hq
      refine seq_val (.pointer (some ⟨mg21.mb, 0, none⟩)) r (fun R => y_assign r rfl) rfl fun fr r => ?_
      refine wpList_nil ?_
      refine wp_seq ?_
      refine wp_seq ?_
      refine wp_region_lit ?_
      refine seq_val (.pointer (some ⟨mg21.mb, 0, none⟩)) r (fun R => y_move r rfl) rfl fun fr r => ?_
      refine seq_val (.bool false) r (fun R => y_bin r (u := (.pointer (some ⟨mg21.mb, 0, none⟩))) (u' := (.pointer none)) (v := (.bool false)) rfl rfl rfl rfl) rfl fun fr r => ?_
      refine wpList_nil ?_
      refine wp_cond_split (t := false) (r.ev rfl) (fun h => absurd ((rfl : false = _).symm.trans h) (by decide)) (fun _ => ?_)
      refine wp_skip ?_
      refine wp_seq ?_
      refine wp_region_lit ?_
      refine seq_val (.pointer (some ⟨b1, 0, none⟩)) r (fun R => y_fieldAddr r (o := 0) rfl fo24_0) rfl fun fr r => ?_
      refine seq_val (.int .i64 a0.nodes) r (fun R => y_load_one r (v := (.int .i64 a0.nodes)) rfl (hP.cell (i := 1) rfl) to3 rfl) rfl fun fr r => ?_
      obtain ⟨x23, hx23, hD⟩ := bindD_elim hD
      refine seq_call r (c_cubicleref09_Fresh w20 a0.nodes hx23) (fun R hc => y_call r rfl cl56 hc) rfl ?_
      rintro _ w24 ⟨v25, rfl, hq⟩
      refine ⟨_, rfl, fun fr r => ?_⟩
      have hP : Post No [roK 4 1 boolE a1_v a1, cellC b1 ((planC a0)).toArray 24, memK mg21 x19, rowK 3 1 i64 v25 x23] w0 w24 := hP.add hq
      refine seq_val v25 r (fun R => y_assign r rfl) rfl fun fr r => ?_
      refine wpList_nil ?_
      refine wp_seq ?_
      refine wp_region_lit ?_
      refine seq_val (Value.slice none 0 0) r (fun R => y_assign r rfl) rfl fun fr r => ?_
      refine wpList_nil ?_
      refine wp_seq ?_
      refine wp_seq ?_
      refine wp_region_lit ?_
      refine seq_val (.int .i64 0) r (fun R => y_assign r rfl) rfl fun fr r => ?_
      refine wpList_nil ?_
      have hP : Post No [roK 4 1 boolE a1_v a1, cellC b1 ((planC a0)).toArray 24, memK mg21 x19, rowK 3 1 i64 v25 x23, rowK 3 1 i64 (Value.slice none 0 0) ([])] w0 w24 := hP.nilRow 3 1 i64
      refine wp_loopG (X := Bool × List Int × List Int × Int × Mem) (G := Value × Value) (x0 := (false, x23, [], 0, x19)) (fun x γ => [(0, (.agg (planC a0).toArray)), (1, a1_v), (2, (.pointer (some ⟨b1, 0, none⟩))), (37, (.bool x13)), (5, (.pointer (some ⟨mg21.mb, 0, none⟩))), (42, (.bool false)), (4, (.bool x.1)), (6, γ.1), (7, γ.2), (8, (.int .i64 x.2.2.2.1))]) (fun x γ w => Post No [roK 4 1 boolE a1_v a1, cellC b1 ((planC a0)).toArray 24, memK mg21 x.2.2.2.2, rowK 3 1 i64 γ.1 x.2.1, rowK 3 1 i64 γ.2 x.2.2.1] w0 w) (v25, (Value.slice none 0 0)) r (hs_cons rfl (hs_cons rfl (hs_cons rfl (hs_cons rfl (hs_cons rfl (hs_cons rfl (hs_cons rfl (hs_cons rfl (hs_cons rfl (hs_cons rfl hs_nil)))))))))) hP hD ?_ ?_
      · skip
        rintro x28 γ29 fr w31 g y30 RPy30 nxy30 bky30 rty30 r hP hD
        have hP : Post No [roK 4 1 boolE a1_v a1, cellC b1 ((planC a0)).toArray 24, memK mg21 x28.2.2.2.2, rowK 3 1 i64 γ29.1 x28.2.1, rowK 3 1 i64 γ29.2 x28.2.2.1] w0 w31 := hP
        refine wp_seq ?_
        refine wp_seq ?_
        refine wp_region_lit ?_
        refine seq_val (.int .i64 x28.2.2.2.1) r (fun R => y_move r rfl) rfl fun fr r => ?_
        refine seq_val a1_v r (fun R => y_move r rfl) rfl fun fr r => ?_
        refine seq_val (.int .i64 (a1.length : Int)) r (fun R => y_rowLen r (hP.ro (i := 0) rfl) is87 rfl) rfl fun fr r => ?_
        refine seq_val (.bool (decide (x28.2.2.2.1 < (a1.length : Int)))) r (fun R => y_bin r (u := (.int .i64 x28.2.2.2.1)) (u' := (.int .i64 (a1.length : Int))) rfl rfl rfl rfl) rfl fun fr r => ?_
        refine wpList_nil ?_
        refine wp_cond_split (t := (decide (x28.2.2.2.1 < (a1.length : Int)))) (r.ev rfl) (fun h32 => ?_) (fun h32 => ?_)
        · skip
          have hD := (cond_t h32).symm.trans hD
          refine wp_skip ?_
          refine wp_seq ?_
          refine wp_block ?_
          refine wp_seq ?_
          refine wp_seq ?_
          refine wp_region_lit ?_
          refine seq_val a1_v r (fun R => y_move r rfl) rfl fun fr r => ?_
          refine seq_val (.int .i64 x28.2.2.2.1) r (fun R => y_move r rfl) rfl fun fr r => ?_
          obtain ⟨x33, hx33, hD⟩ := bindD_elim hD
          refine seq_val (.pointer (some ⟨rowB a1_v, rowO a1_v + x28.2.2.2.1.toNat * 1, none⟩)) r (fun R => y_rowAddr r (hP.ro (i := 0) rfl) hx33 sl87 rfl rfl) rfl fun fr r => ?_
          refine seq_val (.bool x33) r (fun R => y_loadL_one r (u := (.bool x33)) (RoAt.at_ (f := boolE) (x := x33) (hP.ro (i := 0) rfl) (fun _ => rfl) hx33) rfl to4) rfl fun fr r => ?_
          refine wpList_nil ?_
          refine wp_cond_split (t := x33) (r.ev rfl) (fun h34 => ?_) (fun h34 => ?_)
          · skip
            have hD := (cond_t h34).symm.trans hD
            refine wp_seq ?_
            refine wp_region_lit ?_
            refine seq_val (.agg (planC a0).toArray) r (fun R => y_load_agg r (cs := (planC a0)) (n := 6) rfl (hP.cell (i := 1) rfl) ta24 rfl) rfl fun fr r => ?_
            refine seq_call r ((c_free_Pop (n := fu) (k := fu + 1) (by omega)) No w31 (fun _ h => h.elim) a0) (fun R hc => y_call r rfl cl58 hc) rfl ?_
            rintro _ w35 ⟨v36, rfl, hb, hr37⟩
            refine ⟨_, rfl, fun fr r => ?_⟩
            have hP : Post No [roK 4 1 boolE a1_v a1, cellC b1 ((planC a0)).toArray 24, memK mg21 x28.2.2.2.2, rowK 3 1 i64 γ29.1 x28.2.1, rowK 3 1 i64 γ29.2 x28.2.2.1, progK Try.prog encInt (fu, (D.free_Pop (fu + 1) a0)) v36 (rg w31.heap.size w35.heap.size)] w0 w35 := hP.addProg hb hr37
            refine seq_val (.pointer (some ⟨mg21.mb, 0, none⟩)) r (fun R => y_move r rfl) rfl fun fr r => ?_
            refine seq_val (.pointer (some ⟨mg21.mb, 0, none⟩)) r (fun R => y_move r rfl) rfl fun fr r => ?_
            obtain ⟨x39, hx39, hD⟩ := bindD_elim hD
            refine seq_call r (c_mem_Memory_Cap w35 x28.2.2.2.2 (hP.mem (i := 2) rfl) 0 hx39) (fun R hc => y_call r rfl cl42 hc) rfl ?_
            rintro _ w40 ⟨rfl, hb⟩
            refine ⟨_, rfl, fun fr r => ?_⟩
            have hP : Post No [roK 4 1 boolE a1_v a1, cellC b1 ((planC a0)).toArray 24, memK mg21 x28.2.2.2.2, rowK 3 1 i64 γ29.1 x28.2.1, rowK 3 1 i64 γ29.2 x28.2.2.1, progK Try.prog encInt (fu, (D.free_Pop (fu + 1) a0)) v36 (rg w31.heap.size w35.heap.size)] w0 w40 := hP.below hb
            obtain ⟨x41, hx41, hD⟩ := bindD_elim hD
            refine seq_call r (c_prog_Run_int w40 (fu, (D.free_Pop (fu + 1) a0)) x28.2.2.2.2 x39 9 (hP.sep.pk [5, 2] rfl rfl) hx41) (fun R hc => y_call r rfl cl57 hc) rfl ?_
            rintro _ w42 ⟨rfl, hq⟩
            refine ⟨_, rfl, fun fr r => ?_⟩
            have hP : Post No [roK 4 1 boolE a1_v a1, cellC b1 ((planC a0)).toArray 24, memK mg21 x41.2.2.2, rowK 3 1 i64 γ29.1 x28.2.1, rowK 3 1 i64 γ29.2 x28.2.2.1, progK Try.prog encInt (fu, (D.free_Pop (fu + 1) a0)) v36 (rg w31.heap.size w35.heap.size)] w0 w42 := hP.setN (i := 2) rfl hq
            refine seq_val (.tuple #[(.int .i64 x41.1), (.int .i64 x41.2.1), (.bool x41.2.2.1)]) r (fun R => y_move r rfl) rfl fun fr r => ?_
            refine seq_val (.int .i64 x41.1) r (fun R => y_extract r (vs := #[(.int .i64 x41.1), (.int .i64 x41.2.1), (.bool x41.2.2.1)]) rfl rfl) rfl fun fr r => ?_
            refine seq_val (.int .i64 x41.2.1) r (fun R => y_extract r (vs := #[(.int .i64 x41.1), (.int .i64 x41.2.1), (.bool x41.2.2.1)]) rfl rfl) rfl fun fr r => ?_
            refine seq_val (.bool x41.2.2.1) r (fun R => y_extract r (vs := #[(.int .i64 x41.1), (.int .i64 x41.2.1), (.bool x41.2.2.1)]) rfl rfl) rfl fun fr r => ?_
            refine seq_val (.int .i64 x41.1) r (fun R => y_assign r rfl) rfl fun fr r => ?_
            refine seq_val (.int .i64 x41.2.1) r (fun R => y_assign r rfl) rfl fun fr r => ?_
            refine seq_val (.bool x41.2.2.1) r (fun R => y_assign r rfl) rfl fun fr r => ?_
            refine wpList_nil ?_
            refine wp_seq ?_
            refine wp_region_lit ?_
            refine seq_val γ29.1 r (fun R => y_move r rfl) rfl fun fr r => ?_
            obtain ⟨x43, hx43, hD⟩ := bindD_elim hD
            refine seq_call r (c_cubicleref09_Pop w42 x28.2.1 (hP.row (i := 3) rfl).ro hx43) (fun R hc => y_call r rfl cl59 hc) rfl ?_
            rintro _ w44 ⟨v45, rfl, hq⟩
            refine ⟨_, rfl, fun fr r => ?_⟩
            have hP : Post No [roK 4 1 boolE a1_v a1, cellC b1 ((planC a0)).toArray 24, memK mg21 x41.2.2.2, rowK 3 1 i64 γ29.1 x28.2.1, rowK 3 1 i64 γ29.2 x28.2.2.1, progK Try.prog encInt (fu, (D.free_Pop (fu + 1) a0)) v36 (rg w31.heap.size w35.heap.size), rowK 3 1 i64 v45 x43.2] w0 w44 := hP.add hq
            refine seq_val (.tuple #[(.int .i64 x43.1), v45]) r (fun R => y_move r rfl) rfl fun fr r => ?_
            refine seq_val (.int .i64 x43.1) r (fun R => y_extract r (vs := #[(.int .i64 x43.1), v45]) rfl rfl) rfl fun fr r => ?_
            refine seq_val v45 r (fun R => y_extract r (vs := #[(.int .i64 x43.1), v45]) rfl rfl) rfl fun fr r => ?_
            refine seq_val (.int .i64 x43.1) r (fun R => y_assign r rfl) rfl fun fr r => ?_
            refine seq_val v45 r (fun R => y_assign r rfl) rfl fun fr r => ?_
            refine wpList_nil ?_
            refine wp_seq ?_
            refine wp_region_lit ?_
            refine seq_val v45 r (fun R => y_move r rfl) rfl fun fr r => ?_
            refine seq_val v45 r (fun R => y_assign r rfl) rfl fun fr r => ?_
            refine wpList_nil ?_
            refine wp_seq ?_
            refine wp_seq ?_
            have hP : Post No [roK 4 1 boolE a1_v a1, cellC b1 ((planC a0)).toArray 24, memK mg21 x41.2.2.2, rowK 3 1 i64 γ29.2 x28.2.2.1, rowK 3 1 i64 v45 x43.2] w0 w44 := hP.pick [0, 1, 2, 4, 6] rfl rfl
            refine wp_joinG (N := 167) (Y := Bool) (G := Unit) (fun x γ => [(0, (.agg (planC a0).toArray)), (1, a1_v), (2, (.pointer (some ⟨b1, 0, none⟩))), (37, (.bool x13)), (5, (.pointer (some ⟨mg21.mb, 0, none⟩))), (42, (.bool false)), (4, (.bool x28.1)), (6, v45), (7, γ29.2), (8, (.int .i64 x28.2.2.2.1)), (49, (.bool (decide (x28.2.2.2.1 < (a1.length : Int))))), (55, (.bool x33)), (9, (.int .i64 x41.1)), (10, (.int .i64 x41.2.1)), (11, (.bool x41.2.2.1)), (12, (.int .i64 x43.1)), (13, v45), (94, (.bool x))]) (fun x γ w => Post No [roK 4 1 boolE a1_v a1, cellC b1 ((planC a0)).toArray 24, memK mg21 x41.2.2.2, rowK 3 1 i64 γ29.2 x28.2.2.1, rowK 3 1 i64 v45 x43.2] w0 w) hD ?_ ?_
            · skip
              rintro y47 RPy47 nxy47 hD
              refine wp_region_lit ?_
              refine seq_val (.int .i64 x41.1) r (fun R => y_move r rfl) rfl fun fr r => ?_
              refine seq_val (.int .i64 x43.1) r (fun R => y_move r rfl) rfl fun fr r => ?_
              refine seq_val (.bool (x41.1 != x43.1)) r (fun R => y_bin r (u := (.int .i64 x41.1)) (u' := (.int .i64 x43.1)) rfl rfl rfl rfl) rfl fun fr r => ?_
              refine seq_val (.bool (x41.1 != x43.1)) r (fun R => y_move r rfl) rfl fun fr r => ?_
              refine seq_split (x41.1 != x43.1) (fun h48 => ?_) (fun h48 => ?_)
              · skip
                have hD := (cond_t h48).symm.trans hD
                refine seq_skip r rfl rfl rfl (v := .bool true) (congrArg Value.bool h48) (by simp [boolOf]) fun fr r => ?_
                refine seq_skip r rfl rfl rfl (v := .bool true) (congrArg Value.bool h48) (by simp [boolOf]) fun fr r => ?_
                refine seq_val (.bool true) r (fun R => y_pick r (b := true) (congrArg Value.bool h48) rfl) rfl fun fr r => ?_
                refine seq_val (.bool true) r (fun R => y_move r rfl) rfl fun fr r => ?_
                refine seq_skip r rfl rfl rfl (v := .bool true) (congrArg Value.bool (rfl : true = _)) (by simp [boolOf]) fun fr r => ?_
                refine seq_skip r rfl rfl rfl (v := .bool true) (congrArg Value.bool (rfl : true = _)) (by simp [boolOf]) fun fr r => ?_
                refine seq_skip r rfl rfl rfl (v := .bool true) (congrArg Value.bool (rfl : true = _)) (by simp [boolOf]) fun fr r => ?_
                refine seq_skip r rfl rfl rfl (v := undef) rfl (by simp [boolOf, undef]) fun fr r => ?_
                refine seq_skip r rfl rfl rfl (v := undef) rfl (by simp [boolOf, undef]) fun fr r => ?_
                refine seq_skip r rfl rfl rfl (v := .bool true) (congrArg Value.bool (rfl : true = _)) (by simp [boolOf]) fun fr r => ?_
                refine seq_val (.bool true) r (fun R => y_pick r (b := true) (congrArg Value.bool (rfl : true = _)) rfl) rfl fun fr r => ?_
                refine seq_val (.bool true) r (fun R => y_move r rfl) rfl fun fr r => ?_
                refine seq_skip r rfl rfl rfl (v := .bool true) (congrArg Value.bool (rfl : true = _)) (by simp [boolOf]) fun fr r => ?_
                refine seq_skip r rfl rfl rfl (v := .bool true) (congrArg Value.bool (rfl : true = _)) (by simp [boolOf]) fun fr r => ?_
                refine seq_skip r rfl rfl rfl (v := .bool true) (congrArg Value.bool (rfl : true = _)) (by simp [boolOf]) fun fr r => ?_
                refine seq_skip r rfl rfl rfl (v := undef) rfl (by simp [boolOf, undef]) fun fr r => ?_
                refine seq_skip r rfl rfl rfl (v := undef) rfl (by simp [boolOf, undef]) fun fr r => ?_
                refine seq_skip r rfl rfl rfl (v := .bool true) (congrArg Value.bool (rfl : true = _)) (by simp [boolOf]) fun fr r => ?_
                refine seq_val (.bool true) r (fun R => y_pick r (b := true) (congrArg Value.bool (rfl : true = _)) rfl) rfl fun fr r => ?_
                refine wpList_nil ?_
                exact nxy47 true () _ _ _ hD r (hs_cons rfl (hs_cons rfl (hs_cons rfl (hs_cons rfl (hs_cons rfl (hs_cons rfl (hs_cons rfl (hs_cons rfl (hs_cons rfl (hs_cons rfl (hs_cons rfl (hs_cons rfl (hs_cons rfl (hs_cons rfl (hs_cons rfl (hs_cons rfl (hs_cons rfl (hs_cons rfl hs_nil)))))))))))))))))) (hP.pick [0, 1, 2, 3, 4] rfl rfl)
              · skip
                have hD := (cond_f h48).symm.trans hD
                refine seq_want r rfl rfl rfl (congrArg Value.bool h48) ?_
                refine seq_val (.bool x41.2.2.1) r (fun R => y_move r rfl) rfl fun fr r => ?_
                refine seq_want r rfl rfl rfl (congrArg Value.bool h48) ?_
                refine seq_val (.bool (!x41.2.2.1)) r (fun R => y_un r (u := (.bool x41.2.2.1)) rfl rfl) rfl fun fr r => ?_
                refine seq_val (.bool (!x41.2.2.1)) r (fun R => y_pick r (b := false) (congrArg Value.bool h48) rfl) rfl fun fr r => ?_
                refine seq_val (.bool (!x41.2.2.1)) r (fun R => y_move r rfl) rfl fun fr r => ?_
                refine seq_split (!x41.2.2.1) (fun h49 => ?_) (fun h49 => ?_)
                · skip
                  have hD := (cond_t h49).symm.trans hD
                  refine seq_skip r rfl rfl rfl (v := .bool true) (congrArg Value.bool h49) (by simp [boolOf]) fun fr r => ?_
                  refine seq_skip r rfl rfl rfl (v := .bool true) (congrArg Value.bool h49) (by simp [boolOf]) fun fr r => ?_
                  refine seq_skip r rfl rfl rfl (v := .bool true) (congrArg Value.bool h49) (by simp [boolOf]) fun fr r => ?_
                  refine seq_skip r rfl rfl rfl (v := undef) rfl (by simp [boolOf, undef]) fun fr r => ?_
                  refine seq_skip r rfl rfl rfl (v := undef) rfl (by simp [boolOf, undef]) fun fr r => ?_
                  refine seq_skip r rfl rfl rfl (v := .bool true) (congrArg Value.bool h49) (by simp [boolOf]) fun fr r => ?_
                  refine seq_val (.bool true) r (fun R => y_pick r (b := true) (congrArg Value.bool h49) rfl) rfl fun fr r => ?_
                  refine seq_val (.bool true) r (fun R => y_move r rfl) rfl fun fr r => ?_
                  refine seq_skip r rfl rfl rfl (v := .bool true) (congrArg Value.bool (rfl : true = _)) (by simp [boolOf]) fun fr r => ?_
                  refine seq_skip r rfl rfl rfl (v := .bool true) (congrArg Value.bool (rfl : true = _)) (by simp [boolOf]) fun fr r => ?_
                  refine seq_skip r rfl rfl rfl (v := .bool true) (congrArg Value.bool (rfl : true = _)) (by simp [boolOf]) fun fr r => ?_
                  refine seq_skip r rfl rfl rfl (v := undef) rfl (by simp [boolOf, undef]) fun fr r => ?_
                  refine seq_skip r rfl rfl rfl (v := undef) rfl (by simp [boolOf, undef]) fun fr r => ?_
                  refine seq_skip r rfl rfl rfl (v := .bool true) (congrArg Value.bool (rfl : true = _)) (by simp [boolOf]) fun fr r => ?_
                  refine seq_val (.bool true) r (fun R => y_pick r (b := true) (congrArg Value.bool (rfl : true = _)) rfl) rfl fun fr r => ?_
                  refine wpList_nil ?_
                  exact nxy47 true () _ _ _ hD r (hs_cons rfl (hs_cons rfl (hs_cons rfl (hs_cons rfl (hs_cons rfl (hs_cons rfl (hs_cons rfl (hs_cons rfl (hs_cons rfl (hs_cons rfl (hs_cons rfl (hs_cons rfl (hs_cons rfl (hs_cons rfl (hs_cons rfl (hs_cons rfl (hs_cons rfl (hs_cons rfl hs_nil)))))))))))))))))) (hP.pick [0, 1, 2, 3, 4] rfl rfl)
                · skip
                  have hD := (cond_f h49).symm.trans hD
                  refine seq_want r rfl rfl rfl (congrArg Value.bool h49) ?_
                  refine seq_val (.int .i64 x41.2.1) r (fun R => y_move r rfl) rfl fun fr r => ?_
                  refine seq_want r rfl rfl rfl (congrArg Value.bool h49) ?_
                  refine seq_val (.bool (x41.2.1 != 3)) r (fun R => y_bin r (u := (.int .i64 x41.2.1)) (u' := (.int .i64 3)) rfl rfl rfl rfl) rfl fun fr r => ?_
                  refine seq_want r rfl rfl rfl (congrArg Value.bool h49) ?_
                  refine seq_val (.bool (x41.2.1 != 3)) r (fun R => y_move r rfl) rfl fun fr r => ?_
                  refine seq_split (x41.2.1 != 3) (fun h50 => ?_) (fun h50 => ?_)
                  · skip
                    have hD := (cond_t h50).symm.trans hD
                    refine seq_want r rfl rfl rfl (congrArg Value.bool h50) ?_
                    refine seq_val (.int .i64 x41.1) r (fun R => y_move r rfl) rfl fun fr r => ?_
                    refine seq_want r rfl rfl rfl (congrArg Value.bool h50) ?_
                    refine seq_val (.bool (decide (x41.1 ≥ 0))) r (fun R => y_bin r (u := (.int .i64 x41.1)) (u' := (.int .i64 0)) rfl rfl rfl rfl) rfl fun fr r => ?_
                    refine seq_want r rfl rfl rfl (congrArg Value.bool h49) ?_
                    refine seq_val (.bool (decide (x41.1 ≥ 0))) r (fun R => y_pick r (b := true) (congrArg Value.bool h50) rfl) rfl fun fr r => ?_
                    refine seq_val (.bool (decide (x41.1 ≥ 0))) r (fun R => y_pick r (b := false) (congrArg Value.bool h49) rfl) rfl fun fr r => ?_
                    refine seq_val (.bool (decide (x41.1 ≥ 0))) r (fun R => y_move r rfl) rfl fun fr r => ?_
                    refine seq_split (decide (x41.1 ≥ 0)) (fun h51 => ?_) (fun h51 => ?_)
                    · skip
                      have hD := (cond_t h51).symm.trans hD
                      refine seq_skip r rfl rfl rfl (v := .bool true) (congrArg Value.bool h51) (by simp [boolOf]) fun fr r => ?_
                      refine seq_skip r rfl rfl rfl (v := .bool true) (congrArg Value.bool h51) (by simp [boolOf]) fun fr r => ?_
                      refine seq_skip r rfl rfl rfl (v := .bool true) (congrArg Value.bool h51) (by simp [boolOf]) fun fr r => ?_
                      refine seq_skip r rfl rfl rfl (v := undef) rfl (by simp [boolOf, undef]) fun fr r => ?_
                      refine seq_skip r rfl rfl rfl (v := undef) rfl (by simp [boolOf, undef]) fun fr r => ?_
                      refine seq_skip r rfl rfl rfl (v := .bool true) (congrArg Value.bool h51) (by simp [boolOf]) fun fr r => ?_
                      refine seq_val (.bool true) r (fun R => y_pick r (b := true) (congrArg Value.bool h51) rfl) rfl fun fr r => ?_
                      refine wpList_nil ?_
                      exact nxy47 true () _ _ _ hD r (hs_cons rfl (hs_cons rfl (hs_cons rfl (hs_cons rfl (hs_cons rfl (hs_cons rfl (hs_cons rfl (hs_cons rfl (hs_cons rfl (hs_cons rfl (hs_cons rfl (hs_cons rfl (hs_cons rfl (hs_cons rfl (hs_cons rfl (hs_cons rfl (hs_cons rfl (hs_cons rfl hs_nil)))))))))))))))))) (hP.pick [0, 1, 2, 3, 4] rfl rfl)
                    · skip
                      have hD := (cond_f h51).symm.trans hD
                      refine seq_want r rfl rfl rfl (congrArg Value.bool h51) ?_
                      refine seq_val (.int .i64 x41.1) r (fun R => y_move r rfl) rfl fun fr r => ?_
                      refine seq_want r rfl rfl rfl (congrArg Value.bool h51) ?_
                      refine seq_val (.bool (decide (x41.1 < 0))) r (fun R => y_bin r (u := (.int .i64 x41.1)) (u' := (.int .i64 0)) rfl rfl rfl rfl) rfl fun fr r => ?_
                      refine seq_want r rfl rfl rfl (congrArg Value.bool h51) ?_
                      refine seq_val (.bool (decide (x41.1 < 0))) r (fun R => y_move r rfl) rfl fun fr r => ?_
                      refine seq_split (decide (x41.1 < 0)) (fun h52 => ?_) (fun h52 => ?_)
                      · skip
                        have hD := (cond_t h52).symm.trans hD
                        refine seq_want r rfl rfl rfl (congrArg Value.bool h52) ?_
                        refine seq_val (.int .i64 x41.2.1) r (fun R => y_move r rfl) rfl fun fr r => ?_
                        refine seq_want r rfl rfl rfl (congrArg Value.bool h52) ?_
                        refine seq_val (.bool (x41.2.1 != 1)) r (fun R => y_bin r (u := (.int .i64 x41.2.1)) (u' := (.int .i64 1)) rfl rfl rfl rfl) rfl fun fr r => ?_
                        refine seq_want r rfl rfl rfl (congrArg Value.bool h51) ?_
                        refine seq_val (.bool (x41.2.1 != 1)) r (fun R => y_pick r (b := true) (congrArg Value.bool h52) rfl) rfl fun fr r => ?_
                        refine seq_val (.bool (x41.2.1 != 1)) r (fun R => y_pick r (b := false) (congrArg Value.bool h51) rfl) rfl fun fr r => ?_
                        refine wpList_nil ?_
                        exact nxy47 (x41.2.1 != 1) () _ _ _ hD r (hs_cons rfl (hs_cons rfl (hs_cons rfl (hs_cons rfl (hs_cons rfl (hs_cons rfl (hs_cons rfl (hs_cons rfl (hs_cons rfl (hs_cons rfl (hs_cons rfl (hs_cons rfl (hs_cons rfl (hs_cons rfl (hs_cons rfl (hs_cons rfl (hs_cons rfl (hs_cons rfl hs_nil)))))))))))))))))) (hP.pick [0, 1, 2, 3, 4] rfl rfl)
                      · skip
                        have hD := (cond_f h52).symm.trans hD
                        refine seq_skip r rfl rfl rfl (v := .bool false) (congrArg Value.bool h52) (by simp [boolOf]) fun fr r => ?_
                        refine seq_skip r rfl rfl rfl (v := .bool false) (congrArg Value.bool h52) (by simp [boolOf]) fun fr r => ?_
                        refine seq_want r rfl rfl rfl (congrArg Value.bool h51) ?_
                        refine seq_val (.bool false) r (fun R => y_pick r (b := false) (congrArg Value.bool h52) rfl) rfl fun fr r => ?_
                        refine seq_val (.bool false) r (fun R => y_pick r (b := false) (congrArg Value.bool h51) rfl) rfl fun fr r => ?_
                        refine wpList_nil ?_
                        exact nxy47 false () _ _ _ hD r (hs_cons rfl (hs_cons rfl (hs_cons rfl (hs_cons rfl (hs_cons rfl (hs_cons rfl (hs_cons rfl (hs_cons rfl (hs_cons rfl (hs_cons rfl (hs_cons rfl (hs_cons rfl (hs_cons rfl (hs_cons rfl (hs_cons rfl (hs_cons rfl (hs_cons rfl (hs_cons rfl hs_nil)))))))))))))))))) (hP.pick [0, 1, 2, 3, 4] rfl rfl)
                  · skip
                    have hD := (cond_f h50).symm.trans hD
                    refine seq_skip r rfl rfl rfl (v := .bool false) (congrArg Value.bool h50) (by simp [boolOf]) fun fr r => ?_
                    refine seq_skip r rfl rfl rfl (v := .bool false) (congrArg Value.bool h50) (by simp [boolOf]) fun fr r => ?_
                    refine seq_want r rfl rfl rfl (congrArg Value.bool h49) ?_
                    refine seq_val (.bool false) r (fun R => y_pick r (b := false) (congrArg Value.bool h50) rfl) rfl fun fr r => ?_
                    refine seq_val (.bool false) r (fun R => y_pick r (b := false) (congrArg Value.bool h49) rfl) rfl fun fr r => ?_
                    refine seq_val (.bool false) r (fun R => y_move r rfl) rfl fun fr r => ?_
                    refine seq_want r rfl rfl rfl (congrArg Value.bool (rfl : false = _)) ?_
                    refine seq_val (.int .i64 x41.1) r (fun R => y_move r rfl) rfl fun fr r => ?_
                    refine seq_want r rfl rfl rfl (congrArg Value.bool (rfl : false = _)) ?_
                    refine seq_val (.bool (decide (x41.1 < 0))) r (fun R => y_bin r (u := (.int .i64 x41.1)) (u' := (.int .i64 0)) rfl rfl rfl rfl) rfl fun fr r => ?_
                    refine seq_want r rfl rfl rfl (congrArg Value.bool (rfl : false = _)) ?_
                    refine seq_val (.bool (decide (x41.1 < 0))) r (fun R => y_move r rfl) rfl fun fr r => ?_
                    refine seq_split (decide (x41.1 < 0)) (fun h53 => ?_) (fun h53 => ?_)
                    · skip
                      have hD := (cond_t h53).symm.trans hD
                      refine seq_want r rfl rfl rfl (congrArg Value.bool h53) ?_
                      refine seq_val (.int .i64 x41.2.1) r (fun R => y_move r rfl) rfl fun fr r => ?_
                      refine seq_want r rfl rfl rfl (congrArg Value.bool h53) ?_
                      refine seq_val (.bool (x41.2.1 != 1)) r (fun R => y_bin r (u := (.int .i64 x41.2.1)) (u' := (.int .i64 1)) rfl rfl rfl rfl) rfl fun fr r => ?_
                      refine seq_want r rfl rfl rfl (congrArg Value.bool (rfl : false = _)) ?_
                      refine seq_val (.bool (x41.2.1 != 1)) r (fun R => y_pick r (b := true) (congrArg Value.bool h53) rfl) rfl fun fr r => ?_
                      refine seq_val (.bool (x41.2.1 != 1)) r (fun R => y_pick r (b := false) (congrArg Value.bool (rfl : false = _)) rfl) rfl fun fr r => ?_
                      refine wpList_nil ?_
                      exact nxy47 (x41.2.1 != 1) () _ _ _ hD r (hs_cons rfl (hs_cons rfl (hs_cons rfl (hs_cons rfl (hs_cons rfl (hs_cons rfl (hs_cons rfl (hs_cons rfl (hs_cons rfl (hs_cons rfl (hs_cons rfl (hs_cons rfl (hs_cons rfl (hs_cons rfl (hs_cons rfl (hs_cons rfl (hs_cons rfl (hs_cons rfl hs_nil)))))))))))))))))) (hP.pick [0, 1, 2, 3, 4] rfl rfl)
                    · skip
                      have hD := (cond_f h53).symm.trans hD
                      refine seq_skip r rfl rfl rfl (v := .bool false) (congrArg Value.bool h53) (by simp [boolOf]) fun fr r => ?_
                      refine seq_skip r rfl rfl rfl (v := .bool false) (congrArg Value.bool h53) (by simp [boolOf]) fun fr r => ?_
                      refine seq_want r rfl rfl rfl (congrArg Value.bool (rfl : false = _)) ?_
                      refine seq_val (.bool false) r (fun R => y_pick r (b := false) (congrArg Value.bool h53) rfl) rfl fun fr r => ?_
                      refine seq_val (.bool false) r (fun R => y_pick r (b := false) (congrArg Value.bool (rfl : false = _)) rfl) rfl fun fr r => ?_
                      refine wpList_nil ?_
                      exact nxy47 false () _ _ _ hD r (hs_cons rfl (hs_cons rfl (hs_cons rfl (hs_cons rfl (hs_cons rfl (hs_cons rfl (hs_cons rfl (hs_cons rfl (hs_cons rfl (hs_cons rfl (hs_cons rfl (hs_cons rfl (hs_cons rfl (hs_cons rfl (hs_cons rfl (hs_cons rfl (hs_cons rfl (hs_cons rfl hs_nil)))))))))))))))))) (hP.pick [0, 1, 2, 3, 4] rfl rfl)
            · skip
              rintro x54 γ55 fr w56 g r hP hD
              have hP : Post No [roK 4 1 boolE a1_v a1, cellC b1 ((planC a0)).toArray 24, memK mg21 x41.2.2.2, rowK 3 1 i64 γ29.2 x28.2.2.1, rowK 3 1 i64 v45 x43.2] w0 w56 := hP
              refine wp_cond_split (t := x54) (r.ev rfl) (fun h57 => ?_) (fun h57 => ?_)
              · skip
                have hD := (cond_t h57).symm.trans hD
                refine wp_seq ?_
                refine wp_region_lit ?_
                refine seq_val (.bool false) r (fun R => y_assign r rfl) rfl fun fr r => ?_
                refine wpList_nil ?_
                refine wp_ret ?_
                refine rty30 false _ _ hD fun hD => ?_
                have hv : false = res := Option.some.inj hD
                try dsimp only [Exit.then, Exit.inBlock]
                refine ret_tmp (fn := Try.f13) r (t := 4) rfl (v := (.bool false)) rfl ?_
                subst hv
                exact ⟨rfl, hP.chg.below⟩
              · skip
                have hD := (cond_f h57).symm.trans hD
                refine wp_skip ?_
                refine wp_seq ?_
                refine wp_region_lit ?_
                refine seq_val (.int .i64 x41.1) r (fun R => y_move r rfl) rfl fun fr r => ?_
                refine seq_val (.bool (decide (x41.1 ≥ 0))) r (fun R => y_bin r (u := (.int .i64 x41.1)) (u' := (.int .i64 0)) rfl rfl rfl rfl) rfl fun fr r => ?_
                refine wpList_nil ?_
                refine wp_joinG (N := 167) (Y := List Int) (G := Value) (fun x γ => [(0, (.agg (planC a0).toArray)), (1, a1_v), (2, (.pointer (some ⟨b1, 0, none⟩))), (37, (.bool x13)), (5, (.pointer (some ⟨mg21.mb, 0, none⟩))), (42, (.bool false)), (4, (.bool x28.1)), (6, v45), (8, (.int .i64 x28.2.2.2.1)), (49, (.bool (decide (x28.2.2.2.1 < (a1.length : Int))))), (55, (.bool x33)), (9, (.int .i64 x41.1)), (10, (.int .i64 x41.2.1)), (11, (.bool x41.2.2.1)), (12, (.int .i64 x43.1)), (13, v45), (94, (.bool x54)), (96, (.bool (decide (x41.1 ≥ 0)))), (7, γ)]) (fun x γ w => Post No [roK 4 1 boolE a1_v a1, cellC b1 ((planC a0)).toArray 24, memK mg21 x41.2.2.2, rowK 3 1 i64 γ x, rowK 3 1 i64 v45 x43.2] w0 w) hD ?_ ?_
                · skip
                  rintro y58 RPy58 nxy58 hD
                  refine wp_cond_split (t := (decide (x41.1 ≥ 0))) (r.ev rfl) (fun h59 => ?_) (fun h59 => ?_)
                  · skip
                    have hD := (cond_t h59).symm.trans hD
                    refine wp_region_lit ?_
                    refine seq_val γ29.2 r (fun R => y_move r rfl) rfl fun fr r => ?_
                    refine seq_val (.int .i64 x41.1) r (fun R => y_move r rfl) rfl fun fr r => ?_
                    refine seq_newS (.cells (([x41.1]).flatMap i64).toArray 3 (0, 0)) 1 r (fun R => y_bslice r (by kernel_rfl)) rfl fun fr b60 w61 n62 r => ?_
                    have hP : Post No [roK 4 1 boolE a1_v a1, cellC b1 ((planC a0)).toArray 24, memK mg21 x41.2.2.2, rowK 3 1 i64 γ29.2 x28.2.2.1, rowK 3 1 i64 v45 x43.2, rowK 3 1 i64 (.slice (some ⟨b60, 0, none⟩) 1 1) ([x41.1])] w0 w61 := hP.newRow n62 (fun _ => rfl) rfl
                    obtain ⟨x64, hx64, hD⟩ := bindD_elim hD
                    refine seq_app 3 1 i64 γ29.2 r (fun R => y_append r rt36 (fun _ => rfl) (fun _ => rfl) (hP.row (i := 3) rfl) (hP.row (i := 5) rfl).ro hx64 rfl rfl) rfl fun fr v65 w66 ha67 r => ?_
                    have hP : Post No [roK 4 1 boolE a1_v a1, cellC b1 ((planC a0)).toArray 24, memK mg21 x41.2.2.2, rowK 3 1 i64 v65 x64, rowK 3 1 i64 v45 x43.2, rowK 3 1 i64 (.slice (some ⟨b60, 0, none⟩) 1 1) ([x41.1])] w0 w66 := hP.append (i := 3) rfl ha67
                    refine seq_val v65 r (fun R => y_assign r rfl) rfl fun fr r => ?_
                    refine wpList_nil ?_
                    exact nxy58 x64 v65 _ _ _ hD r (hs_cons rfl (hs_cons rfl (hs_cons rfl (hs_cons rfl (hs_cons rfl (hs_cons rfl (hs_cons rfl (hs_cons rfl (hs_cons rfl (hs_cons rfl (hs_cons rfl (hs_cons rfl (hs_cons rfl (hs_cons rfl (hs_cons rfl (hs_cons rfl (hs_cons rfl (hs_cons rfl (hs_cons rfl hs_nil))))))))))))))))))) (hP.pick [0, 1, 2, 3, 4] rfl rfl)
                  · skip
                    have hD := (cond_f h59).symm.trans hD
                    refine wp_skip ?_
                    exact nxy58 x28.2.2.1 γ29.2 _ _ _ hD r (hs_cons rfl (hs_cons rfl (hs_cons rfl (hs_cons rfl (hs_cons rfl (hs_cons rfl (hs_cons rfl (hs_cons rfl (hs_cons rfl (hs_cons rfl (hs_cons rfl (hs_cons rfl (hs_cons rfl (hs_cons rfl (hs_cons rfl (hs_cons rfl (hs_cons rfl (hs_cons rfl (hs_cons rfl hs_nil))))))))))))))))))) (hP.pick [0, 1, 2, 3, 4] rfl rfl)
                · skip
                  rintro x68 γ69 fr w70 g r hP hD
                  have hP : Post No [roK 4 1 boolE a1_v a1, cellC b1 ((planC a0)).toArray 24, memK mg21 x41.2.2.2, rowK 3 1 i64 γ69 x68, rowK 3 1 i64 v45 x43.2] w0 w70 := hP
                  refine wp_seq ?_
                  refine wp_region_lit ?_
                  refine seq_val (.agg (planC a0).toArray) r (fun R => y_load_agg r (cs := (planC a0)) (n := 6) rfl (hP.cell (i := 1) rfl) ta24 rfl) rfl fun fr r => ?_
                  refine seq_val (.pointer (some ⟨mg21.mb, 0, none⟩)) r (fun R => y_move r rfl) rfl fun fr r => ?_
                  obtain ⟨x71, hx71, hD⟩ := bindD_elim hD
                  refine seq_call r (c_free_List w70 a0 x41.2.2.2 (hP.mem (i := 2) rfl) 0 hx71) (fun R hc => y_call r rfl cl63 hc) rfl ?_
                  rintro _ w72 ⟨v73, rfl, hq⟩
                  refine ⟨_, rfl, fun fr r => ?_⟩
                  have hP : Post No [roK 4 1 boolE a1_v a1, cellC b1 ((planC a0)).toArray 24, memK mg21 x41.2.2.2, rowK 3 1 i64 γ69 x68, rowK 3 1 i64 v45 x43.2, rowK 3 1 i64 v73 x71] w0 w72 := hP.add hq
                  refine seq_val v45 r (fun R => y_move r rfl) rfl fun fr r => ?_
                  obtain ⟨x75, hx75, hD⟩ := bindD_elim hD
                  refine seq_call r (c_cubicleref09_Same w72 x71 (hP.row (i := 5) rfl).ro x43.2 (hP.row (i := 4) rfl).ro hx75) (fun R hc => y_call r rfl cl62 hc) rfl ?_
                  rintro _ w76 ⟨rfl, hb⟩
                  refine ⟨_, rfl, fun fr r => ?_⟩
                  have hP : Post No [roK 4 1 boolE a1_v a1, cellC b1 ((planC a0)).toArray 24, memK mg21 x41.2.2.2, rowK 3 1 i64 γ69 x68, rowK 3 1 i64 v45 x43.2, rowK 3 1 i64 v73 x71] w0 w76 := hP.below hb
                  refine seq_val (.bool (!x75)) r (fun R => y_un r (u := (.bool x75)) rfl rfl) rfl fun fr r => ?_
                  refine wpList_nil ?_
                  refine wp_cond_split (t := (!x75)) (r.ev rfl) (fun h77 => ?_) (fun h77 => ?_)
                  · skip
                    have hD := (cond_t h77).symm.trans hD
                    refine wp_seq ?_
                    refine wp_region_lit ?_
                    refine seq_val (.bool false) r (fun R => y_assign r rfl) rfl fun fr r => ?_
                    refine wpList_nil ?_
                    refine wp_ret ?_
                    refine rty30 false _ _ hD fun hD => ?_
                    have hv : false = res := Option.some.inj hD
                    try dsimp only [Exit.then, Exit.inBlock]
                    refine ret_tmp (fn := Try.f13) r (t := 4) rfl (v := (.bool false)) rfl ?_
                    subst hv
                    exact ⟨rfl, hP.chg.below⟩
                  · skip
                    have hD := (cond_f h77).symm.trans hD
                    refine wp_skip ?_
                    refine wp_region_lit ?_
                    refine seq_val (.int .i64 x28.2.2.2.1) r (fun R => y_move r rfl) rfl fun fr r => ?_
                    refine seq_val (.int .i64 (IntKind.i64.wrap (x28.2.2.2.1 + 1))) r (fun R => y_bin r (u := (.int .i64 x28.2.2.2.1)) (u' := (.int .i64 1)) rfl rfl rfl rfl) rfl fun fr r => ?_
                    refine seq_val (.int .i64 (IntKind.i64.wrap (x28.2.2.2.1 + 1))) r (fun R => y_assign r rfl) rfl fun fr r => ?_
                    refine wpList_nil ?_
                    exact nxy30 (x28.1, x43.2, x68, (IntKind.i64.wrap (x28.2.2.2.1 + 1)), x41.2.2.2) (v45, γ69) _ _ _ hD r (hs_cons rfl (hs_cons rfl (hs_cons rfl (hs_cons rfl (hs_cons rfl (hs_cons rfl (hs_cons rfl (hs_cons rfl (hs_cons rfl (hs_cons rfl hs_nil)))))))))) (hP.pick [0, 1, 2, 4, 3] rfl rfl)
          · skip
            have hD := (cond_f h34).symm.trans hD
            refine wp_seq ?_
            refine wp_region_lit ?_
            refine seq_val γ29.2 r (fun R => y_move r rfl) rfl fun fr r => ?_
            refine seq_val (.int .i64 (x28.2.2.1.length : Int)) r (fun R => y_rowLen r (hP.row (i := 4) rfl).ro is36 rfl) rfl fun fr r => ?_
            refine seq_val (.bool (decide ((x28.2.2.1.length : Int) > 0))) r (fun R => y_bin r (u := (.int .i64 (x28.2.2.1.length : Int))) (u' := (.int .i64 0)) rfl rfl rfl rfl) rfl fun fr r => ?_
            refine wpList_nil ?_
            refine wp_cond_split (t := (decide ((x28.2.2.1.length : Int) > 0))) (r.ev rfl) (fun h78 => ?_) (fun h78 => ?_)
            · skip
              have hD := (cond_t h78).symm.trans hD
              refine wp_seq ?_
              refine wp_region_lit ?_
              refine seq_val γ29.2 r (fun R => y_move r rfl) rfl fun fr r => ?_
              refine seq_val γ29.2 r (fun R => y_move r rfl) rfl fun fr r => ?_
              refine seq_val (.int .i64 (x28.2.2.1.length : Int)) r (fun R => y_rowLen r (hP.row (i := 4) rfl).ro is36 rfl) rfl fun fr r => ?_
              refine seq_val (.int .i64 (IntKind.i64.wrap ((x28.2.2.1.length : Int) - 1))) r (fun R => y_bin r (u := (.int .i64 (x28.2.2.1.length : Int))) (u' := (.int .i64 1)) rfl rfl rfl rfl) rfl fun fr r => ?_
              obtain ⟨x79, hx79, hD⟩ := bindD_elim hD
              refine seq_val (.pointer (some ⟨rowB γ29.2, rowO γ29.2 + (IntKind.i64.wrap ((x28.2.2.1.length : Int) - 1)).toNat * 1, none⟩)) r (fun R => y_rowAddr r (hP.row (i := 4) rfl).ro hx79 sl36 rfl rfl) rfl fun fr r => ?_
              refine seq_val (.int .i64 x79) r (fun R => y_loadL_one r (u := (.int .i64 x79)) (RoAt.at_ (f := i64) (x := x79) (hP.row (i := 4) rfl).ro (fun _ => rfl) hx79) rfl to3) rfl fun fr r => ?_
              refine seq_val (.int .i64 x79) r (fun R => y_assign r rfl) rfl fun fr r => ?_
              refine wpList_nil ?_
              refine wp_seq ?_
              refine wp_region_lit ?_
              refine seq_val γ29.2 r (fun R => y_move r rfl) rfl fun fr r => ?_
              refine seq_val γ29.2 r (fun R => y_move r rfl) rfl fun fr r => ?_
              refine seq_val (.int .i64 (x28.2.2.1.length : Int)) r (fun R => y_rowLen r (hP.row (i := 4) rfl).ro is36 rfl) rfl fun fr r => ?_
              refine seq_val (.int .i64 (IntKind.i64.wrap ((x28.2.2.1.length : Int) - 1))) r (fun R => y_bin r (u := (.int .i64 (x28.2.2.1.length : Int))) (u' := (.int .i64 1)) rfl rfl rfl rfl) rfl fun fr r => ?_
              obtain ⟨x80, hx80, hD⟩ := bindD_elim hD
              refine seq_val (sliceV 1 γ29.2 (0 : Int).toNat (IntKind.i64.wrap ((x28.2.2.1.length : Int) - 1)).toNat) r (fun R => y_cut r (hP.row (i := 4) rfl).ro sl36 rfl rfl rfl rfl rfl rfl rfl hx80) rfl fun fr r => ?_
              refine seq_val (sliceV 1 γ29.2 (0 : Int).toNat (IntKind.i64.wrap ((x28.2.2.1.length : Int) - 1)).toNat) r (fun R => y_assign r rfl) rfl fun fr r => ?_
              refine wpList_nil ?_
              refine wp_seq ?_
              refine wp_region_lit ?_
              refine seq_val (.agg (planC a0).toArray) r (fun R => y_load_agg r (cs := (planC a0)) (n := 6) rfl (hP.cell (i := 1) rfl) ta24 rfl) rfl fun fr r => ?_
              refine seq_val (.int .i64 x79) r (fun R => y_move r rfl) rfl fun fr r => ?_
              refine seq_call r ((c_free_Push (n := fu) (k := fu + 1) (by omega)) No w31 (fun _ h => h.elim) a0 x79) (fun R hc => y_call r rfl cl60 hc) rfl ?_
              rintro _ w81 ⟨v82, rfl, hb, hr83⟩
              refine ⟨_, rfl, fun fr r => ?_⟩
              have hP : Post No [roK 4 1 boolE a1_v a1, cellC b1 ((planC a0)).toArray 24, memK mg21 x28.2.2.2.2, rowK 3 1 i64 γ29.1 x28.2.1, rowK 3 1 i64 γ29.2 x28.2.2.1, progK Try.prog encInt (fu, (D.free_Push (fu + 1) a0 x79)) v82 (rg w31.heap.size w81.heap.size)] w0 w81 := hP.addProg hb hr83
              refine seq_val (.pointer (some ⟨mg21.mb, 0, none⟩)) r (fun R => y_move r rfl) rfl fun fr r => ?_
              refine seq_val (.pointer (some ⟨mg21.mb, 0, none⟩)) r (fun R => y_move r rfl) rfl fun fr r => ?_
              obtain ⟨x85, hx85, hD⟩ := bindD_elim hD
              refine seq_call r (c_mem_Memory_Cap w81 x28.2.2.2.2 (hP.mem (i := 2) rfl) 0 hx85) (fun R hc => y_call r rfl cl42 hc) rfl ?_
              rintro _ w86 ⟨rfl, hb⟩
              refine ⟨_, rfl, fun fr r => ?_⟩
              have hP : Post No [roK 4 1 boolE a1_v a1, cellC b1 ((planC a0)).toArray 24, memK mg21 x28.2.2.2.2, rowK 3 1 i64 γ29.1 x28.2.1, rowK 3 1 i64 γ29.2 x28.2.2.1, progK Try.prog encInt (fu, (D.free_Push (fu + 1) a0 x79)) v82 (rg w31.heap.size w81.heap.size)] w0 w86 := hP.below hb
              obtain ⟨x87, hx87, hD⟩ := bindD_elim hD
              refine seq_call r (c_prog_Run_int w86 (fu, (D.free_Push (fu + 1) a0 x79)) x28.2.2.2.2 x85 9 (hP.sep.pk [5, 2] rfl rfl) hx87) (fun R hc => y_call r rfl cl57 hc) rfl ?_
              rintro _ w88 ⟨rfl, hq⟩
              refine ⟨_, rfl, fun fr r => ?_⟩
              have hP : Post No [roK 4 1 boolE a1_v a1, cellC b1 ((planC a0)).toArray 24, memK mg21 x87.2.2.2, rowK 3 1 i64 γ29.1 x28.2.1, rowK 3 1 i64 γ29.2 x28.2.2.1, progK Try.prog encInt (fu, (D.free_Push (fu + 1) a0 x79)) v82 (rg w31.heap.size w81.heap.size)] w0 w88 := hP.setN (i := 2) rfl hq
              refine seq_val (.tuple #[(.int .i64 x87.1), (.int .i64 x87.2.1), (.bool x87.2.2.1)]) r (fun R => y_move r rfl) rfl fun fr r => ?_
              refine seq_val (.int .i64 x87.1) r (fun R => y_extract r (vs := #[(.int .i64 x87.1), (.int .i64 x87.2.1), (.bool x87.2.2.1)]) rfl rfl) rfl fun fr r => ?_
              refine seq_val (.int .i64 x87.2.1) r (fun R => y_extract r (vs := #[(.int .i64 x87.1), (.int .i64 x87.2.1), (.bool x87.2.2.1)]) rfl rfl) rfl fun fr r => ?_
              refine seq_val (.bool x87.2.2.1) r (fun R => y_extract r (vs := #[(.int .i64 x87.1), (.int .i64 x87.2.1), (.bool x87.2.2.1)]) rfl rfl) rfl fun fr r => ?_
              refine seq_val (.int .i64 x87.1) r (fun R => y_assign r rfl) rfl fun fr r => ?_
              refine seq_val (.int .i64 x87.2.1) r (fun R => y_assign r rfl) rfl fun fr r => ?_
              refine seq_val (.bool x87.2.2.1) r (fun R => y_assign r rfl) rfl fun fr r => ?_
              refine wpList_nil ?_
              refine wp_seq ?_
              refine wp_region_lit ?_
              refine seq_val γ29.1 r (fun R => y_move r rfl) rfl fun fr r => ?_
              refine seq_val (.int .i64 x79) r (fun R => y_move r rfl) rfl fun fr r => ?_
              obtain ⟨x89, hx89, hD⟩ := bindD_elim hD
              refine seq_call r (c_cubicleref09_Push w88 x28.2.1 (hP.row (i := 3) rfl).ro x79 hx89) (fun R hc => y_call r rfl cl61 hc) rfl ?_
              rintro _ w90 ⟨v91, rfl, hq⟩
              refine ⟨_, rfl, fun fr r => ?_⟩
              have hP : Post No [roK 4 1 boolE a1_v a1, cellC b1 ((planC a0)).toArray 24, memK mg21 x87.2.2.2, rowK 3 1 i64 γ29.1 x28.2.1, rowK 3 1 i64 γ29.2 x28.2.2.1, progK Try.prog encInt (fu, (D.free_Push (fu + 1) a0 x79)) v82 (rg w31.heap.size w81.heap.size), rowK 3 1 i64 v91 x89] w0 w90 := hP.add hq
              refine seq_val v91 r (fun R => y_assign r rfl) rfl fun fr r => ?_
              refine wpList_nil ?_
              refine wp_seq ?_
              have hP : Post No [roK 4 1 boolE a1_v a1, cellC b1 ((planC a0)).toArray 24, memK mg21 x87.2.2.2, rowK 3 1 i64 γ29.2 x28.2.2.1, rowK 3 1 i64 v91 x89] w0 w90 := hP.pick [0, 1, 2, 4, 6] rfl rfl
              refine wp_joinG (N := 167) (Y := Bool) (G := Unit) (fun x γ => [(0, (.agg (planC a0).toArray)), (1, a1_v), (2, (.pointer (some ⟨b1, 0, none⟩))), (37, (.bool x13)), (5, (.pointer (some ⟨mg21.mb, 0, none⟩))), (42, (.bool false)), (4, (.bool x28.1)), (6, v91), (7, (sliceV 1 γ29.2 (0 : Int).toNat (IntKind.i64.wrap ((x28.2.2.1.length : Int) - 1)).toNat)), (8, (.int .i64 x28.2.2.2.1)), (49, (.bool (decide (x28.2.2.2.1 < (a1.length : Int))))), (55, (.bool x33)), (103, (.bool (decide ((x28.2.2.1.length : Int) > 0)))), (14, (.int .i64 x79)), (15, (.int .i64 x87.1)), (16, (.int .i64 x87.2.1)), (17, (.bool x87.2.2.1)), (139, (.bool x))]) (fun x γ w => Post No [roK 4 1 boolE a1_v a1, cellC b1 ((planC a0)).toArray 24, memK mg21 x87.2.2.2, rowK 3 1 i64 γ29.2 x28.2.2.1, rowK 3 1 i64 v91 x89] w0 w) hD ?_ ?_
              · skip
                rintro y93 RPy93 nxy93 hD
                refine wp_region_lit ?_
                refine seq_val (.int .i64 x87.1) r (fun R => y_move r rfl) rfl fun fr r => ?_
                refine seq_val (.int .i64 x79) r (fun R => y_move r rfl) rfl fun fr r => ?_
                refine seq_val (.bool (x87.1 != x79)) r (fun R => y_bin r (u := (.int .i64 x87.1)) (u' := (.int .i64 x79)) rfl rfl rfl rfl) rfl fun fr r => ?_
                refine seq_val (.bool (x87.1 != x79)) r (fun R => y_move r rfl) rfl fun fr r => ?_
                refine seq_split (x87.1 != x79) (fun h94 => ?_) (fun h94 => ?_)
                · skip
                  have hD := (cond_t h94).symm.trans hD
                  refine seq_skip r rfl rfl rfl (v := .bool true) (congrArg Value.bool h94) (by simp [boolOf]) fun fr r => ?_
                  refine seq_skip r rfl rfl rfl (v := .bool true) (congrArg Value.bool h94) (by simp [boolOf]) fun fr r => ?_
                  refine seq_val (.bool true) r (fun R => y_pick r (b := true) (congrArg Value.bool h94) rfl) rfl fun fr r => ?_
                  refine seq_val (.bool true) r (fun R => y_move r rfl) rfl fun fr r => ?_
                  refine seq_skip r rfl rfl rfl (v := .bool true) (congrArg Value.bool (rfl : true = _)) (by simp [boolOf]) fun fr r => ?_
                  refine seq_skip r rfl rfl rfl (v := .bool true) (congrArg Value.bool (rfl : true = _)) (by simp [boolOf]) fun fr r => ?_
                  refine seq_val (.bool true) r (fun R => y_pick r (b := true) (congrArg Value.bool (rfl : true = _)) rfl) rfl fun fr r => ?_
                  refine wpList_nil ?_
                  exact nxy93 true () _ _ _ hD r (hs_cons rfl (hs_cons rfl (hs_cons rfl (hs_cons rfl (hs_cons rfl (hs_cons rfl (hs_cons rfl (hs_cons rfl (hs_cons rfl (hs_cons rfl (hs_cons rfl (hs_cons rfl (hs_cons rfl (hs_cons rfl (hs_cons rfl (hs_cons rfl (hs_cons rfl (hs_cons rfl hs_nil)))))))))))))))))) (hP.pick [0, 1, 2, 3, 4] rfl rfl)
                · skip
                  have hD := (cond_f h94).symm.trans hD
                  refine seq_want r rfl rfl rfl (congrArg Value.bool h94) ?_
                  refine seq_val (.bool x87.2.2.1) r (fun R => y_move r rfl) rfl fun fr r => ?_
                  refine seq_want r rfl rfl rfl (congrArg Value.bool h94) ?_
                  refine seq_val (.bool (!x87.2.2.1)) r (fun R => y_un r (u := (.bool x87.2.2.1)) rfl rfl) rfl fun fr r => ?_
                  refine seq_val (.bool (!x87.2.2.1)) r (fun R => y_pick r (b := false) (congrArg Value.bool h94) rfl) rfl fun fr r => ?_
                  refine seq_val (.bool (!x87.2.2.1)) r (fun R => y_move r rfl) rfl fun fr r => ?_
                  refine seq_split (!x87.2.2.1) (fun h95 => ?_) (fun h95 => ?_)
                  · skip
                    have hD := (cond_t h95).symm.trans hD
                    refine seq_skip r rfl rfl rfl (v := .bool true) (congrArg Value.bool h95) (by simp [boolOf]) fun fr r => ?_
                    refine seq_skip r rfl rfl rfl (v := .bool true) (congrArg Value.bool h95) (by simp [boolOf]) fun fr r => ?_
                    refine seq_val (.bool true) r (fun R => y_pick r (b := true) (congrArg Value.bool h95) rfl) rfl fun fr r => ?_
                    refine wpList_nil ?_
                    exact nxy93 true () _ _ _ hD r (hs_cons rfl (hs_cons rfl (hs_cons rfl (hs_cons rfl (hs_cons rfl (hs_cons rfl (hs_cons rfl (hs_cons rfl (hs_cons rfl (hs_cons rfl (hs_cons rfl (hs_cons rfl (hs_cons rfl (hs_cons rfl (hs_cons rfl (hs_cons rfl (hs_cons rfl (hs_cons rfl hs_nil)))))))))))))))))) (hP.pick [0, 1, 2, 3, 4] rfl rfl)
                  · skip
                    have hD := (cond_f h95).symm.trans hD
                    refine seq_want r rfl rfl rfl (congrArg Value.bool h95) ?_
                    refine seq_val (.int .i64 x87.2.1) r (fun R => y_move r rfl) rfl fun fr r => ?_
                    refine seq_want r rfl rfl rfl (congrArg Value.bool h95) ?_
                    refine seq_val (.bool (x87.2.1 != 3)) r (fun R => y_bin r (u := (.int .i64 x87.2.1)) (u' := (.int .i64 3)) rfl rfl rfl rfl) rfl fun fr r => ?_
                    refine seq_val (.bool (x87.2.1 != 3)) r (fun R => y_pick r (b := false) (congrArg Value.bool h95) rfl) rfl fun fr r => ?_
                    refine wpList_nil ?_
                    exact nxy93 (x87.2.1 != 3) () _ _ _ hD r (hs_cons rfl (hs_cons rfl (hs_cons rfl (hs_cons rfl (hs_cons rfl (hs_cons rfl (hs_cons rfl (hs_cons rfl (hs_cons rfl (hs_cons rfl (hs_cons rfl (hs_cons rfl (hs_cons rfl (hs_cons rfl (hs_cons rfl (hs_cons rfl (hs_cons rfl (hs_cons rfl hs_nil)))))))))))))))))) (hP.pick [0, 1, 2, 3, 4] rfl rfl)
              · skip
                rintro x96 γ97 fr w98 g r hP hD
                have hP : Post No [roK 4 1 boolE a1_v a1, cellC b1 ((planC a0)).toArray 24, memK mg21 x87.2.2.2, rowK 3 1 i64 γ29.2 x28.2.2.1, rowK 3 1 i64 v91 x89] w0 w98 := hP
                refine wp_cond_split (t := x96) (r.ev rfl) (fun h99 => ?_) (fun h99 => ?_)
                · skip
                  have hD := (cond_t h99).symm.trans hD
                  refine wp_seq ?_
                  refine wp_region_lit ?_
                  refine seq_val (.bool false) r (fun R => y_assign r rfl) rfl fun fr r => ?_
                  refine wpList_nil ?_
                  refine wp_ret ?_
                  refine rty30 false _ _ hD fun hD => ?_
                  have hv : false = res := Option.some.inj hD
                  try dsimp only [Exit.then, Exit.inBlock]
                  refine ret_tmp (fn := Try.f13) r (t := 4) rfl (v := (.bool false)) rfl ?_
                  subst hv
                  exact ⟨rfl, hP.chg.below⟩
                · skip
                  have hD := (cond_f h99).symm.trans hD
                  refine wp_skip ?_
                  refine wp_seq ?_
                  refine wp_region_lit ?_
                  refine seq_val (.agg (planC a0).toArray) r (fun R => y_load_agg r (cs := (planC a0)) (n := 6) rfl (hP.cell (i := 1) rfl) ta24 rfl) rfl fun fr r => ?_
                  refine seq_val (.pointer (some ⟨mg21.mb, 0, none⟩)) r (fun R => y_move r rfl) rfl fun fr r => ?_
                  obtain ⟨x100, hx100, hD⟩ := bindD_elim hD
                  refine seq_call r (c_free_List w98 a0 x87.2.2.2 (hP.mem (i := 2) rfl) 0 hx100) (fun R hc => y_call r rfl cl63 hc) rfl ?_
                  rintro _ w101 ⟨v102, rfl, hq⟩
                  refine ⟨_, rfl, fun fr r => ?_⟩
                  have hP : Post No [roK 4 1 boolE a1_v a1, cellC b1 ((planC a0)).toArray 24, memK mg21 x87.2.2.2, rowK 3 1 i64 γ29.2 x28.2.2.1, rowK 3 1 i64 v91 x89, rowK 3 1 i64 v102 x100] w0 w101 := hP.add hq
                  refine seq_val v91 r (fun R => y_move r rfl) rfl fun fr r => ?_
                  obtain ⟨x104, hx104, hD⟩ := bindD_elim hD
                  refine seq_call r (c_cubicleref09_Same w101 x100 (hP.row (i := 5) rfl).ro x89 (hP.row (i := 4) rfl).ro hx104) (fun R hc => y_call r rfl cl62 hc) rfl ?_
                  rintro _ w105 ⟨rfl, hb⟩
                  refine ⟨_, rfl, fun fr r => ?_⟩
                  have hP : Post No [roK 4 1 boolE a1_v a1, cellC b1 ((planC a0)).toArray 24, memK mg21 x87.2.2.2, rowK 3 1 i64 γ29.2 x28.2.2.1, rowK 3 1 i64 v91 x89, rowK 3 1 i64 v102 x100] w0 w105 := hP.below hb
                  refine seq_val (.bool (!x104)) r (fun R => y_un r (u := (.bool x104)) rfl rfl) rfl fun fr r => ?_
                  refine wpList_nil ?_
                  refine wp_cond_split (t := (!x104)) (r.ev rfl) (fun h106 => ?_) (fun h106 => ?_)
                  · skip
                    have hD := (cond_t h106).symm.trans hD
                    refine wp_seq ?_
                    refine wp_region_lit ?_
                    refine seq_val (.bool false) r (fun R => y_assign r rfl) rfl fun fr r => ?_
                    refine wpList_nil ?_
                    refine wp_ret ?_
                    refine rty30 false _ _ hD fun hD => ?_
                    have hv : false = res := Option.some.inj hD
                    try dsimp only [Exit.then, Exit.inBlock]
                    refine ret_tmp (fn := Try.f13) r (t := 4) rfl (v := (.bool false)) rfl ?_
                    subst hv
                    exact ⟨rfl, hP.chg.below⟩
                  · skip
                    have hD := (cond_f h106).symm.trans hD
                    refine wp_skip ?_
                    refine wp_region_lit ?_
                    refine seq_val (.int .i64 x28.2.2.2.1) r (fun R => y_move r rfl) rfl fun fr r => ?_
                    refine seq_val (.int .i64 (IntKind.i64.wrap (x28.2.2.2.1 + 1))) r (fun R => y_bin r (u := (.int .i64 x28.2.2.2.1)) (u' := (.int .i64 1)) rfl rfl rfl rfl) rfl fun fr r => ?_
                    refine seq_val (.int .i64 (IntKind.i64.wrap (x28.2.2.2.1 + 1))) r (fun R => y_assign r rfl) rfl fun fr r => ?_
                    refine wpList_nil ?_
                    have hP : Post No [roK 4 1 boolE a1_v a1, cellC b1 ((planC a0)).toArray 24, memK mg21 x87.2.2.2, rowK 3 1 i64 (sliceV 1 γ29.2 (0 : Int).toNat (IntKind.i64.wrap ((x28.2.2.1.length : Int) - 1)).toNat) x80, rowK 3 1 i64 v91 x89, rowK 3 1 i64 v102 x100] w0 w105 := hP.narrow (i := 3) rfl (fun _ => rfl) hx80
                    exact nxy30 (x28.1, x89, x80, (IntKind.i64.wrap (x28.2.2.2.1 + 1)), x87.2.2.2) (v91, (sliceV 1 γ29.2 (0 : Int).toNat (IntKind.i64.wrap ((x28.2.2.1.length : Int) - 1)).toNat)) _ _ _ hD r (hs_cons rfl (hs_cons rfl (hs_cons rfl (hs_cons rfl (hs_cons rfl (hs_cons rfl (hs_cons rfl (hs_cons rfl (hs_cons rfl (hs_cons rfl hs_nil)))))))))) (hP.pick [0, 1, 2, 4, 3] rfl rfl)
            · skip
              have hD := (cond_f h78).symm.trans hD
              refine wp_skip ?_
              refine wp_seq ?_
              refine wp_region_lit ?_
              refine seq_val (.agg (planC a0).toArray) r (fun R => y_load_agg r (cs := (planC a0)) (n := 6) rfl (hP.cell (i := 1) rfl) ta24 rfl) rfl fun fr r => ?_
              refine seq_val (.pointer (some ⟨mg21.mb, 0, none⟩)) r (fun R => y_move r rfl) rfl fun fr r => ?_
              obtain ⟨x107, hx107, hD⟩ := bindD_elim hD
              refine seq_call r (c_free_List w31 a0 x28.2.2.2.2 (hP.mem (i := 2) rfl) 0 hx107) (fun R hc => y_call r rfl cl63 hc) rfl ?_
              rintro _ w108 ⟨v109, rfl, hq⟩
              refine ⟨_, rfl, fun fr r => ?_⟩
              have hP : Post No [roK 4 1 boolE a1_v a1, cellC b1 ((planC a0)).toArray 24, memK mg21 x28.2.2.2.2, rowK 3 1 i64 γ29.1 x28.2.1, rowK 3 1 i64 γ29.2 x28.2.2.1, rowK 3 1 i64 v109 x107] w0 w108 := hP.add hq
              refine seq_val γ29.1 r (fun R => y_move r rfl) rfl fun fr r => ?_
              obtain ⟨x111, hx111, hD⟩ := bindD_elim hD
              refine seq_call r (c_cubicleref09_Same w108 x107 (hP.row (i := 5) rfl).ro x28.2.1 (hP.row (i := 3) rfl).ro hx111) (fun R hc => y_call r rfl cl62 hc) rfl ?_
              rintro _ w112 ⟨rfl, hb⟩
              refine ⟨_, rfl, fun fr r => ?_⟩
              have hP : Post No [roK 4 1 boolE a1_v a1, cellC b1 ((planC a0)).toArray 24, memK mg21 x28.2.2.2.2, rowK 3 1 i64 γ29.1 x28.2.1, rowK 3 1 i64 γ29.2 x28.2.2.1, rowK 3 1 i64 v109 x107] w0 w112 := hP.below hb
              refine seq_val (.bool (!x111)) r (fun R => y_un r (u := (.bool x111)) rfl rfl) rfl fun fr r => ?_
              refine wpList_nil ?_
              refine wp_cond_split (t := (!x111)) (r.ev rfl) (fun h113 => ?_) (fun h113 => ?_)
              · skip
                have hD := (cond_t h113).symm.trans hD
                refine wp_seq ?_
                refine wp_region_lit ?_
                refine seq_val (.bool false) r (fun R => y_assign r rfl) rfl fun fr r => ?_
                refine wpList_nil ?_
                refine wp_ret ?_
                refine rty30 false _ _ hD fun hD => ?_
                have hv : false = res := Option.some.inj hD
                try dsimp only [Exit.then, Exit.inBlock]
                refine ret_tmp (fn := Try.f13) r (t := 4) rfl (v := (.bool false)) rfl ?_
                subst hv
                exact ⟨rfl, hP.chg.below⟩
              · skip
                have hD := (cond_f h113).symm.trans hD
                refine wp_skip ?_
                refine wp_region_lit ?_
                refine seq_val (.int .i64 x28.2.2.2.1) r (fun R => y_move r rfl) rfl fun fr r => ?_
                refine seq_val (.int .i64 (IntKind.i64.wrap (x28.2.2.2.1 + 1))) r (fun R => y_bin r (u := (.int .i64 x28.2.2.2.1)) (u' := (.int .i64 1)) rfl rfl rfl rfl) rfl fun fr r => ?_
                refine seq_val (.int .i64 (IntKind.i64.wrap (x28.2.2.2.1 + 1))) r (fun R => y_assign r rfl) rfl fun fr r => ?_
                refine wpList_nil ?_
                exact nxy30 (x28.1, x28.2.1, x28.2.2.1, (IntKind.i64.wrap (x28.2.2.2.1 + 1)), x28.2.2.2.2) (γ29.1, γ29.2) _ _ _ hD r (hs_cons rfl (hs_cons rfl (hs_cons rfl (hs_cons rfl (hs_cons rfl (hs_cons rfl (hs_cons rfl (hs_cons rfl (hs_cons rfl (hs_cons rfl hs_nil)))))))))) (hP.pick [0, 1, 2, 3, 4] rfl rfl)
        · skip
          have hD := (cond_f h32).symm.trans hD
          refine wp_exit ?_
          exact bky30 (x28.1, x28.2.1, x28.2.2.1, x28.2.2.2.1, x28.2.2.2.2) (γ29.1, γ29.2) _ _ _ hD r (hs_cons rfl (hs_cons rfl (hs_cons rfl (hs_cons rfl (hs_cons rfl (hs_cons rfl (hs_cons rfl (hs_cons rfl (hs_cons rfl (hs_cons rfl hs_nil)))))))))) (hP.pick [0, 1, 2, 3, 4] rfl rfl)
      · skip
        rintro x114 γ115 fr w116 g r hP hD
        have hP : Post No [roK 4 1 boolE a1_v a1, cellC b1 ((planC a0)).toArray 24, memK mg21 x114.2.2.2.2, rowK 3 1 i64 γ115.1 x114.2.1, rowK 3 1 i64 γ115.2 x114.2.2.1] w0 w116 := hP
        refine wp_seq ?_
        refine wp_region_lit ?_
        refine seq_val (.agg (planC a0).toArray) r (fun R => y_load_agg r (cs := (planC a0)) (n := 6) rfl (hP.cell (i := 1) rfl) ta24 rfl) rfl fun fr r => ?_
        refine seq_val (.pointer (some ⟨b1, 0, none⟩)) r (fun R => y_fieldAddr r (o := 0) rfl fo24_0) rfl fun fr r => ?_
        refine seq_val (.int .i64 a0.nodes) r (fun R => y_load_one r (v := (.int .i64 a0.nodes)) rfl (hP.cell (i := 1) rfl) to3 rfl) rfl fun fr r => ?_
        refine seq_call r ((c_free_Push (n := fu) (k := fu + 1) (by omega)) No w116 (fun _ h => h.elim) a0 a0.nodes) (fun R hc => y_call r rfl cl60 hc) rfl ?_
        rintro _ w117 ⟨v118, rfl, hb, hr119⟩
        refine ⟨_, rfl, fun fr r => ?_⟩
        have hP : Post No [roK 4 1 boolE a1_v a1, cellC b1 ((planC a0)).toArray 24, memK mg21 x114.2.2.2.2, rowK 3 1 i64 γ115.1 x114.2.1, rowK 3 1 i64 γ115.2 x114.2.2.1, progK Try.prog encInt (fu, (D.free_Push (fu + 1) a0 a0.nodes)) v118 (rg w116.heap.size w117.heap.size)] w0 w117 := hP.addProg hb hr119
        refine seq_val (.pointer (some ⟨mg21.mb, 0, none⟩)) r (fun R => y_move r rfl) rfl fun fr r => ?_
        refine seq_val (.pointer (some ⟨mg21.mb, 0, none⟩)) r (fun R => y_move r rfl) rfl fun fr r => ?_
        obtain ⟨x121, hx121, hD⟩ := bindD_elim hD
        refine seq_call r (c_mem_Memory_Cap w117 x114.2.2.2.2 (hP.mem (i := 2) rfl) 0 hx121) (fun R hc => y_call r rfl cl42 hc) rfl ?_
        rintro _ w122 ⟨rfl, hb⟩
        refine ⟨_, rfl, fun fr r => ?_⟩
        have hP : Post No [roK 4 1 boolE a1_v a1, cellC b1 ((planC a0)).toArray 24, memK mg21 x114.2.2.2.2, rowK 3 1 i64 γ115.1 x114.2.1, rowK 3 1 i64 γ115.2 x114.2.2.1, progK Try.prog encInt (fu, (D.free_Push (fu + 1) a0 a0.nodes)) v118 (rg w116.heap.size w117.heap.size)] w0 w122 := hP.below hb
        obtain ⟨x123, hx123, hD⟩ := bindD_elim hD
        refine seq_call r (c_prog_Run_int w122 (fu, (D.free_Push (fu + 1) a0 a0.nodes)) x114.2.2.2.2 x121 9 (hP.sep.pk [5, 2] rfl rfl) hx123) (fun R hc => y_call r rfl cl57 hc) rfl ?_
        rintro _ w124 ⟨rfl, hq⟩
        refine ⟨_, rfl, fun fr r => ?_⟩
        have hP : Post No [roK 4 1 boolE a1_v a1, cellC b1 ((planC a0)).toArray 24, memK mg21 x123.2.2.2, rowK 3 1 i64 γ115.1 x114.2.1, rowK 3 1 i64 γ115.2 x114.2.2.1, progK Try.prog encInt (fu, (D.free_Push (fu + 1) a0 a0.nodes)) v118 (rg w116.heap.size w117.heap.size)] w0 w124 := hP.setN (i := 2) rfl hq
        refine seq_val (.tuple #[(.int .i64 x123.1), (.int .i64 x123.2.1), (.bool x123.2.2.1)]) r (fun R => y_move r rfl) rfl fun fr r => ?_
        refine seq_val (.int .i64 x123.1) r (fun R => y_extract r (vs := #[(.int .i64 x123.1), (.int .i64 x123.2.1), (.bool x123.2.2.1)]) rfl rfl) rfl fun fr r => ?_
        refine seq_val (.int .i64 x123.2.1) r (fun R => y_extract r (vs := #[(.int .i64 x123.1), (.int .i64 x123.2.1), (.bool x123.2.2.1)]) rfl rfl) rfl fun fr r => ?_
        refine seq_val (.bool x123.2.2.1) r (fun R => y_extract r (vs := #[(.int .i64 x123.1), (.int .i64 x123.2.1), (.bool x123.2.2.1)]) rfl rfl) rfl fun fr r => ?_
        refine seq_val (.int .i64 x123.1) r (fun R => y_assign r rfl) rfl fun fr r => ?_
        refine seq_val (.int .i64 x123.2.1) r (fun R => y_assign r rfl) rfl fun fr r => ?_
        refine seq_val (.bool x123.2.2.1) r (fun R => y_assign r rfl) rfl fun fr r => ?_
        refine wpList_nil ?_
        refine wp_seq ?_
        have hP : Post No [roK 4 1 boolE a1_v a1, cellC b1 ((planC a0)).toArray 24, memK mg21 x123.2.2.2, rowK 3 1 i64 γ115.1 x114.2.1, rowK 3 1 i64 γ115.2 x114.2.2.1] w0 w124 := hP.pick [0, 1, 2, 3, 4] rfl rfl
        refine wp_joinG (N := 167) (Y := Bool) (G := Unit) (fun x γ => [(0, (.agg (planC a0).toArray)), (1, a1_v), (2, (.pointer (some ⟨b1, 0, none⟩))), (37, (.bool x13)), (5, (.pointer (some ⟨mg21.mb, 0, none⟩))), (42, (.bool false)), (6, γ115.1), (7, γ115.2), (8, (.int .i64 x114.2.2.2.1)), (18, (.int .i64 x123.1)), (19, (.int .i64 x123.2.1)), (20, (.bool x123.2.2.1)), (4, (.bool x))]) (fun x γ w => Post No [roK 4 1 boolE a1_v a1, cellC b1 ((planC a0)).toArray 24, memK mg21 x123.2.2.2, rowK 3 1 i64 γ115.1 x114.2.1, rowK 3 1 i64 γ115.2 x114.2.2.1] w0 w) hD ?_ ?_
        · skip
          rintro y125 RPy125 nxy125 hD
          refine wp_region_lit ?_
          refine seq_val (.int .i64 x123.1) r (fun R => y_move r rfl) rfl fun fr r => ?_
          refine seq_val (.bool (x123.1 == (-1))) r (fun R => y_bin r (u := (.int .i64 x123.1)) (u' := (.int .i64 (-1))) rfl rfl rfl rfl) rfl fun fr r => ?_
          refine seq_val (.bool (x123.1 == (-1))) r (fun R => y_move r rfl) rfl fun fr r => ?_
          refine seq_split (x123.1 == (-1)) (fun h126 => ?_) (fun h126 => ?_)
          · skip
            have hD := (cond_t h126).symm.trans hD
            refine seq_want r rfl rfl rfl (congrArg Value.bool h126) ?_
            refine seq_val (.int .i64 x123.2.1) r (fun R => y_move r rfl) rfl fun fr r => ?_
            refine seq_want r rfl rfl rfl (congrArg Value.bool h126) ?_
            refine seq_val (.bool (x123.2.1 == 0)) r (fun R => y_bin r (u := (.int .i64 x123.2.1)) (u' := (.int .i64 0)) rfl rfl rfl rfl) rfl fun fr r => ?_
            refine seq_val (.bool (x123.2.1 == 0)) r (fun R => y_pick r (b := true) (congrArg Value.bool h126) rfl) rfl fun fr r => ?_
            refine seq_val (.bool (x123.2.1 == 0)) r (fun R => y_move r rfl) rfl fun fr r => ?_
            refine seq_split (x123.2.1 == 0) (fun h127 => ?_) (fun h127 => ?_)
            · skip
              have hD := (cond_t h127).symm.trans hD
              refine seq_want r rfl rfl rfl (congrArg Value.bool h127) ?_
              refine seq_val (.bool x123.2.2.1) r (fun R => y_move r rfl) rfl fun fr r => ?_
              refine seq_val (.bool x123.2.2.1) r (fun R => y_pick r (b := true) (congrArg Value.bool h127) rfl) rfl fun fr r => ?_
              refine seq_val (.bool x123.2.2.1) r (fun R => y_assign r rfl) rfl fun fr r => ?_
              refine wpList_nil ?_
              exact nxy125 x123.2.2.1 () _ _ _ hD r (hs_cons rfl (hs_cons rfl (hs_cons rfl (hs_cons rfl (hs_cons rfl (hs_cons rfl (hs_cons rfl (hs_cons rfl (hs_cons rfl (hs_cons rfl (hs_cons rfl (hs_cons rfl (hs_cons rfl hs_nil))))))))))))) (hP.pick [0, 1, 2, 3, 4] rfl rfl)
            · skip
              have hD := (cond_f h127).symm.trans hD
              refine seq_skip r rfl rfl rfl (v := .bool false) (congrArg Value.bool h127) (by simp [boolOf]) fun fr r => ?_
              refine seq_val (.bool false) r (fun R => y_pick r (b := false) (congrArg Value.bool h127) rfl) rfl fun fr r => ?_
              refine seq_val (.bool false) r (fun R => y_assign r rfl) rfl fun fr r => ?_
              refine wpList_nil ?_
              exact nxy125 false () _ _ _ hD r (hs_cons rfl (hs_cons rfl (hs_cons rfl (hs_cons rfl (hs_cons rfl (hs_cons rfl (hs_cons rfl (hs_cons rfl (hs_cons rfl (hs_cons rfl (hs_cons rfl (hs_cons rfl (hs_cons rfl hs_nil))))))))))))) (hP.pick [0, 1, 2, 3, 4] rfl rfl)
          · skip
            have hD := (cond_f h126).symm.trans hD
            refine seq_skip r rfl rfl rfl (v := .bool false) (congrArg Value.bool h126) (by simp [boolOf]) fun fr r => ?_
            refine seq_skip r rfl rfl rfl (v := .bool false) (congrArg Value.bool h126) (by simp [boolOf]) fun fr r => ?_
            refine seq_val (.bool false) r (fun R => y_pick r (b := false) (congrArg Value.bool h126) rfl) rfl fun fr r => ?_
            refine seq_val (.bool false) r (fun R => y_move r rfl) rfl fun fr r => ?_
            refine seq_skip r rfl rfl rfl (v := .bool false) (congrArg Value.bool (rfl : false = _)) (by simp [boolOf]) fun fr r => ?_
            refine seq_val (.bool false) r (fun R => y_pick r (b := false) (congrArg Value.bool (rfl : false = _)) rfl) rfl fun fr r => ?_
            refine seq_val (.bool false) r (fun R => y_assign r rfl) rfl fun fr r => ?_
            refine wpList_nil ?_
            exact nxy125 false () _ _ _ hD r (hs_cons rfl (hs_cons rfl (hs_cons rfl (hs_cons rfl (hs_cons rfl (hs_cons rfl (hs_cons rfl (hs_cons rfl (hs_cons rfl (hs_cons rfl (hs_cons rfl (hs_cons rfl (hs_cons rfl hs_nil))))))))))))) (hP.pick [0, 1, 2, 3, 4] rfl rfl)
        · skip
          rintro x128 γ129 fr w130 g r hP hD
          have hP : Post No [roK 4 1 boolE a1_v a1, cellC b1 ((planC a0)).toArray 24, memK mg21 x123.2.2.2, rowK 3 1 i64 γ115.1 x114.2.1, rowK 3 1 i64 γ115.2 x114.2.2.1] w0 w130 := hP
          refine wp_ret ?_
          have hv : x128 = res := Option.some.inj hD
          try dsimp only [Exit.then, Exit.inBlock]
          refine ret_tmp (fn := Try.f13) r (t := 4) rfl (v := (.bool x128)) rfl ?_
          subst hv
          exact ⟨rfl, hP.chg.below⟩

end Go.Proofs.Ytphnnjiaiemkcaa.Wk
