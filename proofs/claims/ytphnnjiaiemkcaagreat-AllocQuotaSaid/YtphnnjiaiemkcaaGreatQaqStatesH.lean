/- Written by a program of ours (wip/gen.py): states and their words -/
import Derived.Test.YtphnnjiaiemkcaaGreatQaqStates0
set_option linter.unusedVariables false
namespace Go.Proofs.YtphnnjiaiemkcaaGreat.St
open Go.RowKit
theorem ar134 : arrTy Tryz.prog 134 3 2 = true := by kernel_rfl

theorem cl122 : callable Tryz.prog 122 = true := by kernel_rfl

theorem cl123 : callable Tryz.prog 123 = true := by kernel_rfl

theorem cl132 : callable Tryz.prog 132 = true := by kernel_rfl

theorem cl67 : callable Tryz.prog 67 = true := by kernel_rfl

theorem cl74 : callable Tryz.prog 74 = true := by kernel_rfl

theorem cl75 : callable Tryz.prog 75 = true := by kernel_rfl

theorem cl76 : callable Tryz.prog 76 = true := by kernel_rfl

theorem is112 : isSlice Tryz.prog 112 = true := by kernel_rfl

theorem is138 : isSlice Tryz.prog 138 = true := by kernel_rfl

theorem rt112 : rowTy Tryz.prog 112 34 1 = true := by kernel_rfl

theorem sl112 : sliceTy Tryz.prog 112 1 = true := by kernel_rfl

theorem sl138 : sliceTy Tryz.prog 138 2 = true := by kernel_rfl

theorem ta134 : tyA Tryz.prog 134 6 = true := by kernel_rfl

theorem ti3 : intTy Tryz.prog 3 .i64 = true := by kernel_rfl

theorem ti34 : intTy Tryz.prog 34 .u64 = true := by kernel_rfl

theorem to34 : tyO Tryz.prog 34 = true := by kernel_rfl

theorem ts123 : sized Tryz.prog 123 2 = true := by kernel_rfl

theorem ts134 : sized Tryz.prog 134 6 = true := by kernel_rfl

theorem tz123 : zeroOf Tryz.prog 123 = some (.agg (fieldC (⟨0, 0⟩ : Field)).toArray) := by kernel_rfl

theorem tz134 : zeroOf Tryz.prog 134 = some (.agg (arr3FC (⟨(⟨0, 0⟩ : Field), (⟨0, 0⟩ : Field), (⟨0, 0⟩ : Field)⟩ : Arr3F)).toArray) := by kernel_rfl

def D.state_layout (fu : Nat)  : Option (Arr3F) := (some (⟨(⟨0, 30⟩ : Field), (⟨30, 2⟩ : Field), (⟨32, 2⟩ : Field)⟩ : Arr3F))

set_option maxRecDepth 20000 in
set_option maxHeartbeats 2000000 in
theorem c_state_layout {fu : Nat} (w0 : World) {res : Arr3F} (hD : D.state_layout fu  = some res) :
    Calls Tryz.prog 75 #[] w0 (PureRes (.agg (arr3FC res).toArray) w0) := by
  refine enter (l := []) Tryz.func75 rfl 5 rfl rfl fun fr r => ?_
  have hP : Post No [] w0 w0 := Post.nil w0
  unfold D.state_layout at hD
  refine wp_seq ?_
  refine wp_region_lit ?_
  refine seq_new (.cells ((arr3FC (⟨(⟨0, 0⟩ : Field), (⟨0, 0⟩ : Field), (⟨0, 0⟩ : Field)⟩ : Arr3F))).toArray 134 (0, 0)) r (fun R => y_alloc tz134) rfl fun fr b1 w2 n3 r => ?_
  have hP : Post No [cellC b1 ((arr3FC (⟨(⟨0, 0⟩ : Field), (⟨0, 0⟩ : Field), (⟨0, 0⟩ : Field)⟩ : Arr3F))).toArray 134] w0 w2 := hP.new n3
  refine wpList_nil ?_
  refine wp_seq ?_
  refine wp_region_lit ?_
  refine seq_val (.agg (fieldC (⟨0, 30⟩ : Field)).toArray) r (fun R => y_build r (by kernel_rfl)) rfl fun fr r => ?_
  refine seq_val (.agg (fieldC (⟨30, 2⟩ : Field)).toArray) r (fun R => y_build r (by kernel_rfl)) rfl fun fr r => ?_
  refine seq_val (.agg (fieldC (⟨32, 2⟩ : Field)).toArray) r (fun R => y_build r (by kernel_rfl)) rfl fun fr r => ?_
  refine seq_val (.agg (arr3FC (⟨(⟨0, 30⟩ : Field), (⟨30, 2⟩ : Field), (⟨32, 2⟩ : Field)⟩ : Arr3F)).toArray) r (fun R => y_build r (by kernel_rfl)) rfl fun fr r => ?_
  refine seq_upd (.cells ((arr3FC (⟨(⟨0, 30⟩ : Field), (⟨30, 2⟩ : Field), (⟨32, 2⟩ : Field)⟩ : Arr3F))).toArray 134 (0, 0)) r (fun R => y_store r (o := 0) (v := (.agg (arr3FC (⟨(⟨0, 30⟩ : Field), (⟨30, 2⟩ : Field), (⟨32, 2⟩ : Field)⟩ : Arr3F)).toArray)) rfl rfl (hP.cell (i := 0) rfl) ts134 (Nat.le_of_ble_eq_true rfl) rfl rfl) rfl fun fr w5 u6 r => ?_
  have hP : Post No [cellC b1 ((arr3FC (⟨(⟨0, 30⟩ : Field), (⟨30, 2⟩ : Field), (⟨32, 2⟩ : Field)⟩ : Arr3F))).toArray 134] w0 w5 := hP.upd (i := 0) rfl u6
  refine wpList_nil ?_
  refine wp_ret ?_
  have hv : (⟨(⟨0, 30⟩ : Field), (⟨30, 2⟩ : Field), (⟨32, 2⟩ : Field)⟩ : Arr3F) = res := Option.some.inj hD
  try dsimp only [Exit.then, Exit.inBlock]
  refine ret_cell r rfl rfl (hP.cell (i := 0) rfl) (k := 6) rfl ta134 ?_
  subst hv
  exact ⟨rfl, hP.chg.below⟩

def D.field_Formed (fu : Nat) (a0 : List Field) : Option (Bool) := (loopThen (fun (x1 : Bool × Int × Int) => (bif (decide (x1.2.2 < (a0.length : Int))) then ((getI a0 x1.2.2).bind (fun (x6 : Field) => (Option.bind (bif (!(D.field_Field_Formed x6)) then (some true) else (some ((bits_and .u64 x1.2.1 (D.field_Field_mask x6)) != 0))) (fun (x17 : Bool) => (bif x17 then (some (Lp.ret false)) else (some (Lp.next (x1.1, (bits_or .u64 x1.2.1 (D.field_Field_mask x6)), (IntKind.i64.wrap (x1.2.2 + 1)))))))))) else (some (Lp.brk (x1.1, x1.2.1, x1.2.2))))) fu (false, 0, 0) (fun (x22 : Bool × Int × Int) => (some true)))

set_option maxRecDepth 20000 in
set_option maxHeartbeats 2000000 in
theorem c_field_Formed {fu : Nat} (w0 : World) {a0_v : Value} (a0 : List Field) (a0_h : RoAt 123 2 fieldC a0_v a0 w0) {res : Bool} (hD : D.field_Formed fu a0 = some res) :
    Calls Tryz.prog 122 #[a0_v] w0 (PureRes (.bool res) w0) := by
  refine enter (l := [a0_v]) Tryz.func122 rfl 27 rfl rfl fun fr r => ?_
  have hP : Post No [] w0 w0 := Post.nil w0
  have hP : Post No [roK 123 2 fieldC a0_v a0] w0 w0 := hP.addRo norw_nil a0_h rfl a0_h.lt
  unfold D.field_Formed at hD
  refine wp_seq ?_
  refine wp_region_lit ?_
  refine seq_val (.bool false) r (fun R => y_assign r rfl) rfl fun fr r => ?_
  refine wpList_nil ?_
  refine wp_seq ?_
  refine wp_region_lit ?_
  refine seq_val (.int .u64 0) r (fun R => y_assign r rfl) rfl fun fr r => ?_
  refine wpList_nil ?_
  refine wp_seq ?_
  refine wp_seq ?_
  refine wp_region_lit ?_
  refine seq_val a0_v r (fun R => y_move r rfl) rfl fun fr r => ?_
  refine seq_val (.int .i64 (a0.length : Int)) r (fun R => y_rowLen r (hP.ro (i := 0) rfl) is138 rfl) rfl fun fr r => ?_
  refine seq_val (.int .i64 0) r (fun R => y_move r rfl) rfl fun fr r => ?_
  refine wpList_nil ?_
  refine wp_loopG (X := Bool × Int × Int) (G := Unit) (x0 := (false, 0, 0)) (fun x γ => [(0, a0_v), (6, a0_v), (7, (.int .i64 (a0.length : Int))), (2, (.bool x.1)), (3, (.int .u64 x.2.1)), (8, (.int .i64 x.2.2))]) (fun x γ w => Post No [roK 123 2 fieldC a0_v a0] w0 w) () r (hs_cons rfl (hs_cons rfl (hs_cons rfl (hs_cons rfl (hs_cons rfl (hs_cons rfl hs_nil)))))) hP hD ?_ ?_
  · skip
    rintro x1 γ2 fr w4 g y3 RPy3 nxy3 bky3 rty3 r hP hD
    have hP : Post No [roK 123 2 fieldC a0_v a0] w0 w4 := hP
    refine wp_seq ?_
    refine wp_region_lit ?_
    refine seq_val (.bool (decide (x1.2.2 < (a0.length : Int)))) r (fun R => y_bin r (u := (.int .i64 x1.2.2)) (u' := (.int .i64 (a0.length : Int))) rfl rfl rfl rfl) rfl fun fr r => ?_
    refine wpList_nil ?_
    refine wp_seq ?_
    refine wp_cond_split (t := (decide (x1.2.2 < (a0.length : Int)))) (r.ev rfl) (fun h5 => ?_) (fun h5 => ?_)
    · skip
      have hD := (cond_t h5).symm.trans hD
      refine wp_skip ?_
      refine wp_seq ?_
      refine wp_block ?_
      refine wp_seq ?_
      refine wp_region_lit ?_
      obtain ⟨x6, hx6, hD⟩ := bindD_elim hD
      refine seq_val (.pointer (some ⟨rowB a0_v, rowO a0_v + x1.2.2.toNat * 2, none⟩)) r (fun R => y_rowAddr r (hP.ro (i := 0) rfl) hx6 sl138 rfl rfl) rfl fun fr r => ?_
      refine seq_val (.agg (fieldC x6).toArray) r (fun R => y_loadL_agg r (cs := (fieldC x6)) (RoAt.at_ (f := fieldC) (x := x6) (hP.ro (i := 0) rfl) (fun _ => rfl) hx6) rfl ta123) rfl fun fr r => ?_
      refine seq_new (.cells ((fieldC (⟨0, 0⟩ : Field))).toArray 123 (0, 0)) r (fun R => y_alloc tz123) rfl fun fr b7 w8 n9 r => ?_
      have hP : Post No [roK 123 2 fieldC a0_v a0, cellC b7 ((fieldC (⟨0, 0⟩ : Field))).toArray 123] w0 w8 := hP.new n9
      refine seq_upd (.cells ((fieldC x6)).toArray 123 (0, 0)) r (fun R => y_store r (o := 0) (v := (.agg (fieldC x6).toArray)) rfl rfl (hP.cell (i := 1) rfl) ts123 (Nat.le_of_ble_eq_true rfl) rfl rfl) rfl fun fr w11 u12 r => ?_
      have hP : Post No [roK 123 2 fieldC a0_v a0, cellC b7 ((fieldC x6)).toArray 123] w0 w11 := hP.upd (i := 1) rfl u12
      refine wpList_nil ?_
      refine wp_seq ?_
      refine wp_seq ?_
      refine wp_joinG (N := 27) (Y := Bool) (G := Unit) (fun x γ => [(0, a0_v), (6, a0_v), (7, (.int .i64 (a0.length : Int))), (2, (.bool x1.1)), (3, (.int .u64 x1.2.1)), (8, (.int .i64 x1.2.2)), (9, (.bool (decide (x1.2.2 < (a0.length : Int))))), (5, (.pointer (some ⟨b7, 0, none⟩))), (21, (.bool x))]) (fun x γ w => Post No [roK 123 2 fieldC a0_v a0, cellC b7 ((fieldC x6)).toArray 123] w0 w) hD ?_ ?_
      · skip
        rintro y13 RPy13 nxy13 hD
        refine wp_region_lit ?_
        refine seq_val (.agg (fieldC x6).toArray) r (fun R => y_load_agg r (cs := (fieldC x6)) (n := 2) rfl (hP.cell (i := 1) rfl) ta123 rfl) rfl fun fr r => ?_
        refine seq_call r (c_field_Field_Formed w11 x6) (fun R hc => y_call r rfl cl118 hc) rfl ?_
        rintro _ w14 ⟨rfl, hb⟩
        refine ⟨_, rfl, fun fr r => ?_⟩
        have hP : Post No [roK 123 2 fieldC a0_v a0, cellC b7 ((fieldC x6)).toArray 123] w0 w14 := hP.below hb
        refine seq_val (.bool (!(D.field_Field_Formed x6))) r (fun R => y_un r (u := (.bool (D.field_Field_Formed x6))) rfl rfl) rfl fun fr r => ?_
        refine seq_val (.bool (!(D.field_Field_Formed x6))) r (fun R => y_move r rfl) rfl fun fr r => ?_
        refine seq_split (!(D.field_Field_Formed x6)) (fun h15 => ?_) (fun h15 => ?_)
        · skip
          have hD := (cond_t h15).symm.trans hD
          refine seq_skip r rfl rfl rfl (v := .bool true) (congrArg Value.bool h15) (by simp [boolOf]) fun fr r => ?_
          refine seq_skip r rfl rfl rfl (v := .bool true) (congrArg Value.bool h15) (by simp [boolOf]) fun fr r => ?_
          refine seq_skip r rfl rfl rfl (v := .bool true) (congrArg Value.bool h15) (by simp [boolOf]) fun fr r => ?_
          refine seq_skip r rfl rfl rfl (v := .bool true) (congrArg Value.bool h15) (by simp [boolOf]) fun fr r => ?_
          refine seq_skip r rfl rfl rfl (v := .bool true) (congrArg Value.bool h15) (by simp [boolOf]) fun fr r => ?_
          refine seq_val (.bool true) r (fun R => y_pick r (b := true) (congrArg Value.bool h15) rfl) rfl fun fr r => ?_
          refine wpList_nil ?_
          exact nxy13 true () _ _ _ hD r (hs_cons rfl (hs_cons rfl (hs_cons rfl (hs_cons rfl (hs_cons rfl (hs_cons rfl (hs_cons rfl (hs_cons rfl (hs_cons rfl hs_nil))))))))) (hP.pick [0, 1] rfl rfl)
        · skip
          have hD := (cond_f h15).symm.trans hD
          refine seq_want r rfl rfl rfl (congrArg Value.bool h15) ?_
          refine seq_val (.int .u64 x1.2.1) r (fun R => y_move r rfl) rfl fun fr r => ?_
          refine seq_want r rfl rfl rfl (congrArg Value.bool h15) ?_
          refine seq_val (.agg (fieldC x6).toArray) r (fun R => y_load_agg r (cs := (fieldC x6)) (n := 2) rfl (hP.cell (i := 1) rfl) ta123 rfl) rfl fun fr r => ?_
          refine seq_want r rfl rfl rfl (congrArg Value.bool h15) ?_
          refine seq_call r (c_field_Field_mask w14 x6) (fun R hc => y_call r rfl cl149 hc) rfl ?_
          rintro _ w16 ⟨rfl, hb⟩
          refine ⟨_, rfl, fun fr r => ?_⟩
          have hP : Post No [roK 123 2 fieldC a0_v a0, cellC b7 ((fieldC x6)).toArray 123] w0 w16 := hP.below hb
          refine seq_want r rfl rfl rfl (congrArg Value.bool h15) ?_
          refine seq_val (.int .u64 (bits_and .u64 x1.2.1 (D.field_Field_mask x6))) r (fun R => y_bin r (u := (.int .u64 x1.2.1)) (u' := (.int .u64 (D.field_Field_mask x6))) rfl rfl rfl rfl) rfl fun fr r => ?_
          refine seq_want r rfl rfl rfl (congrArg Value.bool h15) ?_
          refine seq_val (.bool ((bits_and .u64 x1.2.1 (D.field_Field_mask x6)) != 0)) r (fun R => y_bin r (u := (.int .u64 (bits_and .u64 x1.2.1 (D.field_Field_mask x6)))) (u' := (.int .u64 0)) rfl rfl rfl rfl) rfl fun fr r => ?_
          refine seq_val (.bool ((bits_and .u64 x1.2.1 (D.field_Field_mask x6)) != 0)) r (fun R => y_pick r (b := false) (congrArg Value.bool h15) rfl) rfl fun fr r => ?_
          refine wpList_nil ?_
          exact nxy13 ((bits_and .u64 x1.2.1 (D.field_Field_mask x6)) != 0) () _ _ _ hD r (hs_cons rfl (hs_cons rfl (hs_cons rfl (hs_cons rfl (hs_cons rfl (hs_cons rfl (hs_cons rfl (hs_cons rfl (hs_cons rfl hs_nil))))))))) (hP.pick [0, 1] rfl rfl)
      · skip
        rintro x17 γ18 fr w19 g r hP hD
        have hP : Post No [roK 123 2 fieldC a0_v a0, cellC b7 ((fieldC x6)).toArray 123] w0 w19 := hP
        refine wp_cond_split (t := x17) (r.ev rfl) (fun h20 => ?_) (fun h20 => ?_)
        · skip
          have hD := (cond_t h20).symm.trans hD
          refine wp_seq ?_
          refine wp_region_lit ?_
          refine seq_val (.bool false) r (fun R => y_assign r rfl) rfl fun fr r => ?_
          refine wpList_nil ?_
          refine wp_ret ?_
          refine rty3 false _ _ hD fun hD => ?_
          have hv : false = res := Option.some.inj hD
          try dsimp only [Exit.then, Exit.inBlock]
          refine ret_tmp (fn := Tryz.f122) r (t := 2) rfl (v := (.bool false)) rfl ?_
          subst hv
          exact ⟨rfl, hP.chg.below⟩
        · skip
          have hD := (cond_f h20).symm.trans hD
          refine wp_skip ?_
          refine wp_region_lit ?_
          refine seq_val (.int .u64 x1.2.1) r (fun R => y_move r rfl) rfl fun fr r => ?_
          refine seq_val (.agg (fieldC x6).toArray) r (fun R => y_load_agg r (cs := (fieldC x6)) (n := 2) rfl (hP.cell (i := 1) rfl) ta123 rfl) rfl fun fr r => ?_
          refine seq_call r (c_field_Field_mask w19 x6) (fun R hc => y_call r rfl cl149 hc) rfl ?_
          rintro _ w21 ⟨rfl, hb⟩
          refine ⟨_, rfl, fun fr r => ?_⟩
          have hP : Post No [roK 123 2 fieldC a0_v a0, cellC b7 ((fieldC x6)).toArray 123] w0 w21 := hP.below hb
          refine seq_val (.int .u64 (bits_or .u64 x1.2.1 (D.field_Field_mask x6))) r (fun R => y_bin r (u := (.int .u64 x1.2.1)) (u' := (.int .u64 (D.field_Field_mask x6))) rfl rfl rfl rfl) rfl fun fr r => ?_
          refine seq_val (.int .u64 (bits_or .u64 x1.2.1 (D.field_Field_mask x6))) r (fun R => y_assign r rfl) rfl fun fr r => ?_
          refine wpList_nil ?_
          refine wp_region_lit ?_
          refine seq_val (.int .i64 (IntKind.i64.wrap (x1.2.2 + 1))) r (fun R => y_bin r (u := (.int .i64 x1.2.2)) (u' := (.int .i64 1)) rfl rfl rfl rfl) rfl fun fr r => ?_
          refine seq_val (.int .i64 (IntKind.i64.wrap (x1.2.2 + 1))) r (fun R => y_move r rfl) rfl fun fr r => ?_
          refine wpList_nil ?_
          exact nxy3 (x1.1, (bits_or .u64 x1.2.1 (D.field_Field_mask x6)), (IntKind.i64.wrap (x1.2.2 + 1))) () _ _ _ hD r (hs_cons rfl (hs_cons rfl (hs_cons rfl (hs_cons rfl (hs_cons rfl (hs_cons rfl hs_nil)))))) (hP.pick [0] rfl rfl)
    · skip
      have hD := (cond_f h5).symm.trans hD
      refine wp_exit ?_
      exact bky3 (x1.1, x1.2.1, x1.2.2) () _ _ _ hD r (hs_cons rfl (hs_cons rfl (hs_cons rfl (hs_cons rfl (hs_cons rfl (hs_cons rfl hs_nil)))))) (hP.pick [0] rfl rfl)
  · skip
    rintro x22 γ23 fr w24 g r hP hD
    have hP : Post No [roK 123 2 fieldC a0_v a0] w0 w24 := hP
    refine wp_seq ?_
    refine wp_region_lit ?_
    refine seq_val (.bool true) r (fun R => y_assign r rfl) rfl fun fr r => ?_
    refine wpList_nil ?_
    refine wp_ret ?_
    have hv : true = res := Option.some.inj hD
    try dsimp only [Exit.then, Exit.inBlock]
    refine ret_tmp (fn := Tryz.f122) r (t := 2) rfl (v := (.bool true)) rfl ?_
    subst hv
    exact ⟨rfl, hP.chg.below⟩

def D.field_Pack (fu : Nat) (a0 : List Field) (a1 : List Int) : Option (Int × Int) := (Option.bind ((D.field_Formed fu a0).bind (fun (x2 : Bool) => (bif (!x2) then (some true) else (some ((a0.length : Int) != (a1.length : Int)))))) (fun (x5 : Bool) => (bif x5 then (some (0, 1)) else (loopThen (fun (x9 : Int × Int × Int × Int) => (bif (decide (x9.2.2.2 < (a0.length : Int))) then ((getI a0 x9.2.2.2).bind (fun (x14 : Field) => ((getI a1 x9.2.2.2).bind (fun (x21 : Int) => (bif (decide (x21 > (D.field_Field_Most x14))) then (some (Lp.ret (0, 1))) else ((getI a1 x9.2.2.2).bind (fun (x24 : Int) => (some (Lp.next (x9.1, x9.2.1, (D.field_Field_Put x14 x9.2.2.1 x24), (IntKind.i64.wrap (x9.2.2.2 + 1)))))))))))) else (some (Lp.brk (x9.1, x9.2.1, x9.2.2.1, x9.2.2.2))))) fu (0, 0, 0, 0) (fun (x26 : Int × Int × Int × Int) => (some (x26.2.2.1, 0)))))))

set_option maxRecDepth 20000 in
set_option maxHeartbeats 2000000 in
theorem c_field_Pack {fu : Nat} (w0 : World) {a0_v : Value} (a0 : List Field) (a0_h : RoAt 123 2 fieldC a0_v a0 w0) {a1_v : Value} (a1 : List Int) (a1_h : RoAt 34 1 u64 a1_v a1 w0) {res : Int × Int} (hD : D.field_Pack fu a0 a1 = some res) :
    Calls Tryz.prog 76 #[a0_v, a1_v] w0 (PureRes (.tuple #[(.int .u64 res.1), (.int .i64 res.2)]) w0) := by
  refine enter (l := [a0_v, a1_v]) Tryz.func76 rfl 42 rfl rfl fun fr r => ?_
  have hP : Post No [] w0 w0 := Post.nil w0
  have hP : Post No [roK 123 2 fieldC a0_v a0] w0 w0 := hP.addRo norw_nil a0_h rfl a0_h.lt
  have hP : Post No [roK 123 2 fieldC a0_v a0, roK 34 1 u64 a1_v a1] w0 w0 := hP.addRo (norw_cons rfl norw_nil) a1_h rfl a1_h.lt
  unfold D.field_Pack at hD
  refine wp_seq ?_
  refine wp_region_lit ?_
  refine seq_val (.int .u64 0) r (fun R => y_assign r rfl) rfl fun fr r => ?_
  refine seq_val (.int .i64 0) r (fun R => y_assign r rfl) rfl fun fr r => ?_
  refine wpList_nil ?_
  refine wp_seq ?_
  refine wp_seq ?_
  refine wp_joinG (N := 42) (Y := Bool) (G := Unit) (fun x γ => [(0, a0_v), (1, a1_v), (4, (.int .u64 0)), (5, (.int .i64 0)), (18, (.bool x))]) (fun x γ w => Post No [roK 123 2 fieldC a0_v a0, roK 34 1 u64 a1_v a1] w0 w) hD ?_ ?_
  · skip
    rintro y1 RPy1 nxy1 hD
    refine wp_region_lit ?_
    refine seq_val a0_v r (fun R => y_move r rfl) rfl fun fr r => ?_
    obtain ⟨x2, hx2, hD⟩ := bindD_elim hD
    refine seq_call r (c_field_Formed w0 a0 (hP.ro (i := 0) rfl) hx2) (fun R hc => y_call r rfl cl122 hc) rfl ?_
    rintro _ w3 ⟨rfl, hb⟩
    refine ⟨_, rfl, fun fr r => ?_⟩
    have hP : Post No [roK 123 2 fieldC a0_v a0, roK 34 1 u64 a1_v a1] w0 w3 := hP.below hb
    refine seq_val (.bool (!x2)) r (fun R => y_un r (u := (.bool x2)) rfl rfl) rfl fun fr r => ?_
    refine seq_val (.bool (!x2)) r (fun R => y_move r rfl) rfl fun fr r => ?_
    refine seq_split (!x2) (fun h4 => ?_) (fun h4 => ?_)
    · skip
      have hD := (cond_t h4).symm.trans hD
      refine seq_skip r rfl rfl rfl (v := .bool true) (congrArg Value.bool h4) (by simp [boolOf]) fun fr r => ?_
      refine seq_skip r rfl rfl rfl (v := .bool true) (congrArg Value.bool h4) (by simp [boolOf]) fun fr r => ?_
      refine seq_skip r rfl rfl rfl (v := .bool true) (congrArg Value.bool h4) (by simp [boolOf]) fun fr r => ?_
      refine seq_skip r rfl rfl rfl (v := .bool true) (congrArg Value.bool h4) (by simp [boolOf]) fun fr r => ?_
      refine seq_skip r rfl rfl rfl (v := .bool true) (congrArg Value.bool h4) (by simp [boolOf]) fun fr r => ?_
      refine seq_val (.bool true) r (fun R => y_pick r (b := true) (congrArg Value.bool h4) rfl) rfl fun fr r => ?_
      refine wpList_nil ?_
      exact nxy1 true () _ _ _ hD r (hs_cons rfl (hs_cons rfl (hs_cons rfl (hs_cons rfl (hs_cons rfl hs_nil))))) (hP.pick [0, 1] rfl rfl)
    · skip
      have hD := (cond_f h4).symm.trans hD
      refine seq_want r rfl rfl rfl (congrArg Value.bool h4) ?_
      refine seq_val a0_v r (fun R => y_move r rfl) rfl fun fr r => ?_
      refine seq_want r rfl rfl rfl (congrArg Value.bool h4) ?_
      refine seq_val (.int .i64 (a0.length : Int)) r (fun R => y_rowLen r (hP.ro (i := 0) rfl) is138 rfl) rfl fun fr r => ?_
      refine seq_want r rfl rfl rfl (congrArg Value.bool h4) ?_
      refine seq_val a1_v r (fun R => y_move r rfl) rfl fun fr r => ?_
      refine seq_want r rfl rfl rfl (congrArg Value.bool h4) ?_
      refine seq_val (.int .i64 (a1.length : Int)) r (fun R => y_rowLen r (hP.ro (i := 1) rfl) is112 rfl) rfl fun fr r => ?_
      refine seq_want r rfl rfl rfl (congrArg Value.bool h4) ?_
      refine seq_val (.bool ((a0.length : Int) != (a1.length : Int))) r (fun R => y_bin r (u := (.int .i64 (a0.length : Int))) (u' := (.int .i64 (a1.length : Int))) rfl rfl rfl rfl) rfl fun fr r => ?_
      refine seq_val (.bool ((a0.length : Int) != (a1.length : Int))) r (fun R => y_pick r (b := false) (congrArg Value.bool h4) rfl) rfl fun fr r => ?_
      refine wpList_nil ?_
      exact nxy1 ((a0.length : Int) != (a1.length : Int)) () _ _ _ hD r (hs_cons rfl (hs_cons rfl (hs_cons rfl (hs_cons rfl (hs_cons rfl hs_nil))))) (hP.pick [0, 1] rfl rfl)
  · skip
    rintro x5 γ6 fr w7 g r hP hD
    have hP : Post No [roK 123 2 fieldC a0_v a0, roK 34 1 u64 a1_v a1] w0 w7 := hP
    refine wp_cond_split (t := x5) (r.ev rfl) (fun h8 => ?_) (fun h8 => ?_)
    · skip
      have hD := (cond_t h8).symm.trans hD
      refine wp_seq ?_
      refine wp_region_lit ?_
      refine seq_val (.int .u64 0) r (fun R => y_assign r rfl) rfl fun fr r => ?_
      refine seq_val (.int .i64 1) r (fun R => y_assign r rfl) rfl fun fr r => ?_
      refine wpList_nil ?_
      refine wp_ret ?_
      have hv : (0, 1) = res := Option.some.inj hD
      try dsimp only [Exit.then, Exit.inBlock]
      refine ret_tmp2 (fn := Tryz.f76) r (t := 4) (t' := 5) rfl (v := (.int .u64 0)) (v' := (.int .i64 1)) rfl rfl ?_
      subst hv
      exact ⟨rfl, hP.chg.below⟩
    · skip
      have hD := (cond_f h8).symm.trans hD
      refine wp_skip ?_
      refine wp_seq ?_
      refine wp_region_lit ?_
      refine seq_val (.int .u64 0) r (fun R => y_assign r rfl) rfl fun fr r => ?_
      refine wpList_nil ?_
      refine wp_seq ?_
      refine wp_seq ?_
      refine wp_region_lit ?_
      refine seq_val a0_v r (fun R => y_move r rfl) rfl fun fr r => ?_
      refine seq_val (.int .i64 (a0.length : Int)) r (fun R => y_rowLen r (hP.ro (i := 0) rfl) is138 rfl) rfl fun fr r => ?_
      refine seq_val (.int .i64 0) r (fun R => y_move r rfl) rfl fun fr r => ?_
      refine wpList_nil ?_
      refine wp_loopG (X := Int × Int × Int × Int) (G := Unit) (x0 := (0, 0, 0, 0)) (fun x γ => [(0, a0_v), (1, a1_v), (18, (.bool x5)), (19, a0_v), (20, (.int .i64 (a0.length : Int))), (4, (.int .u64 x.1)), (5, (.int .i64 x.2.1)), (6, (.int .u64 x.2.2.1)), (21, (.int .i64 x.2.2.2))]) (fun x γ w => Post No [roK 123 2 fieldC a0_v a0, roK 34 1 u64 a1_v a1] w0 w) () r (hs_cons rfl (hs_cons rfl (hs_cons rfl (hs_cons rfl (hs_cons rfl (hs_cons rfl (hs_cons rfl (hs_cons rfl (hs_cons rfl hs_nil))))))))) hP hD ?_ ?_
      · skip
        rintro x9 γ10 fr w12 g y11 RPy11 nxy11 bky11 rty11 r hP hD
        have hP : Post No [roK 123 2 fieldC a0_v a0, roK 34 1 u64 a1_v a1] w0 w12 := hP
        refine wp_seq ?_
        refine wp_region_lit ?_
        refine seq_val (.bool (decide (x9.2.2.2 < (a0.length : Int)))) r (fun R => y_bin r (u := (.int .i64 x9.2.2.2)) (u' := (.int .i64 (a0.length : Int))) rfl rfl rfl rfl) rfl fun fr r => ?_
        refine wpList_nil ?_
        refine wp_seq ?_
        refine wp_cond_split (t := (decide (x9.2.2.2 < (a0.length : Int)))) (r.ev rfl) (fun h13 => ?_) (fun h13 => ?_)
        · skip
          have hD := (cond_t h13).symm.trans hD
          refine wp_skip ?_
          refine wp_seq ?_
          refine wp_block ?_
          refine wp_seq ?_
          refine wp_region_lit ?_
          refine seq_val (.int .i64 x9.2.2.2) r (fun R => y_move r rfl) rfl fun fr r => ?_
          obtain ⟨x14, hx14, hD⟩ := bindD_elim hD
          refine seq_val (.pointer (some ⟨rowB a0_v, rowO a0_v + x9.2.2.2.toNat * 2, none⟩)) r (fun R => y_rowAddr r (hP.ro (i := 0) rfl) hx14 sl138 rfl rfl) rfl fun fr r => ?_
          refine seq_val (.agg (fieldC x14).toArray) r (fun R => y_loadL_agg r (cs := (fieldC x14)) (RoAt.at_ (f := fieldC) (x := x14) (hP.ro (i := 0) rfl) (fun _ => rfl) hx14) rfl ta123) rfl fun fr r => ?_
          refine seq_new (.cells ((fieldC (⟨0, 0⟩ : Field))).toArray 123 (0, 0)) r (fun R => y_alloc tz123) rfl fun fr b15 w16 n17 r => ?_
          have hP : Post No [roK 123 2 fieldC a0_v a0, roK 34 1 u64 a1_v a1, cellC b15 ((fieldC (⟨0, 0⟩ : Field))).toArray 123] w0 w16 := hP.new n17
          refine seq_val (.int .i64 x9.2.2.2) r (fun R => y_assign r rfl) rfl fun fr r => ?_
          refine seq_upd (.cells ((fieldC x14)).toArray 123 (0, 0)) r (fun R => y_store r (o := 0) (v := (.agg (fieldC x14).toArray)) rfl rfl (hP.cell (i := 2) rfl) ts123 (Nat.le_of_ble_eq_true rfl) rfl rfl) rfl fun fr w19 u20 r => ?_
          have hP : Post No [roK 123 2 fieldC a0_v a0, roK 34 1 u64 a1_v a1, cellC b15 ((fieldC x14)).toArray 123] w0 w19 := hP.upd (i := 2) rfl u20
          refine wpList_nil ?_
          refine wp_seq ?_
          refine wp_seq ?_
          obtain ⟨x21, hx21, hD⟩ := bindD_elim hD
          refine wp_freeF [.val a1_v, .val (.int .i64 x9.2.2.2), .val (.pointer (some ⟨rowB a1_v, rowO a1_v + x9.2.2.2.toNat * 1, none⟩)), .val (.int .u64 x21), .val (.agg (fieldC x14).toArray), .val (.int .u64 (D.field_Field_Most x14)), .val (.bool (decide (x21 > (D.field_Field_Most x14))))] mixed r (by kernel_rfl) ?_ ?_
          · skip
            refine eachF_cons r rfl (fun fr1 g w' hb' hd r' => ?_) ?_
            · exact y_move r' (v := a1_v) rfl ⟨Below.refl _ _, rfl⟩
            refine eachF_cons r rfl (fun fr1 g w' hb' hd r' => ?_) ?_
            · exact y_move r' (v := (.int .i64 x9.2.2.2)) rfl ⟨Below.refl _ _, rfl⟩
            refine eachF_cons r rfl (fun fr1 g w' hb' hd r' => ?_) ?_
            · exact y_rowAddr r' ((hP.below (dr hb')).ro (i := 1) rfl) hx21 sl112 (hd 0 rfl).1 (hd 1 rfl).1 ⟨Below.refl _ _, rfl⟩
            refine eachF_cons r rfl (fun fr1 g w' hb' hd r' => ?_) ?_
            · exact y_loadL_one r' (u := (.int .u64 x21)) (RoAt.at_ (f := u64) (x := x21) ((hP.below (dr hb')).ro (i := 1) rfl) (fun _ => rfl) hx21) (hd 2 rfl).1 to34 ⟨Below.refl _ _, rfl⟩
            refine eachF_cons r rfl (fun fr1 g w' hb' hd r' => ?_) ?_
            · exact y_load_agg r' (cs := (fieldC x14)) (n := 2) rfl ((hP.below (dr hb')).cell (i := 2) rfl) ta123 rfl ⟨Below.refl _ _, rfl⟩
            refine eachF_cons r rfl (fun fr1 g w' hb' hd r' => ?_) ?_
            · exact y_call r' (args := [(.agg (fieldC x14).toArray)]) (lc (hd 4 rfl).1 l0) cl119 ((c_field_Field_Most _ x14).mono (by rintro _ w2 ⟨rfl, hb2⟩; exact ⟨_, rfl, hb2, rfl⟩))
            refine eachF_cons r rfl (fun fr1 g w' hb' hd r' => ?_) ?_
            · exact y_bin r' (u := (.int .u64 x21)) (u' := (.int .u64 (D.field_Field_Most x14))) (v := (.bool (decide (x21 > (D.field_Field_Most x14))))) (hd 3 rfl).1 (hd 5 rfl).1 rfl rfl ⟨Below.refl _ _, rfl⟩
            exact eachF_nil
          · skip
            intro fr gg w22 hb hΦ hap r
            have g0 : (gg 0).v = a1_v := (hΦ 0 rfl).1
            have g1 : (gg 1).v = (.int .i64 x9.2.2.2) := (hΦ 1 rfl).1
            have g2 : (gg 2).v = (.pointer (some ⟨rowB a1_v, rowO a1_v + x9.2.2.2.toNat * 1, none⟩)) := (hΦ 2 rfl).1
            have g3 : (gg 3).v = (.int .u64 x21) := (hΦ 3 rfl).1
            have g4 : (gg 4).v = (.agg (fieldC x14).toArray) := (hΦ 4 rfl).1
            have g5 : (gg 5).v = (.int .u64 (D.field_Field_Most x14)) := (hΦ 5 rfl).1
            have g6 : (gg 6).v = (.bool (decide (x21 > (D.field_Field_Most x14)))) := (hΦ 6 rfl).1
            have r := r.congr (sc g6 (sc g5 (sc g4 (sc g3 (sc g2 (sc g1 (sc g0 rfl)))))))
            have hP : Post No [roK 123 2 fieldC a0_v a0, roK 34 1 u64 a1_v a1, cellC b15 ((fieldC x14)).toArray 123] w0 w22 := hP.below hb
            refine wp_cond_split (t := (decide (x21 > (D.field_Field_Most x14)))) (r.ev rfl) (fun h23 => ?_) (fun h23 => ?_)
            · skip
              have hD := (cond_t h23).symm.trans hD
              refine wp_seq ?_
              refine wp_region_lit ?_
              refine seq_val (.int .u64 0) r (fun R => y_assign r rfl) rfl fun fr r => ?_
              refine seq_val (.int .i64 1) r (fun R => y_assign r rfl) rfl fun fr r => ?_
              refine wpList_nil ?_
              refine wp_ret ?_
              refine rty11 (0, 1) _ _ hD fun hD => ?_
              have hv : (0, 1) = res := Option.some.inj hD
              try dsimp only [Exit.then, Exit.inBlock]
              refine ret_tmp2 (fn := Tryz.f76) r (t := 4) (t' := 5) rfl (v := (.int .u64 0)) (v' := (.int .i64 1)) rfl rfl ?_
              subst hv
              exact ⟨rfl, hP.chg.below⟩
            · skip
              have hD := (cond_f h23).symm.trans hD
              refine wp_skip ?_
              obtain ⟨x24, hx24, hD⟩ := bindD_elim hD
              refine wp_drawnF 7 [.val (.agg (fieldC x14).toArray), .val (.int .u64 x9.2.2.1), .val a1_v, .val (.int .i64 x9.2.2.2), .val (.pointer (some ⟨rowB a1_v, rowO a1_v + x9.2.2.2.toNat * 1, none⟩)), .val (.int .u64 x24), .val (.int .u64 (D.field_Field_Put x14 x9.2.2.1 x24))] mixed r (by kernel_rfl) (within_cons (by exact trivial) (within_cons (by exact trivial) (within_cons (by exact trivial) (within_cons (by exact trivial) (within_cons (by exact trivial) (within_cons (by exact trivial) (within_cons (by exact trivial) within_nil))))))) ?_ ?_
              · skip
                refine each_consF r rfl (fun fr1 u w' hb' hd r' => ?_) ?_
                · exact y_load_agg r' (cs := (fieldC x14)) (n := 2) rfl ((hP.below (dr hb')).cell (i := 2) rfl) ta123 rfl ⟨Below.refl _ _, rfl⟩
                refine each_consF r rfl (fun fr1 u w' hb' hd r' => ?_) ?_
                · exact y_move r' (v := (.int .u64 x9.2.2.1)) rfl ⟨Below.refl _ _, rfl⟩
                refine each_consF r rfl (fun fr1 u w' hb' hd r' => ?_) ?_
                · exact y_move r' (v := a1_v) rfl ⟨Below.refl _ _, rfl⟩
                refine each_consF r rfl (fun fr1 u w' hb' hd r' => ?_) ?_
                · exact y_move r' (v := (.int .i64 x9.2.2.2)) rfl ⟨Below.refl _ _, rfl⟩
                refine each_consF r rfl (fun fr1 u w' hb' hd r' => ?_) ?_
                · obtain ⟨d0, d1, _⟩ := hd; exact y_rowAddr r' ((hP.below (dr hb')).ro (i := 1) rfl) hx24 sl112 d0 d1 ⟨Below.refl _ _, rfl⟩
                refine each_consF r rfl (fun fr1 u w' hb' hd r' => ?_) ?_
                · obtain ⟨d0, _⟩ := hd; exact y_loadL_one r' (u := (.int .u64 x24)) (RoAt.at_ (f := u64) (x := x24) ((hP.below (dr hb')).ro (i := 1) rfl) (fun _ => rfl) hx24) d0 to34 ⟨Below.refl _ _, rfl⟩
                refine each_consF r rfl (fun fr1 u w' hb' hd r' => ?_) ?_
                · obtain ⟨d0, d1, d2, _⟩ := hd; exact y_call r' (args := [(.agg (fieldC x14).toArray), (.int .u64 x9.2.2.1), (.int .u64 x24)]) (lc d0 (lc d1 (lc d2 l0))) cl123 ((c_field_Field_Put _ x14 x9.2.2.1 x24).mono (by rintro _ w2 ⟨rfl, hb2⟩; exact ⟨_, rfl, hb2, rfl⟩))
                exact each_nil
              · skip
                intro fr u w25 hb hΦ hne r
                have g0 : u 0 = (.agg (fieldC x14).toArray) := hΦ 0 (by decide)
                have g1 : u 1 = (.int .u64 x9.2.2.1) := hΦ 1 (by decide)
                have g2 : u 2 = a1_v := hΦ 2 (by decide)
                have g3 : u 3 = (.int .i64 x9.2.2.2) := hΦ 3 (by decide)
                have g4 : u 4 = (.pointer (some ⟨rowB a1_v, rowO a1_v + x9.2.2.2.toNat * 1, none⟩)) := hΦ 4 (by decide)
                have g5 : u 5 = (.int .u64 x24) := hΦ 5 (by decide)
                have g6 : u 6 = (.int .u64 (D.field_Field_Put x14 x9.2.2.1 x24)) := hΦ 6 (by decide)
                have r := r.congr (sc g6 (sc g5 (sc g4 (sc g3 (sc g2 (sc g1 (sc g0 rfl)))))))
                have hP : Post No [roK 123 2 fieldC a0_v a0, roK 34 1 u64 a1_v a1, cellC b15 ((fieldC x14)).toArray 123] w0 w25 := hP.below hb
                refine seq_val (.int .u64 (D.field_Field_Put x14 x9.2.2.1 x24)) r (fun R => y_assign r rfl) rfl fun fr r => ?_
                refine wpList_nil ?_
                refine wp_region_lit ?_
                refine seq_val (.int .i64 (IntKind.i64.wrap (x9.2.2.2 + 1))) r (fun R => y_bin r (u := (.int .i64 x9.2.2.2)) (u' := (.int .i64 1)) rfl rfl rfl rfl) rfl fun fr r => ?_
                refine seq_val (.int .i64 (IntKind.i64.wrap (x9.2.2.2 + 1))) r (fun R => y_move r rfl) rfl fun fr r => ?_
                refine wpList_nil ?_
                exact nxy11 (x9.1, x9.2.1, (D.field_Field_Put x14 x9.2.2.1 x24), (IntKind.i64.wrap (x9.2.2.2 + 1))) () _ _ _ hD r (hs_cons rfl (hs_cons rfl (hs_cons rfl (hs_cons rfl (hs_cons rfl (hs_cons rfl (hs_cons rfl (hs_cons rfl (hs_cons rfl hs_nil))))))))) (hP.pick [0, 1] rfl rfl)
        · skip
          have hD := (cond_f h13).symm.trans hD
          refine wp_exit ?_
          exact bky11 (x9.1, x9.2.1, x9.2.2.1, x9.2.2.2) () _ _ _ hD r (hs_cons rfl (hs_cons rfl (hs_cons rfl (hs_cons rfl (hs_cons rfl (hs_cons rfl (hs_cons rfl (hs_cons rfl (hs_cons rfl hs_nil))))))))) (hP.pick [0, 1] rfl rfl)
      · skip
        rintro x26 γ27 fr w28 g r hP hD
        have hP : Post No [roK 123 2 fieldC a0_v a0, roK 34 1 u64 a1_v a1] w0 w28 := hP
        refine wp_seq ?_
        refine wp_region_lit ?_
        refine seq_val (.int .u64 x26.2.2.1) r (fun R => y_move r rfl) rfl fun fr r => ?_
        refine seq_val (.int .u64 x26.2.2.1) r (fun R => y_assign r rfl) rfl fun fr r => ?_
        refine seq_val (.int .i64 0) r (fun R => y_assign r rfl) rfl fun fr r => ?_
        refine wpList_nil ?_
        refine wp_ret ?_
        have hv : (x26.2.2.1, 0) = res := Option.some.inj hD
        try dsimp only [Exit.then, Exit.inBlock]
        refine ret_tmp2 (fn := Tryz.f76) r (t := 4) (t' := 5) rfl (v := (.int .u64 x26.2.2.1)) (v' := (.int .i64 0)) rfl rfl ?_
        subst hv
        exact ⟨rfl, hP.chg.below⟩

def D.state_State_Word (fu : Nat) (a0 : State) : Option (Int) := (bif (!(D.state_State_Formed a0)) then (some 0) else ((D.state_layout fu ).bind (fun (x7 : Arr3F) => ((D.field_Pack fu ([x7.f0, x7.f1, x7.f2]) ([(IntKind.u64.wrap a0.gen), (IntKind.u64.wrap a0.mode), (IntKind.u64.wrap a0.kind)])).bind (fun (x17 : Int × Int) => (some x17.1))))))

set_option maxRecDepth 20000 in
set_option maxHeartbeats 2000000 in
theorem c_state_State_Word {fu : Nat} (w0 : World) (a0 : State) {res : Int} (hD : D.state_State_Word fu a0 = some res) :
    Calls Tryz.prog 29 #[.agg (stateC a0).toArray] w0 (PureRes (.int .u64 res) w0) := by
  refine enter (l := [.agg (stateC a0).toArray]) Tryz.func29 rfl 26 rfl rfl fun fr r => ?_
  have hP : Post No [] w0 w0 := Post.nil w0
  unfold D.state_State_Word at hD
  refine wp_seq ?_
  refine wp_region_lit ?_
  refine seq_new (.cells ((stateC a0)).toArray 30 (0, 0)) r (fun R => y_box r (v := (.agg (stateC a0).toArray)) rfl) rfl fun fr b1 w2 n3 r => ?_
  have hP : Post No [cellC b1 ((stateC a0)).toArray 30] w0 w2 := hP.new n3
  refine seq_val (.int .u64 0) r (fun R => y_assign r rfl) rfl fun fr r => ?_
  refine wpList_nil ?_
  refine wp_seq ?_
  refine wp_seq ?_
  refine wp_region_lit ?_
  refine seq_val (.agg (stateC a0).toArray) r (fun R => y_load_agg r (cs := (stateC a0)) (n := 3) rfl (hP.cell (i := 0) rfl) ta30 rfl) rfl fun fr r => ?_
  refine seq_call r (c_state_State_Formed w2 a0) (fun R hc => y_call r rfl cl74 hc) rfl ?_
  rintro _ w5 ⟨rfl, hb⟩
  refine ⟨_, rfl, fun fr r => ?_⟩
  have hP : Post No [cellC b1 ((stateC a0)).toArray 30] w0 w5 := hP.below hb
  refine seq_val (.bool (!(D.state_State_Formed a0))) r (fun R => y_un r (u := (.bool (D.state_State_Formed a0))) rfl rfl) rfl fun fr r => ?_
  refine wpList_nil ?_
  refine wp_cond_split (t := (!(D.state_State_Formed a0))) (r.ev rfl) (fun h6 => ?_) (fun h6 => ?_)
  · skip
    have hD := (cond_t h6).symm.trans hD
    refine wp_seq ?_
    refine wp_region_lit ?_
    refine seq_val (.int .u64 0) r (fun R => y_assign r rfl) rfl fun fr r => ?_
    refine wpList_nil ?_
    refine wp_ret ?_
    have hv : 0 = res := Option.some.inj hD
    try dsimp only [Exit.then, Exit.inBlock]
    refine ret_tmp (fn := Tryz.f29) r (t := 2) rfl (v := (.int .u64 0)) rfl ?_
    subst hv
    exact ⟨rfl, hP.chg.below⟩
  · skip
    have hD := (cond_f h6).symm.trans hD
    refine wp_skip ?_
    refine wp_seq ?_
    refine wp_region_lit ?_
    obtain ⟨x7, hx7, hD⟩ := bindD_elim hD
    refine seq_call r (c_state_layout w5  hx7) (fun R hc => y_call r rfl cl75 hc) rfl ?_
    rintro _ w8 ⟨rfl, hb⟩
    refine ⟨_, rfl, fun fr r => ?_⟩
    have hP : Post No [cellC b1 ((stateC a0)).toArray 30] w0 w8 := hP.below hb
    refine seq_new (.cells ((arr3FC (⟨(⟨0, 0⟩ : Field), (⟨0, 0⟩ : Field), (⟨0, 0⟩ : Field)⟩ : Arr3F))).toArray 134 (0, 0)) r (fun R => y_alloc tz134) rfl fun fr b9 w10 n11 r => ?_
    have hP : Post No [cellC b1 ((stateC a0)).toArray 30, cellC b9 ((arr3FC (⟨(⟨0, 0⟩ : Field), (⟨0, 0⟩ : Field), (⟨0, 0⟩ : Field)⟩ : Arr3F))).toArray 134] w0 w10 := hP.new n11
    refine seq_upd (.cells ((arr3FC x7)).toArray 134 (0, 0)) r (fun R => y_store r (o := 0) (v := (.agg (arr3FC x7).toArray)) rfl rfl (hP.cell (i := 1) rfl) ts134 (Nat.le_of_ble_eq_true rfl) rfl rfl) rfl fun fr w13 u14 r => ?_
    have hP : Post No [cellC b1 ((stateC a0)).toArray 30, cellC b9 ((arr3FC x7)).toArray 134] w0 w13 := hP.upd (i := 1) rfl u14
    refine wpList_nil ?_
    refine wp_seq ?_
    obtain ⟨x17, hx17, hD⟩ := bindD_elim hD
    refine wp_freeF [.val (.slice (some ⟨b9, 0, none⟩) 3 3), .val (.pointer (some ⟨b1, 0, none⟩)), .val (.int .i64 a0.gen), .val (.int .u64 (IntKind.u64.wrap a0.gen)), .val (.pointer (some ⟨b1, 1, none⟩)), .val (.int .i64 a0.mode), .val (.int .u64 (IntKind.u64.wrap a0.mode)), .val (.pointer (some ⟨b1, 2, none⟩)), .val (.int .i64 a0.kind), .val (.int .u64 (IntKind.u64.wrap a0.kind)), .pred (MkP (fun v : Value => v) (fun v : Value => [rowK 34 1 u64 v ([(IntKind.u64.wrap a0.gen), (IntKind.u64.wrap a0.mode), (IntKind.u64.wrap a0.kind)])])) (MkP.st _ _), .val (.tuple #[(.int .u64 x17.1), (.int .i64 x17.2)]), .val (.tuple #[(.int .u64 x17.1), (.int .i64 x17.2)]), .val (.int .u64 x17.1), .val (.int .i64 x17.2), .val (.int .u64 x17.1), .val (.int .i64 x17.2)] mixed r (by kernel_rfl) ?_ ?_
    · skip
      refine eachF_cons r rfl (fun fr1 g w' hb' hd r' => ?_) ?_
      · exact y_arr r' ar134 rfl ⟨Below.refl _ _, rfl⟩
      refine eachF_cons r rfl (fun fr1 g w' hb' hd r' => ?_) ?_
      · exact y_fieldAddr r' (b := b1) (o := 0) (k := 0) rfl fo30_0 ⟨Below.refl _ _, rfl⟩
      refine eachF_cons r rfl (fun fr1 g w' hb' hd r' => ?_) ?_
      · exact y_load_one r' (v := (.int .i64 a0.gen)) (hd 1 rfl).1 ((hP.below (dr hb')).cell (i := 0) rfl) to3 rfl ⟨Below.refl _ _, rfl⟩
      refine eachF_cons r rfl (fun fr1 g w' hb' hd r' => ?_) ?_
      · exact y_convert r' (n := a0.gen) (hd 2 rfl).1 ti3 ti34 ⟨Below.refl _ _, rfl⟩
      refine eachF_cons r rfl (fun fr1 g w' hb' hd r' => ?_) ?_
      · exact y_fieldAddr r' (b := b1) (o := 0) (k := 1) rfl fo30_1 ⟨Below.refl _ _, rfl⟩
      refine eachF_cons r rfl (fun fr1 g w' hb' hd r' => ?_) ?_
      · exact y_load_one r' (v := (.int .i64 a0.mode)) (hd 4 rfl).1 ((hP.below (dr hb')).cell (i := 0) rfl) to3 rfl ⟨Below.refl _ _, rfl⟩
      refine eachF_cons r rfl (fun fr1 g w' hb' hd r' => ?_) ?_
      · exact y_convert r' (n := a0.mode) (hd 5 rfl).1 ti3 ti34 ⟨Below.refl _ _, rfl⟩
      refine eachF_cons r rfl (fun fr1 g w' hb' hd r' => ?_) ?_
      · exact y_fieldAddr r' (b := b1) (o := 0) (k := 2) rfl fo30_2 ⟨Below.refl _ _, rfl⟩
      refine eachF_cons r rfl (fun fr1 g w' hb' hd r' => ?_) ?_
      · exact y_load_one r' (v := (.int .i64 a0.kind)) (hd 7 rfl).1 ((hP.below (dr hb')).cell (i := 0) rfl) to3 rfl ⟨Below.refl _ _, rfl⟩
      refine eachF_cons r rfl (fun fr1 g w' hb' hd r' => ?_) ?_
      · exact y_convert r' (n := a0.kind) (hd 8 rfl).1 ti3 ti34 ⟨Below.refl _ _, rfl⟩
      refine eachF_cons r rfl (fun fr1 g w' hb' hd r' => ?_) ?_
      · exact y_bslice r' (c := (([(IntKind.u64.wrap a0.gen), (IntKind.u64.wrap a0.mode), (IntKind.u64.wrap a0.kind)]).flatMap u64).toArray) (E := 34) (bs3 (congrArg (fun z => (0, z)) (hd 3 rfl).1) (congrArg (fun z => (1, z)) (hd 6 rfl).1) (congrArg (fun z => (2, z)) (hd 9 rfl).1) (by kernel_rfl)) (fun b w2 n2 => ⟨n2.below, MkP.newRow n2 (fun _ => rfl) rfl⟩)
      refine eachF_cons r rfl (fun fr1 g w' hb' hd r' => ?_) ?_
      · exact y_call r' (args := [(.slice (some ⟨b9, 0, none⟩) 3 3), (g 10).v]) (lc (hd 0 rfl).1 (lc rfl l0)) cl76 ((c_field_Pack _ ([x7.f0, x7.f1, x7.f2]) (RoAt.ofCell ((hP.below (dr hb')).cell (i := 1) rfl) rfl (List.cons_ne_nil _ _) rfl) ([(IntKind.u64.wrap a0.gen), (IntKind.u64.wrap a0.mode), (IntKind.u64.wrap a0.kind)]) (MkP.row (hd 10 rfl).1) hx17).mono (by rintro _ w2 ⟨rfl, hb2⟩; exact ⟨_, rfl, hb2, rfl⟩))
      refine eachF_cons r rfl (fun fr1 g w' hb' hd r' => ?_) ?_
      · exact y_move r' (v := (.tuple #[(.int .u64 x17.1), (.int .i64 x17.2)])) (hd 11 rfl).1 ⟨Below.refl _ _, rfl⟩
      refine eachF_cons r rfl (fun fr1 g w' hb' hd r' => ?_) ?_
      · exact y_extract r' (vs := #[(.int .u64 x17.1), (.int .i64 x17.2)]) (hd 12 rfl).1 rfl ⟨Below.refl _ _, rfl⟩
      refine eachF_cons r rfl (fun fr1 g w' hb' hd r' => ?_) ?_
      · exact y_extract r' (vs := #[(.int .u64 x17.1), (.int .i64 x17.2)]) (hd 12 rfl).1 rfl ⟨Below.refl _ _, rfl⟩
      refine eachF_cons r rfl (fun fr1 g w' hb' hd r' => ?_) ?_
      · exact y_assign r' (v := (.int .u64 x17.1)) (hd 13 rfl).1 ⟨Below.refl _ _, rfl⟩
      refine eachF_cons r rfl (fun fr1 g w' hb' hd r' => ?_) ?_
      · exact y_assign r' (v := (.int .i64 x17.2)) (hd 14 rfl).1 ⟨Below.refl _ _, rfl⟩
      exact eachF_nil
    · skip
      intro fr gg w18 hb hΦ hap r
      have g0 : (gg 0).v = (.slice (some ⟨b9, 0, none⟩) 3 3) := (hΦ 0 rfl).1
      have g1 : (gg 1).v = (.pointer (some ⟨b1, 0, none⟩)) := (hΦ 1 rfl).1
      have g2 : (gg 2).v = (.int .i64 a0.gen) := (hΦ 2 rfl).1
      have g3 : (gg 3).v = (.int .u64 (IntKind.u64.wrap a0.gen)) := (hΦ 3 rfl).1
      have g4 : (gg 4).v = (.pointer (some ⟨b1, 1, none⟩)) := (hΦ 4 rfl).1
      have g5 : (gg 5).v = (.int .i64 a0.mode) := (hΦ 5 rfl).1
      have g6 : (gg 6).v = (.int .u64 (IntKind.u64.wrap a0.mode)) := (hΦ 6 rfl).1
      have g7 : (gg 7).v = (.pointer (some ⟨b1, 2, none⟩)) := (hΦ 7 rfl).1
      have g8 : (gg 8).v = (.int .i64 a0.kind) := (hΦ 8 rfl).1
      have g9 : (gg 9).v = (.int .u64 (IntKind.u64.wrap a0.kind)) := (hΦ 9 rfl).1
      obtain ⟨v15, g10, hs10⟩ := (hΦ 10 rfl).1
      have g11 : (gg 11).v = (.tuple #[(.int .u64 x17.1), (.int .i64 x17.2)]) := (hΦ 11 rfl).1
      have g12 : (gg 12).v = (.tuple #[(.int .u64 x17.1), (.int .i64 x17.2)]) := (hΦ 12 rfl).1
      have g13 : (gg 13).v = (.int .u64 x17.1) := (hΦ 13 rfl).1
      have g14 : (gg 14).v = (.int .i64 x17.2) := (hΦ 14 rfl).1
      have g15 : (gg 15).v = (.int .u64 x17.1) := (hΦ 15 rfl).1
      have g16 : (gg 16).v = (.int .i64 x17.2) := (hΦ 16 rfl).1
      have r := r.congr (sc g16 (sc g15 (sc g14 (sc g13 (sc g12 (sc g11 (sc g10 (sc g9 (sc g8 (sc g7 (sc g6 (sc g5 (sc g4 (sc g3 (sc g2 (sc g1 (sc g0 rfl)))))))))))))))))
      have hP : Post No [cellC b1 ((stateC a0)).toArray 30, cellC b9 ((arr3FC x7)).toArray 134, rowK 34 1 u64 v15 ([(IntKind.u64.wrap a0.gen), (IntKind.u64.wrap a0.mode), (IntKind.u64.wrap a0.kind)])] w0 w18 := hP.addL (l := [([rowK 34 1 u64 v15 ([(IntKind.u64.wrap a0.gen), (IntKind.u64.wrap a0.mode), (IntKind.u64.wrap a0.kind)])], (gg 10).lo, (gg 10).hi)]) hb ⟨hs10, (hΦ 10 rfl).2.1, disj_nil, trivial⟩
      refine wp_seq ?_
      refine wp_region_lit ?_
      refine seq_val (.int .u64 x17.1) r (fun R => y_move r rfl) rfl fun fr r => ?_
      refine seq_val (.int .u64 x17.1) r (fun R => y_assign r rfl) rfl fun fr r => ?_
      refine wpList_nil ?_
      refine wp_ret ?_
      have hv : x17.1 = res := Option.some.inj hD
      try dsimp only [Exit.then, Exit.inBlock]
      refine ret_tmp (fn := Tryz.f29) r (t := 2) rfl (v := (.int .u64 x17.1)) rfl ?_
      subst hv
      exact ⟨rfl, hP.chg.below⟩

def D.field_Split (fu : Nat) (a0 : List Field) (a1 : Int) : Option (List Int × Int) := ((D.field_Formed fu a0).bind (fun (x1 : Bool) => (bif (!x1) then (some ([], 1)) else (loopThen (fun (x6 : List Int × Int × Int) => (bif (decide (x6.2.2 < (a0.length : Int))) then ((getI a0 x6.2.2).bind (fun (x11 : Field) => ((appD x6.1 ([(D.field_Field_Get x11 a1)])).bind (fun (x23 : List Int) => (some (Lp.next (x23, (bits_andNot .u64 x6.2.1 (D.field_Field_mask x11)), (IntKind.i64.wrap (x6.2.2 + 1))))))))) else (some (Lp.brk (x6.1, x6.2.1, x6.2.2))))) fu ([], a1, 0) (fun (x28 : List Int × Int × Int) => (bif (x28.2.1 != 0) then (some ([], 10)) else (some (x28.1, 0))))))))

set_option maxRecDepth 20000 in
set_option maxHeartbeats 2000000 in
theorem c_field_Split {fu : Nat} (w0 : World) {a0_v : Value} (a0 : List Field) (a0_h : RoAt 123 2 fieldC a0_v a0 w0) (a1 : Int) {res : List Int × Int} (hD : D.field_Split fu a0 a1 = some res) :
    Calls Tryz.prog 132 #[a0_v, .int .u64 a1] w0 (fun e w' => ∃ (v0 : Value), e = .returned (.tuple #[v0, (.int .i64 res.2)]) ∧ Done No No [rowK 34 1 u64 v0 res.1] w0 w') := by
  refine enter (l := [a0_v, .int .u64 a1]) Tryz.func132 rfl 34 rfl rfl fun fr r => ?_
  have hP : Post No [] w0 w0 := Post.nil w0
  have hP : Post No [roK 123 2 fieldC a0_v a0] w0 w0 := hP.addRo norw_nil a0_h rfl a0_h.lt
  unfold D.field_Split at hD
  refine wp_seq ?_
  refine wp_region_lit ?_
  refine seq_val (Value.slice none 0 0) r (fun R => y_assign r rfl) rfl fun fr r => ?_
  refine seq_val (.int .i64 0) r (fun R => y_assign r rfl) rfl fun fr r => ?_
  refine wpList_nil ?_
  refine wp_seq ?_
  refine wp_seq ?_
  refine wp_region_lit ?_
  refine seq_val a0_v r (fun R => y_move r rfl) rfl fun fr r => ?_
  obtain ⟨x1, hx1, hD⟩ := bindD_elim hD
  refine seq_call r (c_field_Formed w0 a0 (hP.ro (i := 0) rfl) hx1) (fun R hc => y_call r rfl cl122 hc) rfl ?_
  rintro _ w2 ⟨rfl, hb⟩
  refine ⟨_, rfl, fun fr r => ?_⟩
  have hP : Post No [roK 123 2 fieldC a0_v a0] w0 w2 := hP.below hb
  refine seq_val (.bool (!x1)) r (fun R => y_un r (u := (.bool x1)) rfl rfl) rfl fun fr r => ?_
  refine wpList_nil ?_
  refine wp_cond_split (t := (!x1)) (r.ev rfl) (fun h3 => ?_) (fun h3 => ?_)
  · skip
    have hD := (cond_t h3).symm.trans hD
    refine wp_seq ?_
    refine wp_region_lit ?_
    refine seq_val (Value.slice none 0 0) r (fun R => y_assign r rfl) rfl fun fr r => ?_
    refine seq_val (.int .i64 1) r (fun R => y_assign r rfl) rfl fun fr r => ?_
    refine wpList_nil ?_
    refine wp_ret ?_
    have hP : Post No [roK 123 2 fieldC a0_v a0, rowK 34 1 u64 (Value.slice none 0 0) ([])] w0 w2 := hP.nilRow 34 1 u64
    have hv : ([], 1) = res := Option.some.inj hD
    try dsimp only [Exit.then, Exit.inBlock]
    refine ret_tmp2 (fn := Tryz.f132) r (t := 4) (t' := 5) rfl (v := (Value.slice none 0 0)) (v' := (.int .i64 1)) rfl rfl ?_
    subst hv
    exact ⟨(Value.slice none 0 0), rfl, (hP.pick [1] rfl rfl).done (rest_cons rfl rest_nil)⟩
  · skip
    have hD := (cond_f h3).symm.trans hD
    refine wp_skip ?_
    refine wp_seq ?_
    refine wp_region_lit ?_
    refine seq_val (Value.slice none 0 0) r (fun R => y_assign r rfl) rfl fun fr r => ?_
    refine wpList_nil ?_
    refine wp_seq ?_
    refine wp_region_lit ?_
    refine seq_val (.int .u64 a1) r (fun R => y_move r rfl) rfl fun fr r => ?_
    refine seq_val (.int .u64 a1) r (fun R => y_assign r rfl) rfl fun fr r => ?_
    refine wpList_nil ?_
    refine wp_seq ?_
    refine wp_seq ?_
    refine wp_region_lit ?_
    refine seq_val a0_v r (fun R => y_move r rfl) rfl fun fr r => ?_
    refine seq_val (.int .i64 (a0.length : Int)) r (fun R => y_rowLen r (hP.ro (i := 0) rfl) is138 rfl) rfl fun fr r => ?_
    refine seq_val (.int .i64 0) r (fun R => y_move r rfl) rfl fun fr r => ?_
    refine wpList_nil ?_
    have hP : Post No [roK 123 2 fieldC a0_v a0, rowK 34 1 u64 (Value.slice none 0 0) ([])] w0 w2 := hP.nilRow 34 1 u64
    refine wp_loopG (X := List Int × Int × Int) (G := Value) (x0 := ([], a1, 0)) (fun x γ => [(0, a0_v), (1, (.int .u64 a1)), (4, (Value.slice none 0 0)), (5, (.int .i64 0)), (12, (.bool (!x1))), (14, a0_v), (15, (.int .i64 (a0.length : Int))), (6, γ), (7, (.int .u64 x.2.1)), (16, (.int .i64 x.2.2))]) (fun x γ w => Post No [roK 123 2 fieldC a0_v a0, rowK 34 1 u64 γ x.1] w0 w) (Value.slice none 0 0) r (hs_cons rfl (hs_cons rfl (hs_cons rfl (hs_cons rfl (hs_cons rfl (hs_cons rfl (hs_cons rfl (hs_cons rfl (hs_cons rfl (hs_cons rfl hs_nil)))))))))) hP hD ?_ ?_
    · skip
      rintro x6 γ7 fr w9 g y8 RPy8 nxy8 bky8 rty8 r hP hD
      have hP : Post No [roK 123 2 fieldC a0_v a0, rowK 34 1 u64 γ7 x6.1] w0 w9 := hP
      refine wp_seq ?_
      refine wp_region_lit ?_
      refine seq_val (.bool (decide (x6.2.2 < (a0.length : Int)))) r (fun R => y_bin r (u := (.int .i64 x6.2.2)) (u' := (.int .i64 (a0.length : Int))) rfl rfl rfl rfl) rfl fun fr r => ?_
      refine wpList_nil ?_
      refine wp_seq ?_
      refine wp_cond_split (t := (decide (x6.2.2 < (a0.length : Int)))) (r.ev rfl) (fun h10 => ?_) (fun h10 => ?_)
      · skip
        have hD := (cond_t h10).symm.trans hD
        refine wp_skip ?_
        refine wp_seq ?_
        refine wp_block ?_
        refine wp_seq ?_
        refine wp_region_lit ?_
        obtain ⟨x11, hx11, hD⟩ := bindD_elim hD
        refine seq_val (.pointer (some ⟨rowB a0_v, rowO a0_v + x6.2.2.toNat * 2, none⟩)) r (fun R => y_rowAddr r (hP.ro (i := 0) rfl) hx11 sl138 rfl rfl) rfl fun fr r => ?_
        refine seq_val (.agg (fieldC x11).toArray) r (fun R => y_loadL_agg r (cs := (fieldC x11)) (RoAt.at_ (f := fieldC) (x := x11) (hP.ro (i := 0) rfl) (fun _ => rfl) hx11) rfl ta123) rfl fun fr r => ?_
        refine seq_new (.cells ((fieldC (⟨0, 0⟩ : Field))).toArray 123 (0, 0)) r (fun R => y_alloc tz123) rfl fun fr b12 w13 n14 r => ?_
        have hP : Post No [roK 123 2 fieldC a0_v a0, rowK 34 1 u64 γ7 x6.1, cellC b12 ((fieldC (⟨0, 0⟩ : Field))).toArray 123] w0 w13 := hP.new n14
        refine seq_upd (.cells ((fieldC x11)).toArray 123 (0, 0)) r (fun R => y_store r (o := 0) (v := (.agg (fieldC x11).toArray)) rfl rfl (hP.cell (i := 2) rfl) ts123 (Nat.le_of_ble_eq_true rfl) rfl rfl) rfl fun fr w16 u17 r => ?_
        have hP : Post No [roK 123 2 fieldC a0_v a0, rowK 34 1 u64 γ7 x6.1, cellC b12 ((fieldC x11)).toArray 123] w0 w16 := hP.upd (i := 2) rfl u17
        refine wpList_nil ?_
        refine wp_seq ?_
        refine wp_region_lit ?_
        refine seq_val γ7 r (fun R => y_move r rfl) rfl fun fr r => ?_
        refine seq_val (.agg (fieldC x11).toArray) r (fun R => y_load_agg r (cs := (fieldC x11)) (n := 2) rfl (hP.cell (i := 2) rfl) ta123 rfl) rfl fun fr r => ?_
        refine seq_val (.int .u64 a1) r (fun R => y_move r rfl) rfl fun fr r => ?_
        refine seq_call r (c_field_Field_Get w16 x11 a1) (fun R hc => y_call r rfl cl67 hc) rfl ?_
        rintro _ w18 ⟨rfl, hb⟩
        refine ⟨_, rfl, fun fr r => ?_⟩
        have hP : Post No [roK 123 2 fieldC a0_v a0, rowK 34 1 u64 γ7 x6.1, cellC b12 ((fieldC x11)).toArray 123] w0 w18 := hP.below hb
        refine seq_newS (.cells (([(D.field_Field_Get x11 a1)]).flatMap u64).toArray 34 (0, 0)) 1 r (fun R => y_bslice r (by kernel_rfl)) rfl fun fr b19 w20 n21 r => ?_
        have hP : Post No [roK 123 2 fieldC a0_v a0, rowK 34 1 u64 γ7 x6.1, cellC b12 ((fieldC x11)).toArray 123, rowK 34 1 u64 (.slice (some ⟨b19, 0, none⟩) 1 1) ([(D.field_Field_Get x11 a1)])] w0 w20 := hP.newRow n21 (fun _ => rfl) rfl
        obtain ⟨x23, hx23, hD⟩ := bindD_elim hD
        refine seq_app 34 1 u64 γ7 r (fun R => y_append r rt112 (fun _ => rfl) (fun _ => rfl) (hP.row (i := 1) rfl) (hP.row (i := 3) rfl).ro hx23 rfl rfl) rfl fun fr v24 w25 ha26 r => ?_
        have hP : Post No [roK 123 2 fieldC a0_v a0, rowK 34 1 u64 v24 x23, cellC b12 ((fieldC x11)).toArray 123, rowK 34 1 u64 (.slice (some ⟨b19, 0, none⟩) 1 1) ([(D.field_Field_Get x11 a1)])] w0 w25 := hP.append (i := 1) rfl ha26
        refine seq_val v24 r (fun R => y_assign r rfl) rfl fun fr r => ?_
        refine wpList_nil ?_
        refine wp_region_lit ?_
        refine seq_val (.int .u64 x6.2.1) r (fun R => y_move r rfl) rfl fun fr r => ?_
        refine seq_val (.agg (fieldC x11).toArray) r (fun R => y_load_agg r (cs := (fieldC x11)) (n := 2) rfl (hP.cell (i := 2) rfl) ta123 rfl) rfl fun fr r => ?_
        refine seq_call r (c_field_Field_mask w25 x11) (fun R hc => y_call r rfl cl149 hc) rfl ?_
        rintro _ w27 ⟨rfl, hb⟩
        refine ⟨_, rfl, fun fr r => ?_⟩
        have hP : Post No [roK 123 2 fieldC a0_v a0, rowK 34 1 u64 v24 x23, cellC b12 ((fieldC x11)).toArray 123, rowK 34 1 u64 (.slice (some ⟨b19, 0, none⟩) 1 1) ([(D.field_Field_Get x11 a1)])] w0 w27 := hP.below hb
        refine seq_val (.int .u64 (bits_andNot .u64 x6.2.1 (D.field_Field_mask x11))) r (fun R => y_bin r (u := (.int .u64 x6.2.1)) (u' := (.int .u64 (D.field_Field_mask x11))) rfl rfl rfl rfl) rfl fun fr r => ?_
        refine seq_val (.int .u64 (bits_andNot .u64 x6.2.1 (D.field_Field_mask x11))) r (fun R => y_assign r rfl) rfl fun fr r => ?_
        refine wpList_nil ?_
        refine wp_region_lit ?_
        refine seq_val (.int .i64 (IntKind.i64.wrap (x6.2.2 + 1))) r (fun R => y_bin r (u := (.int .i64 x6.2.2)) (u' := (.int .i64 1)) rfl rfl rfl rfl) rfl fun fr r => ?_
        refine seq_val (.int .i64 (IntKind.i64.wrap (x6.2.2 + 1))) r (fun R => y_move r rfl) rfl fun fr r => ?_
        refine wpList_nil ?_
        exact nxy8 (x23, (bits_andNot .u64 x6.2.1 (D.field_Field_mask x11)), (IntKind.i64.wrap (x6.2.2 + 1))) v24 _ _ _ hD r (hs_cons rfl (hs_cons rfl (hs_cons rfl (hs_cons rfl (hs_cons rfl (hs_cons rfl (hs_cons rfl (hs_cons rfl (hs_cons rfl (hs_cons rfl hs_nil)))))))))) (hP.pick [0, 1] rfl rfl)
      · skip
        have hD := (cond_f h10).symm.trans hD
        refine wp_exit ?_
        exact bky8 (x6.1, x6.2.1, x6.2.2) γ7 _ _ _ hD r (hs_cons rfl (hs_cons rfl (hs_cons rfl (hs_cons rfl (hs_cons rfl (hs_cons rfl (hs_cons rfl (hs_cons rfl (hs_cons rfl (hs_cons rfl hs_nil)))))))))) (hP.pick [0, 1] rfl rfl)
    · skip
      rintro x28 γ29 fr w30 g r hP hD
      have hP : Post No [roK 123 2 fieldC a0_v a0, rowK 34 1 u64 γ29 x28.1] w0 w30 := hP
      refine wp_seq ?_
      refine wp_seq ?_
      refine wp_region_lit ?_
      refine seq_val (.int .u64 x28.2.1) r (fun R => y_move r rfl) rfl fun fr r => ?_
      refine seq_val (.bool (x28.2.1 != 0)) r (fun R => y_bin r (u := (.int .u64 x28.2.1)) (u' := (.int .u64 0)) rfl rfl rfl rfl) rfl fun fr r => ?_
      refine wpList_nil ?_
      refine wp_cond_split (t := (x28.2.1 != 0)) (r.ev rfl) (fun h31 => ?_) (fun h31 => ?_)
      · skip
        have hD := (cond_t h31).symm.trans hD
        refine wp_seq ?_
        refine wp_region_lit ?_
        refine seq_val (Value.slice none 0 0) r (fun R => y_assign r rfl) rfl fun fr r => ?_
        refine seq_val (.int .i64 10) r (fun R => y_assign r rfl) rfl fun fr r => ?_
        refine wpList_nil ?_
        refine wp_ret ?_
        have hP : Post No [roK 123 2 fieldC a0_v a0, rowK 34 1 u64 γ29 x28.1, rowK 34 1 u64 (Value.slice none 0 0) ([])] w0 w30 := hP.nilRow 34 1 u64
        have hv : ([], 10) = res := Option.some.inj hD
        try dsimp only [Exit.then, Exit.inBlock]
        refine ret_tmp2 (fn := Tryz.f132) r (t := 4) (t' := 5) rfl (v := (Value.slice none 0 0)) (v' := (.int .i64 10)) rfl rfl ?_
        subst hv
        exact ⟨(Value.slice none 0 0), rfl, (hP.pick [2] rfl rfl).done (rest_cons rfl rest_nil)⟩
      · skip
        have hD := (cond_f h31).symm.trans hD
        refine wp_skip ?_
        refine wp_seq ?_
        refine wp_region_lit ?_
        refine seq_val γ29 r (fun R => y_move r rfl) rfl fun fr r => ?_
        refine seq_val γ29 r (fun R => y_assign r rfl) rfl fun fr r => ?_
        refine seq_val (.int .i64 0) r (fun R => y_assign r rfl) rfl fun fr r => ?_
        refine wpList_nil ?_
        refine wp_ret ?_
        have hv : (x28.1, 0) = res := Option.some.inj hD
        try dsimp only [Exit.then, Exit.inBlock]
        refine ret_tmp2 (fn := Tryz.f132) r (t := 4) (t' := 5) rfl (v := γ29) (v' := (.int .i64 0)) rfl rfl ?_
        subst hv
        exact ⟨γ29, rfl, (hP.pick [1] rfl rfl).done (rest_cons rfl rest_nil)⟩

def D.state_Of (fu : Nat) (a0 : Int) : Option (State × Bool) := ((D.state_layout fu ).bind (fun (x5 : Arr3F) => ((D.field_Split fu ([x5.f0, x5.f1, x5.f2]) a0).bind (fun (x13 : List Int × Int) => (bif (x13.2 != 0) then (some ((⟨0, 0, 0⟩ : State), false)) else ((getI x13.1 0).bind (fun (x20 : Int) => ((getI x13.1 1).bind (fun (x21 : Int) => ((getI x13.1 2).bind (fun (x22 : Int) => (bif (!(D.state_State_Formed (⟨(IntKind.i64.wrap x20), (IntKind.i64.wrap x21), (IntKind.i64.wrap x22)⟩ : State))) then (some ((⟨0, 0, 0⟩ : State), false)) else (some ((⟨(IntKind.i64.wrap x20), (IntKind.i64.wrap x21), (IntKind.i64.wrap x22)⟩ : State), true))))))))))))))

set_option maxRecDepth 20000 in
set_option maxHeartbeats 2000000 in
theorem c_state_Of {fu : Nat} (w0 : World) (a0 : Int) {res : State × Bool} (hD : D.state_Of fu a0 = some res) :
    Calls Tryz.prog 88 #[.int .u64 a0] w0 (PureRes (.tuple #[(.agg (stateC res.1).toArray), (.bool res.2)]) w0) := by
  refine enter (l := [.int .u64 a0]) Tryz.func88 rfl 36 rfl rfl fun fr r => ?_
  have hP : Post No [] w0 w0 := Post.nil w0
  unfold D.state_Of at hD
  refine wp_seq ?_
  refine wp_region_lit ?_
  refine seq_new (.cells ((stateC (⟨0, 0, 0⟩ : State))).toArray 30 (0, 0)) r (fun R => y_alloc tz30) rfl fun fr b1 w2 n3 r => ?_
  have hP : Post No [cellC b1 ((stateC (⟨0, 0, 0⟩ : State))).toArray 30] w0 w2 := hP.new n3
  refine seq_val (.bool false) r (fun R => y_assign r rfl) rfl fun fr r => ?_
  refine wpList_nil ?_
  refine wp_seq ?_
  refine wp_region_lit ?_
  obtain ⟨x5, hx5, hD⟩ := bindD_elim hD
  refine seq_call r (c_state_layout w2  hx5) (fun R hc => y_call r rfl cl75 hc) rfl ?_
  rintro _ w6 ⟨rfl, hb⟩
  refine ⟨_, rfl, fun fr r => ?_⟩
  have hP : Post No [cellC b1 ((stateC (⟨0, 0, 0⟩ : State))).toArray 30] w0 w6 := hP.below hb
  refine seq_new (.cells ((arr3FC (⟨(⟨0, 0⟩ : Field), (⟨0, 0⟩ : Field), (⟨0, 0⟩ : Field)⟩ : Arr3F))).toArray 134 (0, 0)) r (fun R => y_alloc tz134) rfl fun fr b7 w8 n9 r => ?_
  have hP : Post No [cellC b1 ((stateC (⟨0, 0, 0⟩ : State))).toArray 30, cellC b7 ((arr3FC (⟨(⟨0, 0⟩ : Field), (⟨0, 0⟩ : Field), (⟨0, 0⟩ : Field)⟩ : Arr3F))).toArray 134] w0 w8 := hP.new n9
  refine seq_upd (.cells ((arr3FC x5)).toArray 134 (0, 0)) r (fun R => y_store r (o := 0) (v := (.agg (arr3FC x5).toArray)) rfl rfl (hP.cell (i := 1) rfl) ts134 (Nat.le_of_ble_eq_true rfl) rfl rfl) rfl fun fr w11 u12 r => ?_
  have hP : Post No [cellC b1 ((stateC (⟨0, 0, 0⟩ : State))).toArray 30, cellC b7 ((arr3FC x5)).toArray 134] w0 w11 := hP.upd (i := 1) rfl u12
  refine wpList_nil ?_
  refine wp_seq ?_
  refine wp_region_lit ?_
  refine seq_val (.slice (some ⟨b7, 0, none⟩) 3 3) r (fun R => y_arr r ar134 rfl) rfl fun fr r => ?_
  refine seq_val (.int .u64 a0) r (fun R => y_move r rfl) rfl fun fr r => ?_
  obtain ⟨x13, hx13, hD⟩ := bindD_elim hD
  refine seq_call r (c_field_Split w11 ([x5.f0, x5.f1, x5.f2]) (RoAt.ofCell (hP.cell (i := 1) rfl) rfl (List.cons_ne_nil _ _) rfl) a0 hx13) (fun R hc => y_call r rfl cl132 hc) rfl ?_
  rintro _ w14 ⟨v15, rfl, hq⟩
  refine ⟨_, rfl, fun fr r => ?_⟩
  have hP : Post No [cellC b1 ((stateC (⟨0, 0, 0⟩ : State))).toArray 30, cellC b7 ((arr3FC x5)).toArray 134, rowK 34 1 u64 v15 x13.1] w0 w14 := hP.add hq
  refine seq_val (.tuple #[v15, (.int .i64 x13.2)]) r (fun R => y_move r rfl) rfl fun fr r => ?_
  refine seq_val v15 r (fun R => y_extract r (vs := #[v15, (.int .i64 x13.2)]) rfl rfl) rfl fun fr r => ?_
  refine seq_val (.int .i64 x13.2) r (fun R => y_extract r (vs := #[v15, (.int .i64 x13.2)]) rfl rfl) rfl fun fr r => ?_
  refine seq_val v15 r (fun R => y_assign r rfl) rfl fun fr r => ?_
  refine seq_val (.int .i64 x13.2) r (fun R => y_assign r rfl) rfl fun fr r => ?_
  refine wpList_nil ?_
  refine wp_seq ?_
  refine wp_seq ?_
  refine wp_region_lit ?_
  refine seq_val (.int .i64 x13.2) r (fun R => y_move r rfl) rfl fun fr r => ?_
  refine seq_val (.bool (x13.2 != 0)) r (fun R => y_bin r (u := (.int .i64 x13.2)) (u' := (.int .i64 0)) rfl rfl rfl rfl) rfl fun fr r => ?_
  refine wpList_nil ?_
  refine wp_cond_split (t := (x13.2 != 0)) (r.ev rfl) (fun h17 => ?_) (fun h17 => ?_)
  · skip
    have hD := (cond_t h17).symm.trans hD
    refine wp_seq ?_
    refine wp_region_lit ?_
    refine seq_val (.agg (stateC (⟨0, 0, 0⟩ : State)).toArray) r (fun R => y_build r (by kernel_rfl)) rfl fun fr r => ?_
    refine seq_upd (.cells ((stateC (⟨0, 0, 0⟩ : State))).toArray 30 (0, 0)) r (fun R => y_store r (o := 0) (v := (.agg (stateC (⟨0, 0, 0⟩ : State)).toArray)) rfl rfl (hP.cell (i := 0) rfl) ts30 (Nat.le_of_ble_eq_true rfl) rfl rfl) rfl fun fr w18 u19 r => ?_
    have hP : Post No [cellC b1 ((stateC (⟨0, 0, 0⟩ : State))).toArray 30, cellC b7 ((arr3FC x5)).toArray 134, rowK 34 1 u64 v15 x13.1] w0 w18 := hP.upd (i := 0) rfl u19
    refine seq_val (.bool false) r (fun R => y_assign r rfl) rfl fun fr r => ?_
    refine wpList_nil ?_
    refine wp_ret ?_
    have hv : ((⟨0, 0, 0⟩ : State), false) = res := Option.some.inj hD
    try dsimp only [Exit.then, Exit.inBlock]
    refine ret_cell_tmp (fn := Tryz.f88) r rfl rfl (v' := (.bool false)) rfl (hP.cell (i := 0) rfl) (k := 3) rfl ta30 ?_
    subst hv
    exact ⟨rfl, hP.chg.below⟩
  · skip
    have hD := (cond_f h17).symm.trans hD
    refine wp_skip ?_
    refine wp_seq ?_
    obtain ⟨x20, hx20, hD⟩ := bindD_elim hD
    obtain ⟨x21, hx21, hD⟩ := bindD_elim hD
    obtain ⟨x22, hx22, hD⟩ := bindD_elim hD
    refine wp_freeF [.val v15, .val (.pointer (some ⟨rowB v15, rowO v15 + (0 : Int).toNat * 1, none⟩)), .val (.int .u64 x20), .val (.int .i64 (IntKind.i64.wrap x20)), .val v15, .val (.pointer (some ⟨rowB v15, rowO v15 + (1 : Int).toNat * 1, none⟩)), .val (.int .u64 x21), .val (.int .i64 (IntKind.i64.wrap x21)), .val v15, .val (.pointer (some ⟨rowB v15, rowO v15 + (2 : Int).toNat * 1, none⟩)), .val (.int .u64 x22), .val (.int .i64 (IntKind.i64.wrap x22)), .val (.agg (stateC (⟨(IntKind.i64.wrap x20), (IntKind.i64.wrap x21), (IntKind.i64.wrap x22)⟩ : State)).toArray), .cell 30 3, .stored 13 ((stateC (⟨(IntKind.i64.wrap x20), (IntKind.i64.wrap x21), (IntKind.i64.wrap x22)⟩ : State))).toArray 30 3 rfl] mixed r (by kernel_rfl) ?_ ?_
    · skip
      refine eachF_cons r rfl (fun fr1 g w' hb' hd r' => ?_) ?_
      · exact y_move r' (v := v15) rfl ⟨Below.refl _ _, rfl⟩
      refine eachF_cons r rfl (fun fr1 g w' hb' hd r' => ?_) ?_
      · exact y_rowAddr r' ((hP.below (dr hb')).row (i := 2) rfl).ro hx20 sl112 (hd 0 rfl).1 rfl ⟨Below.refl _ _, rfl⟩
      refine eachF_cons r rfl (fun fr1 g w' hb' hd r' => ?_) ?_
      · exact y_loadL_one r' (u := (.int .u64 x20)) (RoAt.at_ (f := u64) (x := x20) ((hP.below (dr hb')).row (i := 2) rfl).ro (fun _ => rfl) hx20) (hd 1 rfl).1 to34 ⟨Below.refl _ _, rfl⟩
      refine eachF_cons r rfl (fun fr1 g w' hb' hd r' => ?_) ?_
      · exact y_convert r' (n := x20) (hd 2 rfl).1 ti34 ti3 ⟨Below.refl _ _, rfl⟩
      refine eachF_cons r rfl (fun fr1 g w' hb' hd r' => ?_) ?_
      · exact y_move r' (v := v15) rfl ⟨Below.refl _ _, rfl⟩
      refine eachF_cons r rfl (fun fr1 g w' hb' hd r' => ?_) ?_
      · exact y_rowAddr r' ((hP.below (dr hb')).row (i := 2) rfl).ro hx21 sl112 (hd 4 rfl).1 rfl ⟨Below.refl _ _, rfl⟩
      refine eachF_cons r rfl (fun fr1 g w' hb' hd r' => ?_) ?_
      · exact y_loadL_one r' (u := (.int .u64 x21)) (RoAt.at_ (f := u64) (x := x21) ((hP.below (dr hb')).row (i := 2) rfl).ro (fun _ => rfl) hx21) (hd 5 rfl).1 to34 ⟨Below.refl _ _, rfl⟩
      refine eachF_cons r rfl (fun fr1 g w' hb' hd r' => ?_) ?_
      · exact y_convert r' (n := x21) (hd 6 rfl).1 ti34 ti3 ⟨Below.refl _ _, rfl⟩
      refine eachF_cons r rfl (fun fr1 g w' hb' hd r' => ?_) ?_
      · exact y_move r' (v := v15) rfl ⟨Below.refl _ _, rfl⟩
      refine eachF_cons r rfl (fun fr1 g w' hb' hd r' => ?_) ?_
      · exact y_rowAddr r' ((hP.below (dr hb')).row (i := 2) rfl).ro hx22 sl112 (hd 8 rfl).1 rfl ⟨Below.refl _ _, rfl⟩
      refine eachF_cons r rfl (fun fr1 g w' hb' hd r' => ?_) ?_
      · exact y_loadL_one r' (u := (.int .u64 x22)) (RoAt.at_ (f := u64) (x := x22) ((hP.below (dr hb')).row (i := 2) rfl).ro (fun _ => rfl) hx22) (hd 9 rfl).1 to34 ⟨Below.refl _ _, rfl⟩
      refine eachF_cons r rfl (fun fr1 g w' hb' hd r' => ?_) ?_
      · exact y_convert r' (n := x22) (hd 10 rfl).1 ti34 ti3 ⟨Below.refl _ _, rfl⟩
      refine eachF_cons r rfl (fun fr1 g w' hb' hd r' => ?_) ?_
      · exact y_build r' (v := (.agg (stateC (⟨(IntKind.i64.wrap x20), (IntKind.i64.wrap x21), (IntKind.i64.wrap x22)⟩ : State)).toArray)) (bs3 (congrArg (fun z => (0, z)) (hd 3 rfl).1) (congrArg (fun z => (1, z)) (hd 7 rfl).1) (congrArg (fun z => (2, z)) (hd 11 rfl).1) (by kernel_rfl)) ⟨Below.refl _ _, rfl⟩
      refine eachF_cons r rfl (fun fr1 g w' hb' hd r' => ?_) ?_
      · exact y_alloc tz30 (fun b w2 n2 => ⟨n2.below, b, rfl, n2.eq, _, n2.at_, rfl⟩)
      refine eachF_cons r rfl (fun fr1 g w' hb' hd r' => ?_) ?_
      · obtain ⟨hp, _, c, hc, hn⟩ := (hd 13 rfl).1; exact y_store r' (o := 0) (c := c) (v := (.agg (stateC (⟨(IntKind.i64.wrap x20), (IntKind.i64.wrap x21), (IntKind.i64.wrap x22)⟩ : State)).toArray)) hp (hd 12 rfl).1 hc ts30 (by rw [hn]; exact Nat.le_of_ble_eq_true rfl) rfl (over2_full (hn.trans rfl)) (fun w2 u2 => ⟨u2, rfl⟩)
      exact eachF_nil
    · skip
      intro fr gg w24 hb hΦ hap r
      have g0 : (gg 0).v = v15 := (hΦ 0 rfl).1
      have g1 : (gg 1).v = (.pointer (some ⟨rowB v15, rowO v15 + (0 : Int).toNat * 1, none⟩)) := (hΦ 1 rfl).1
      have g2 : (gg 2).v = (.int .u64 x20) := (hΦ 2 rfl).1
      have g3 : (gg 3).v = (.int .i64 (IntKind.i64.wrap x20)) := (hΦ 3 rfl).1
      have g4 : (gg 4).v = v15 := (hΦ 4 rfl).1
      have g5 : (gg 5).v = (.pointer (some ⟨rowB v15, rowO v15 + (1 : Int).toNat * 1, none⟩)) := (hΦ 5 rfl).1
      have g6 : (gg 6).v = (.int .u64 x21) := (hΦ 6 rfl).1
      have g7 : (gg 7).v = (.int .i64 (IntKind.i64.wrap x21)) := (hΦ 7 rfl).1
      have g8 : (gg 8).v = v15 := (hΦ 8 rfl).1
      have g9 : (gg 9).v = (.pointer (some ⟨rowB v15, rowO v15 + (2 : Int).toNat * 1, none⟩)) := (hΦ 9 rfl).1
      have g10 : (gg 10).v = (.int .u64 x22) := (hΦ 10 rfl).1
      have g11 : (gg 11).v = (.int .i64 (IntKind.i64.wrap x22)) := (hΦ 11 rfl).1
      have g12 : (gg 12).v = (.agg (stateC (⟨(IntKind.i64.wrap x20), (IntKind.i64.wrap x21), (IntKind.i64.wrap x22)⟩ : State)).toArray) := (hΦ 12 rfl).1
      obtain ⟨b23, ee_b23⟩ : ∃ b, b = (gg 13).lo := ⟨_, rfl⟩
      have g13 : (gg 13).v = (.pointer (some ⟨b23, 0, none⟩)) := by rw [ee_b23]; exact (hΦ 13 rfl).1.1
      have h_b23 : w24.heap[b23]? = some (.cells ((stateC (⟨(IntKind.i64.wrap x20), (IntKind.i64.wrap x21), (IntKind.i64.wrap x22)⟩ : State))).toArray 30 (0, 0)) := by rw [ee_b23]; exact (hΦ 14 rfl).1.2
      have hs13 : Fresh [cellC b23 ((stateC (⟨(IntKind.i64.wrap x20), (IntKind.i64.wrap x21), (IntKind.i64.wrap x22)⟩ : State))).toArray 30] (gg 13).lo (gg 13).hi w24 := by subst ee_b23; exact Fresh.cell (hΦ 13 rfl).1.2.1 h_b23
      have r := r.congr (sc g13 (sc g12 (sc g11 (sc g10 (sc g9 (sc g8 (sc g7 (sc g6 (sc g5 (sc g4 (sc g3 (sc g2 (sc g1 (sc g0 rfl))))))))))))))
      have hP : Post No [cellC b1 ((stateC (⟨0, 0, 0⟩ : State))).toArray 30, cellC b7 ((arr3FC x5)).toArray 134, rowK 34 1 u64 v15 x13.1, cellC b23 ((stateC (⟨(IntKind.i64.wrap x20), (IntKind.i64.wrap x21), (IntKind.i64.wrap x22)⟩ : State))).toArray 30] w0 w24 := hP.addL (l := [([cellC b23 ((stateC (⟨(IntKind.i64.wrap x20), (IntKind.i64.wrap x21), (IntKind.i64.wrap x22)⟩ : State))).toArray 30], (gg 13).lo, (gg 13).hi)]) hb ⟨hs13, (hΦ 13 rfl).2.1, disj_nil, trivial⟩
      refine wp_seq ?_
      refine wp_seq ?_
      refine wp_region_lit ?_
      refine seq_val (.agg (stateC (⟨(IntKind.i64.wrap x20), (IntKind.i64.wrap x21), (IntKind.i64.wrap x22)⟩ : State)).toArray) r (fun R => y_load_agg r (cs := (stateC (⟨(IntKind.i64.wrap x20), (IntKind.i64.wrap x21), (IntKind.i64.wrap x22)⟩ : State))) (n := 3) rfl (hP.cell (i := 3) rfl) ta30 rfl) rfl fun fr r => ?_
      refine seq_call r (c_state_State_Formed w24 (⟨(IntKind.i64.wrap x20), (IntKind.i64.wrap x21), (IntKind.i64.wrap x22)⟩ : State)) (fun R hc => y_call r rfl cl74 hc) rfl ?_
      rintro _ w25 ⟨rfl, hb⟩
      refine ⟨_, rfl, fun fr r => ?_⟩
      have hP : Post No [cellC b1 ((stateC (⟨0, 0, 0⟩ : State))).toArray 30, cellC b7 ((arr3FC x5)).toArray 134, rowK 34 1 u64 v15 x13.1, cellC b23 ((stateC (⟨(IntKind.i64.wrap x20), (IntKind.i64.wrap x21), (IntKind.i64.wrap x22)⟩ : State))).toArray 30] w0 w25 := hP.below hb
      refine seq_val (.bool (!(D.state_State_Formed (⟨(IntKind.i64.wrap x20), (IntKind.i64.wrap x21), (IntKind.i64.wrap x22)⟩ : State)))) r (fun R => y_un r (u := (.bool (D.state_State_Formed (⟨(IntKind.i64.wrap x20), (IntKind.i64.wrap x21), (IntKind.i64.wrap x22)⟩ : State)))) rfl rfl) rfl fun fr r => ?_
      refine wpList_nil ?_
      refine wp_cond_split (t := (!(D.state_State_Formed (⟨(IntKind.i64.wrap x20), (IntKind.i64.wrap x21), (IntKind.i64.wrap x22)⟩ : State)))) (r.ev rfl) (fun h26 => ?_) (fun h26 => ?_)
      · skip
        have hD := (cond_t h26).symm.trans hD
        refine wp_seq ?_
        refine wp_region_lit ?_
        refine seq_val (.agg (stateC (⟨0, 0, 0⟩ : State)).toArray) r (fun R => y_build r (by kernel_rfl)) rfl fun fr r => ?_
        refine seq_upd (.cells ((stateC (⟨0, 0, 0⟩ : State))).toArray 30 (0, 0)) r (fun R => y_store r (o := 0) (v := (.agg (stateC (⟨0, 0, 0⟩ : State)).toArray)) rfl rfl (hP.cell (i := 0) rfl) ts30 (Nat.le_of_ble_eq_true rfl) rfl rfl) rfl fun fr w27 u28 r => ?_
        have hP : Post No [cellC b1 ((stateC (⟨0, 0, 0⟩ : State))).toArray 30, cellC b7 ((arr3FC x5)).toArray 134, rowK 34 1 u64 v15 x13.1, cellC b23 ((stateC (⟨(IntKind.i64.wrap x20), (IntKind.i64.wrap x21), (IntKind.i64.wrap x22)⟩ : State))).toArray 30] w0 w27 := hP.upd (i := 0) rfl u28
        refine seq_val (.bool false) r (fun R => y_assign r rfl) rfl fun fr r => ?_
        refine wpList_nil ?_
        refine wp_ret ?_
        have hv : ((⟨0, 0, 0⟩ : State), false) = res := Option.some.inj hD
        try dsimp only [Exit.then, Exit.inBlock]
        refine ret_cell_tmp (fn := Tryz.f88) r rfl rfl (v' := (.bool false)) rfl (hP.cell (i := 0) rfl) (k := 3) rfl ta30 ?_
        subst hv
        exact ⟨rfl, hP.chg.below⟩
      · skip
        have hD := (cond_f h26).symm.trans hD
        refine wp_skip ?_
        refine wp_seq ?_
        refine wp_region_lit ?_
        refine seq_val (.agg (stateC (⟨(IntKind.i64.wrap x20), (IntKind.i64.wrap x21), (IntKind.i64.wrap x22)⟩ : State)).toArray) r (fun R => y_load_agg r (cs := (stateC (⟨(IntKind.i64.wrap x20), (IntKind.i64.wrap x21), (IntKind.i64.wrap x22)⟩ : State))) (n := 3) rfl (hP.cell (i := 3) rfl) ta30 rfl) rfl fun fr r => ?_
        refine seq_upd (.cells ((stateC (⟨(IntKind.i64.wrap x20), (IntKind.i64.wrap x21), (IntKind.i64.wrap x22)⟩ : State))).toArray 30 (0, 0)) r (fun R => y_store r (o := 0) (v := (.agg (stateC (⟨(IntKind.i64.wrap x20), (IntKind.i64.wrap x21), (IntKind.i64.wrap x22)⟩ : State)).toArray)) rfl rfl (hP.cell (i := 0) rfl) ts30 (Nat.le_of_ble_eq_true rfl) rfl rfl) rfl fun fr w29 u30 r => ?_
        have hP : Post No [cellC b1 ((stateC (⟨(IntKind.i64.wrap x20), (IntKind.i64.wrap x21), (IntKind.i64.wrap x22)⟩ : State))).toArray 30, cellC b7 ((arr3FC x5)).toArray 134, rowK 34 1 u64 v15 x13.1, cellC b23 ((stateC (⟨(IntKind.i64.wrap x20), (IntKind.i64.wrap x21), (IntKind.i64.wrap x22)⟩ : State))).toArray 30] w0 w29 := hP.upd (i := 0) rfl u30
        refine seq_val (.bool true) r (fun R => y_assign r rfl) rfl fun fr r => ?_
        refine wpList_nil ?_
        refine wp_ret ?_
        have hv : ((⟨(IntKind.i64.wrap x20), (IntKind.i64.wrap x21), (IntKind.i64.wrap x22)⟩ : State), true) = res := Option.some.inj hD
        try dsimp only [Exit.then, Exit.inBlock]
        refine ret_cell_tmp (fn := Tryz.f88) r rfl rfl (v' := (.bool true)) rfl (hP.cell (i := 0) rfl) (k := 3) rfl ta30 ?_
        subst hv
        exact ⟨rfl, hP.chg.below⟩

end Go.Proofs.YtphnnjiaiemkcaaGreat.St
