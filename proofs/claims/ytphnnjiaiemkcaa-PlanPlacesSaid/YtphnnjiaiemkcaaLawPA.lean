/- Written by a program of ours (wip/gen.py): a law -/
import Derived.Test.YtphnnjiaiemkcaaRowP
set_option linter.unusedVariables false
namespace Go.Proofs.Ytphnnjiaiemkcaa.Wk
open Go.RowKit
theorem cl18 : callable Try.prog 18 = true := by kernel_rfl
theorem cl23 : callable Try.prog 23 = true := by kernel_rfl
theorem cl32 : callable Try.prog 32 = true := by kernel_rfl
theorem cl33 : callable Try.prog 33 = true := by kernel_rfl
theorem cl34 : callable Try.prog 34 = true := by kernel_rfl
theorem is36 : isSlice Try.prog 36 = true := by kernel_rfl
theorem sl36 : sliceTy Try.prog 36 1 = true := by kernel_rfl

def D.cubiclelaw06_PlanAll (fu : Nat) (a0 : Plan) : Option (Bool) := (Option.bind (bif (!D.cubiclelaw06_awake) then (some true) else (bif (!(D.cubicleref06_Few a0)) then (some true) else (some (!(D.cubicleref06_Formed a0))))) (fun (x11 : Bool) => (bif x11 then (some D.cubiclelaw06_awake) else ((D.cubicleref06_Words fu a0).bind (fun (x16 : List WordP) => (loopThen (fun (x20 : Bool × Int) => (bif (decide (x20.2 < (x16.length : Int))) then ((getI x16 x20.2).bind (fun (x25 : WordP) => (bif ((D.cubiclelaw06_told a0 x25) != x20.2) then (some (Lp.ret false)) else (some (Lp.next (x20.1, (IntKind.i64.wrap (x20.2 + 1)))))))) else (some (Lp.brk (x20.1, x20.2))))) fu (false, 0) (fun (x28 : Bool × Int) => (loopThen (fun (x31 : Bool × Int) => (bif (decide (x31.2 < a0.nodes)) then ((D.plan_Plan_Words fu a0 x31.2).bind (fun (x36 : List Int) => (Option.bind (bif ((x36.length : Int) != 3) then (some true) else ((getI x36 0).bind (fun (x43 : Int) => (bif (x43 != (D.plan_Plan_Field a0 x31.2 0)) then (some true) else ((getI x36 1).bind (fun (x46 : Int) => (bif (x46 != (D.plan_Plan_Field a0 x31.2 1)) then (some true) else ((getI x36 2).bind (fun (x49 : Int) => (some (x49 != (D.plan_Plan_Field a0 x31.2 2)))))))))))) (fun (x51 : Bool) => (bif x51 then (some (Lp.ret false)) else (some (Lp.next (x31.1, (IntKind.i64.wrap (x31.2 + 1)))))))))) else (some (Lp.brk (x31.1, x31.2))))) fu (x28.1, 0) (fun (x55 : Bool × Int) => (Option.bind ((D.plan_Plan_Words fu a0 a0.nodes).bind (fun (x59 : List Int) => (bif ((x59.length : Int) == 0) then ((D.plan_Plan_Words fu a0 (-1)).bind (fun (x64 : List Int) => (some ((x64.length : Int) == 0)))) else (some false)))) (fun (x68 : Bool) => (some x68))))))))))))

set_option maxRecDepth 20000 in
set_option maxHeartbeats 2000000 in
theorem c_cubiclelaw06_PlanAll {fu : Nat} (w0 : World) (a0 : Plan) {res : Bool} (hD : D.cubiclelaw06_PlanAll fu a0 = some res) :
    Calls Try.prog 6 #[.agg (planC a0).toArray] w0 (PureRes (.bool res) w0) := by
  refine enter (l := [.agg (planC a0).toArray]) Try.func6 rfl 87 rfl rfl fun fr r => ?_
  have hP : Post No [] w0 w0 := Post.nil w0
  unfold D.cubiclelaw06_PlanAll at hD
  refine wp_seq ?_
  refine wp_region_lit ?_
  refine seq_new (.cells ((planC a0)).toArray 24 (0, 0)) r (fun R => y_box r (v := (.agg (planC a0).toArray)) rfl) rfl fun fr b1 w2 n3 r => ?_
  have hP : Post No [cellC b1 ((planC a0)).toArray 24] w0 w2 := hP.new n3
  refine seq_val (.bool false) r (fun R => y_assign r rfl) rfl fun fr r => ?_
  refine wpList_nil ?_
  refine wp_seq ?_
  refine wp_seq ?_
  refine wp_joinG (N := 87) (Y := Bool) (G := Unit) (fun x γ => [(0, (.agg (planC a0).toArray)), (1, (.pointer (some ⟨b1, 0, none⟩))), (2, (.bool false)), (18, (.bool x))]) (fun x γ w => Post No [cellC b1 ((planC a0)).toArray 24] w0 w) hD ?_ ?_
  · skip
    rintro y5 RPy5 nxy5 hD
    refine wp_region_lit ?_
    refine seq_call r (c_cubiclelaw06_awake w2 ) (fun R hc => y_call r rfl cl18 hc) rfl ?_
    rintro _ w6 ⟨rfl, hb⟩
    refine ⟨_, rfl, fun fr r => ?_⟩
    have hP : Post No [cellC b1 ((planC a0)).toArray 24] w0 w6 := hP.below hb
    refine seq_val (.bool (!D.cubiclelaw06_awake)) r (fun R => y_un r (u := (.bool D.cubiclelaw06_awake)) rfl rfl) rfl fun fr r => ?_
    refine seq_val (.bool (!D.cubiclelaw06_awake)) r (fun R => y_move r rfl) rfl fun fr r => ?_
    refine seq_split (!D.cubiclelaw06_awake) (fun h7 => ?_) (fun h7 => ?_)
    · skip
      have hD := (cond_t h7).symm.trans hD
      refine seq_skip r rfl rfl rfl (v := .bool true) (congrArg Value.bool h7) (by simp [boolOf]) fun fr r => ?_
      refine seq_skip r rfl rfl rfl (v := .bool true) (congrArg Value.bool h7) (by simp [boolOf]) fun fr r => ?_
      refine seq_skip r rfl rfl rfl (v := .bool true) (congrArg Value.bool h7) (by simp [boolOf]) fun fr r => ?_
      refine seq_val (.bool true) r (fun R => y_pick r (b := true) (congrArg Value.bool h7) rfl) rfl fun fr r => ?_
      refine seq_val (.bool true) r (fun R => y_move r rfl) rfl fun fr r => ?_
      refine seq_skip r rfl rfl rfl (v := .bool true) (congrArg Value.bool (rfl : true = _)) (by simp [boolOf]) fun fr r => ?_
      refine seq_skip r rfl rfl rfl (v := .bool true) (congrArg Value.bool (rfl : true = _)) (by simp [boolOf]) fun fr r => ?_
      refine seq_skip r rfl rfl rfl (v := .bool true) (congrArg Value.bool (rfl : true = _)) (by simp [boolOf]) fun fr r => ?_
      refine seq_val (.bool true) r (fun R => y_pick r (b := true) (congrArg Value.bool (rfl : true = _)) rfl) rfl fun fr r => ?_
      refine wpList_nil ?_
      exact nxy5 true () _ _ _ hD r (hs_cons rfl (hs_cons rfl (hs_cons rfl (hs_cons rfl hs_nil)))) (hP.pick [0] rfl rfl)
    · skip
      have hD := (cond_f h7).symm.trans hD
      refine seq_want r rfl rfl rfl (congrArg Value.bool h7) ?_
      refine seq_val (.agg (planC a0).toArray) r (fun R => y_load_agg r (cs := (planC a0)) (n := 6) rfl (hP.cell (i := 0) rfl) ta24 rfl) rfl fun fr r => ?_
      refine seq_want r rfl rfl rfl (congrArg Value.bool h7) ?_
      refine seq_call r (c_cubicleref06_Few w6 a0) (fun R hc => y_call r rfl cl23 hc) rfl ?_
      rintro _ w8 ⟨rfl, hb⟩
      refine ⟨_, rfl, fun fr r => ?_⟩
      have hP : Post No [cellC b1 ((planC a0)).toArray 24] w0 w8 := hP.below hb
      refine seq_want r rfl rfl rfl (congrArg Value.bool h7) ?_
      refine seq_val (.bool (!(D.cubicleref06_Few a0))) r (fun R => y_un r (u := (.bool (D.cubicleref06_Few a0))) rfl rfl) rfl fun fr r => ?_
      refine seq_val (.bool (!(D.cubicleref06_Few a0))) r (fun R => y_pick r (b := false) (congrArg Value.bool h7) rfl) rfl fun fr r => ?_
      refine seq_val (.bool (!(D.cubicleref06_Few a0))) r (fun R => y_move r rfl) rfl fun fr r => ?_
      refine seq_split (!(D.cubicleref06_Few a0)) (fun h9 => ?_) (fun h9 => ?_)
      · skip
        have hD := (cond_t h9).symm.trans hD
        refine seq_skip r rfl rfl rfl (v := .bool true) (congrArg Value.bool h9) (by simp [boolOf]) fun fr r => ?_
        refine seq_skip r rfl rfl rfl (v := .bool true) (congrArg Value.bool h9) (by simp [boolOf]) fun fr r => ?_
        refine seq_skip r rfl rfl rfl (v := .bool true) (congrArg Value.bool h9) (by simp [boolOf]) fun fr r => ?_
        refine seq_val (.bool true) r (fun R => y_pick r (b := true) (congrArg Value.bool h9) rfl) rfl fun fr r => ?_
        refine wpList_nil ?_
        exact nxy5 true () _ _ _ hD r (hs_cons rfl (hs_cons rfl (hs_cons rfl (hs_cons rfl hs_nil)))) (hP.pick [0] rfl rfl)
      · skip
        have hD := (cond_f h9).symm.trans hD
        refine seq_want r rfl rfl rfl (congrArg Value.bool h9) ?_
        refine seq_val (.agg (planC a0).toArray) r (fun R => y_load_agg r (cs := (planC a0)) (n := 6) rfl (hP.cell (i := 0) rfl) ta24 rfl) rfl fun fr r => ?_
        refine seq_want r rfl rfl rfl (congrArg Value.bool h9) ?_
        refine seq_call r (c_cubicleref06_Formed w8 a0) (fun R hc => y_call r rfl cl24 hc) rfl ?_
        rintro _ w10 ⟨rfl, hb⟩
        refine ⟨_, rfl, fun fr r => ?_⟩
        have hP : Post No [cellC b1 ((planC a0)).toArray 24] w0 w10 := hP.below hb
        refine seq_want r rfl rfl rfl (congrArg Value.bool h9) ?_
        refine seq_val (.bool (!(D.cubicleref06_Formed a0))) r (fun R => y_un r (u := (.bool (D.cubicleref06_Formed a0))) rfl rfl) rfl fun fr r => ?_
        refine seq_val (.bool (!(D.cubicleref06_Formed a0))) r (fun R => y_pick r (b := false) (congrArg Value.bool h9) rfl) rfl fun fr r => ?_
        refine wpList_nil ?_
        exact nxy5 (!(D.cubicleref06_Formed a0)) () _ _ _ hD r (hs_cons rfl (hs_cons rfl (hs_cons rfl (hs_cons rfl hs_nil)))) (hP.pick [0] rfl rfl)
  · skip
    rintro x11 γ12 fr w13 g r hP hD
    have hP : Post No [cellC b1 ((planC a0)).toArray 24] w0 w13 := hP
    refine wp_cond_split (t := x11) (r.ev rfl) (fun h14 => ?_) (fun h14 => ?_)
    · skip
      have hD := (cond_t h14).symm.trans hD
      refine wp_seq ?_
      refine wp_region_lit ?_
      refine seq_call r (c_cubiclelaw06_awake w13 ) (fun R hc => y_call r rfl cl18 hc) rfl ?_
      rintro _ w15 ⟨rfl, hb⟩
      refine ⟨_, rfl, fun fr r => ?_⟩
      have hP : Post No [cellC b1 ((planC a0)).toArray 24] w0 w15 := hP.below hb
      refine seq_val (.bool D.cubiclelaw06_awake) r (fun R => y_assign r rfl) rfl fun fr r => ?_
      refine wpList_nil ?_
      refine wp_ret ?_
      have hv : D.cubiclelaw06_awake = res := Option.some.inj hD
      try dsimp only [Exit.then, Exit.inBlock]
      refine ret_tmp (fn := Try.f6) r (t := 2) rfl (v := (.bool D.cubiclelaw06_awake)) rfl ?_
      subst hv
      exact ⟨rfl, hP.chg.below⟩
    · skip
      have hD := (cond_f h14).symm.trans hD
      refine wp_skip ?_
      refine wp_seq ?_
      refine wp_region_lit ?_
      refine seq_val (.agg (planC a0).toArray) r (fun R => y_load_agg r (cs := (planC a0)) (n := 6) rfl (hP.cell (i := 0) rfl) ta24 rfl) rfl fun fr r => ?_
      obtain ⟨x16, hx16, hD⟩ := bindD_elim hD
      refine seq_call r (c_cubicleref06_Words w13 a0 hx16) (fun R hc => y_call r rfl cl32 hc) rfl ?_
      rintro _ w17 ⟨v18, rfl, hq⟩
      refine ⟨_, rfl, fun fr r => ?_⟩
      have hP : Post No [cellC b1 ((planC a0)).toArray 24, rowK 35 3 wordPC v18 x16] w0 w17 := hP.add hq
      refine seq_val v18 r (fun R => y_assign r rfl) rfl fun fr r => ?_
      refine wpList_nil ?_
      refine wp_seq ?_
      refine wp_seq ?_
      refine wp_region_lit ?_
      refine seq_val (.int .i64 0) r (fun R => y_assign r rfl) rfl fun fr r => ?_
      refine wpList_nil ?_
      refine wp_loopG (X := Bool × Int) (G := Unit) (x0 := (false, 0)) (fun x γ => [(0, (.agg (planC a0).toArray)), (1, (.pointer (some ⟨b1, 0, none⟩))), (18, (.bool x11)), (3, v18), (2, (.bool x.1)), (4, (.int .i64 x.2))]) (fun x γ w => Post No [cellC b1 ((planC a0)).toArray 24, rowK 35 3 wordPC v18 x16] w0 w) () r (hs_cons rfl (hs_cons rfl (hs_cons rfl (hs_cons rfl (hs_cons rfl (hs_cons rfl hs_nil)))))) hP hD ?_ ?_
      · skip
        rintro x20 γ21 fr w23 g y22 RPy22 nxy22 bky22 rty22 r hP hD
        have hP : Post No [cellC b1 ((planC a0)).toArray 24, rowK 35 3 wordPC v18 x16] w0 w23 := hP
        refine wp_seq ?_
        refine wp_seq ?_
        refine wp_region_lit ?_
        refine seq_val (.int .i64 x20.2) r (fun R => y_move r rfl) rfl fun fr r => ?_
        refine seq_val v18 r (fun R => y_move r rfl) rfl fun fr r => ?_
        refine seq_val (.int .i64 (x16.length : Int)) r (fun R => y_rowLen r (hP.row (i := 1) rfl) is31 rfl) rfl fun fr r => ?_
        refine seq_val (.bool (decide (x20.2 < (x16.length : Int)))) r (fun R => y_bin r (u := (.int .i64 x20.2)) (u' := (.int .i64 (x16.length : Int))) rfl rfl rfl rfl) rfl fun fr r => ?_
        refine wpList_nil ?_
        refine wp_cond_split (t := (decide (x20.2 < (x16.length : Int)))) (r.ev rfl) (fun h24 => ?_) (fun h24 => ?_)
        · skip
          have hD := (cond_t h24).symm.trans hD
          refine wp_skip ?_
          refine wp_seq ?_
          refine wp_block ?_
          refine wp_seq ?_
          obtain ⟨x25, hx25, hD⟩ := bindD_elim hD
          refine wp_freeF [.val (.agg (planC a0).toArray), .val v18, .val (.int .i64 x20.2), .val (.pointer (some ⟨rowB v18, rowO v18 + x20.2.toNat * 3, none⟩)), .val (.agg (wordPC x25).toArray), .val (.int .i64 (D.cubiclelaw06_told a0 x25)), .val (.int .i64 x20.2), .val (.bool ((D.cubiclelaw06_told a0 x25) != x20.2))] mixed r (by kernel_rfl) ?_ ?_
          · skip
            refine eachF_cons r rfl (fun fr1 g w' hb' hd r' => ?_) ?_
            · exact y_load_agg r' (cs := (planC a0)) (n := 6) rfl ((hP.below (dr hb')).cell (i := 0) rfl) ta24 rfl ⟨Below.refl _ _, rfl⟩
            refine eachF_cons r rfl (fun fr1 g w' hb' hd r' => ?_) ?_
            · exact y_move r' (v := v18) rfl ⟨Below.refl _ _, rfl⟩
            refine eachF_cons r rfl (fun fr1 g w' hb' hd r' => ?_) ?_
            · exact y_move r' (v := (.int .i64 x20.2)) rfl ⟨Below.refl _ _, rfl⟩
            refine eachF_cons r rfl (fun fr1 g w' hb' hd r' => ?_) ?_
            · exact y_rowAddr r' ((hP.below (dr hb')).row (i := 1) rfl) hx25 sl31 (hd 1 rfl).1 (hd 2 rfl).1 ⟨Below.refl _ _, rfl⟩
            refine eachF_cons r rfl (fun fr1 g w' hb' hd r' => ?_) ?_
            · exact y_loadL_agg r' (cs := (wordPC x25)) (RowAt.at_ (f := wordPC) (x := x25) ((hP.below (dr hb')).row (i := 1) rfl) (fun _ => rfl) hx25) (hd 3 rfl).1 ta35 ⟨Below.refl _ _, rfl⟩
            refine eachF_cons r rfl (fun fr1 g w' hb' hd r' => ?_) ?_
            · exact y_call r' (args := [(.agg (planC a0).toArray), (.agg (wordPC x25).toArray)]) (lc (hd 0 rfl).1 (lc (hd 4 rfl).1 l0)) cl33 ((c_cubiclelaw06_told _ a0 x25).mono (by rintro _ w2 ⟨rfl, hb2⟩; exact ⟨_, rfl, hb2, rfl⟩))
            refine eachF_cons r rfl (fun fr1 g w' hb' hd r' => ?_) ?_
            · exact y_move r' (v := (.int .i64 x20.2)) rfl ⟨Below.refl _ _, rfl⟩
            refine eachF_cons r rfl (fun fr1 g w' hb' hd r' => ?_) ?_
            · exact y_bin r' (u := (.int .i64 (D.cubiclelaw06_told a0 x25))) (u' := (.int .i64 x20.2)) (v := (.bool ((D.cubiclelaw06_told a0 x25) != x20.2))) (hd 5 rfl).1 (hd 6 rfl).1 rfl rfl ⟨Below.refl _ _, rfl⟩
            exact eachF_nil
          · skip
            intro fr gg w26 hb hΦ hap r
            have g0 : (gg 0).v = (.agg (planC a0).toArray) := (hΦ 0 rfl).1
            have g1 : (gg 1).v = v18 := (hΦ 1 rfl).1
            have g2 : (gg 2).v = (.int .i64 x20.2) := (hΦ 2 rfl).1
            have g3 : (gg 3).v = (.pointer (some ⟨rowB v18, rowO v18 + x20.2.toNat * 3, none⟩)) := (hΦ 3 rfl).1
            have g4 : (gg 4).v = (.agg (wordPC x25).toArray) := (hΦ 4 rfl).1
            have g5 : (gg 5).v = (.int .i64 (D.cubiclelaw06_told a0 x25)) := (hΦ 5 rfl).1
            have g6 : (gg 6).v = (.int .i64 x20.2) := (hΦ 6 rfl).1
            have g7 : (gg 7).v = (.bool ((D.cubiclelaw06_told a0 x25) != x20.2)) := (hΦ 7 rfl).1
            have r := r.congr (sc g7 (sc g6 (sc g5 (sc g4 (sc g3 (sc g2 (sc g1 (sc g0 rfl))))))))
            have hP : Post No [cellC b1 ((planC a0)).toArray 24, rowK 35 3 wordPC v18 x16] w0 w26 := hP.below hb
            refine wp_cond_split (t := ((D.cubiclelaw06_told a0 x25) != x20.2)) (r.ev rfl) (fun h27 => ?_) (fun h27 => ?_)
            · skip
              have hD := (cond_t h27).symm.trans hD
              refine wp_seq ?_
              refine wp_region_lit ?_
              refine seq_val (.bool false) r (fun R => y_assign r rfl) rfl fun fr r => ?_
              refine wpList_nil ?_
              refine wp_ret ?_
              refine rty22 false _ _ hD fun hD => ?_
              have hv : false = res := Option.some.inj hD
              try dsimp only [Exit.then, Exit.inBlock]
              refine ret_tmp (fn := Try.f6) r (t := 2) rfl (v := (.bool false)) rfl ?_
              subst hv
              exact ⟨rfl, hP.chg.below⟩
            · skip
              have hD := (cond_f h27).symm.trans hD
              refine wp_skip ?_
              refine wp_region_lit ?_
              refine seq_val (.int .i64 x20.2) r (fun R => y_move r rfl) rfl fun fr r => ?_
              refine seq_val (.int .i64 (IntKind.i64.wrap (x20.2 + 1))) r (fun R => y_bin r (u := (.int .i64 x20.2)) (u' := (.int .i64 1)) rfl rfl rfl rfl) rfl fun fr r => ?_
              refine seq_val (.int .i64 (IntKind.i64.wrap (x20.2 + 1))) r (fun R => y_assign r rfl) rfl fun fr r => ?_
              refine wpList_nil ?_
              exact nxy22 (x20.1, (IntKind.i64.wrap (x20.2 + 1))) () _ _ _ hD r (hs_cons rfl (hs_cons rfl (hs_cons rfl (hs_cons rfl (hs_cons rfl (hs_cons rfl hs_nil)))))) (hP.pick [0, 1] rfl rfl)
        · skip
          have hD := (cond_f h24).symm.trans hD
          refine wp_exit ?_
          exact bky22 (x20.1, x20.2) () _ _ _ hD r (hs_cons rfl (hs_cons rfl (hs_cons rfl (hs_cons rfl (hs_cons rfl (hs_cons rfl hs_nil)))))) (hP.pick [0, 1] rfl rfl)
      · skip
        rintro x28 γ29 fr w30 g r hP hD
        have hP : Post No [cellC b1 ((planC a0)).toArray 24, rowK 35 3 wordPC v18 x16] w0 w30 := hP
        refine wp_seq ?_
        refine wp_seq ?_
        refine wp_region_lit ?_
        refine seq_val (.int .i64 0) r (fun R => y_assign r rfl) rfl fun fr r => ?_
        refine wpList_nil ?_
        refine wp_loopG (X := Bool × Int) (G := Unit) (x0 := (x28.1, 0)) (fun x γ => [(0, (.agg (planC a0).toArray)), (1, (.pointer (some ⟨b1, 0, none⟩))), (18, (.bool x11)), (3, v18), (4, (.int .i64 x28.2)), (2, (.bool x.1)), (5, (.int .i64 x.2))]) (fun x γ w => Post No [cellC b1 ((planC a0)).toArray 24, rowK 35 3 wordPC v18 x16] w0 w) () r (hs_cons rfl (hs_cons rfl (hs_cons rfl (hs_cons rfl (hs_cons rfl (hs_cons rfl (hs_cons rfl hs_nil))))))) hP hD ?_ ?_
        · skip
          rintro x31 γ32 fr w34 g y33 RPy33 nxy33 bky33 rty33 r hP hD
          have hP : Post No [cellC b1 ((planC a0)).toArray 24, rowK 35 3 wordPC v18 x16] w0 w34 := hP
          refine wp_seq ?_
          refine wp_seq ?_
          refine wp_region_lit ?_
          refine seq_val (.int .i64 x31.2) r (fun R => y_move r rfl) rfl fun fr r => ?_
          refine seq_val (.pointer (some ⟨b1, 0, none⟩)) r (fun R => y_fieldAddr r (o := 0) rfl fo24_0) rfl fun fr r => ?_
          refine seq_val (.int .i64 a0.nodes) r (fun R => y_load_one r (v := (.int .i64 a0.nodes)) rfl (hP.cell (i := 0) rfl) to3 rfl) rfl fun fr r => ?_
          refine seq_val (.bool (decide (x31.2 < a0.nodes))) r (fun R => y_bin r (u := (.int .i64 x31.2)) (u' := (.int .i64 a0.nodes)) rfl rfl rfl rfl) rfl fun fr r => ?_
          refine wpList_nil ?_
          refine wp_cond_split (t := (decide (x31.2 < a0.nodes))) (r.ev rfl) (fun h35 => ?_) (fun h35 => ?_)
          · skip
            have hD := (cond_t h35).symm.trans hD
            refine wp_skip ?_
            refine wp_seq ?_
            refine wp_block ?_
            refine wp_seq ?_
            refine wp_region_lit ?_
            refine seq_val (.agg (planC a0).toArray) r (fun R => y_load_agg r (cs := (planC a0)) (n := 6) rfl (hP.cell (i := 0) rfl) ta24 rfl) rfl fun fr r => ?_
            refine seq_val (.int .i64 x31.2) r (fun R => y_move r rfl) rfl fun fr r => ?_
            obtain ⟨x36, hx36, hD⟩ := bindD_elim hD
            refine seq_call r (c_plan_Plan_Words w34 a0 x31.2 hx36) (fun R hc => y_call r rfl cl34 hc) rfl ?_
            rintro _ w37 ⟨v38, rfl, hq⟩
            refine ⟨_, rfl, fun fr r => ?_⟩
            have hP : Post No [cellC b1 ((planC a0)).toArray 24, rowK 35 3 wordPC v18 x16, rowK 3 1 i64 v38 x36] w0 w37 := hP.add hq
            refine seq_val v38 r (fun R => y_assign r rfl) rfl fun fr r => ?_
            refine wpList_nil ?_
            refine wp_seq ?_
            refine wp_joinG (N := 87) (Y := Bool) (G := Unit) (fun x γ => [(0, (.agg (planC a0).toArray)), (1, (.pointer (some ⟨b1, 0, none⟩))), (18, (.bool x11)), (3, v18), (4, (.int .i64 x28.2)), (2, (.bool x31.1)), (5, (.int .i64 x31.2)), (39, (.bool (decide (x31.2 < a0.nodes)))), (6, v38), (74, (.bool x))]) (fun x γ w => Post No [cellC b1 ((planC a0)).toArray 24, rowK 35 3 wordPC v18 x16, rowK 3 1 i64 v38 x36] w0 w) hD ?_ ?_
            · skip
              rintro y40 RPy40 nxy40 hD
              refine seq_split ((x36.length : Int) != 3) (fun h41 => ?_) (fun h41 => ?_)
              · skip
                have hD := (cond_t h41).symm.trans hD
                refine wp_freeF [.val v38, .val (.int .i64 (x36.length : Int)), .val (.bool ((x36.length : Int) != 3)), .val (.bool ((x36.length : Int) != 3)), .val undef, .val undef, .val undef, .val undef, .val undef, .val undef, .val undef, .val (.bool true), .val (.bool true), .val undef, .val undef, .val undef, .val undef, .val undef, .val undef, .val undef, .val (.bool true), .val (.bool true), .val undef, .val undef, .val undef, .val undef, .val undef, .val undef, .val undef, .val (.bool true)] mixed r (by kernel_rfl) ?_ ?_
                · skip
                  refine eachF_cons r rfl (fun fr1 g w' hb' hd r' => ?_) ?_
                  · exact y_move r' (v := v38) rfl ⟨Below.refl _ _, rfl⟩
                  refine eachF_cons r rfl (fun fr1 g w' hb' hd r' => ?_) ?_
                  · exact y_rowLen r' ((hP.below (dr hb')).row (i := 2) rfl) is36 (hd 0 rfl).1 ⟨Below.refl _ _, rfl⟩
                  refine eachF_cons r rfl (fun fr1 g w' hb' hd r' => ?_) ?_
                  · exact y_bin r' (u := (.int .i64 (x36.length : Int))) (u' := (.int .i64 3)) (v := (.bool ((x36.length : Int) != 3))) (hd 1 rfl).1 rfl rfl rfl ⟨Below.refl _ _, rfl⟩
                  refine eachF_cons r rfl (fun fr1 g w' hb' hd r' => ?_) ?_
                  · exact y_move r' (v := (.bool ((x36.length : Int) != 3))) (hd 2 rfl).1 ⟨Below.refl _ _, rfl⟩
                  refine eachF_skip false (.bool true) r rfl rfl rfl (fun g w' hd => Eq.trans (show (g 3).v = .bool ((x36.length : Int) != 3) from (hd 3 rfl).1) (congrArg Value.bool h41)) (by simp [boolOf]) (fun _ _ => ⟨Below.refl _ _, rfl⟩) ?_
                  refine eachF_skip false (.bool true) r rfl rfl rfl (fun g w' hd => Eq.trans (show (g 3).v = .bool ((x36.length : Int) != 3) from (hd 3 rfl).1) (congrArg Value.bool h41)) (by simp [boolOf]) (fun _ _ => ⟨Below.refl _ _, rfl⟩) ?_
                  refine eachF_skip false (.bool true) r rfl rfl rfl (fun g w' hd => Eq.trans (show (g 3).v = .bool ((x36.length : Int) != 3) from (hd 3 rfl).1) (congrArg Value.bool h41)) (by simp [boolOf]) (fun _ _ => ⟨Below.refl _ _, rfl⟩) ?_
                  refine eachF_skip false (.bool true) r rfl rfl rfl (fun g w' hd => Eq.trans (show (g 3).v = .bool ((x36.length : Int) != 3) from (hd 3 rfl).1) (congrArg Value.bool h41)) (by simp [boolOf]) (fun _ _ => ⟨Below.refl _ _, rfl⟩) ?_
                  refine eachF_skip false (.bool true) r rfl rfl rfl (fun g w' hd => Eq.trans (show (g 3).v = .bool ((x36.length : Int) != 3) from (hd 3 rfl).1) (congrArg Value.bool h41)) (by simp [boolOf]) (fun _ _ => ⟨Below.refl _ _, rfl⟩) ?_
                  refine eachF_skip false (.bool true) r rfl rfl rfl (fun g w' hd => Eq.trans (show (g 3).v = .bool ((x36.length : Int) != 3) from (hd 3 rfl).1) (congrArg Value.bool h41)) (by simp [boolOf]) (fun _ _ => ⟨Below.refl _ _, rfl⟩) ?_
                  refine eachF_skip false (.bool true) r rfl rfl rfl (fun g w' hd => Eq.trans (show (g 3).v = .bool ((x36.length : Int) != 3) from (hd 3 rfl).1) (congrArg Value.bool h41)) (by simp [boolOf]) (fun _ _ => ⟨Below.refl _ _, rfl⟩) ?_
                  refine eachF_cons r rfl (fun fr1 g w' hb' hd r' => ?_) ?_
                  · exact y_pick r' (b := true) (v := (.bool true)) (Eq.trans (show (g 3).v = .bool ((x36.length : Int) != 3) from (hd 3 rfl).1) (congrArg Value.bool h41)) rfl ⟨Below.refl _ _, rfl⟩
                  refine eachF_cons r rfl (fun fr1 g w' hb' hd r' => ?_) ?_
                  · exact y_move r' (v := (.bool true)) (hd 11 rfl).1 ⟨Below.refl _ _, rfl⟩
                  refine eachF_skip false (.bool true) r rfl rfl rfl (fun g w' hd => Eq.trans (show (g 12).v = .bool true from (hd 12 rfl).1) (congrArg Value.bool (rfl : true = _))) (by simp [boolOf]) (fun _ _ => ⟨Below.refl _ _, rfl⟩) ?_
                  refine eachF_skip false (.bool true) r rfl rfl rfl (fun g w' hd => Eq.trans (show (g 12).v = .bool true from (hd 12 rfl).1) (congrArg Value.bool (rfl : true = _))) (by simp [boolOf]) (fun _ _ => ⟨Below.refl _ _, rfl⟩) ?_
                  refine eachF_skip false (.bool true) r rfl rfl rfl (fun g w' hd => Eq.trans (show (g 12).v = .bool true from (hd 12 rfl).1) (congrArg Value.bool (rfl : true = _))) (by simp [boolOf]) (fun _ _ => ⟨Below.refl _ _, rfl⟩) ?_
                  refine eachF_skip false (.bool true) r rfl rfl rfl (fun g w' hd => Eq.trans (show (g 12).v = .bool true from (hd 12 rfl).1) (congrArg Value.bool (rfl : true = _))) (by simp [boolOf]) (fun _ _ => ⟨Below.refl _ _, rfl⟩) ?_
                  refine eachF_skip false (.bool true) r rfl rfl rfl (fun g w' hd => Eq.trans (show (g 12).v = .bool true from (hd 12 rfl).1) (congrArg Value.bool (rfl : true = _))) (by simp [boolOf]) (fun _ _ => ⟨Below.refl _ _, rfl⟩) ?_
                  refine eachF_skip false (.bool true) r rfl rfl rfl (fun g w' hd => Eq.trans (show (g 12).v = .bool true from (hd 12 rfl).1) (congrArg Value.bool (rfl : true = _))) (by simp [boolOf]) (fun _ _ => ⟨Below.refl _ _, rfl⟩) ?_
                  refine eachF_skip false (.bool true) r rfl rfl rfl (fun g w' hd => Eq.trans (show (g 12).v = .bool true from (hd 12 rfl).1) (congrArg Value.bool (rfl : true = _))) (by simp [boolOf]) (fun _ _ => ⟨Below.refl _ _, rfl⟩) ?_
                  refine eachF_cons r rfl (fun fr1 g w' hb' hd r' => ?_) ?_
                  · exact y_pick r' (b := true) (v := (.bool true)) (Eq.trans (show (g 12).v = .bool true from (hd 12 rfl).1) (congrArg Value.bool (rfl : true = _))) rfl ⟨Below.refl _ _, rfl⟩
                  refine eachF_cons r rfl (fun fr1 g w' hb' hd r' => ?_) ?_
                  · exact y_move r' (v := (.bool true)) (hd 20 rfl).1 ⟨Below.refl _ _, rfl⟩
                  refine eachF_skip false (.bool true) r rfl rfl rfl (fun g w' hd => Eq.trans (show (g 21).v = .bool true from (hd 21 rfl).1) (congrArg Value.bool (rfl : true = _))) (by simp [boolOf]) (fun _ _ => ⟨Below.refl _ _, rfl⟩) ?_
                  refine eachF_skip false (.bool true) r rfl rfl rfl (fun g w' hd => Eq.trans (show (g 21).v = .bool true from (hd 21 rfl).1) (congrArg Value.bool (rfl : true = _))) (by simp [boolOf]) (fun _ _ => ⟨Below.refl _ _, rfl⟩) ?_
                  refine eachF_skip false (.bool true) r rfl rfl rfl (fun g w' hd => Eq.trans (show (g 21).v = .bool true from (hd 21 rfl).1) (congrArg Value.bool (rfl : true = _))) (by simp [boolOf]) (fun _ _ => ⟨Below.refl _ _, rfl⟩) ?_
                  refine eachF_skip false (.bool true) r rfl rfl rfl (fun g w' hd => Eq.trans (show (g 21).v = .bool true from (hd 21 rfl).1) (congrArg Value.bool (rfl : true = _))) (by simp [boolOf]) (fun _ _ => ⟨Below.refl _ _, rfl⟩) ?_
                  refine eachF_skip false (.bool true) r rfl rfl rfl (fun g w' hd => Eq.trans (show (g 21).v = .bool true from (hd 21 rfl).1) (congrArg Value.bool (rfl : true = _))) (by simp [boolOf]) (fun _ _ => ⟨Below.refl _ _, rfl⟩) ?_
                  refine eachF_skip false (.bool true) r rfl rfl rfl (fun g w' hd => Eq.trans (show (g 21).v = .bool true from (hd 21 rfl).1) (congrArg Value.bool (rfl : true = _))) (by simp [boolOf]) (fun _ _ => ⟨Below.refl _ _, rfl⟩) ?_
                  refine eachF_skip false (.bool true) r rfl rfl rfl (fun g w' hd => Eq.trans (show (g 21).v = .bool true from (hd 21 rfl).1) (congrArg Value.bool (rfl : true = _))) (by simp [boolOf]) (fun _ _ => ⟨Below.refl _ _, rfl⟩) ?_
                  refine eachF_cons r rfl (fun fr1 g w' hb' hd r' => ?_) ?_
                  · exact y_pick r' (b := true) (v := (.bool true)) (Eq.trans (show (g 21).v = .bool true from (hd 21 rfl).1) (congrArg Value.bool (rfl : true = _))) rfl ⟨Below.refl _ _, rfl⟩
                  exact eachF_nil
                · skip
                  intro fr gg w42 hb hΦ hap r
                  have g0 : (gg 0).v = v38 := (hΦ 0 rfl).1
                  have g1 : (gg 1).v = (.int .i64 (x36.length : Int)) := (hΦ 1 rfl).1
                  have g2 : (gg 2).v = (.bool ((x36.length : Int) != 3)) := (hΦ 2 rfl).1
                  have g3 : (gg 3).v = (.bool ((x36.length : Int) != 3)) := (hΦ 3 rfl).1
                  have g4 : (gg 4).v = undef := (hΦ 4 rfl).1
                  have g5 : (gg 5).v = undef := (hΦ 5 rfl).1
                  have g6 : (gg 6).v = undef := (hΦ 6 rfl).1
                  have g7 : (gg 7).v = undef := (hΦ 7 rfl).1
                  have g8 : (gg 8).v = undef := (hΦ 8 rfl).1
                  have g9 : (gg 9).v = undef := (hΦ 9 rfl).1
                  have g10 : (gg 10).v = undef := (hΦ 10 rfl).1
                  have g11 : (gg 11).v = (.bool true) := (hΦ 11 rfl).1
                  have g12 : (gg 12).v = (.bool true) := (hΦ 12 rfl).1
                  have g13 : (gg 13).v = undef := (hΦ 13 rfl).1
                  have g14 : (gg 14).v = undef := (hΦ 14 rfl).1
                  have g15 : (gg 15).v = undef := (hΦ 15 rfl).1
                  have g16 : (gg 16).v = undef := (hΦ 16 rfl).1
                  have g17 : (gg 17).v = undef := (hΦ 17 rfl).1
                  have g18 : (gg 18).v = undef := (hΦ 18 rfl).1
                  have g19 : (gg 19).v = undef := (hΦ 19 rfl).1
                  have g20 : (gg 20).v = (.bool true) := (hΦ 20 rfl).1
                  have g21 : (gg 21).v = (.bool true) := (hΦ 21 rfl).1
                  have g22 : (gg 22).v = undef := (hΦ 22 rfl).1
                  have g23 : (gg 23).v = undef := (hΦ 23 rfl).1
                  have g24 : (gg 24).v = undef := (hΦ 24 rfl).1
                  have g25 : (gg 25).v = undef := (hΦ 25 rfl).1
                  have g26 : (gg 26).v = undef := (hΦ 26 rfl).1
                  have g27 : (gg 27).v = undef := (hΦ 27 rfl).1
                  have g28 : (gg 28).v = undef := (hΦ 28 rfl).1
                  have g29 : (gg 29).v = (.bool true) := (hΦ 29 rfl).1
                  have r := r.congr (sc g29 (sc g28 (sc g27 (sc g26 (sc g25 (sc g24 (sc g23 (sc g22 (sc g21 (sc g20 (sc g19 (sc g18 (sc g17 (sc g16 (sc g15 (sc g14 (sc g13 (sc g12 (sc g11 (sc g10 (sc g9 (sc g8 (sc g7 (sc g6 (sc g5 (sc g4 (sc g3 (sc g2 (sc g1 (sc g0 rfl))))))))))))))))))))))))))))))
                  have hP : Post No [cellC b1 ((planC a0)).toArray 24, rowK 35 3 wordPC v18 x16, rowK 3 1 i64 v38 x36] w0 w42 := hP.below hb
                  exact nxy40 true () _ _ _ hD r (hs_cons rfl (hs_cons rfl (hs_cons rfl (hs_cons rfl (hs_cons rfl (hs_cons rfl (hs_cons rfl (hs_cons rfl (hs_cons rfl (hs_cons rfl hs_nil)))))))))) (hP.pick [0, 1, 2] rfl rfl)
              · skip
                have hD := (cond_f h41).symm.trans hD
                obtain ⟨x43, hx43, hD⟩ := bindD_elim hD
                refine seq_split (x43 != (D.plan_Plan_Field a0 x31.2 0)) (fun h44 => ?_) (fun h44 => ?_)
                · skip
                  have hD := (cond_t h44).symm.trans hD
                  refine wp_freeF [.val v38, .val (.int .i64 (x36.length : Int)), .val (.bool ((x36.length : Int) != 3)), .val (.bool ((x36.length : Int) != 3)), .val v38, .val (.pointer (some ⟨rowB v38, rowO v38 + (0 : Int).toNat * 1, none⟩)), .val (.int .i64 x43), .val (.agg (planC a0).toArray), .val (.int .i64 x31.2), .val (.int .i64 (D.plan_Plan_Field a0 x31.2 0)), .val (.bool (x43 != (D.plan_Plan_Field a0 x31.2 0))), .val (.bool (x43 != (D.plan_Plan_Field a0 x31.2 0))), .val (.bool (x43 != (D.plan_Plan_Field a0 x31.2 0))), .val undef, .val undef, .val undef, .val undef, .val undef, .val undef, .val undef, .val (.bool true), .val (.bool true), .val undef, .val undef, .val undef, .val undef, .val undef, .val undef, .val undef, .val (.bool true)] mixed r (by kernel_rfl) ?_ ?_
                  · skip
                    refine eachF_cons r rfl (fun fr1 g w' hb' hd r' => ?_) ?_
                    · exact y_move r' (v := v38) rfl ⟨Below.refl _ _, rfl⟩
                    refine eachF_cons r rfl (fun fr1 g w' hb' hd r' => ?_) ?_
                    · exact y_rowLen r' ((hP.below (dr hb')).row (i := 2) rfl) is36 (hd 0 rfl).1 ⟨Below.refl _ _, rfl⟩
                    refine eachF_cons r rfl (fun fr1 g w' hb' hd r' => ?_) ?_
                    · exact y_bin r' (u := (.int .i64 (x36.length : Int))) (u' := (.int .i64 3)) (v := (.bool ((x36.length : Int) != 3))) (hd 1 rfl).1 rfl rfl rfl ⟨Below.refl _ _, rfl⟩
                    refine eachF_cons r rfl (fun fr1 g w' hb' hd r' => ?_) ?_
                    · exact y_move r' (v := (.bool ((x36.length : Int) != 3))) (hd 2 rfl).1 ⟨Below.refl _ _, rfl⟩
                    refine eachF_want false r rfl rfl rfl (fun g w' hd => Eq.trans (show (g 3).v = .bool ((x36.length : Int) != 3) from (hd 3 rfl).1) (congrArg Value.bool h41)) (fun fr1 g w' hb' hd r' => ?_) ?_
                    · exact y_move r' (v := v38) rfl ⟨Below.refl _ _, rfl⟩
                    refine eachF_want false r rfl rfl rfl (fun g w' hd => Eq.trans (show (g 3).v = .bool ((x36.length : Int) != 3) from (hd 3 rfl).1) (congrArg Value.bool h41)) (fun fr1 g w' hb' hd r' => ?_) ?_
                    · exact y_rowAddr r' ((hP.below (dr hb')).row (i := 2) rfl) hx43 sl36 (hd 4 rfl).1 rfl ⟨Below.refl _ _, rfl⟩
                    refine eachF_want false r rfl rfl rfl (fun g w' hd => Eq.trans (show (g 3).v = .bool ((x36.length : Int) != 3) from (hd 3 rfl).1) (congrArg Value.bool h41)) (fun fr1 g w' hb' hd r' => ?_) ?_
                    · exact y_loadL_one r' (u := (.int .i64 x43)) (RowAt.at_ (f := i64) (x := x43) ((hP.below (dr hb')).row (i := 2) rfl) (fun _ => rfl) hx43) (hd 5 rfl).1 to3 ⟨Below.refl _ _, rfl⟩
                    refine eachF_want false r rfl rfl rfl (fun g w' hd => Eq.trans (show (g 3).v = .bool ((x36.length : Int) != 3) from (hd 3 rfl).1) (congrArg Value.bool h41)) (fun fr1 g w' hb' hd r' => ?_) ?_
                    · exact y_load_agg r' (cs := (planC a0)) (n := 6) rfl ((hP.below (dr hb')).cell (i := 0) rfl) ta24 rfl ⟨Below.refl _ _, rfl⟩
                    refine eachF_want false r rfl rfl rfl (fun g w' hd => Eq.trans (show (g 3).v = .bool ((x36.length : Int) != 3) from (hd 3 rfl).1) (congrArg Value.bool h41)) (fun fr1 g w' hb' hd r' => ?_) ?_
                    · exact y_move r' (v := (.int .i64 x31.2)) rfl ⟨Below.refl _ _, rfl⟩
                    refine eachF_want false r rfl rfl rfl (fun g w' hd => Eq.trans (show (g 3).v = .bool ((x36.length : Int) != 3) from (hd 3 rfl).1) (congrArg Value.bool h41)) (fun fr1 g w' hb' hd r' => ?_) ?_
                    · exact y_call r' (args := [(.agg (planC a0).toArray), (.int .i64 x31.2), (.int .i64 0)]) (lc (hd 7 rfl).1 (lc (hd 8 rfl).1 (lc rfl l0))) cl20 ((c_plan_Plan_Field _ a0 x31.2 0).mono (by rintro _ w2 ⟨rfl, hb2⟩; exact ⟨_, rfl, hb2, rfl⟩))
                    refine eachF_want false r rfl rfl rfl (fun g w' hd => Eq.trans (show (g 3).v = .bool ((x36.length : Int) != 3) from (hd 3 rfl).1) (congrArg Value.bool h41)) (fun fr1 g w' hb' hd r' => ?_) ?_
                    · exact y_bin r' (u := (.int .i64 x43)) (u' := (.int .i64 (D.plan_Plan_Field a0 x31.2 0))) (v := (.bool (x43 != (D.plan_Plan_Field a0 x31.2 0)))) (hd 6 rfl).1 (hd 9 rfl).1 rfl rfl ⟨Below.refl _ _, rfl⟩
                    refine eachF_cons r rfl (fun fr1 g w' hb' hd r' => ?_) ?_
                    · exact y_pick r' (b := false) (v := (.bool (x43 != (D.plan_Plan_Field a0 x31.2 0)))) (Eq.trans (show (g 3).v = .bool ((x36.length : Int) != 3) from (hd 3 rfl).1) (congrArg Value.bool h41)) (hd 10 rfl).1 ⟨Below.refl _ _, rfl⟩
                    refine eachF_cons r rfl (fun fr1 g w' hb' hd r' => ?_) ?_
                    · exact y_move r' (v := (.bool (x43 != (D.plan_Plan_Field a0 x31.2 0)))) (hd 11 rfl).1 ⟨Below.refl _ _, rfl⟩
                    refine eachF_skip false (.bool true) r rfl rfl rfl (fun g w' hd => Eq.trans (show (g 12).v = .bool (x43 != (D.plan_Plan_Field a0 x31.2 0)) from (hd 12 rfl).1) (congrArg Value.bool h44)) (by simp [boolOf]) (fun _ _ => ⟨Below.refl _ _, rfl⟩) ?_
                    refine eachF_skip false (.bool true) r rfl rfl rfl (fun g w' hd => Eq.trans (show (g 12).v = .bool (x43 != (D.plan_Plan_Field a0 x31.2 0)) from (hd 12 rfl).1) (congrArg Value.bool h44)) (by simp [boolOf]) (fun _ _ => ⟨Below.refl _ _, rfl⟩) ?_
                    refine eachF_skip false (.bool true) r rfl rfl rfl (fun g w' hd => Eq.trans (show (g 12).v = .bool (x43 != (D.plan_Plan_Field a0 x31.2 0)) from (hd 12 rfl).1) (congrArg Value.bool h44)) (by simp [boolOf]) (fun _ _ => ⟨Below.refl _ _, rfl⟩) ?_
                    refine eachF_skip false (.bool true) r rfl rfl rfl (fun g w' hd => Eq.trans (show (g 12).v = .bool (x43 != (D.plan_Plan_Field a0 x31.2 0)) from (hd 12 rfl).1) (congrArg Value.bool h44)) (by simp [boolOf]) (fun _ _ => ⟨Below.refl _ _, rfl⟩) ?_
                    refine eachF_skip false (.bool true) r rfl rfl rfl (fun g w' hd => Eq.trans (show (g 12).v = .bool (x43 != (D.plan_Plan_Field a0 x31.2 0)) from (hd 12 rfl).1) (congrArg Value.bool h44)) (by simp [boolOf]) (fun _ _ => ⟨Below.refl _ _, rfl⟩) ?_
                    refine eachF_skip false (.bool true) r rfl rfl rfl (fun g w' hd => Eq.trans (show (g 12).v = .bool (x43 != (D.plan_Plan_Field a0 x31.2 0)) from (hd 12 rfl).1) (congrArg Value.bool h44)) (by simp [boolOf]) (fun _ _ => ⟨Below.refl _ _, rfl⟩) ?_
                    refine eachF_skip false (.bool true) r rfl rfl rfl (fun g w' hd => Eq.trans (show (g 12).v = .bool (x43 != (D.plan_Plan_Field a0 x31.2 0)) from (hd 12 rfl).1) (congrArg Value.bool h44)) (by simp [boolOf]) (fun _ _ => ⟨Below.refl _ _, rfl⟩) ?_
                    refine eachF_cons r rfl (fun fr1 g w' hb' hd r' => ?_) ?_
                    · exact y_pick r' (b := true) (v := (.bool true)) (Eq.trans (show (g 12).v = .bool (x43 != (D.plan_Plan_Field a0 x31.2 0)) from (hd 12 rfl).1) (congrArg Value.bool h44)) rfl ⟨Below.refl _ _, rfl⟩
                    refine eachF_cons r rfl (fun fr1 g w' hb' hd r' => ?_) ?_
                    · exact y_move r' (v := (.bool true)) (hd 20 rfl).1 ⟨Below.refl _ _, rfl⟩
                    refine eachF_skip false (.bool true) r rfl rfl rfl (fun g w' hd => Eq.trans (show (g 21).v = .bool true from (hd 21 rfl).1) (congrArg Value.bool (rfl : true = _))) (by simp [boolOf]) (fun _ _ => ⟨Below.refl _ _, rfl⟩) ?_
                    refine eachF_skip false (.bool true) r rfl rfl rfl (fun g w' hd => Eq.trans (show (g 21).v = .bool true from (hd 21 rfl).1) (congrArg Value.bool (rfl : true = _))) (by simp [boolOf]) (fun _ _ => ⟨Below.refl _ _, rfl⟩) ?_
                    refine eachF_skip false (.bool true) r rfl rfl rfl (fun g w' hd => Eq.trans (show (g 21).v = .bool true from (hd 21 rfl).1) (congrArg Value.bool (rfl : true = _))) (by simp [boolOf]) (fun _ _ => ⟨Below.refl _ _, rfl⟩) ?_
                    refine eachF_skip false (.bool true) r rfl rfl rfl (fun g w' hd => Eq.trans (show (g 21).v = .bool true from (hd 21 rfl).1) (congrArg Value.bool (rfl : true = _))) (by simp [boolOf]) (fun _ _ => ⟨Below.refl _ _, rfl⟩) ?_
                    refine eachF_skip false (.bool true) r rfl rfl rfl (fun g w' hd => Eq.trans (show (g 21).v = .bool true from (hd 21 rfl).1) (congrArg Value.bool (rfl : true = _))) (by simp [boolOf]) (fun _ _ => ⟨Below.refl _ _, rfl⟩) ?_
                    refine eachF_skip false (.bool true) r rfl rfl rfl (fun g w' hd => Eq.trans (show (g 21).v = .bool true from (hd 21 rfl).1) (congrArg Value.bool (rfl : true = _))) (by simp [boolOf]) (fun _ _ => ⟨Below.refl _ _, rfl⟩) ?_
                    refine eachF_skip false (.bool true) r rfl rfl rfl (fun g w' hd => Eq.trans (show (g 21).v = .bool true from (hd 21 rfl).1) (congrArg Value.bool (rfl : true = _))) (by simp [boolOf]) (fun _ _ => ⟨Below.refl _ _, rfl⟩) ?_
                    refine eachF_cons r rfl (fun fr1 g w' hb' hd r' => ?_) ?_
                    · exact y_pick r' (b := true) (v := (.bool true)) (Eq.trans (show (g 21).v = .bool true from (hd 21 rfl).1) (congrArg Value.bool (rfl : true = _))) rfl ⟨Below.refl _ _, rfl⟩
                    exact eachF_nil
                  · skip
                    intro fr gg w45 hb hΦ hap r
                    have g0 : (gg 0).v = v38 := (hΦ 0 rfl).1
                    have g1 : (gg 1).v = (.int .i64 (x36.length : Int)) := (hΦ 1 rfl).1
                    have g2 : (gg 2).v = (.bool ((x36.length : Int) != 3)) := (hΦ 2 rfl).1
                    have g3 : (gg 3).v = (.bool ((x36.length : Int) != 3)) := (hΦ 3 rfl).1
                    have g4 : (gg 4).v = v38 := (hΦ 4 rfl).1
                    have g5 : (gg 5).v = (.pointer (some ⟨rowB v38, rowO v38 + (0 : Int).toNat * 1, none⟩)) := (hΦ 5 rfl).1
                    have g6 : (gg 6).v = (.int .i64 x43) := (hΦ 6 rfl).1
                    have g7 : (gg 7).v = (.agg (planC a0).toArray) := (hΦ 7 rfl).1
                    have g8 : (gg 8).v = (.int .i64 x31.2) := (hΦ 8 rfl).1
                    have g9 : (gg 9).v = (.int .i64 (D.plan_Plan_Field a0 x31.2 0)) := (hΦ 9 rfl).1
                    have g10 : (gg 10).v = (.bool (x43 != (D.plan_Plan_Field a0 x31.2 0))) := (hΦ 10 rfl).1
                    have g11 : (gg 11).v = (.bool (x43 != (D.plan_Plan_Field a0 x31.2 0))) := (hΦ 11 rfl).1
                    have g12 : (gg 12).v = (.bool (x43 != (D.plan_Plan_Field a0 x31.2 0))) := (hΦ 12 rfl).1
                    have g13 : (gg 13).v = undef := (hΦ 13 rfl).1
                    have g14 : (gg 14).v = undef := (hΦ 14 rfl).1
                    have g15 : (gg 15).v = undef := (hΦ 15 rfl).1
                    have g16 : (gg 16).v = undef := (hΦ 16 rfl).1
                    have g17 : (gg 17).v = undef := (hΦ 17 rfl).1
                    have g18 : (gg 18).v = undef := (hΦ 18 rfl).1
                    have g19 : (gg 19).v = undef := (hΦ 19 rfl).1
                    have g20 : (gg 20).v = (.bool true) := (hΦ 20 rfl).1
                    have g21 : (gg 21).v = (.bool true) := (hΦ 21 rfl).1
                    have g22 : (gg 22).v = undef := (hΦ 22 rfl).1
                    have g23 : (gg 23).v = undef := (hΦ 23 rfl).1
                    have g24 : (gg 24).v = undef := (hΦ 24 rfl).1
                    have g25 : (gg 25).v = undef := (hΦ 25 rfl).1
                    have g26 : (gg 26).v = undef := (hΦ 26 rfl).1
                    have g27 : (gg 27).v = undef := (hΦ 27 rfl).1
                    have g28 : (gg 28).v = undef := (hΦ 28 rfl).1
                    have g29 : (gg 29).v = (.bool true) := (hΦ 29 rfl).1
                    have r := r.congr (sc g29 (sc g28 (sc g27 (sc g26 (sc g25 (sc g24 (sc g23 (sc g22 (sc g21 (sc g20 (sc g19 (sc g18 (sc g17 (sc g16 (sc g15 (sc g14 (sc g13 (sc g12 (sc g11 (sc g10 (sc g9 (sc g8 (sc g7 (sc g6 (sc g5 (sc g4 (sc g3 (sc g2 (sc g1 (sc g0 rfl))))))))))))))))))))))))))))))
                    have hP : Post No [cellC b1 ((planC a0)).toArray 24, rowK 35 3 wordPC v18 x16, rowK 3 1 i64 v38 x36] w0 w45 := hP.below hb
                    exact nxy40 true () _ _ _ hD r (hs_cons rfl (hs_cons rfl (hs_cons rfl (hs_cons rfl (hs_cons rfl (hs_cons rfl (hs_cons rfl (hs_cons rfl (hs_cons rfl (hs_cons rfl hs_nil)))))))))) (hP.pick [0, 1, 2] rfl rfl)
                · skip
                  have hD := (cond_f h44).symm.trans hD
                  obtain ⟨x46, hx46, hD⟩ := bindD_elim hD
                  refine seq_split (x46 != (D.plan_Plan_Field a0 x31.2 1)) (fun h47 => ?_) (fun h47 => ?_)
                  · skip
                    have hD := (cond_t h47).symm.trans hD
                    refine wp_freeF [.val v38, .val (.int .i64 (x36.length : Int)), .val (.bool ((x36.length : Int) != 3)), .val (.bool ((x36.length : Int) != 3)), .val v38, .val (.pointer (some ⟨rowB v38, rowO v38 + (0 : Int).toNat * 1, none⟩)), .val (.int .i64 x43), .val (.agg (planC a0).toArray), .val (.int .i64 x31.2), .val (.int .i64 (D.plan_Plan_Field a0 x31.2 0)), .val (.bool (x43 != (D.plan_Plan_Field a0 x31.2 0))), .val (.bool (x43 != (D.plan_Plan_Field a0 x31.2 0))), .val (.bool (x43 != (D.plan_Plan_Field a0 x31.2 0))), .val v38, .val (.pointer (some ⟨rowB v38, rowO v38 + (1 : Int).toNat * 1, none⟩)), .val (.int .i64 x46), .val (.agg (planC a0).toArray), .val (.int .i64 x31.2), .val (.int .i64 (D.plan_Plan_Field a0 x31.2 1)), .val (.bool (x46 != (D.plan_Plan_Field a0 x31.2 1))), .val (.bool (x46 != (D.plan_Plan_Field a0 x31.2 1))), .val (.bool (x46 != (D.plan_Plan_Field a0 x31.2 1))), .val undef, .val undef, .val undef, .val undef, .val undef, .val undef, .val undef, .val (.bool true)] mixed r (by kernel_rfl) ?_ ?_
                    · skip
                      refine eachF_cons r rfl (fun fr1 g w' hb' hd r' => ?_) ?_
                      · exact y_move r' (v := v38) rfl ⟨Below.refl _ _, rfl⟩
                      refine eachF_cons r rfl (fun fr1 g w' hb' hd r' => ?_) ?_
                      · exact y_rowLen r' ((hP.below (dr hb')).row (i := 2) rfl) is36 (hd 0 rfl).1 ⟨Below.refl _ _, rfl⟩
                      refine eachF_cons r rfl (fun fr1 g w' hb' hd r' => ?_) ?_
                      · exact y_bin r' (u := (.int .i64 (x36.length : Int))) (u' := (.int .i64 3)) (v := (.bool ((x36.length : Int) != 3))) (hd 1 rfl).1 rfl rfl rfl ⟨Below.refl _ _, rfl⟩
                      refine eachF_cons r rfl (fun fr1 g w' hb' hd r' => ?_) ?_
                      · exact y_move r' (v := (.bool ((x36.length : Int) != 3))) (hd 2 rfl).1 ⟨Below.refl _ _, rfl⟩
                      refine eachF_want false r rfl rfl rfl (fun g w' hd => Eq.trans (show (g 3).v = .bool ((x36.length : Int) != 3) from (hd 3 rfl).1) (congrArg Value.bool h41)) (fun fr1 g w' hb' hd r' => ?_) ?_
                      · exact y_move r' (v := v38) rfl ⟨Below.refl _ _, rfl⟩
                      refine eachF_want false r rfl rfl rfl (fun g w' hd => Eq.trans (show (g 3).v = .bool ((x36.length : Int) != 3) from (hd 3 rfl).1) (congrArg Value.bool h41)) (fun fr1 g w' hb' hd r' => ?_) ?_
                      · exact y_rowAddr r' ((hP.below (dr hb')).row (i := 2) rfl) hx43 sl36 (hd 4 rfl).1 rfl ⟨Below.refl _ _, rfl⟩
                      refine eachF_want false r rfl rfl rfl (fun g w' hd => Eq.trans (show (g 3).v = .bool ((x36.length : Int) != 3) from (hd 3 rfl).1) (congrArg Value.bool h41)) (fun fr1 g w' hb' hd r' => ?_) ?_
                      · exact y_loadL_one r' (u := (.int .i64 x43)) (RowAt.at_ (f := i64) (x := x43) ((hP.below (dr hb')).row (i := 2) rfl) (fun _ => rfl) hx43) (hd 5 rfl).1 to3 ⟨Below.refl _ _, rfl⟩
                      refine eachF_want false r rfl rfl rfl (fun g w' hd => Eq.trans (show (g 3).v = .bool ((x36.length : Int) != 3) from (hd 3 rfl).1) (congrArg Value.bool h41)) (fun fr1 g w' hb' hd r' => ?_) ?_
                      · exact y_load_agg r' (cs := (planC a0)) (n := 6) rfl ((hP.below (dr hb')).cell (i := 0) rfl) ta24 rfl ⟨Below.refl _ _, rfl⟩
                      refine eachF_want false r rfl rfl rfl (fun g w' hd => Eq.trans (show (g 3).v = .bool ((x36.length : Int) != 3) from (hd 3 rfl).1) (congrArg Value.bool h41)) (fun fr1 g w' hb' hd r' => ?_) ?_
                      · exact y_move r' (v := (.int .i64 x31.2)) rfl ⟨Below.refl _ _, rfl⟩
                      refine eachF_want false r rfl rfl rfl (fun g w' hd => Eq.trans (show (g 3).v = .bool ((x36.length : Int) != 3) from (hd 3 rfl).1) (congrArg Value.bool h41)) (fun fr1 g w' hb' hd r' => ?_) ?_
                      · exact y_call r' (args := [(.agg (planC a0).toArray), (.int .i64 x31.2), (.int .i64 0)]) (lc (hd 7 rfl).1 (lc (hd 8 rfl).1 (lc rfl l0))) cl20 ((c_plan_Plan_Field _ a0 x31.2 0).mono (by rintro _ w2 ⟨rfl, hb2⟩; exact ⟨_, rfl, hb2, rfl⟩))
                      refine eachF_want false r rfl rfl rfl (fun g w' hd => Eq.trans (show (g 3).v = .bool ((x36.length : Int) != 3) from (hd 3 rfl).1) (congrArg Value.bool h41)) (fun fr1 g w' hb' hd r' => ?_) ?_
                      · exact y_bin r' (u := (.int .i64 x43)) (u' := (.int .i64 (D.plan_Plan_Field a0 x31.2 0))) (v := (.bool (x43 != (D.plan_Plan_Field a0 x31.2 0)))) (hd 6 rfl).1 (hd 9 rfl).1 rfl rfl ⟨Below.refl _ _, rfl⟩
                      refine eachF_cons r rfl (fun fr1 g w' hb' hd r' => ?_) ?_
                      · exact y_pick r' (b := false) (v := (.bool (x43 != (D.plan_Plan_Field a0 x31.2 0)))) (Eq.trans (show (g 3).v = .bool ((x36.length : Int) != 3) from (hd 3 rfl).1) (congrArg Value.bool h41)) (hd 10 rfl).1 ⟨Below.refl _ _, rfl⟩
                      refine eachF_cons r rfl (fun fr1 g w' hb' hd r' => ?_) ?_
                      · exact y_move r' (v := (.bool (x43 != (D.plan_Plan_Field a0 x31.2 0)))) (hd 11 rfl).1 ⟨Below.refl _ _, rfl⟩
                      refine eachF_want false r rfl rfl rfl (fun g w' hd => Eq.trans (show (g 12).v = .bool (x43 != (D.plan_Plan_Field a0 x31.2 0)) from (hd 12 rfl).1) (congrArg Value.bool h44)) (fun fr1 g w' hb' hd r' => ?_) ?_
                      · exact y_move r' (v := v38) rfl ⟨Below.refl _ _, rfl⟩
                      refine eachF_want false r rfl rfl rfl (fun g w' hd => Eq.trans (show (g 12).v = .bool (x43 != (D.plan_Plan_Field a0 x31.2 0)) from (hd 12 rfl).1) (congrArg Value.bool h44)) (fun fr1 g w' hb' hd r' => ?_) ?_
                      · exact y_rowAddr r' ((hP.below (dr hb')).row (i := 2) rfl) hx46 sl36 (hd 13 rfl).1 rfl ⟨Below.refl _ _, rfl⟩
                      refine eachF_want false r rfl rfl rfl (fun g w' hd => Eq.trans (show (g 12).v = .bool (x43 != (D.plan_Plan_Field a0 x31.2 0)) from (hd 12 rfl).1) (congrArg Value.bool h44)) (fun fr1 g w' hb' hd r' => ?_) ?_
                      · exact y_loadL_one r' (u := (.int .i64 x46)) (RowAt.at_ (f := i64) (x := x46) ((hP.below (dr hb')).row (i := 2) rfl) (fun _ => rfl) hx46) (hd 14 rfl).1 to3 ⟨Below.refl _ _, rfl⟩
                      refine eachF_want false r rfl rfl rfl (fun g w' hd => Eq.trans (show (g 12).v = .bool (x43 != (D.plan_Plan_Field a0 x31.2 0)) from (hd 12 rfl).1) (congrArg Value.bool h44)) (fun fr1 g w' hb' hd r' => ?_) ?_
                      · exact y_load_agg r' (cs := (planC a0)) (n := 6) rfl ((hP.below (dr hb')).cell (i := 0) rfl) ta24 rfl ⟨Below.refl _ _, rfl⟩
                      refine eachF_want false r rfl rfl rfl (fun g w' hd => Eq.trans (show (g 12).v = .bool (x43 != (D.plan_Plan_Field a0 x31.2 0)) from (hd 12 rfl).1) (congrArg Value.bool h44)) (fun fr1 g w' hb' hd r' => ?_) ?_
                      · exact y_move r' (v := (.int .i64 x31.2)) rfl ⟨Below.refl _ _, rfl⟩
                      refine eachF_want false r rfl rfl rfl (fun g w' hd => Eq.trans (show (g 12).v = .bool (x43 != (D.plan_Plan_Field a0 x31.2 0)) from (hd 12 rfl).1) (congrArg Value.bool h44)) (fun fr1 g w' hb' hd r' => ?_) ?_
                      · exact y_call r' (args := [(.agg (planC a0).toArray), (.int .i64 x31.2), (.int .i64 1)]) (lc (hd 16 rfl).1 (lc (hd 17 rfl).1 (lc rfl l0))) cl20 ((c_plan_Plan_Field _ a0 x31.2 1).mono (by rintro _ w2 ⟨rfl, hb2⟩; exact ⟨_, rfl, hb2, rfl⟩))
                      refine eachF_want false r rfl rfl rfl (fun g w' hd => Eq.trans (show (g 12).v = .bool (x43 != (D.plan_Plan_Field a0 x31.2 0)) from (hd 12 rfl).1) (congrArg Value.bool h44)) (fun fr1 g w' hb' hd r' => ?_) ?_
                      · exact y_bin r' (u := (.int .i64 x46)) (u' := (.int .i64 (D.plan_Plan_Field a0 x31.2 1))) (v := (.bool (x46 != (D.plan_Plan_Field a0 x31.2 1)))) (hd 15 rfl).1 (hd 18 rfl).1 rfl rfl ⟨Below.refl _ _, rfl⟩
                      refine eachF_cons r rfl (fun fr1 g w' hb' hd r' => ?_) ?_
                      · exact y_pick r' (b := false) (v := (.bool (x46 != (D.plan_Plan_Field a0 x31.2 1)))) (Eq.trans (show (g 12).v = .bool (x43 != (D.plan_Plan_Field a0 x31.2 0)) from (hd 12 rfl).1) (congrArg Value.bool h44)) (hd 19 rfl).1 ⟨Below.refl _ _, rfl⟩
                      refine eachF_cons r rfl (fun fr1 g w' hb' hd r' => ?_) ?_
                      · exact y_move r' (v := (.bool (x46 != (D.plan_Plan_Field a0 x31.2 1)))) (hd 20 rfl).1 ⟨Below.refl _ _, rfl⟩
                      refine eachF_skip false (.bool true) r rfl rfl rfl (fun g w' hd => Eq.trans (show (g 21).v = .bool (x46 != (D.plan_Plan_Field a0 x31.2 1)) from (hd 21 rfl).1) (congrArg Value.bool h47)) (by simp [boolOf]) (fun _ _ => ⟨Below.refl _ _, rfl⟩) ?_
                      refine eachF_skip false (.bool true) r rfl rfl rfl (fun g w' hd => Eq.trans (show (g 21).v = .bool (x46 != (D.plan_Plan_Field a0 x31.2 1)) from (hd 21 rfl).1) (congrArg Value.bool h47)) (by simp [boolOf]) (fun _ _ => ⟨Below.refl _ _, rfl⟩) ?_
                      refine eachF_skip false (.bool true) r rfl rfl rfl (fun g w' hd => Eq.trans (show (g 21).v = .bool (x46 != (D.plan_Plan_Field a0 x31.2 1)) from (hd 21 rfl).1) (congrArg Value.bool h47)) (by simp [boolOf]) (fun _ _ => ⟨Below.refl _ _, rfl⟩) ?_
                      refine eachF_skip false (.bool true) r rfl rfl rfl (fun g w' hd => Eq.trans (show (g 21).v = .bool (x46 != (D.plan_Plan_Field a0 x31.2 1)) from (hd 21 rfl).1) (congrArg Value.bool h47)) (by simp [boolOf]) (fun _ _ => ⟨Below.refl _ _, rfl⟩) ?_
                      refine eachF_skip false (.bool true) r rfl rfl rfl (fun g w' hd => Eq.trans (show (g 21).v = .bool (x46 != (D.plan_Plan_Field a0 x31.2 1)) from (hd 21 rfl).1) (congrArg Value.bool h47)) (by simp [boolOf]) (fun _ _ => ⟨Below.refl _ _, rfl⟩) ?_
                      refine eachF_skip false (.bool true) r rfl rfl rfl (fun g w' hd => Eq.trans (show (g 21).v = .bool (x46 != (D.plan_Plan_Field a0 x31.2 1)) from (hd 21 rfl).1) (congrArg Value.bool h47)) (by simp [boolOf]) (fun _ _ => ⟨Below.refl _ _, rfl⟩) ?_
                      refine eachF_skip false (.bool true) r rfl rfl rfl (fun g w' hd => Eq.trans (show (g 21).v = .bool (x46 != (D.plan_Plan_Field a0 x31.2 1)) from (hd 21 rfl).1) (congrArg Value.bool h47)) (by simp [boolOf]) (fun _ _ => ⟨Below.refl _ _, rfl⟩) ?_
                      refine eachF_cons r rfl (fun fr1 g w' hb' hd r' => ?_) ?_
                      · exact y_pick r' (b := true) (v := (.bool true)) (Eq.trans (show (g 21).v = .bool (x46 != (D.plan_Plan_Field a0 x31.2 1)) from (hd 21 rfl).1) (congrArg Value.bool h47)) rfl ⟨Below.refl _ _, rfl⟩
                      exact eachF_nil
                    · skip
                      intro fr gg w48 hb hΦ hap r
                      have g0 : (gg 0).v = v38 := (hΦ 0 rfl).1
                      have g1 : (gg 1).v = (.int .i64 (x36.length : Int)) := (hΦ 1 rfl).1
                      have g2 : (gg 2).v = (.bool ((x36.length : Int) != 3)) := (hΦ 2 rfl).1
                      have g3 : (gg 3).v = (.bool ((x36.length : Int) != 3)) := (hΦ 3 rfl).1
                      have g4 : (gg 4).v = v38 := (hΦ 4 rfl).1
                      have g5 : (gg 5).v = (.pointer (some ⟨rowB v38, rowO v38 + (0 : Int).toNat * 1, none⟩)) := (hΦ 5 rfl).1
                      have g6 : (gg 6).v = (.int .i64 x43) := (hΦ 6 rfl).1
                      have g7 : (gg 7).v = (.agg (planC a0).toArray) := (hΦ 7 rfl).1
                      have g8 : (gg 8).v = (.int .i64 x31.2) := (hΦ 8 rfl).1
                      have g9 : (gg 9).v = (.int .i64 (D.plan_Plan_Field a0 x31.2 0)) := (hΦ 9 rfl).1
                      have g10 : (gg 10).v = (.bool (x43 != (D.plan_Plan_Field a0 x31.2 0))) := (hΦ 10 rfl).1
                      have g11 : (gg 11).v = (.bool (x43 != (D.plan_Plan_Field a0 x31.2 0))) := (hΦ 11 rfl).1
                      have g12 : (gg 12).v = (.bool (x43 != (D.plan_Plan_Field a0 x31.2 0))) := (hΦ 12 rfl).1
                      have g13 : (gg 13).v = v38 := (hΦ 13 rfl).1
                      have g14 : (gg 14).v = (.pointer (some ⟨rowB v38, rowO v38 + (1 : Int).toNat * 1, none⟩)) := (hΦ 14 rfl).1
                      have g15 : (gg 15).v = (.int .i64 x46) := (hΦ 15 rfl).1
                      have g16 : (gg 16).v = (.agg (planC a0).toArray) := (hΦ 16 rfl).1
                      have g17 : (gg 17).v = (.int .i64 x31.2) := (hΦ 17 rfl).1
                      have g18 : (gg 18).v = (.int .i64 (D.plan_Plan_Field a0 x31.2 1)) := (hΦ 18 rfl).1
                      have g19 : (gg 19).v = (.bool (x46 != (D.plan_Plan_Field a0 x31.2 1))) := (hΦ 19 rfl).1
                      have g20 : (gg 20).v = (.bool (x46 != (D.plan_Plan_Field a0 x31.2 1))) := (hΦ 20 rfl).1
                      have g21 : (gg 21).v = (.bool (x46 != (D.plan_Plan_Field a0 x31.2 1))) := (hΦ 21 rfl).1
                      have g22 : (gg 22).v = undef := (hΦ 22 rfl).1
                      have g23 : (gg 23).v = undef := (hΦ 23 rfl).1
                      have g24 : (gg 24).v = undef := (hΦ 24 rfl).1
                      have g25 : (gg 25).v = undef := (hΦ 25 rfl).1
                      have g26 : (gg 26).v = undef := (hΦ 26 rfl).1
                      have g27 : (gg 27).v = undef := (hΦ 27 rfl).1
                      have g28 : (gg 28).v = undef := (hΦ 28 rfl).1
                      have g29 : (gg 29).v = (.bool true) := (hΦ 29 rfl).1
                      have r := r.congr (sc g29 (sc g28 (sc g27 (sc g26 (sc g25 (sc g24 (sc g23 (sc g22 (sc g21 (sc g20 (sc g19 (sc g18 (sc g17 (sc g16 (sc g15 (sc g14 (sc g13 (sc g12 (sc g11 (sc g10 (sc g9 (sc g8 (sc g7 (sc g6 (sc g5 (sc g4 (sc g3 (sc g2 (sc g1 (sc g0 rfl))))))))))))))))))))))))))))))
                      have hP : Post No [cellC b1 ((planC a0)).toArray 24, rowK 35 3 wordPC v18 x16, rowK 3 1 i64 v38 x36] w0 w48 := hP.below hb
                      exact nxy40 true () _ _ _ hD r (hs_cons rfl (hs_cons rfl (hs_cons rfl (hs_cons rfl (hs_cons rfl (hs_cons rfl (hs_cons rfl (hs_cons rfl (hs_cons rfl (hs_cons rfl hs_nil)))))))))) (hP.pick [0, 1, 2] rfl rfl)
                  · skip
                    have hD := (cond_f h47).symm.trans hD
                    obtain ⟨x49, hx49, hD⟩ := bindD_elim hD
                    refine wp_freeF [.val v38, .val (.int .i64 (x36.length : Int)), .val (.bool ((x36.length : Int) != 3)), .val (.bool ((x36.length : Int) != 3)), .val v38, .val (.pointer (some ⟨rowB v38, rowO v38 + (0 : Int).toNat * 1, none⟩)), .val (.int .i64 x43), .val (.agg (planC a0).toArray), .val (.int .i64 x31.2), .val (.int .i64 (D.plan_Plan_Field a0 x31.2 0)), .val (.bool (x43 != (D.plan_Plan_Field a0 x31.2 0))), .val (.bool (x43 != (D.plan_Plan_Field a0 x31.2 0))), .val (.bool (x43 != (D.plan_Plan_Field a0 x31.2 0))), .val v38, .val (.pointer (some ⟨rowB v38, rowO v38 + (1 : Int).toNat * 1, none⟩)), .val (.int .i64 x46), .val (.agg (planC a0).toArray), .val (.int .i64 x31.2), .val (.int .i64 (D.plan_Plan_Field a0 x31.2 1)), .val (.bool (x46 != (D.plan_Plan_Field a0 x31.2 1))), .val (.bool (x46 != (D.plan_Plan_Field a0 x31.2 1))), .val (.bool (x46 != (D.plan_Plan_Field a0 x31.2 1))), .val v38, .val (.pointer (some ⟨rowB v38, rowO v38 + (2 : Int).toNat * 1, none⟩)), .val (.int .i64 x49), .val (.agg (planC a0).toArray), .val (.int .i64 x31.2), .val (.int .i64 (D.plan_Plan_Field a0 x31.2 2)), .val (.bool (x49 != (D.plan_Plan_Field a0 x31.2 2))), .val (.bool (x49 != (D.plan_Plan_Field a0 x31.2 2)))] mixed r (by kernel_rfl) ?_ ?_
                    · skip
                      refine eachF_cons r rfl (fun fr1 g w' hb' hd r' => ?_) ?_
                      · exact y_move r' (v := v38) rfl ⟨Below.refl _ _, rfl⟩
                      refine eachF_cons r rfl (fun fr1 g w' hb' hd r' => ?_) ?_
                      · exact y_rowLen r' ((hP.below (dr hb')).row (i := 2) rfl) is36 (hd 0 rfl).1 ⟨Below.refl _ _, rfl⟩
                      refine eachF_cons r rfl (fun fr1 g w' hb' hd r' => ?_) ?_
                      · exact y_bin r' (u := (.int .i64 (x36.length : Int))) (u' := (.int .i64 3)) (v := (.bool ((x36.length : Int) != 3))) (hd 1 rfl).1 rfl rfl rfl ⟨Below.refl _ _, rfl⟩
                      refine eachF_cons r rfl (fun fr1 g w' hb' hd r' => ?_) ?_
                      · exact y_move r' (v := (.bool ((x36.length : Int) != 3))) (hd 2 rfl).1 ⟨Below.refl _ _, rfl⟩
                      refine eachF_want false r rfl rfl rfl (fun g w' hd => Eq.trans (show (g 3).v = .bool ((x36.length : Int) != 3) from (hd 3 rfl).1) (congrArg Value.bool h41)) (fun fr1 g w' hb' hd r' => ?_) ?_
                      · exact y_move r' (v := v38) rfl ⟨Below.refl _ _, rfl⟩
                      refine eachF_want false r rfl rfl rfl (fun g w' hd => Eq.trans (show (g 3).v = .bool ((x36.length : Int) != 3) from (hd 3 rfl).1) (congrArg Value.bool h41)) (fun fr1 g w' hb' hd r' => ?_) ?_
                      · exact y_rowAddr r' ((hP.below (dr hb')).row (i := 2) rfl) hx43 sl36 (hd 4 rfl).1 rfl ⟨Below.refl _ _, rfl⟩
                      refine eachF_want false r rfl rfl rfl (fun g w' hd => Eq.trans (show (g 3).v = .bool ((x36.length : Int) != 3) from (hd 3 rfl).1) (congrArg Value.bool h41)) (fun fr1 g w' hb' hd r' => ?_) ?_
                      · exact y_loadL_one r' (u := (.int .i64 x43)) (RowAt.at_ (f := i64) (x := x43) ((hP.below (dr hb')).row (i := 2) rfl) (fun _ => rfl) hx43) (hd 5 rfl).1 to3 ⟨Below.refl _ _, rfl⟩
                      refine eachF_want false r rfl rfl rfl (fun g w' hd => Eq.trans (show (g 3).v = .bool ((x36.length : Int) != 3) from (hd 3 rfl).1) (congrArg Value.bool h41)) (fun fr1 g w' hb' hd r' => ?_) ?_
                      · exact y_load_agg r' (cs := (planC a0)) (n := 6) rfl ((hP.below (dr hb')).cell (i := 0) rfl) ta24 rfl ⟨Below.refl _ _, rfl⟩
                      refine eachF_want false r rfl rfl rfl (fun g w' hd => Eq.trans (show (g 3).v = .bool ((x36.length : Int) != 3) from (hd 3 rfl).1) (congrArg Value.bool h41)) (fun fr1 g w' hb' hd r' => ?_) ?_
                      · exact y_move r' (v := (.int .i64 x31.2)) rfl ⟨Below.refl _ _, rfl⟩
                      refine eachF_want false r rfl rfl rfl (fun g w' hd => Eq.trans (show (g 3).v = .bool ((x36.length : Int) != 3) from (hd 3 rfl).1) (congrArg Value.bool h41)) (fun fr1 g w' hb' hd r' => ?_) ?_
                      · exact y_call r' (args := [(.agg (planC a0).toArray), (.int .i64 x31.2), (.int .i64 0)]) (lc (hd 7 rfl).1 (lc (hd 8 rfl).1 (lc rfl l0))) cl20 ((c_plan_Plan_Field _ a0 x31.2 0).mono (by rintro _ w2 ⟨rfl, hb2⟩; exact ⟨_, rfl, hb2, rfl⟩))
                      refine eachF_want false r rfl rfl rfl (fun g w' hd => Eq.trans (show (g 3).v = .bool ((x36.length : Int) != 3) from (hd 3 rfl).1) (congrArg Value.bool h41)) (fun fr1 g w' hb' hd r' => ?_) ?_
                      · exact y_bin r' (u := (.int .i64 x43)) (u' := (.int .i64 (D.plan_Plan_Field a0 x31.2 0))) (v := (.bool (x43 != (D.plan_Plan_Field a0 x31.2 0)))) (hd 6 rfl).1 (hd 9 rfl).1 rfl rfl ⟨Below.refl _ _, rfl⟩
                      refine eachF_cons r rfl (fun fr1 g w' hb' hd r' => ?_) ?_
                      · exact y_pick r' (b := false) (v := (.bool (x43 != (D.plan_Plan_Field a0 x31.2 0)))) (Eq.trans (show (g 3).v = .bool ((x36.length : Int) != 3) from (hd 3 rfl).1) (congrArg Value.bool h41)) (hd 10 rfl).1 ⟨Below.refl _ _, rfl⟩
                      refine eachF_cons r rfl (fun fr1 g w' hb' hd r' => ?_) ?_
                      · exact y_move r' (v := (.bool (x43 != (D.plan_Plan_Field a0 x31.2 0)))) (hd 11 rfl).1 ⟨Below.refl _ _, rfl⟩
                      refine eachF_want false r rfl rfl rfl (fun g w' hd => Eq.trans (show (g 12).v = .bool (x43 != (D.plan_Plan_Field a0 x31.2 0)) from (hd 12 rfl).1) (congrArg Value.bool h44)) (fun fr1 g w' hb' hd r' => ?_) ?_
                      · exact y_move r' (v := v38) rfl ⟨Below.refl _ _, rfl⟩
                      refine eachF_want false r rfl rfl rfl (fun g w' hd => Eq.trans (show (g 12).v = .bool (x43 != (D.plan_Plan_Field a0 x31.2 0)) from (hd 12 rfl).1) (congrArg Value.bool h44)) (fun fr1 g w' hb' hd r' => ?_) ?_
                      · exact y_rowAddr r' ((hP.below (dr hb')).row (i := 2) rfl) hx46 sl36 (hd 13 rfl).1 rfl ⟨Below.refl _ _, rfl⟩
                      refine eachF_want false r rfl rfl rfl (fun g w' hd => Eq.trans (show (g 12).v = .bool (x43 != (D.plan_Plan_Field a0 x31.2 0)) from (hd 12 rfl).1) (congrArg Value.bool h44)) (fun fr1 g w' hb' hd r' => ?_) ?_
                      · exact y_loadL_one r' (u := (.int .i64 x46)) (RowAt.at_ (f := i64) (x := x46) ((hP.below (dr hb')).row (i := 2) rfl) (fun _ => rfl) hx46) (hd 14 rfl).1 to3 ⟨Below.refl _ _, rfl⟩
                      refine eachF_want false r rfl rfl rfl (fun g w' hd => Eq.trans (show (g 12).v = .bool (x43 != (D.plan_Plan_Field a0 x31.2 0)) from (hd 12 rfl).1) (congrArg Value.bool h44)) (fun fr1 g w' hb' hd r' => ?_) ?_
                      · exact y_load_agg r' (cs := (planC a0)) (n := 6) rfl ((hP.below (dr hb')).cell (i := 0) rfl) ta24 rfl ⟨Below.refl _ _, rfl⟩
                      refine eachF_want false r rfl rfl rfl (fun g w' hd => Eq.trans (show (g 12).v = .bool (x43 != (D.plan_Plan_Field a0 x31.2 0)) from (hd 12 rfl).1) (congrArg Value.bool h44)) (fun fr1 g w' hb' hd r' => ?_) ?_
                      · exact y_move r' (v := (.int .i64 x31.2)) rfl ⟨Below.refl _ _, rfl⟩
                      refine eachF_want false r rfl rfl rfl (fun g w' hd => Eq.trans (show (g 12).v = .bool (x43 != (D.plan_Plan_Field a0 x31.2 0)) from (hd 12 rfl).1) (congrArg Value.bool h44)) (fun fr1 g w' hb' hd r' => ?_) ?_
                      · exact y_call r' (args := [(.agg (planC a0).toArray), (.int .i64 x31.2), (.int .i64 1)]) (lc (hd 16 rfl).1 (lc (hd 17 rfl).1 (lc rfl l0))) cl20 ((c_plan_Plan_Field _ a0 x31.2 1).mono (by rintro _ w2 ⟨rfl, hb2⟩; exact ⟨_, rfl, hb2, rfl⟩))
                      refine eachF_want false r rfl rfl rfl (fun g w' hd => Eq.trans (show (g 12).v = .bool (x43 != (D.plan_Plan_Field a0 x31.2 0)) from (hd 12 rfl).1) (congrArg Value.bool h44)) (fun fr1 g w' hb' hd r' => ?_) ?_
                      · exact y_bin r' (u := (.int .i64 x46)) (u' := (.int .i64 (D.plan_Plan_Field a0 x31.2 1))) (v := (.bool (x46 != (D.plan_Plan_Field a0 x31.2 1)))) (hd 15 rfl).1 (hd 18 rfl).1 rfl rfl ⟨Below.refl _ _, rfl⟩
                      refine eachF_cons r rfl (fun fr1 g w' hb' hd r' => ?_) ?_
                      · exact y_pick r' (b := false) (v := (.bool (x46 != (D.plan_Plan_Field a0 x31.2 1)))) (Eq.trans (show (g 12).v = .bool (x43 != (D.plan_Plan_Field a0 x31.2 0)) from (hd 12 rfl).1) (congrArg Value.bool h44)) (hd 19 rfl).1 ⟨Below.refl _ _, rfl⟩
                      refine eachF_cons r rfl (fun fr1 g w' hb' hd r' => ?_) ?_
                      · exact y_move r' (v := (.bool (x46 != (D.plan_Plan_Field a0 x31.2 1)))) (hd 20 rfl).1 ⟨Below.refl _ _, rfl⟩
                      refine eachF_want false r rfl rfl rfl (fun g w' hd => Eq.trans (show (g 21).v = .bool (x46 != (D.plan_Plan_Field a0 x31.2 1)) from (hd 21 rfl).1) (congrArg Value.bool h47)) (fun fr1 g w' hb' hd r' => ?_) ?_
                      · exact y_move r' (v := v38) rfl ⟨Below.refl _ _, rfl⟩
                      refine eachF_want false r rfl rfl rfl (fun g w' hd => Eq.trans (show (g 21).v = .bool (x46 != (D.plan_Plan_Field a0 x31.2 1)) from (hd 21 rfl).1) (congrArg Value.bool h47)) (fun fr1 g w' hb' hd r' => ?_) ?_
                      · exact y_rowAddr r' ((hP.below (dr hb')).row (i := 2) rfl) hx49 sl36 (hd 22 rfl).1 rfl ⟨Below.refl _ _, rfl⟩
                      refine eachF_want false r rfl rfl rfl (fun g w' hd => Eq.trans (show (g 21).v = .bool (x46 != (D.plan_Plan_Field a0 x31.2 1)) from (hd 21 rfl).1) (congrArg Value.bool h47)) (fun fr1 g w' hb' hd r' => ?_) ?_
                      · exact y_loadL_one r' (u := (.int .i64 x49)) (RowAt.at_ (f := i64) (x := x49) ((hP.below (dr hb')).row (i := 2) rfl) (fun _ => rfl) hx49) (hd 23 rfl).1 to3 ⟨Below.refl _ _, rfl⟩
                      refine eachF_want false r rfl rfl rfl (fun g w' hd => Eq.trans (show (g 21).v = .bool (x46 != (D.plan_Plan_Field a0 x31.2 1)) from (hd 21 rfl).1) (congrArg Value.bool h47)) (fun fr1 g w' hb' hd r' => ?_) ?_
                      · exact y_load_agg r' (cs := (planC a0)) (n := 6) rfl ((hP.below (dr hb')).cell (i := 0) rfl) ta24 rfl ⟨Below.refl _ _, rfl⟩
                      refine eachF_want false r rfl rfl rfl (fun g w' hd => Eq.trans (show (g 21).v = .bool (x46 != (D.plan_Plan_Field a0 x31.2 1)) from (hd 21 rfl).1) (congrArg Value.bool h47)) (fun fr1 g w' hb' hd r' => ?_) ?_
                      · exact y_move r' (v := (.int .i64 x31.2)) rfl ⟨Below.refl _ _, rfl⟩
                      refine eachF_want false r rfl rfl rfl (fun g w' hd => Eq.trans (show (g 21).v = .bool (x46 != (D.plan_Plan_Field a0 x31.2 1)) from (hd 21 rfl).1) (congrArg Value.bool h47)) (fun fr1 g w' hb' hd r' => ?_) ?_
                      · exact y_call r' (args := [(.agg (planC a0).toArray), (.int .i64 x31.2), (.int .i64 2)]) (lc (hd 25 rfl).1 (lc (hd 26 rfl).1 (lc rfl l0))) cl20 ((c_plan_Plan_Field _ a0 x31.2 2).mono (by rintro _ w2 ⟨rfl, hb2⟩; exact ⟨_, rfl, hb2, rfl⟩))
                      refine eachF_want false r rfl rfl rfl (fun g w' hd => Eq.trans (show (g 21).v = .bool (x46 != (D.plan_Plan_Field a0 x31.2 1)) from (hd 21 rfl).1) (congrArg Value.bool h47)) (fun fr1 g w' hb' hd r' => ?_) ?_
                      · exact y_bin r' (u := (.int .i64 x49)) (u' := (.int .i64 (D.plan_Plan_Field a0 x31.2 2))) (v := (.bool (x49 != (D.plan_Plan_Field a0 x31.2 2)))) (hd 24 rfl).1 (hd 27 rfl).1 rfl rfl ⟨Below.refl _ _, rfl⟩
                      refine eachF_cons r rfl (fun fr1 g w' hb' hd r' => ?_) ?_
                      · exact y_pick r' (b := false) (v := (.bool (x49 != (D.plan_Plan_Field a0 x31.2 2)))) (Eq.trans (show (g 21).v = .bool (x46 != (D.plan_Plan_Field a0 x31.2 1)) from (hd 21 rfl).1) (congrArg Value.bool h47)) (hd 28 rfl).1 ⟨Below.refl _ _, rfl⟩
                      exact eachF_nil
                    · skip
                      intro fr gg w50 hb hΦ hap r
                      have g0 : (gg 0).v = v38 := (hΦ 0 rfl).1
                      have g1 : (gg 1).v = (.int .i64 (x36.length : Int)) := (hΦ 1 rfl).1
                      have g2 : (gg 2).v = (.bool ((x36.length : Int) != 3)) := (hΦ 2 rfl).1
                      have g3 : (gg 3).v = (.bool ((x36.length : Int) != 3)) := (hΦ 3 rfl).1
                      have g4 : (gg 4).v = v38 := (hΦ 4 rfl).1
                      have g5 : (gg 5).v = (.pointer (some ⟨rowB v38, rowO v38 + (0 : Int).toNat * 1, none⟩)) := (hΦ 5 rfl).1
                      have g6 : (gg 6).v = (.int .i64 x43) := (hΦ 6 rfl).1
                      have g7 : (gg 7).v = (.agg (planC a0).toArray) := (hΦ 7 rfl).1
                      have g8 : (gg 8).v = (.int .i64 x31.2) := (hΦ 8 rfl).1
                      have g9 : (gg 9).v = (.int .i64 (D.plan_Plan_Field a0 x31.2 0)) := (hΦ 9 rfl).1
                      have g10 : (gg 10).v = (.bool (x43 != (D.plan_Plan_Field a0 x31.2 0))) := (hΦ 10 rfl).1
                      have g11 : (gg 11).v = (.bool (x43 != (D.plan_Plan_Field a0 x31.2 0))) := (hΦ 11 rfl).1
                      have g12 : (gg 12).v = (.bool (x43 != (D.plan_Plan_Field a0 x31.2 0))) := (hΦ 12 rfl).1
                      have g13 : (gg 13).v = v38 := (hΦ 13 rfl).1
                      have g14 : (gg 14).v = (.pointer (some ⟨rowB v38, rowO v38 + (1 : Int).toNat * 1, none⟩)) := (hΦ 14 rfl).1
                      have g15 : (gg 15).v = (.int .i64 x46) := (hΦ 15 rfl).1
                      have g16 : (gg 16).v = (.agg (planC a0).toArray) := (hΦ 16 rfl).1
                      have g17 : (gg 17).v = (.int .i64 x31.2) := (hΦ 17 rfl).1
                      have g18 : (gg 18).v = (.int .i64 (D.plan_Plan_Field a0 x31.2 1)) := (hΦ 18 rfl).1
                      have g19 : (gg 19).v = (.bool (x46 != (D.plan_Plan_Field a0 x31.2 1))) := (hΦ 19 rfl).1
                      have g20 : (gg 20).v = (.bool (x46 != (D.plan_Plan_Field a0 x31.2 1))) := (hΦ 20 rfl).1
                      have g21 : (gg 21).v = (.bool (x46 != (D.plan_Plan_Field a0 x31.2 1))) := (hΦ 21 rfl).1
                      have g22 : (gg 22).v = v38 := (hΦ 22 rfl).1
                      have g23 : (gg 23).v = (.pointer (some ⟨rowB v38, rowO v38 + (2 : Int).toNat * 1, none⟩)) := (hΦ 23 rfl).1
                      have g24 : (gg 24).v = (.int .i64 x49) := (hΦ 24 rfl).1
                      have g25 : (gg 25).v = (.agg (planC a0).toArray) := (hΦ 25 rfl).1
                      have g26 : (gg 26).v = (.int .i64 x31.2) := (hΦ 26 rfl).1
                      have g27 : (gg 27).v = (.int .i64 (D.plan_Plan_Field a0 x31.2 2)) := (hΦ 27 rfl).1
                      have g28 : (gg 28).v = (.bool (x49 != (D.plan_Plan_Field a0 x31.2 2))) := (hΦ 28 rfl).1
                      have g29 : (gg 29).v = (.bool (x49 != (D.plan_Plan_Field a0 x31.2 2))) := (hΦ 29 rfl).1
                      have r := r.congr (sc g29 (sc g28 (sc g27 (sc g26 (sc g25 (sc g24 (sc g23 (sc g22 (sc g21 (sc g20 (sc g19 (sc g18 (sc g17 (sc g16 (sc g15 (sc g14 (sc g13 (sc g12 (sc g11 (sc g10 (sc g9 (sc g8 (sc g7 (sc g6 (sc g5 (sc g4 (sc g3 (sc g2 (sc g1 (sc g0 rfl))))))))))))))))))))))))))))))
                      have hP : Post No [cellC b1 ((planC a0)).toArray 24, rowK 35 3 wordPC v18 x16, rowK 3 1 i64 v38 x36] w0 w50 := hP.below hb
                      exact nxy40 (x49 != (D.plan_Plan_Field a0 x31.2 2)) () _ _ _ hD r (hs_cons rfl (hs_cons rfl (hs_cons rfl (hs_cons rfl (hs_cons rfl (hs_cons rfl (hs_cons rfl (hs_cons rfl (hs_cons rfl (hs_cons rfl hs_nil)))))))))) (hP.pick [0, 1, 2] rfl rfl)
            · skip
              rintro x51 γ52 fr w53 g r hP hD
              have hP : Post No [cellC b1 ((planC a0)).toArray 24, rowK 35 3 wordPC v18 x16, rowK 3 1 i64 v38 x36] w0 w53 := hP
              refine wp_cond_split (t := x51) (r.ev rfl) (fun h54 => ?_) (fun h54 => ?_)
              · skip
                have hD := (cond_t h54).symm.trans hD
                refine wp_seq ?_
                refine wp_region_lit ?_
                refine seq_val (.bool false) r (fun R => y_assign r rfl) rfl fun fr r => ?_
                refine wpList_nil ?_
                refine wp_ret ?_
                refine rty33 false _ _ hD fun hD => ?_
                have hv : false = res := Option.some.inj hD
                try dsimp only [Exit.then, Exit.inBlock]
                refine ret_tmp (fn := Try.f6) r (t := 2) rfl (v := (.bool false)) rfl ?_
                subst hv
                exact ⟨rfl, hP.chg.below⟩
              · skip
                have hD := (cond_f h54).symm.trans hD
                refine wp_skip ?_
                refine wp_region_lit ?_
                refine seq_val (.int .i64 x31.2) r (fun R => y_move r rfl) rfl fun fr r => ?_
                refine seq_val (.int .i64 (IntKind.i64.wrap (x31.2 + 1))) r (fun R => y_bin r (u := (.int .i64 x31.2)) (u' := (.int .i64 1)) rfl rfl rfl rfl) rfl fun fr r => ?_
                refine seq_val (.int .i64 (IntKind.i64.wrap (x31.2 + 1))) r (fun R => y_assign r rfl) rfl fun fr r => ?_
                refine wpList_nil ?_
                exact nxy33 (x31.1, (IntKind.i64.wrap (x31.2 + 1))) () _ _ _ hD r (hs_cons rfl (hs_cons rfl (hs_cons rfl (hs_cons rfl (hs_cons rfl (hs_cons rfl (hs_cons rfl hs_nil))))))) (hP.pick [0, 1] rfl rfl)
          · skip
            have hD := (cond_f h35).symm.trans hD
            refine wp_exit ?_
            exact bky33 (x31.1, x31.2) () _ _ _ hD r (hs_cons rfl (hs_cons rfl (hs_cons rfl (hs_cons rfl (hs_cons rfl (hs_cons rfl (hs_cons rfl hs_nil))))))) (hP.pick [0, 1] rfl rfl)
        · skip
          rintro x55 γ56 fr w57 g r hP hD
          have hP : Post No [cellC b1 ((planC a0)).toArray 24, rowK 35 3 wordPC v18 x16] w0 w57 := hP
          refine wp_seq ?_
          refine wp_joinG (N := 87) (Y := Bool) (G := Unit) (fun x γ => [(0, (.agg (planC a0).toArray)), (1, (.pointer (some ⟨b1, 0, none⟩))), (18, (.bool x11)), (3, v18), (4, (.int .i64 x28.2)), (5, (.int .i64 x55.2)), (2, (.bool x))]) (fun x γ w => Post No [cellC b1 ((planC a0)).toArray 24, rowK 35 3 wordPC v18 x16] w0 w) hD ?_ ?_
          · skip
            rintro y58 RPy58 nxy58 hD
            refine wp_region_lit ?_
            refine seq_val (.agg (planC a0).toArray) r (fun R => y_load_agg r (cs := (planC a0)) (n := 6) rfl (hP.cell (i := 0) rfl) ta24 rfl) rfl fun fr r => ?_
            refine seq_val (.pointer (some ⟨b1, 0, none⟩)) r (fun R => y_fieldAddr r (o := 0) rfl fo24_0) rfl fun fr r => ?_
            refine seq_val (.int .i64 a0.nodes) r (fun R => y_load_one r (v := (.int .i64 a0.nodes)) rfl (hP.cell (i := 0) rfl) to3 rfl) rfl fun fr r => ?_
            obtain ⟨x59, hx59, hD⟩ := bindD_elim hD
            refine seq_call r (c_plan_Plan_Words w57 a0 a0.nodes hx59) (fun R hc => y_call r rfl cl34 hc) rfl ?_
            rintro _ w60 ⟨v61, rfl, hq⟩
            refine ⟨_, rfl, fun fr r => ?_⟩
            have hP : Post No [cellC b1 ((planC a0)).toArray 24, rowK 35 3 wordPC v18 x16, rowK 3 1 i64 v61 x59] w0 w60 := hP.add hq
            refine seq_val (.int .i64 (x59.length : Int)) r (fun R => y_rowLen r (hP.row (i := 2) rfl) is36 rfl) rfl fun fr r => ?_
            refine seq_val (.bool ((x59.length : Int) == 0)) r (fun R => y_bin r (u := (.int .i64 (x59.length : Int))) (u' := (.int .i64 0)) rfl rfl rfl rfl) rfl fun fr r => ?_
            refine seq_val (.bool ((x59.length : Int) == 0)) r (fun R => y_move r rfl) rfl fun fr r => ?_
            refine seq_split ((x59.length : Int) == 0) (fun h63 => ?_) (fun h63 => ?_)
            · skip
              have hD := (cond_t h63).symm.trans hD
              refine seq_want r rfl rfl rfl (congrArg Value.bool h63) ?_
              refine seq_val (.agg (planC a0).toArray) r (fun R => y_load_agg r (cs := (planC a0)) (n := 6) rfl (hP.cell (i := 0) rfl) ta24 rfl) rfl fun fr r => ?_
              refine seq_want r rfl rfl rfl (congrArg Value.bool h63) ?_
              obtain ⟨x64, hx64, hD⟩ := bindD_elim hD
              refine seq_call r (c_plan_Plan_Words w60 a0 (-1) hx64) (fun R hc => y_call r rfl cl34 hc) rfl ?_
              rintro _ w65 ⟨v66, rfl, hq⟩
              refine ⟨_, rfl, fun fr r => ?_⟩
              have hP : Post No [cellC b1 ((planC a0)).toArray 24, rowK 35 3 wordPC v18 x16, rowK 3 1 i64 v61 x59, rowK 3 1 i64 v66 x64] w0 w65 := hP.add hq
              refine seq_want r rfl rfl rfl (congrArg Value.bool h63) ?_
              refine seq_val (.int .i64 (x64.length : Int)) r (fun R => y_rowLen r (hP.row (i := 3) rfl) is36 rfl) rfl fun fr r => ?_
              refine seq_want r rfl rfl rfl (congrArg Value.bool h63) ?_
              refine seq_val (.bool ((x64.length : Int) == 0)) r (fun R => y_bin r (u := (.int .i64 (x64.length : Int))) (u' := (.int .i64 0)) rfl rfl rfl rfl) rfl fun fr r => ?_
              refine seq_val (.bool ((x64.length : Int) == 0)) r (fun R => y_pick r (b := true) (congrArg Value.bool h63) rfl) rfl fun fr r => ?_
              refine seq_val (.bool ((x64.length : Int) == 0)) r (fun R => y_assign r rfl) rfl fun fr r => ?_
              refine wpList_nil ?_
              exact nxy58 ((x64.length : Int) == 0) () _ _ _ hD r (hs_cons rfl (hs_cons rfl (hs_cons rfl (hs_cons rfl (hs_cons rfl (hs_cons rfl (hs_cons rfl hs_nil))))))) (hP.pick [0, 1] rfl rfl)
            · skip
              have hD := (cond_f h63).symm.trans hD
              refine seq_skip r rfl rfl rfl (v := .bool false) (congrArg Value.bool h63) (by simp [boolOf]) fun fr r => ?_
              refine seq_skip r rfl rfl rfl (v := .bool false) (congrArg Value.bool h63) (by simp [boolOf]) fun fr r => ?_
              refine seq_skip r rfl rfl rfl (v := .bool false) (congrArg Value.bool h63) (by simp [boolOf]) fun fr r => ?_
              refine seq_skip r rfl rfl rfl (v := .bool false) (congrArg Value.bool h63) (by simp [boolOf]) fun fr r => ?_
              refine seq_val (.bool false) r (fun R => y_pick r (b := false) (congrArg Value.bool h63) rfl) rfl fun fr r => ?_
              refine seq_val (.bool false) r (fun R => y_assign r rfl) rfl fun fr r => ?_
              refine wpList_nil ?_
              exact nxy58 false () _ _ _ hD r (hs_cons rfl (hs_cons rfl (hs_cons rfl (hs_cons rfl (hs_cons rfl (hs_cons rfl (hs_cons rfl hs_nil))))))) (hP.pick [0, 1] rfl rfl)
          · skip
            rintro x68 γ69 fr w70 g r hP hD
            have hP : Post No [cellC b1 ((planC a0)).toArray 24, rowK 35 3 wordPC v18 x16] w0 w70 := hP
            refine wp_ret ?_
            have hv : x68 = res := Option.some.inj hD
            try dsimp only [Exit.then, Exit.inBlock]
            refine ret_tmp (fn := Try.f6) r (t := 2) rfl (v := (.bool x68)) rfl ?_
            subst hv
            exact ⟨rfl, hP.chg.below⟩

end Go.Proofs.Ytphnnjiaiemkcaa.Wk
