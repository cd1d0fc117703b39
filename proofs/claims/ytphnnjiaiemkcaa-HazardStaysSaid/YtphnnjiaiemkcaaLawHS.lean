/- Written by a program of ours (wip/gen.py): a law -/
import Derived.Test.YtphnnjiaiemkcaaLaids
set_option linter.unusedVariables false
namespace Go.Proofs.Ytphnnjiaiemkcaa.Wk
open Go.RowKit
theorem cl20 : callable Try.prog 20 = true := by kernel_rfl
theorem cl37 : callable Try.prog 37 = true := by kernel_rfl
theorem cl38 : callable Try.prog 38 = true := by kernel_rfl
theorem cl47 : callable Try.prog 47 = true := by kernel_rfl
theorem cl49 : callable Try.prog 49 = true := by kernel_rfl
theorem cl50 : callable Try.prog 50 = true := by kernel_rfl
theorem cl51 : callable Try.prog 51 = true := by kernel_rfl
theorem fo76_0 : fieldOff Try.prog 76 0 0 = true := by kernel_rfl
theorem fo76_1 : fieldOff Try.prog 76 1 6 = true := by kernel_rfl
theorem fo76_2 : fieldOff Try.prog 76 2 7 = true := by kernel_rfl
theorem fo76_3 : fieldOff Try.prog 76 3 8 = true := by kernel_rfl

def D.cubiclelaw10_HazardStays (fu : Nat) (a0 : Stay) : Option (Bool) := (Option.bind ((D.cubiclelaw10_awake fu ).bind (fun (x8 : Bool) => (bif (!x8) then (some true) else (some (!(D.cubiclelaw10_fits a0.p a0.thread a0.slot 0)))))) (fun (x12 : Bool) => (bif x12 then ((D.cubiclelaw10_awake fu ).bind (fun (x16 : Bool) => (some x16))) else ((D.cubiclelaw09_Laid fu a0.p).bind (fun (x18 : Mem) => ((D.mem_Memory_Cap fu x18 0).bind (fun (x23 : Cap) => ((D.mem_Memory_Do fu x18 x23 (⟨1, (D.plan_Plan_Field a0.p 0 1), (a0.w.tmod 1099511627776), 0⟩ : Access)).bind (fun (x25 : Int × Bool × Mem) => ((D.mem_Memory_Cap fu x25.2.2 0).bind (fun (x31 : Cap) => ((D.prog_Run_uint64 fu (fu, (D.hazard_Guard (fu + 1) a0.p a0.thread a0.slot (D.plan_Plan_Field a0.p 0 1) 1)) x25.2.2 x31 9).bind (fun (x33 : Int × Int × Bool × Mem) => (bif (decide ((D.cubicleref10_Named (a0.w.tmod 1099511627776) 1) < 0)) then (Option.bind (bif (x33.1 == (a0.w.tmod 1099511627776)) then (bif (x33.2.1 == 1) then (bif x33.2.2.1 then ((D.mem_Memory_Peek fu x33.2.2.2 0 (D.plan_Plan_Hazard a0.p a0.thread a0.slot)).bind (fun (x42 : Int) => (some (x42 == 0)))) else (some false)) else (some false)) else (some false)) (fun (x44 : Bool) => (some x44))) else (Option.bind (bif (x33.1 == (a0.w.tmod 1099511627776)) then (bif (x33.2.1 == 3) then (bif x33.2.2.1 then ((D.mem_Memory_Peek fu x33.2.2.2 0 (D.plan_Plan_Hazard a0.p a0.thread a0.slot)).bind (fun (x52 : Int) => (some (x52 == (IntKind.u64.wrap (IntKind.i64.wrap ((D.cubicleref10_Named (a0.w.tmod 1099511627776) 1) + 1))))))) else (some false)) else (some false)) else (some false)) (fun (x54 : Bool) => (some x54)))))))))))))))))

set_option maxRecDepth 20000 in
set_option maxHeartbeats 2000000 in
theorem c_cubiclelaw10_HazardStays {fu : Nat} (w0 : World) (a0 : Stay) {res : Bool} (hD : D.cubiclelaw10_HazardStays fu a0 = some res) :
    Calls Try.prog 10 #[.agg (stayC a0).toArray] w0 (PureRes (.bool res) w0) := by
  refine enter (l := [.agg (stayC a0).toArray]) Try.func10 rfl 104 rfl rfl fun fr r => ?_
  have hP : Post No [] w0 w0 := Post.nil w0
  unfold D.cubiclelaw10_HazardStays at hD
  refine wp_seq ?_
  refine wp_region_lit ?_
  refine seq_new (.cells ((stayC a0)).toArray 76 (0, 0)) r (fun R => y_box r (v := (.agg (stayC a0).toArray)) rfl) rfl fun fr b1 w2 n3 r => ?_
  have hP : Post No [cellC b1 ((stayC a0)).toArray 76] w0 w2 := hP.new n3
  refine seq_val (.bool false) r (fun R => y_assign r rfl) rfl fun fr r => ?_
  refine wpList_nil ?_
  refine wp_seq ?_
  refine wp_freeF [.val (.pointer (some ⟨b1, 0, none⟩)), .val (.agg (planC a0.p).toArray), .val (.pointer (some ⟨b1, 6, none⟩)), .val (.int .i64 a0.thread), .val (.pointer (some ⟨b1, 7, none⟩)), .val (.int .i64 a0.slot), .val (.pointer (some ⟨b1, 8, none⟩)), .val (.int .u64 a0.w), .cell 24 6, .stored 8 ((planC a0.p)).toArray 24 6 rfl, .val (.int .i64 a0.thread), .val (.int .i64 a0.slot), .val (.int .u64 a0.w)] mixed r (by kernel_rfl) ?_ ?_
  · skip
    refine eachF_cons r rfl (fun fr1 g w' hb' hd r' => ?_) ?_
    · exact y_fieldAddr r' (b := b1) (o := 0) (k := 0) rfl fo76_0 ⟨Below.refl _ _, rfl⟩
    refine eachF_cons r rfl (fun fr1 g w' hb' hd r' => ?_) ?_
    · exact y_load_agg r' (cs := (planC a0.p)) (n := 6) (hd 0 rfl).1 ((hP.below (dr hb')).cell (i := 0) rfl) ta24 rfl ⟨Below.refl _ _, rfl⟩
    refine eachF_cons r rfl (fun fr1 g w' hb' hd r' => ?_) ?_
    · exact y_fieldAddr r' (b := b1) (o := 0) (k := 6) rfl fo76_1 ⟨Below.refl _ _, rfl⟩
    refine eachF_cons r rfl (fun fr1 g w' hb' hd r' => ?_) ?_
    · exact y_load_one r' (v := (.int .i64 a0.thread)) (hd 2 rfl).1 ((hP.below (dr hb')).cell (i := 0) rfl) to3 rfl ⟨Below.refl _ _, rfl⟩
    refine eachF_cons r rfl (fun fr1 g w' hb' hd r' => ?_) ?_
    · exact y_fieldAddr r' (b := b1) (o := 0) (k := 7) rfl fo76_2 ⟨Below.refl _ _, rfl⟩
    refine eachF_cons r rfl (fun fr1 g w' hb' hd r' => ?_) ?_
    · exact y_load_one r' (v := (.int .i64 a0.slot)) (hd 4 rfl).1 ((hP.below (dr hb')).cell (i := 0) rfl) to3 rfl ⟨Below.refl _ _, rfl⟩
    refine eachF_cons r rfl (fun fr1 g w' hb' hd r' => ?_) ?_
    · exact y_fieldAddr r' (b := b1) (o := 0) (k := 8) rfl fo76_3 ⟨Below.refl _ _, rfl⟩
    refine eachF_cons r rfl (fun fr1 g w' hb' hd r' => ?_) ?_
    · exact y_load_one r' (v := (.int .u64 a0.w)) (hd 6 rfl).1 ((hP.below (dr hb')).cell (i := 0) rfl) to49 rfl ⟨Below.refl _ _, rfl⟩
    refine eachF_cons r rfl (fun fr1 g w' hb' hd r' => ?_) ?_
    · exact y_alloc tz24 (fun b w2 n2 => ⟨n2.below, b, rfl, n2.eq, _, n2.at_, rfl⟩)
    refine eachF_cons r rfl (fun fr1 g w' hb' hd r' => ?_) ?_
    · obtain ⟨hp, _, c, hc, hn⟩ := (hd 8 rfl).1; exact y_store r' (o := 0) (c := c) (v := (.agg (planC a0.p).toArray)) hp (hd 1 rfl).1 hc ts24 (by rw [hn]; exact Nat.le_of_ble_eq_true rfl) rfl (over2_full (hn.trans rfl)) (fun w2 u2 => ⟨u2, rfl⟩)
    refine eachF_cons r rfl (fun fr1 g w' hb' hd r' => ?_) ?_
    · exact y_assign r' (v := (.int .i64 a0.thread)) (hd 3 rfl).1 ⟨Below.refl _ _, rfl⟩
    refine eachF_cons r rfl (fun fr1 g w' hb' hd r' => ?_) ?_
    · exact y_assign r' (v := (.int .i64 a0.slot)) (hd 5 rfl).1 ⟨Below.refl _ _, rfl⟩
    refine eachF_cons r rfl (fun fr1 g w' hb' hd r' => ?_) ?_
    · exact y_assign r' (v := (.int .u64 a0.w)) (hd 7 rfl).1 ⟨Below.refl _ _, rfl⟩
    exact eachF_nil
  · skip
    intro fr gg w6 hb hΦ hap r
    have g0 : (gg 0).v = (.pointer (some ⟨b1, 0, none⟩)) := (hΦ 0 rfl).1
    have g1 : (gg 1).v = (.agg (planC a0.p).toArray) := (hΦ 1 rfl).1
    have g2 : (gg 2).v = (.pointer (some ⟨b1, 6, none⟩)) := (hΦ 2 rfl).1
    have g3 : (gg 3).v = (.int .i64 a0.thread) := (hΦ 3 rfl).1
    have g4 : (gg 4).v = (.pointer (some ⟨b1, 7, none⟩)) := (hΦ 4 rfl).1
    have g5 : (gg 5).v = (.int .i64 a0.slot) := (hΦ 5 rfl).1
    have g6 : (gg 6).v = (.pointer (some ⟨b1, 8, none⟩)) := (hΦ 6 rfl).1
    have g7 : (gg 7).v = (.int .u64 a0.w) := (hΦ 7 rfl).1
    obtain ⟨b5, ee_b5⟩ : ∃ b, b = (gg 8).lo := ⟨_, rfl⟩
    have g8 : (gg 8).v = (.pointer (some ⟨b5, 0, none⟩)) := by rw [ee_b5]; exact (hΦ 8 rfl).1.1
    have h_b5 : w6.heap[b5]? = some (.cells ((planC a0.p)).toArray 24 (0, 0)) := by rw [ee_b5]; exact (hΦ 9 rfl).1.2
    have hs8 : Fresh [cellC b5 ((planC a0.p)).toArray 24] (gg 8).lo (gg 8).hi w6 := by subst ee_b5; exact Fresh.cell (hΦ 8 rfl).1.2.1 h_b5
    have g10 : (gg 10).v = (.int .i64 a0.thread) := (hΦ 10 rfl).1
    have g11 : (gg 11).v = (.int .i64 a0.slot) := (hΦ 11 rfl).1
    have g12 : (gg 12).v = (.int .u64 a0.w) := (hΦ 12 rfl).1
    have r := r.congr (sc g12 (sc g11 (sc g10 (sc g8 (sc g7 (sc g6 (sc g5 (sc g4 (sc g3 (sc g2 (sc g1 (sc g0 rfl))))))))))))
    have hP : Post No [cellC b1 ((stayC a0)).toArray 76, cellC b5 ((planC a0.p)).toArray 24] w0 w6 := hP.addL (l := [([cellC b5 ((planC a0.p)).toArray 24], (gg 8).lo, (gg 8).hi)]) hb ⟨hs8, (hΦ 8 rfl).2.1, disj_nil, trivial⟩
    refine wp_seq ?_
    refine wp_seq ?_
    refine wp_joinG (N := 104) (Y := Bool) (G := Unit) (fun x γ => [(0, (.agg (stayC a0).toArray)), (1, (.pointer (some ⟨b1, 0, none⟩))), (2, (.bool false)), (3, (.pointer (some ⟨b5, 0, none⟩))), (4, (.int .i64 a0.thread)), (5, (.int .i64 a0.slot)), (6, (.int .u64 a0.w)), (29, (.bool x))]) (fun x γ w => Post No [cellC b1 ((stayC a0)).toArray 76, cellC b5 ((planC a0.p)).toArray 24] w0 w) hD ?_ ?_
    · skip
      rintro y7 RPy7 nxy7 hD
      refine wp_region_lit ?_
      obtain ⟨x8, hx8, hD⟩ := bindD_elim hD
      refine seq_call r (c_cubiclelaw10_awake w6  hx8) (fun R hc => y_call r rfl cl37 hc) rfl ?_
      rintro _ w9 ⟨rfl, hb⟩
      refine ⟨_, rfl, fun fr r => ?_⟩
      have hP : Post No [cellC b1 ((stayC a0)).toArray 76, cellC b5 ((planC a0.p)).toArray 24] w0 w9 := hP.below hb
      refine seq_val (.bool (!x8)) r (fun R => y_un r (u := (.bool x8)) rfl rfl) rfl fun fr r => ?_
      refine seq_val (.bool (!x8)) r (fun R => y_move r rfl) rfl fun fr r => ?_
      refine seq_split (!x8) (fun h10 => ?_) (fun h10 => ?_)
      · skip
        have hD := (cond_t h10).symm.trans hD
        refine seq_skip r rfl rfl rfl (v := .bool true) (congrArg Value.bool h10) (by simp [boolOf]) fun fr r => ?_
        refine seq_skip r rfl rfl rfl (v := .bool true) (congrArg Value.bool h10) (by simp [boolOf]) fun fr r => ?_
        refine seq_skip r rfl rfl rfl (v := .bool true) (congrArg Value.bool h10) (by simp [boolOf]) fun fr r => ?_
        refine seq_skip r rfl rfl rfl (v := .bool true) (congrArg Value.bool h10) (by simp [boolOf]) fun fr r => ?_
        refine seq_skip r rfl rfl rfl (v := .bool true) (congrArg Value.bool h10) (by simp [boolOf]) fun fr r => ?_
        refine seq_val (.bool true) r (fun R => y_pick r (b := true) (congrArg Value.bool h10) rfl) rfl fun fr r => ?_
        refine wpList_nil ?_
        exact nxy7 true () _ _ _ hD r (hs_cons rfl (hs_cons rfl (hs_cons rfl (hs_cons rfl (hs_cons rfl (hs_cons rfl (hs_cons rfl (hs_cons rfl hs_nil)))))))) (hP.pick [0, 1] rfl rfl)
      · skip
        have hD := (cond_f h10).symm.trans hD
        refine seq_want r rfl rfl rfl (congrArg Value.bool h10) ?_
        refine seq_val (.agg (planC a0.p).toArray) r (fun R => y_load_agg r (cs := (planC a0.p)) (n := 6) rfl (hP.cell (i := 1) rfl) ta24 rfl) rfl fun fr r => ?_
        refine seq_want r rfl rfl rfl (congrArg Value.bool h10) ?_
        refine seq_val (.int .i64 a0.thread) r (fun R => y_move r rfl) rfl fun fr r => ?_
        refine seq_want r rfl rfl rfl (congrArg Value.bool h10) ?_
        refine seq_val (.int .i64 a0.slot) r (fun R => y_move r rfl) rfl fun fr r => ?_
        refine seq_want r rfl rfl rfl (congrArg Value.bool h10) ?_
        refine seq_call r (c_cubiclelaw10_fits w9 a0.p a0.thread a0.slot 0) (fun R hc => y_call r rfl cl38 hc) rfl ?_
        rintro _ w11 ⟨rfl, hb⟩
        refine ⟨_, rfl, fun fr r => ?_⟩
        have hP : Post No [cellC b1 ((stayC a0)).toArray 76, cellC b5 ((planC a0.p)).toArray 24] w0 w11 := hP.below hb
        refine seq_want r rfl rfl rfl (congrArg Value.bool h10) ?_
        refine seq_val (.bool (!(D.cubiclelaw10_fits a0.p a0.thread a0.slot 0))) r (fun R => y_un r (u := (.bool (D.cubiclelaw10_fits a0.p a0.thread a0.slot 0))) rfl rfl) rfl fun fr r => ?_
        refine seq_val (.bool (!(D.cubiclelaw10_fits a0.p a0.thread a0.slot 0))) r (fun R => y_pick r (b := false) (congrArg Value.bool h10) rfl) rfl fun fr r => ?_
        refine wpList_nil ?_
        exact nxy7 (!(D.cubiclelaw10_fits a0.p a0.thread a0.slot 0)) () _ _ _ hD r (hs_cons rfl (hs_cons rfl (hs_cons rfl (hs_cons rfl (hs_cons rfl (hs_cons rfl (hs_cons rfl (hs_cons rfl hs_nil)))))))) (hP.pick [0, 1] rfl rfl)
    · skip
      rintro x12 γ13 fr w14 g r hP hD
      have hP : Post No [cellC b1 ((stayC a0)).toArray 76, cellC b5 ((planC a0.p)).toArray 24] w0 w14 := hP
      refine wp_cond_split (t := x12) (r.ev rfl) (fun h15 => ?_) (fun h15 => ?_)
      · skip
        have hD := (cond_t h15).symm.trans hD
        refine wp_seq ?_
        refine wp_region_lit ?_
        obtain ⟨x16, hx16, hD⟩ := bindD_elim hD
        refine seq_call r (c_cubiclelaw10_awake w14  hx16) (fun R hc => y_call r rfl cl37 hc) rfl ?_
        rintro _ w17 ⟨rfl, hb⟩
        refine ⟨_, rfl, fun fr r => ?_⟩
        have hP : Post No [cellC b1 ((stayC a0)).toArray 76, cellC b5 ((planC a0.p)).toArray 24] w0 w17 := hP.below hb
        refine seq_val (.bool x16) r (fun R => y_assign r rfl) rfl fun fr r => ?_
        refine wpList_nil ?_
        refine wp_ret ?_
        have hv : x16 = res := Option.some.inj hD
        try dsimp only [Exit.then, Exit.inBlock]
        refine ret_tmp (fn := Try.f10) r (t := 2) rfl (v := (.bool x16)) rfl ?_
        subst hv
        exact ⟨rfl, hP.chg.below⟩
      · skip
        have hD := (cond_f h15).symm.trans hD
        refine wp_skip ?_
        refine wp_seq ?_
        refine wp_region_lit ?_
        refine seq_val (.agg (planC a0.p).toArray) r (fun R => y_load_agg r (cs := (planC a0.p)) (n := 6) rfl (hP.cell (i := 1) rfl) ta24 rfl) rfl fun fr r => ?_
        obtain ⟨x18, hx18, hD⟩ := bindD_elim hD
        refine seq_call r (c_cubiclelaw09_Laid w14 a0.p hx18) (fun R hc => y_call r rfl cl39 hc) rfl ?_
        rintro _ w19 ⟨mg20, rfl, hq⟩
        refine ⟨_, rfl, fun fr r => ?_⟩
        have hP : Post No [cellC b1 ((stayC a0)).toArray 76, cellC b5 ((planC a0.p)).toArray 24, memK mg20 x18] w0 w19 := hP.add hq
        refine seq_val (.pointer (some ⟨mg20.mb, 0, none⟩)) r (fun R => y_assign r rfl) rfl fun fr r => ?_
        refine wpList_nil ?_
        refine wp_seq ?_
        refine wp_seq ?_
        refine wp_region_lit ?_
        refine seq_val (.pointer (some ⟨mg20.mb, 0, none⟩)) r (fun R => y_move r rfl) rfl fun fr r => ?_
        refine seq_val (.bool false) r (fun R => y_bin r (u := (.pointer (some ⟨mg20.mb, 0, none⟩))) (u' := (.pointer none)) (v := (.bool false)) rfl rfl rfl rfl) rfl fun fr r => ?_
        refine wpList_nil ?_
        refine wp_cond_split (t := false) (r.ev rfl) (fun h => absurd ((rfl : false = _).symm.trans h) (by decide)) (fun _ => ?_)
        refine wp_skip ?_
        refine wp_seq ?_
        refine wp_region_lit ?_
        refine seq_val (.agg (planC a0.p).toArray) r (fun R => y_load_agg r (cs := (planC a0.p)) (n := 6) rfl (hP.cell (i := 1) rfl) ta24 rfl) rfl fun fr r => ?_
        refine seq_call r (c_plan_Plan_Field w19 a0.p 0 1) (fun R hc => y_call r rfl cl20 hc) rfl ?_
        rintro _ w22 ⟨rfl, hb⟩
        refine ⟨_, rfl, fun fr r => ?_⟩
        have hP : Post No [cellC b1 ((stayC a0)).toArray 76, cellC b5 ((planC a0.p)).toArray 24, memK mg20 x18] w0 w22 := hP.below hb
        refine seq_val (.int .i64 (D.plan_Plan_Field a0.p 0 1)) r (fun R => y_assign r rfl) rfl fun fr r => ?_
        refine wpList_nil ?_
        refine wp_seq ?_
        refine wp_region_lit ?_
        refine seq_val (.int .u64 a0.w) r (fun R => y_move r rfl) rfl fun fr r => ?_
        refine seq_val (.int .u64 (a0.w.tmod 1099511627776)) r (fun R => y_bin r (u := (.int .u64 a0.w)) (u' := (.int .u64 1099511627776)) rfl rfl rfl rfl) rfl fun fr r => ?_
        refine seq_val (.int .u64 (a0.w.tmod 1099511627776)) r (fun R => y_assign r rfl) rfl fun fr r => ?_
        refine wpList_nil ?_
        refine wp_seq ?_
        refine wp_region_lit ?_
        refine seq_val (.pointer (some ⟨mg20.mb, 0, none⟩)) r (fun R => y_move r rfl) rfl fun fr r => ?_
        refine seq_val (.pointer (some ⟨mg20.mb, 0, none⟩)) r (fun R => y_move r rfl) rfl fun fr r => ?_
        obtain ⟨x23, hx23, hD⟩ := bindD_elim hD
        refine seq_call r (c_mem_Memory_Cap w22 x18 (hP.mem (i := 2) rfl) 0 hx23) (fun R hc => y_call r rfl cl42 hc) rfl ?_
        rintro _ w24 ⟨rfl, hb⟩
        refine ⟨_, rfl, fun fr r => ?_⟩
        have hP : Post No [cellC b1 ((stayC a0)).toArray 76, cellC b5 ((planC a0.p)).toArray 24, memK mg20 x18] w0 w24 := hP.below hb
        refine seq_val (.int .i64 (D.plan_Plan_Field a0.p 0 1)) r (fun R => y_move r rfl) rfl fun fr r => ?_
        refine seq_val (.int .u64 (a0.w.tmod 1099511627776)) r (fun R => y_move r rfl) rfl fun fr r => ?_
        refine seq_val (.agg (accessC (⟨1, (D.plan_Plan_Field a0.p 0 1), (a0.w.tmod 1099511627776), 0⟩ : Access)).toArray) r (fun R => y_build r (by kernel_rfl)) rfl fun fr r => ?_
        obtain ⟨x25, hx25, hD⟩ := bindD_elim hD
        refine seq_call r (c_mem_Memory_Do w24 x18 x23 (⟨1, (D.plan_Plan_Field a0.p 0 1), (a0.w.tmod 1099511627776), 0⟩ : Access) (hP.sep.pk [2] rfl rfl) hx25) (fun R hc => y_call r rfl cl48 hc) rfl ?_
        rintro _ w26 ⟨rfl, hq⟩
        refine ⟨_, rfl, fun fr r => ?_⟩
        have hP : Post No [cellC b1 ((stayC a0)).toArray 76, cellC b5 ((planC a0.p)).toArray 24, memK mg20 x25.2.2] w0 w26 := hP.setN (i := 2) rfl hq
        refine wpList_nil ?_
        refine wp_seq ?_
        refine wp_region_lit ?_
        refine seq_val (.agg (planC a0.p).toArray) r (fun R => y_load_agg r (cs := (planC a0.p)) (n := 6) rfl (hP.cell (i := 1) rfl) ta24 rfl) rfl fun fr r => ?_
        refine seq_val (.int .i64 a0.thread) r (fun R => y_move r rfl) rfl fun fr r => ?_
        refine seq_val (.int .i64 a0.slot) r (fun R => y_move r rfl) rfl fun fr r => ?_
        refine seq_val (.int .i64 (D.plan_Plan_Field a0.p 0 1)) r (fun R => y_move r rfl) rfl fun fr r => ?_
        refine seq_call r (c_hazard_Guard (F := No) (n := fu) (j := fu + 1) (fun _ h => h.elim) (by omega) a0.p a0.thread a0.slot (D.plan_Plan_Field a0.p 0 1) 1 (by decide)) (fun R hc => y_call r rfl cl50 hc) rfl ?_
        rintro _ w27 ⟨v28, rfl, hb, hr29⟩
        refine ⟨_, rfl, fun fr r => ?_⟩
        have hP : Post No [cellC b1 ((stayC a0)).toArray 76, cellC b5 ((planC a0.p)).toArray 24, memK mg20 x25.2.2, progK Try.prog encWord (fu, (D.hazard_Guard (fu + 1) a0.p a0.thread a0.slot (D.plan_Plan_Field a0.p 0 1) 1)) v28 (rg w26.heap.size w27.heap.size)] w0 w27 := hP.addProg hb hr29
        refine seq_val (.pointer (some ⟨mg20.mb, 0, none⟩)) r (fun R => y_move r rfl) rfl fun fr r => ?_
        refine seq_val (.pointer (some ⟨mg20.mb, 0, none⟩)) r (fun R => y_move r rfl) rfl fun fr r => ?_
        obtain ⟨x31, hx31, hD⟩ := bindD_elim hD
        refine seq_call r (c_mem_Memory_Cap w27 x25.2.2 (hP.mem (i := 2) rfl) 0 hx31) (fun R hc => y_call r rfl cl42 hc) rfl ?_
        rintro _ w32 ⟨rfl, hb⟩
        refine ⟨_, rfl, fun fr r => ?_⟩
        have hP : Post No [cellC b1 ((stayC a0)).toArray 76, cellC b5 ((planC a0.p)).toArray 24, memK mg20 x25.2.2, progK Try.prog encWord (fu, (D.hazard_Guard (fu + 1) a0.p a0.thread a0.slot (D.plan_Plan_Field a0.p 0 1) 1)) v28 (rg w26.heap.size w27.heap.size)] w0 w32 := hP.below hb
        obtain ⟨x33, hx33, hD⟩ := bindD_elim hD
        refine seq_call r (c_prog_Run_uint64 w32 (fu, (D.hazard_Guard (fu + 1) a0.p a0.thread a0.slot (D.plan_Plan_Field a0.p 0 1) 1)) x25.2.2 x31 9 (hP.sep.pk [3, 2] rfl rfl) hx33) (fun R hc => y_call r rfl cl49 hc) rfl ?_
        rintro _ w34 ⟨rfl, hq⟩
        refine ⟨_, rfl, fun fr r => ?_⟩
        have hP : Post No [cellC b1 ((stayC a0)).toArray 76, cellC b5 ((planC a0.p)).toArray 24, memK mg20 x33.2.2.2, progK Try.prog encWord (fu, (D.hazard_Guard (fu + 1) a0.p a0.thread a0.slot (D.plan_Plan_Field a0.p 0 1) 1)) v28 (rg w26.heap.size w27.heap.size)] w0 w34 := hP.setN (i := 2) rfl hq
        refine seq_val (.tuple #[(.int .u64 x33.1), (.int .i64 x33.2.1), (.bool x33.2.2.1)]) r (fun R => y_move r rfl) rfl fun fr r => ?_
        refine seq_val (.int .u64 x33.1) r (fun R => y_extract r (vs := #[(.int .u64 x33.1), (.int .i64 x33.2.1), (.bool x33.2.2.1)]) rfl rfl) rfl fun fr r => ?_
        refine seq_val (.int .i64 x33.2.1) r (fun R => y_extract r (vs := #[(.int .u64 x33.1), (.int .i64 x33.2.1), (.bool x33.2.2.1)]) rfl rfl) rfl fun fr r => ?_
        refine seq_val (.bool x33.2.2.1) r (fun R => y_extract r (vs := #[(.int .u64 x33.1), (.int .i64 x33.2.1), (.bool x33.2.2.1)]) rfl rfl) rfl fun fr r => ?_
        refine seq_val (.int .u64 x33.1) r (fun R => y_assign r rfl) rfl fun fr r => ?_
        refine seq_val (.int .i64 x33.2.1) r (fun R => y_assign r rfl) rfl fun fr r => ?_
        refine seq_val (.bool x33.2.2.1) r (fun R => y_assign r rfl) rfl fun fr r => ?_
        refine wpList_nil ?_
        refine wp_seq ?_
        refine wp_region_lit ?_
        refine seq_val (.int .u64 (a0.w.tmod 1099511627776)) r (fun R => y_move r rfl) rfl fun fr r => ?_
        refine seq_call r (c_cubicleref10_Named w34 (a0.w.tmod 1099511627776) 1 (by first | assumption | decide | (simp; done))) (fun R hc => y_call r rfl cl51 hc) rfl ?_
        rintro _ w35 ⟨rfl, hb⟩
        refine ⟨_, rfl, fun fr r => ?_⟩
        have hP : Post No [cellC b1 ((stayC a0)).toArray 76, cellC b5 ((planC a0.p)).toArray 24, memK mg20 x33.2.2.2, progK Try.prog encWord (fu, (D.hazard_Guard (fu + 1) a0.p a0.thread a0.slot (D.plan_Plan_Field a0.p 0 1) 1)) v28 (rg w26.heap.size w27.heap.size)] w0 w35 := hP.below hb
        refine seq_val (.int .i64 (D.cubicleref10_Named (a0.w.tmod 1099511627776) 1)) r (fun R => y_assign r rfl) rfl fun fr r => ?_
        refine wpList_nil ?_
        refine wp_seq ?_
        refine wp_seq ?_
        refine wp_region_lit ?_
        refine seq_val (.int .i64 (D.cubicleref10_Named (a0.w.tmod 1099511627776) 1)) r (fun R => y_move r rfl) rfl fun fr r => ?_
        refine seq_val (.bool (decide ((D.cubicleref10_Named (a0.w.tmod 1099511627776) 1) < 0))) r (fun R => y_bin r (u := (.int .i64 (D.cubicleref10_Named (a0.w.tmod 1099511627776) 1))) (u' := (.int .i64 0)) rfl rfl rfl rfl) rfl fun fr r => ?_
        refine wpList_nil ?_
        refine wp_cond_split (t := (decide ((D.cubicleref10_Named (a0.w.tmod 1099511627776) 1) < 0))) (r.ev rfl) (fun h36 => ?_) (fun h36 => ?_)
        · skip
          have hD := (cond_t h36).symm.trans hD
          refine wp_seq ?_
          have hP : Post No [cellC b1 ((stayC a0)).toArray 76, cellC b5 ((planC a0.p)).toArray 24, memK mg20 x33.2.2.2] w0 w35 := hP.pick [0, 1, 2] rfl rfl
          refine wp_joinG (N := 104) (Y := Bool) (G := Unit) (fun x γ => [(0, (.agg (stayC a0).toArray)), (1, (.pointer (some ⟨b1, 0, none⟩))), (3, (.pointer (some ⟨b5, 0, none⟩))), (4, (.int .i64 a0.thread)), (5, (.int .i64 a0.slot)), (6, (.int .u64 (a0.w.tmod 1099511627776))), (29, (.bool x12)), (7, (.pointer (some ⟨mg20.mb, 0, none⟩))), (34, (.bool false)), (8, (.int .i64 (D.plan_Plan_Field a0.p 0 1))), (9, (.int .u64 x33.1)), (10, (.int .i64 x33.2.1)), (11, (.bool x33.2.2.1)), (12, (.int .i64 (D.cubicleref10_Named (a0.w.tmod 1099511627776) 1))), (62, (.bool (decide ((D.cubicleref10_Named (a0.w.tmod 1099511627776) 1) < 0)))), (2, (.bool x))]) (fun x γ w => Post No [cellC b1 ((stayC a0)).toArray 76, cellC b5 ((planC a0.p)).toArray 24, memK mg20 x33.2.2.2] w0 w) hD ?_ ?_
          · skip
            rintro y37 RPy37 nxy37 hD
            refine wp_region_lit ?_
            refine seq_val (.int .u64 x33.1) r (fun R => y_move r rfl) rfl fun fr r => ?_
            refine seq_val (.int .u64 (a0.w.tmod 1099511627776)) r (fun R => y_move r rfl) rfl fun fr r => ?_
            refine seq_val (.bool (x33.1 == (a0.w.tmod 1099511627776))) r (fun R => y_bin r (u := (.int .u64 x33.1)) (u' := (.int .u64 (a0.w.tmod 1099511627776))) rfl rfl rfl rfl) rfl fun fr r => ?_
            refine seq_val (.bool (x33.1 == (a0.w.tmod 1099511627776))) r (fun R => y_move r rfl) rfl fun fr r => ?_
            refine seq_split (x33.1 == (a0.w.tmod 1099511627776)) (fun h38 => ?_) (fun h38 => ?_)
            · skip
              have hD := (cond_t h38).symm.trans hD
              refine seq_want r rfl rfl rfl (congrArg Value.bool h38) ?_
              refine seq_val (.int .i64 x33.2.1) r (fun R => y_move r rfl) rfl fun fr r => ?_
              refine seq_want r rfl rfl rfl (congrArg Value.bool h38) ?_
              refine seq_val (.bool (x33.2.1 == 1)) r (fun R => y_bin r (u := (.int .i64 x33.2.1)) (u' := (.int .i64 1)) rfl rfl rfl rfl) rfl fun fr r => ?_
              refine seq_val (.bool (x33.2.1 == 1)) r (fun R => y_pick r (b := true) (congrArg Value.bool h38) rfl) rfl fun fr r => ?_
              refine seq_val (.bool (x33.2.1 == 1)) r (fun R => y_move r rfl) rfl fun fr r => ?_
              refine seq_split (x33.2.1 == 1) (fun h39 => ?_) (fun h39 => ?_)
              · skip
                have hD := (cond_t h39).symm.trans hD
                refine seq_want r rfl rfl rfl (congrArg Value.bool h39) ?_
                refine seq_val (.bool x33.2.2.1) r (fun R => y_move r rfl) rfl fun fr r => ?_
                refine seq_val (.bool x33.2.2.1) r (fun R => y_pick r (b := true) (congrArg Value.bool h39) rfl) rfl fun fr r => ?_
                refine seq_val (.bool x33.2.2.1) r (fun R => y_move r rfl) rfl fun fr r => ?_
                refine seq_split x33.2.2.1 (fun h40 => ?_) (fun h40 => ?_)
                · skip
                  have hD := (cond_t h40).symm.trans hD
                  refine seq_want r rfl rfl rfl (congrArg Value.bool h40) ?_
                  refine seq_val (.pointer (some ⟨mg20.mb, 0, none⟩)) r (fun R => y_move r rfl) rfl fun fr r => ?_
                  refine seq_want r rfl rfl rfl (congrArg Value.bool h40) ?_
                  refine seq_val (.agg (planC a0.p).toArray) r (fun R => y_load_agg r (cs := (planC a0.p)) (n := 6) rfl (hP.cell (i := 1) rfl) ta24 rfl) rfl fun fr r => ?_
                  refine seq_want r rfl rfl rfl (congrArg Value.bool h40) ?_
                  refine seq_val (.int .i64 a0.thread) r (fun R => y_move r rfl) rfl fun fr r => ?_
                  refine seq_want r rfl rfl rfl (congrArg Value.bool h40) ?_
                  refine seq_val (.int .i64 a0.slot) r (fun R => y_move r rfl) rfl fun fr r => ?_
                  refine seq_want r rfl rfl rfl (congrArg Value.bool h40) ?_
                  refine seq_call r (c_plan_Plan_Hazard w35 a0.p a0.thread a0.slot) (fun R hc => y_call r rfl cl27 hc) rfl ?_
                  rintro _ w41 ⟨rfl, hb⟩
                  refine ⟨_, rfl, fun fr r => ?_⟩
                  have hP : Post No [cellC b1 ((stayC a0)).toArray 76, cellC b5 ((planC a0.p)).toArray 24, memK mg20 x33.2.2.2] w0 w41 := hP.below hb
                  refine seq_want r rfl rfl rfl (congrArg Value.bool h40) ?_
                  obtain ⟨x42, hx42, hD⟩ := bindD_elim hD
                  refine seq_call r (c_mem_Memory_Peek w41 x33.2.2.2 (hP.mem (i := 2) rfl) 0 (D.plan_Plan_Hazard a0.p a0.thread a0.slot) hx42) (fun R hc => y_call r rfl cl47 hc) rfl ?_
                  rintro _ w43 ⟨rfl, hb⟩
                  refine ⟨_, rfl, fun fr r => ?_⟩
                  have hP : Post No [cellC b1 ((stayC a0)).toArray 76, cellC b5 ((planC a0.p)).toArray 24, memK mg20 x33.2.2.2] w0 w43 := hP.below hb
                  refine seq_want r rfl rfl rfl (congrArg Value.bool h40) ?_
                  refine seq_val (.bool (x42 == 0)) r (fun R => y_bin r (u := (.int .u64 x42)) (u' := (.int .u64 0)) rfl rfl rfl rfl) rfl fun fr r => ?_
                  refine seq_val (.bool (x42 == 0)) r (fun R => y_pick r (b := true) (congrArg Value.bool h40) rfl) rfl fun fr r => ?_
                  refine seq_val (.bool (x42 == 0)) r (fun R => y_assign r rfl) rfl fun fr r => ?_
                  refine wpList_nil ?_
                  exact nxy37 (x42 == 0) () _ _ _ hD r (hs_cons rfl (hs_cons rfl (hs_cons rfl (hs_cons rfl (hs_cons rfl (hs_cons rfl (hs_cons rfl (hs_cons rfl (hs_cons rfl (hs_cons rfl (hs_cons rfl (hs_cons rfl (hs_cons rfl (hs_cons rfl (hs_cons rfl (hs_cons rfl hs_nil)))))))))))))))) (hP.pick [0, 1, 2] rfl rfl)
                · skip
                  have hD := (cond_f h40).symm.trans hD
                  refine seq_skip r rfl rfl rfl (v := .bool false) (congrArg Value.bool h40) (by simp [boolOf]) fun fr r => ?_
                  refine seq_skip r rfl rfl rfl (v := .bool false) (congrArg Value.bool h40) (by simp [boolOf]) fun fr r => ?_
                  refine seq_skip r rfl rfl rfl (v := .bool false) (congrArg Value.bool h40) (by simp [boolOf]) fun fr r => ?_
                  refine seq_skip r rfl rfl rfl (v := .bool false) (congrArg Value.bool h40) (by simp [boolOf]) fun fr r => ?_
                  refine seq_skip r rfl rfl rfl (v := .bool false) (congrArg Value.bool h40) (by simp [boolOf]) fun fr r => ?_
                  refine seq_skip r rfl rfl rfl (v := .bool false) (congrArg Value.bool h40) (by simp [boolOf]) fun fr r => ?_
                  refine seq_skip r rfl rfl rfl (v := .bool false) (congrArg Value.bool h40) (by simp [boolOf]) fun fr r => ?_
                  refine seq_val (.bool false) r (fun R => y_pick r (b := false) (congrArg Value.bool h40) rfl) rfl fun fr r => ?_
                  refine seq_val (.bool false) r (fun R => y_assign r rfl) rfl fun fr r => ?_
                  refine wpList_nil ?_
                  exact nxy37 false () _ _ _ hD r (hs_cons rfl (hs_cons rfl (hs_cons rfl (hs_cons rfl (hs_cons rfl (hs_cons rfl (hs_cons rfl (hs_cons rfl (hs_cons rfl (hs_cons rfl (hs_cons rfl (hs_cons rfl (hs_cons rfl (hs_cons rfl (hs_cons rfl (hs_cons rfl hs_nil)))))))))))))))) (hP.pick [0, 1, 2] rfl rfl)
              · skip
                have hD := (cond_f h39).symm.trans hD
                refine seq_skip r rfl rfl rfl (v := .bool false) (congrArg Value.bool h39) (by simp [boolOf]) fun fr r => ?_
                refine seq_val (.bool false) r (fun R => y_pick r (b := false) (congrArg Value.bool h39) rfl) rfl fun fr r => ?_
                refine seq_val (.bool false) r (fun R => y_move r rfl) rfl fun fr r => ?_
                refine seq_skip r rfl rfl rfl (v := .bool false) (congrArg Value.bool (rfl : false = _)) (by simp [boolOf]) fun fr r => ?_
                refine seq_skip r rfl rfl rfl (v := .bool false) (congrArg Value.bool (rfl : false = _)) (by simp [boolOf]) fun fr r => ?_
                refine seq_skip r rfl rfl rfl (v := .bool false) (congrArg Value.bool (rfl : false = _)) (by simp [boolOf]) fun fr r => ?_
                refine seq_skip r rfl rfl rfl (v := .bool false) (congrArg Value.bool (rfl : false = _)) (by simp [boolOf]) fun fr r => ?_
                refine seq_skip r rfl rfl rfl (v := .bool false) (congrArg Value.bool (rfl : false = _)) (by simp [boolOf]) fun fr r => ?_
                refine seq_skip r rfl rfl rfl (v := .bool false) (congrArg Value.bool (rfl : false = _)) (by simp [boolOf]) fun fr r => ?_
                refine seq_skip r rfl rfl rfl (v := .bool false) (congrArg Value.bool (rfl : false = _)) (by simp [boolOf]) fun fr r => ?_
                refine seq_val (.bool false) r (fun R => y_pick r (b := false) (congrArg Value.bool (rfl : false = _)) rfl) rfl fun fr r => ?_
                refine seq_val (.bool false) r (fun R => y_assign r rfl) rfl fun fr r => ?_
                refine wpList_nil ?_
                exact nxy37 false () _ _ _ hD r (hs_cons rfl (hs_cons rfl (hs_cons rfl (hs_cons rfl (hs_cons rfl (hs_cons rfl (hs_cons rfl (hs_cons rfl (hs_cons rfl (hs_cons rfl (hs_cons rfl (hs_cons rfl (hs_cons rfl (hs_cons rfl (hs_cons rfl (hs_cons rfl hs_nil)))))))))))))))) (hP.pick [0, 1, 2] rfl rfl)
            · skip
              have hD := (cond_f h38).symm.trans hD
              refine seq_skip r rfl rfl rfl (v := .bool false) (congrArg Value.bool h38) (by simp [boolOf]) fun fr r => ?_
              refine seq_skip r rfl rfl rfl (v := .bool false) (congrArg Value.bool h38) (by simp [boolOf]) fun fr r => ?_
              refine seq_val (.bool false) r (fun R => y_pick r (b := false) (congrArg Value.bool h38) rfl) rfl fun fr r => ?_
              refine seq_val (.bool false) r (fun R => y_move r rfl) rfl fun fr r => ?_
              refine seq_skip r rfl rfl rfl (v := .bool false) (congrArg Value.bool (rfl : false = _)) (by simp [boolOf]) fun fr r => ?_
              refine seq_val (.bool false) r (fun R => y_pick r (b := false) (congrArg Value.bool (rfl : false = _)) rfl) rfl fun fr r => ?_
              refine seq_val (.bool false) r (fun R => y_move r rfl) rfl fun fr r => ?_
              refine seq_skip r rfl rfl rfl (v := .bool false) (congrArg Value.bool (rfl : false = _)) (by simp [boolOf]) fun fr r => ?_
              refine seq_skip r rfl rfl rfl (v := .bool false) (congrArg Value.bool (rfl : false = _)) (by simp [boolOf]) fun fr r => ?_
              refine seq_skip r rfl rfl rfl (v := .bool false) (congrArg Value.bool (rfl : false = _)) (by simp [boolOf]) fun fr r => ?_
              refine seq_skip r rfl rfl rfl (v := .bool false) (congrArg Value.bool (rfl : false = _)) (by simp [boolOf]) fun fr r => ?_
              refine seq_skip r rfl rfl rfl (v := .bool false) (congrArg Value.bool (rfl : false = _)) (by simp [boolOf]) fun fr r => ?_
              refine seq_skip r rfl rfl rfl (v := .bool false) (congrArg Value.bool (rfl : false = _)) (by simp [boolOf]) fun fr r => ?_
              refine seq_skip r rfl rfl rfl (v := .bool false) (congrArg Value.bool (rfl : false = _)) (by simp [boolOf]) fun fr r => ?_
              refine seq_val (.bool false) r (fun R => y_pick r (b := false) (congrArg Value.bool (rfl : false = _)) rfl) rfl fun fr r => ?_
              refine seq_val (.bool false) r (fun R => y_assign r rfl) rfl fun fr r => ?_
              refine wpList_nil ?_
              exact nxy37 false () _ _ _ hD r (hs_cons rfl (hs_cons rfl (hs_cons rfl (hs_cons rfl (hs_cons rfl (hs_cons rfl (hs_cons rfl (hs_cons rfl (hs_cons rfl (hs_cons rfl (hs_cons rfl (hs_cons rfl (hs_cons rfl (hs_cons rfl (hs_cons rfl (hs_cons rfl hs_nil)))))))))))))))) (hP.pick [0, 1, 2] rfl rfl)
          · skip
            rintro x44 γ45 fr w46 g r hP hD
            have hP : Post No [cellC b1 ((stayC a0)).toArray 76, cellC b5 ((planC a0.p)).toArray 24, memK mg20 x33.2.2.2] w0 w46 := hP
            refine wp_ret ?_
            have hv : x44 = res := Option.some.inj hD
            try dsimp only [Exit.then, Exit.inBlock]
            refine ret_tmp (fn := Try.f10) r (t := 2) rfl (v := (.bool x44)) rfl ?_
            subst hv
            exact ⟨rfl, hP.chg.below⟩
        · skip
          have hD := (cond_f h36).symm.trans hD
          refine wp_skip ?_
          refine wp_seq ?_
          have hP : Post No [cellC b1 ((stayC a0)).toArray 76, cellC b5 ((planC a0.p)).toArray 24, memK mg20 x33.2.2.2] w0 w35 := hP.pick [0, 1, 2] rfl rfl
          refine wp_joinG (N := 104) (Y := Bool) (G := Unit) (fun x γ => [(0, (.agg (stayC a0).toArray)), (1, (.pointer (some ⟨b1, 0, none⟩))), (3, (.pointer (some ⟨b5, 0, none⟩))), (4, (.int .i64 a0.thread)), (5, (.int .i64 a0.slot)), (6, (.int .u64 (a0.w.tmod 1099511627776))), (29, (.bool x12)), (7, (.pointer (some ⟨mg20.mb, 0, none⟩))), (34, (.bool false)), (8, (.int .i64 (D.plan_Plan_Field a0.p 0 1))), (9, (.int .u64 x33.1)), (10, (.int .i64 x33.2.1)), (11, (.bool x33.2.2.1)), (12, (.int .i64 (D.cubicleref10_Named (a0.w.tmod 1099511627776) 1))), (62, (.bool (decide ((D.cubicleref10_Named (a0.w.tmod 1099511627776) 1) < 0)))), (2, (.bool x))]) (fun x γ w => Post No [cellC b1 ((stayC a0)).toArray 76, cellC b5 ((planC a0.p)).toArray 24, memK mg20 x33.2.2.2] w0 w) hD ?_ ?_
          · skip
            rintro y47 RPy47 nxy47 hD
            refine wp_region_lit ?_
            refine seq_val (.int .u64 x33.1) r (fun R => y_move r rfl) rfl fun fr r => ?_
            refine seq_val (.int .u64 (a0.w.tmod 1099511627776)) r (fun R => y_move r rfl) rfl fun fr r => ?_
            refine seq_val (.bool (x33.1 == (a0.w.tmod 1099511627776))) r (fun R => y_bin r (u := (.int .u64 x33.1)) (u' := (.int .u64 (a0.w.tmod 1099511627776))) rfl rfl rfl rfl) rfl fun fr r => ?_
            refine seq_val (.bool (x33.1 == (a0.w.tmod 1099511627776))) r (fun R => y_move r rfl) rfl fun fr r => ?_
            refine seq_split (x33.1 == (a0.w.tmod 1099511627776)) (fun h48 => ?_) (fun h48 => ?_)
            · skip
              have hD := (cond_t h48).symm.trans hD
              refine seq_want r rfl rfl rfl (congrArg Value.bool h48) ?_
              refine seq_val (.int .i64 x33.2.1) r (fun R => y_move r rfl) rfl fun fr r => ?_
              refine seq_want r rfl rfl rfl (congrArg Value.bool h48) ?_
              refine seq_val (.bool (x33.2.1 == 3)) r (fun R => y_bin r (u := (.int .i64 x33.2.1)) (u' := (.int .i64 3)) rfl rfl rfl rfl) rfl fun fr r => ?_
              refine seq_val (.bool (x33.2.1 == 3)) r (fun R => y_pick r (b := true) (congrArg Value.bool h48) rfl) rfl fun fr r => ?_
              refine seq_val (.bool (x33.2.1 == 3)) r (fun R => y_move r rfl) rfl fun fr r => ?_
              refine seq_split (x33.2.1 == 3) (fun h49 => ?_) (fun h49 => ?_)
              · skip
                have hD := (cond_t h49).symm.trans hD
                refine seq_want r rfl rfl rfl (congrArg Value.bool h49) ?_
                refine seq_val (.bool x33.2.2.1) r (fun R => y_move r rfl) rfl fun fr r => ?_
                refine seq_val (.bool x33.2.2.1) r (fun R => y_pick r (b := true) (congrArg Value.bool h49) rfl) rfl fun fr r => ?_
                refine seq_val (.bool x33.2.2.1) r (fun R => y_move r rfl) rfl fun fr r => ?_
                refine seq_split x33.2.2.1 (fun h50 => ?_) (fun h50 => ?_)
                · skip
                  have hD := (cond_t h50).symm.trans hD
                  refine seq_want r rfl rfl rfl (congrArg Value.bool h50) ?_
                  refine seq_val (.pointer (some ⟨mg20.mb, 0, none⟩)) r (fun R => y_move r rfl) rfl fun fr r => ?_
                  refine seq_want r rfl rfl rfl (congrArg Value.bool h50) ?_
                  refine seq_val (.agg (planC a0.p).toArray) r (fun R => y_load_agg r (cs := (planC a0.p)) (n := 6) rfl (hP.cell (i := 1) rfl) ta24 rfl) rfl fun fr r => ?_
                  refine seq_want r rfl rfl rfl (congrArg Value.bool h50) ?_
                  refine seq_val (.int .i64 a0.thread) r (fun R => y_move r rfl) rfl fun fr r => ?_
                  refine seq_want r rfl rfl rfl (congrArg Value.bool h50) ?_
                  refine seq_val (.int .i64 a0.slot) r (fun R => y_move r rfl) rfl fun fr r => ?_
                  refine seq_want r rfl rfl rfl (congrArg Value.bool h50) ?_
                  refine seq_call r (c_plan_Plan_Hazard w35 a0.p a0.thread a0.slot) (fun R hc => y_call r rfl cl27 hc) rfl ?_
                  rintro _ w51 ⟨rfl, hb⟩
                  refine ⟨_, rfl, fun fr r => ?_⟩
                  have hP : Post No [cellC b1 ((stayC a0)).toArray 76, cellC b5 ((planC a0.p)).toArray 24, memK mg20 x33.2.2.2] w0 w51 := hP.below hb
                  refine seq_want r rfl rfl rfl (congrArg Value.bool h50) ?_
                  obtain ⟨x52, hx52, hD⟩ := bindD_elim hD
                  refine seq_call r (c_mem_Memory_Peek w51 x33.2.2.2 (hP.mem (i := 2) rfl) 0 (D.plan_Plan_Hazard a0.p a0.thread a0.slot) hx52) (fun R hc => y_call r rfl cl47 hc) rfl ?_
                  rintro _ w53 ⟨rfl, hb⟩
                  refine ⟨_, rfl, fun fr r => ?_⟩
                  have hP : Post No [cellC b1 ((stayC a0)).toArray 76, cellC b5 ((planC a0.p)).toArray 24, memK mg20 x33.2.2.2] w0 w53 := hP.below hb
                  refine seq_want r rfl rfl rfl (congrArg Value.bool h50) ?_
                  refine seq_val (.int .i64 (D.cubicleref10_Named (a0.w.tmod 1099511627776) 1)) r (fun R => y_move r rfl) rfl fun fr r => ?_
                  refine seq_want r rfl rfl rfl (congrArg Value.bool h50) ?_
                  refine seq_val (.int .i64 (IntKind.i64.wrap ((D.cubicleref10_Named (a0.w.tmod 1099511627776) 1) + 1))) r (fun R => y_bin r (u := (.int .i64 (D.cubicleref10_Named (a0.w.tmod 1099511627776) 1))) (u' := (.int .i64 1)) rfl rfl rfl rfl) rfl fun fr r => ?_
                  refine seq_want r rfl rfl rfl (congrArg Value.bool h50) ?_
                  refine seq_val (.int .u64 (IntKind.u64.wrap (IntKind.i64.wrap ((D.cubicleref10_Named (a0.w.tmod 1099511627776) 1) + 1)))) r (fun R => y_convert r rfl ti3 ti49) rfl fun fr r => ?_
                  refine seq_want r rfl rfl rfl (congrArg Value.bool h50) ?_
                  refine seq_val (.bool (x52 == (IntKind.u64.wrap (IntKind.i64.wrap ((D.cubicleref10_Named (a0.w.tmod 1099511627776) 1) + 1))))) r (fun R => y_bin r (u := (.int .u64 x52)) (u' := (.int .u64 (IntKind.u64.wrap (IntKind.i64.wrap ((D.cubicleref10_Named (a0.w.tmod 1099511627776) 1) + 1))))) rfl rfl rfl rfl) rfl fun fr r => ?_
                  refine seq_val (.bool (x52 == (IntKind.u64.wrap (IntKind.i64.wrap ((D.cubicleref10_Named (a0.w.tmod 1099511627776) 1) + 1))))) r (fun R => y_pick r (b := true) (congrArg Value.bool h50) rfl) rfl fun fr r => ?_
                  refine seq_val (.bool (x52 == (IntKind.u64.wrap (IntKind.i64.wrap ((D.cubicleref10_Named (a0.w.tmod 1099511627776) 1) + 1))))) r (fun R => y_assign r rfl) rfl fun fr r => ?_
                  refine wpList_nil ?_
                  exact nxy47 (x52 == (IntKind.u64.wrap (IntKind.i64.wrap ((D.cubicleref10_Named (a0.w.tmod 1099511627776) 1) + 1)))) () _ _ _ hD r (hs_cons rfl (hs_cons rfl (hs_cons rfl (hs_cons rfl (hs_cons rfl (hs_cons rfl (hs_cons rfl (hs_cons rfl (hs_cons rfl (hs_cons rfl (hs_cons rfl (hs_cons rfl (hs_cons rfl (hs_cons rfl (hs_cons rfl (hs_cons rfl hs_nil)))))))))))))))) (hP.pick [0, 1, 2] rfl rfl)
                · skip
                  have hD := (cond_f h50).symm.trans hD
                  refine seq_skip r rfl rfl rfl (v := .bool false) (congrArg Value.bool h50) (by simp [boolOf]) fun fr r => ?_
                  refine seq_skip r rfl rfl rfl (v := .bool false) (congrArg Value.bool h50) (by simp [boolOf]) fun fr r => ?_
                  refine seq_skip r rfl rfl rfl (v := .bool false) (congrArg Value.bool h50) (by simp [boolOf]) fun fr r => ?_
                  refine seq_skip r rfl rfl rfl (v := .bool false) (congrArg Value.bool h50) (by simp [boolOf]) fun fr r => ?_
                  refine seq_skip r rfl rfl rfl (v := .bool false) (congrArg Value.bool h50) (by simp [boolOf]) fun fr r => ?_
                  refine seq_skip r rfl rfl rfl (v := .bool false) (congrArg Value.bool h50) (by simp [boolOf]) fun fr r => ?_
                  refine seq_skip r rfl rfl rfl (v := .bool false) (congrArg Value.bool h50) (by simp [boolOf]) fun fr r => ?_
                  refine seq_skip r rfl rfl rfl (v := .bool false) (congrArg Value.bool h50) (by simp [boolOf]) fun fr r => ?_
                  refine seq_skip r rfl rfl rfl (v := .bool false) (congrArg Value.bool h50) (by simp [boolOf]) fun fr r => ?_
                  refine seq_skip r rfl rfl rfl (v := .bool false) (congrArg Value.bool h50) (by simp [boolOf]) fun fr r => ?_
                  refine seq_val (.bool false) r (fun R => y_pick r (b := false) (congrArg Value.bool h50) rfl) rfl fun fr r => ?_
                  refine seq_val (.bool false) r (fun R => y_assign r rfl) rfl fun fr r => ?_
                  refine wpList_nil ?_
                  exact nxy47 false () _ _ _ hD r (hs_cons rfl (hs_cons rfl (hs_cons rfl (hs_cons rfl (hs_cons rfl (hs_cons rfl (hs_cons rfl (hs_cons rfl (hs_cons rfl (hs_cons rfl (hs_cons rfl (hs_cons rfl (hs_cons rfl (hs_cons rfl (hs_cons rfl (hs_cons rfl hs_nil)))))))))))))))) (hP.pick [0, 1, 2] rfl rfl)
              · skip
                have hD := (cond_f h49).symm.trans hD
                refine seq_skip r rfl rfl rfl (v := .bool false) (congrArg Value.bool h49) (by simp [boolOf]) fun fr r => ?_
                refine seq_val (.bool false) r (fun R => y_pick r (b := false) (congrArg Value.bool h49) rfl) rfl fun fr r => ?_
                refine seq_val (.bool false) r (fun R => y_move r rfl) rfl fun fr r => ?_
                refine seq_skip r rfl rfl rfl (v := .bool false) (congrArg Value.bool (rfl : false = _)) (by simp [boolOf]) fun fr r => ?_
                refine seq_skip r rfl rfl rfl (v := .bool false) (congrArg Value.bool (rfl : false = _)) (by simp [boolOf]) fun fr r => ?_
                refine seq_skip r rfl rfl rfl (v := .bool false) (congrArg Value.bool (rfl : false = _)) (by simp [boolOf]) fun fr r => ?_
                refine seq_skip r rfl rfl rfl (v := .bool false) (congrArg Value.bool (rfl : false = _)) (by simp [boolOf]) fun fr r => ?_
                refine seq_skip r rfl rfl rfl (v := .bool false) (congrArg Value.bool (rfl : false = _)) (by simp [boolOf]) fun fr r => ?_
                refine seq_skip r rfl rfl rfl (v := .bool false) (congrArg Value.bool (rfl : false = _)) (by simp [boolOf]) fun fr r => ?_
                refine seq_skip r rfl rfl rfl (v := .bool false) (congrArg Value.bool (rfl : false = _)) (by simp [boolOf]) fun fr r => ?_
                refine seq_skip r rfl rfl rfl (v := .bool false) (congrArg Value.bool (rfl : false = _)) (by simp [boolOf]) fun fr r => ?_
                refine seq_skip r rfl rfl rfl (v := .bool false) (congrArg Value.bool (rfl : false = _)) (by simp [boolOf]) fun fr r => ?_
                refine seq_skip r rfl rfl rfl (v := .bool false) (congrArg Value.bool (rfl : false = _)) (by simp [boolOf]) fun fr r => ?_
                refine seq_val (.bool false) r (fun R => y_pick r (b := false) (congrArg Value.bool (rfl : false = _)) rfl) rfl fun fr r => ?_
                refine seq_val (.bool false) r (fun R => y_assign r rfl) rfl fun fr r => ?_
                refine wpList_nil ?_
                exact nxy47 false () _ _ _ hD r (hs_cons rfl (hs_cons rfl (hs_cons rfl (hs_cons rfl (hs_cons rfl (hs_cons rfl (hs_cons rfl (hs_cons rfl (hs_cons rfl (hs_cons rfl (hs_cons rfl (hs_cons rfl (hs_cons rfl (hs_cons rfl (hs_cons rfl (hs_cons rfl hs_nil)))))))))))))))) (hP.pick [0, 1, 2] rfl rfl)
            · skip
              have hD := (cond_f h48).symm.trans hD
              refine seq_skip r rfl rfl rfl (v := .bool false) (congrArg Value.bool h48) (by simp [boolOf]) fun fr r => ?_
              refine seq_skip r rfl rfl rfl (v := .bool false) (congrArg Value.bool h48) (by simp [boolOf]) fun fr r => ?_
              refine seq_val (.bool false) r (fun R => y_pick r (b := false) (congrArg Value.bool h48) rfl) rfl fun fr r => ?_
              refine seq_val (.bool false) r (fun R => y_move r rfl) rfl fun fr r => ?_
              refine seq_skip r rfl rfl rfl (v := .bool false) (congrArg Value.bool (rfl : false = _)) (by simp [boolOf]) fun fr r => ?_
              refine seq_val (.bool false) r (fun R => y_pick r (b := false) (congrArg Value.bool (rfl : false = _)) rfl) rfl fun fr r => ?_
              refine seq_val (.bool false) r (fun R => y_move r rfl) rfl fun fr r => ?_
              refine seq_skip r rfl rfl rfl (v := .bool false) (congrArg Value.bool (rfl : false = _)) (by simp [boolOf]) fun fr r => ?_
              refine seq_skip r rfl rfl rfl (v := .bool false) (congrArg Value.bool (rfl : false = _)) (by simp [boolOf]) fun fr r => ?_
              refine seq_skip r rfl rfl rfl (v := .bool false) (congrArg Value.bool (rfl : false = _)) (by simp [boolOf]) fun fr r => ?_
              refine seq_skip r rfl rfl rfl (v := .bool false) (congrArg Value.bool (rfl : false = _)) (by simp [boolOf]) fun fr r => ?_
              refine seq_skip r rfl rfl rfl (v := .bool false) (congrArg Value.bool (rfl : false = _)) (by simp [boolOf]) fun fr r => ?_
              refine seq_skip r rfl rfl rfl (v := .bool false) (congrArg Value.bool (rfl : false = _)) (by simp [boolOf]) fun fr r => ?_
              refine seq_skip r rfl rfl rfl (v := .bool false) (congrArg Value.bool (rfl : false = _)) (by simp [boolOf]) fun fr r => ?_
              refine seq_skip r rfl rfl rfl (v := .bool false) (congrArg Value.bool (rfl : false = _)) (by simp [boolOf]) fun fr r => ?_
              refine seq_skip r rfl rfl rfl (v := .bool false) (congrArg Value.bool (rfl : false = _)) (by simp [boolOf]) fun fr r => ?_
              refine seq_skip r rfl rfl rfl (v := .bool false) (congrArg Value.bool (rfl : false = _)) (by simp [boolOf]) fun fr r => ?_
              refine seq_val (.bool false) r (fun R => y_pick r (b := false) (congrArg Value.bool (rfl : false = _)) rfl) rfl fun fr r => ?_
              refine seq_val (.bool false) r (fun R => y_assign r rfl) rfl fun fr r => ?_
              refine wpList_nil ?_
              exact nxy47 false () _ _ _ hD r (hs_cons rfl (hs_cons rfl (hs_cons rfl (hs_cons rfl (hs_cons rfl (hs_cons rfl (hs_cons rfl (hs_cons rfl (hs_cons rfl (hs_cons rfl (hs_cons rfl (hs_cons rfl (hs_cons rfl (hs_cons rfl (hs_cons rfl (hs_cons rfl hs_nil)))))))))))))))) (hP.pick [0, 1, 2] rfl rfl)
          · skip
            rintro x54 γ55 fr w56 g r hP hD
            have hP : Post No [cellC b1 ((stayC a0)).toArray 76, cellC b5 ((planC a0.p)).toArray 24, memK mg20 x33.2.2.2] w0 w56 := hP
            refine wp_ret ?_
            have hv : x54 = res := Option.some.inj hD
            try dsimp only [Exit.then, Exit.inBlock]
            refine ret_tmp (fn := Try.f10) r (t := 2) rfl (v := (.bool x54)) rfl ?_
            subst hv
            exact ⟨rfl, hP.chg.below⟩

end Go.Proofs.Ytphnnjiaiemkcaa.Wk
