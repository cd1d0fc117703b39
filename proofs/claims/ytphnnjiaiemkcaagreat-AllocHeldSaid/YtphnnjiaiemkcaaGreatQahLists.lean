/- Written by a program of ours (wip/gen.py): lists of nodes -/
import Derived.Test.YtphnnjiaiemkcaaGreatQahLaids
set_option linter.unusedVariables false
set_option maxRecDepth 20000
set_option maxHeartbeats 2000000
namespace Go.Proofs.YtphnnjiaiemkcaaGreat
open Go.RowKit
theorem cl27 : callable Tryz.prog 27 = true := by kernel_rfl

theorem rt24 : rowTy Tryz.prog 24 3 1 = true := by kernel_rfl

def D.free_List (fu : Nat) (a0 : Plan) (a1 : Mem) (a2 : Int) : Option (List Int) := ((D.mem_Memory_Peek fu a1 a2 (D.plan_Plan_Head a0)).bind (fun (x5 : Int) => (loopThen (fun (x8 : List Int × Int) => (Option.bind (bif (decide ((x8.1.length : Int) < a0.nodes)) then (bif (decide (x8.2 > 0)) then (some (decide (x8.2 ≤ (IntKind.u64.wrap a0.nodes)))) else (some false)) else (some false)) (fun (x15 : Bool) => (bif x15 then ((appD x8.1 ([(IntKind.i64.wrap ((IntKind.i64.wrap x8.2) - 1))])).bind (fun (x23 : List Int) => ((D.mem_Memory_Peek fu a1 a2 (D.plan_Plan_Next a0 (IntKind.i64.wrap ((IntKind.i64.wrap x8.2) - 1)))).bind (fun (x28 : Int) => (some (Lp.next (x23, x28))))))) else (some (Lp.brk (x8.1, x8.2))))))) fu ([], (D.field_Field_Get D.free_node x5)) (fun (x30 : List Int × Int) => (some x30.1)))))

theorem c_free_List {fu : Nat} (w0 : World) (a0 : Plan) {a1_g : MG} (a1 : Mem) (a1_h : MemAt a1_g a1 w0) (a2 : Int) {res : List Int} (hD : D.free_List fu a0 a1 a2 = some res) :
    Calls Tryz.prog 26 #[.agg (planC a0).toArray, .pointer (some ⟨a1_g.mb, 0, none⟩), .int .i64 a2] w0 (fun e w' => ∃ (v0 : Value), e = .returned v0 ∧ Done No No [rowK 3 1 i64 v0 res] w0 w') := by
 refine enter Tryz.func26 rfl 47 rfl rfl fun fr r => ?_
 have hP : Post No [] w0 w0 := Post.nil w0
 have hP : Post No [memR a1_g a1] w0 w0 := hP.addRo norw_nil a1_h rfl a1_h.lt
 unfold D.free_List at hD
 refine wsr ?_
 refine seq_new (.cells ((planC a0)).toArray 23 (0, 0)) r (fun R => y_box r (v := (.agg (planC a0).toArray)) rfl) rfl fun fr b1 w2 n3 r => ?_
 have hP : Post No [memR a1_g a1, cellC b1 ((planC a0)).toArray 23] w0 w2 := hP.new n3
 refine seq_val (Value.slice none 0 0) r (fun R => y_assign r rfl) rfl fun fr r => ?_
 refine wn ?_
 refine wsr ?_
 refine seq_val (Value.slice none 0 0) r (fun R => y_assign r rfl) rfl fun fr r => ?_
 refine wn ?_
 refine wp_seq ?_
 obtain ⟨x5, hx5, hD⟩ := bindD_elim hD
 refine wp_freeF [.val (.agg (fieldC D.free_node).toArray), .val (.pointer (some ⟨a1_g.mb, 0, none⟩)), .val (I a2), .val (.agg (planC a0).toArray), .val (I (D.plan_Plan_Head a0)), .val (U x5), .val (U (D.field_Field_Get D.free_node x5)), .val (U (D.field_Field_Get D.free_node x5))] mixed r (by kernel_rfl) ?_ ?_
 ·
  refine fc r (fun fr1 g w' hb' hd r' => y_call r' (args := []) (l0) cl66 ((c_free_node _ ).mono (by rintro _ w2 ⟨rfl, hb2⟩; exact ⟨_, rfl, hb2, rfl⟩))) ?_
  refine fc r (fun fr1 g w' hb' hd r' => y_move r' rfl bz) ?_
  refine fc r (fun fr1 g w' hb' hd r' => y_move r' rfl bz) ?_
  refine fc r (fun fr1 g w' hb' hd r' => y_load_agg r' (cs := (planC a0)) (n := 6) rfl ((hP.below (dr hb')).cell (i := 1) rfl) ta23 rfl bz) ?_
  refine fc r (fun fr1 g w' hb' hd r' => y_call r' (args := [(.agg (planC a0).toArray)]) (lc (hd 3 rfl).1 l0) cl68 ((c_plan_Plan_Head _ a0).mono (by rintro _ w2 ⟨rfl, hb2⟩; exact ⟨_, rfl, hb2, rfl⟩))) ?_
  refine fc r (fun fr1 g w' hb' hd r' => y_call r' (args := [(.pointer (some ⟨a1_g.mb, 0, none⟩)), (I a2), (I (D.plan_Plan_Head a0))]) (lc (hd 1 rfl).1 (lc (hd 2 rfl).1 (lc (hd 4 rfl).1 l0))) cl27 ((c_mem_Memory_Peek _ a1 ((hP.below (dr hb')).memr (i := 0) rfl) a2 (D.plan_Plan_Head a0) hx5).mono (by rintro _ w2 ⟨rfl, hb2⟩; exact ⟨_, rfl, hb2, rfl⟩))) ?_
  refine fc r (fun fr1 g w' hb' hd r' => y_call r' (args := [(.agg (fieldC D.free_node).toArray), (U x5)]) (lc (hd 0 rfl).1 (lc (hd 5 rfl).1 l0)) cl67 ((c_field_Field_Get _ D.free_node x5).mono (by rintro _ w2 ⟨rfl, hb2⟩; exact ⟨_, rfl, hb2, rfl⟩))) ?_
  refine fc r (fun fr1 g w' hb' hd r' => y_assign r' (hd 6 rfl).1 bz) ?_
  exact eachF_nil
 ·
  intro fr gg w6 hb hΦ hap r
  have r := r.congr (sc ((hΦ 7 rfl).1) (sc ((hΦ 6 rfl).1) (sc ((hΦ 5 rfl).1) (sc ((hΦ 4 rfl).1) (sc ((hΦ 3 rfl).1) (sc ((hΦ 2 rfl).1) (sc ((hΦ 1 rfl).1) (sc ((hΦ 0 rfl).1) rfl))))))))
  have hP : Post No [memR a1_g a1, cellC b1 ((planC a0)).toArray 23] w0 w6 := hP.below hb
  refine wp_seq ?_
  have hP : Post No [memR a1_g a1, cellC b1 ((planC a0)).toArray 23, rowK 3 1 i64 (Value.slice none 0 0) ([])] w0 w6 := hP.nilRow 3 1 i64
  refine wp_loopG (X := List Int × Int) (G := Value) (x0 := ([], (D.field_Field_Get D.free_node x5))) (fun x γ => [(0, (.agg (planC a0).toArray)), (1, (.pointer (some ⟨a1_g.mb, 0, none⟩))), (2, (I a2)), (3, (.pointer (some ⟨b1, 0, none⟩))), (6, (Value.slice none 0 0)), (7, γ), (8, (U x.2))]) (fun x γ w => Post No [memR a1_g a1, cellC b1 ((planC a0)).toArray 23, rowK 3 1 i64 γ x.1] w0 w) (Value.slice none 0 0) r (hs_cons rfl (hs_cons rfl (hs_cons rfl (hs_cons rfl (hs_cons rfl (hs_cons rfl (hs_cons rfl hs_nil))))))) hP hD ?_ ?_
  ·
   rintro x8 γ9 fr w11 g y10 RPy10 nxy10 bky10 rty10 r hP hD
   have hP : Post No [memR a1_g a1, cellC b1 ((planC a0)).toArray 23, rowK 3 1 i64 γ9 x8.1] w0 w11 := hP
   refine wp_seq ?_
   refine wp_seq ?_
   refine wp_joinG (N := 47) (Y := Bool) (G := Unit) (fun x γ => [(0, (.agg (planC a0).toArray)), (1, (.pointer (some ⟨a1_g.mb, 0, none⟩))), (2, (I a2)), (3, (.pointer (some ⟨b1, 0, none⟩))), (6, (Value.slice none 0 0)), (7, γ9), (8, (U x8.2)), (32, (.bool x))]) (fun x γ w => Post No [memR a1_g a1, cellC b1 ((planC a0)).toArray 23, rowK 3 1 i64 γ9 x8.1] w0 w) hD ?_ ?_
   ·
    rintro y12 RPy12 nxy12 hD
    refine wp_region_lit ?_
    refine seq_val γ9 r (fun R => y_move r rfl) rfl fun fr r => ?_
    refine seq_val (I (x8.1.length : Int)) r (fun R => y_rowLen r (hP.row (i := 2) rfl).ro is24 rfl) rfl fun fr r => ?_
    refine seq_val _ r (fun R => y_fieldAddr r (o := 0) rfl fo23_0) rfl fun fr r => ?_
    refine seq_val (I a0.nodes) r (fun R => y_load_one r rfl (hP.cell (i := 1) rfl) to3 rfl) rfl fun fr r => ?_
    refine seq_val _ r (fun R => y_bin r rfl rfl rfl rfl) rfl fun fr r => ?_
    refine seq_val (.bool (decide ((x8.1.length : Int) < a0.nodes))) r (fun R => y_move r rfl) rfl fun fr r => ?_
    refine seq_split (decide ((x8.1.length : Int) < a0.nodes)) (fun h13 => ?_) (fun h13 => ?_)
    ·
     have hD := (cond_t h13).symm.trans hD
     refine s1 r h13 ?_
     refine seq_val (U x8.2) r (fun R => y_move r rfl) rfl fun fr r => ?_
     refine s1 r h13 ?_
     refine seq_val _ r (fun R => y_bin r rfl rfl rfl rfl) rfl fun fr r => ?_
     refine seq_val (.bool (decide (x8.2 > 0))) r (fun R => y_pick r (b := true) (congrArg Value.bool h13) rfl) rfl fun fr r => ?_
     refine seq_val (.bool (decide (x8.2 > 0))) r (fun R => y_move r rfl) rfl fun fr r => ?_
     refine seq_split (decide (x8.2 > 0)) (fun h14 => ?_) (fun h14 => ?_)
     ·
      have hD := (cond_t h14).symm.trans hD
      refine s1 r h14 ?_
      refine seq_val (U x8.2) r (fun R => y_move r rfl) rfl fun fr r => ?_
      refine s1 r h14 ?_
      refine seq_val _ r (fun R => y_fieldAddr r (o := 0) rfl fo23_0) rfl fun fr r => ?_
      refine s1 r h14 ?_
      refine seq_val (I a0.nodes) r (fun R => y_load_one r rfl (hP.cell (i := 1) rfl) to3 rfl) rfl fun fr r => ?_
      refine s1 r h14 ?_
      refine seq_val (U (V a0.nodes)) r (fun R => y_convert r rfl ti3 ti34) rfl fun fr r => ?_
      refine s1 r h14 ?_
      refine seq_val _ r (fun R => y_bin r rfl rfl rfl rfl) rfl fun fr r => ?_
      refine seq_val (.bool (decide (x8.2 ≤ (V a0.nodes)))) r (fun R => y_pick r (b := true) (congrArg Value.bool h14) rfl) rfl fun fr r => ?_
      refine wn ?_
      exact nxy12 (decide (x8.2 ≤ (V a0.nodes))) () _ _ _ hD r (hs_cons rfl (hs_cons rfl (hs_cons rfl (hs_cons rfl (hs_cons rfl (hs_cons rfl (hs_cons rfl (hs_cons rfl hs_nil)))))))) (hP.pick [0, 1, 2] rfl rfl)
     ·
      have hD := (cond_f h14).symm.trans hD
      refine s0 r h14 fun fr r => ?_
      refine s0 r h14 fun fr r => ?_
      refine s0 r h14 fun fr r => ?_
      refine s0 r h14 fun fr r => ?_
      refine s0 r h14 fun fr r => ?_
      refine seq_val (.bool false) r (fun R => y_pick r (b := false) (congrArg Value.bool h14) rfl) rfl fun fr r => ?_
      refine wn ?_
      exact nxy12 false () _ _ _ hD r (hs_cons rfl (hs_cons rfl (hs_cons rfl (hs_cons rfl (hs_cons rfl (hs_cons rfl (hs_cons rfl (hs_cons rfl hs_nil)))))))) (hP.pick [0, 1, 2] rfl rfl)
    ·
     have hD := (cond_f h13).symm.trans hD
     refine s0 r h13 fun fr r => ?_
     refine s0 r h13 fun fr r => ?_
     refine seq_val (.bool false) r (fun R => y_pick r (b := false) (congrArg Value.bool h13) rfl) rfl fun fr r => ?_
     refine seq_val (.bool false) r (fun R => y_move r rfl) rfl fun fr r => ?_
     refine s0 r (rfl : false = _) fun fr r => ?_
     refine s0 r (rfl : false = _) fun fr r => ?_
     refine s0 r (rfl : false = _) fun fr r => ?_
     refine s0 r (rfl : false = _) fun fr r => ?_
     refine s0 r (rfl : false = _) fun fr r => ?_
     refine seq_val (.bool false) r (fun R => y_pick r (b := false) (congrArg Value.bool (rfl : false = _)) rfl) rfl fun fr r => ?_
     refine wn ?_
     exact nxy12 false () _ _ _ hD r (hs_cons rfl (hs_cons rfl (hs_cons rfl (hs_cons rfl (hs_cons rfl (hs_cons rfl (hs_cons rfl (hs_cons rfl hs_nil)))))))) (hP.pick [0, 1, 2] rfl rfl)
   ·
    rintro x15 γ16 fr w17 g r hP hD
    have hP : Post No [memR a1_g a1, cellC b1 ((planC a0)).toArray 23, rowK 3 1 i64 γ9 x8.1] w0 w17 := hP
    refine wp_cond_split (t := x15) (r.ev rfl) (fun h18 => ?_) (fun h18 => ?_)
    ·
     have hD := (cond_t h18).symm.trans hD
     refine wp_skip ?_
     refine wp_block ?_
     refine wsr ?_
     refine seq_val (U x8.2) r (fun R => y_move r rfl) rfl fun fr r => ?_
     refine seq_val (I (W x8.2)) r (fun R => y_convert r rfl ti34 ti3) rfl fun fr r => ?_
     refine seq_val _ r (fun R => y_bin r rfl rfl rfl rfl) rfl fun fr r => ?_
     refine seq_val (I (W ((W x8.2) - 1))) r (fun R => y_assign r rfl) rfl fun fr r => ?_
     refine wn ?_
     refine wsr ?_
     refine seq_val γ9 r (fun R => y_move r rfl) rfl fun fr r => ?_
     refine seq_val (I (W ((W x8.2) - 1))) r (fun R => y_move r rfl) rfl fun fr r => ?_
     refine seq_newS (.cells (([(W ((W x8.2) - 1))]).flatMap i64).toArray 3 (0, 0)) 1 r (fun R => y_bslice r (by kernel_rfl)) rfl fun fr b19 w20 n21 r => ?_
     have hP : Post No [memR a1_g a1, cellC b1 ((planC a0)).toArray 23, rowK 3 1 i64 γ9 x8.1, rowK 3 1 i64 (.slice (some ⟨b19, 0, none⟩) 1 1) ([(W ((W x8.2) - 1))])] w0 w20 := hP.newRow n21 (fun _ => rfl) rfl
     obtain ⟨x23, hx23, hD⟩ := bindD_elim hD
     refine seq_app 3 1 i64 γ9 r (fun R => y_append r rt24 (fun _ => rfl) (fun _ => rfl) (hP.row (i := 2) rfl) (hP.row (i := 3) rfl).ro hx23 rfl rfl) rfl fun fr v24 w25 ha26 r => ?_
     have hP : Post No [memR a1_g a1, cellC b1 ((planC a0)).toArray 23, rowK 3 1 i64 v24 x23, rowK 3 1 i64 (.slice (some ⟨b19, 0, none⟩) 1 1) ([(W ((W x8.2) - 1))])] w0 w25 := hP.append (i := 2) rfl ha26
     refine seq_val v24 r (fun R => y_assign r rfl) rfl fun fr r => ?_
     refine wn ?_
     refine wp_region_lit ?_
     refine seq_val (.pointer (some ⟨a1_g.mb, 0, none⟩)) r (fun R => y_move r rfl) rfl fun fr r => ?_
     refine seq_val (I a2) r (fun R => y_move r rfl) rfl fun fr r => ?_
     refine seq_val (.agg (planC a0).toArray) r (fun R => y_load_agg r (cs := (planC a0)) (n := 6) rfl (hP.cell (i := 1) rfl) ta23 rfl) rfl fun fr r => ?_
     refine seq_val (I (W ((W x8.2) - 1))) r (fun R => y_move r rfl) rfl fun fr r => ?_
     refine seq_call r (c_plan_Plan_Next w25 a0 (W ((W x8.2) - 1))) (fun R hc => y_call r rfl cl69 hc) rfl ?_
     rintro _ w27 ⟨rfl, hb⟩
     refine ⟨_, rfl, fun fr r => ?_⟩
     have hP : Post No [memR a1_g a1, cellC b1 ((planC a0)).toArray 23, rowK 3 1 i64 v24 x23, rowK 3 1 i64 (.slice (some ⟨b19, 0, none⟩) 1 1) ([(W ((W x8.2) - 1))])] w0 w27 := hP.below hb
     obtain ⟨x28, hx28, hD⟩ := bindD_elim hD
     refine seq_call r (c_mem_Memory_Peek w27 a1 (hP.memr (i := 0) rfl) a2 (D.plan_Plan_Next a0 (W ((W x8.2) - 1))) hx28) (fun R hc => y_call r rfl cl27 hc) rfl ?_
     rintro _ w29 ⟨rfl, hb⟩
     refine ⟨_, rfl, fun fr r => ?_⟩
     have hP : Post No [memR a1_g a1, cellC b1 ((planC a0)).toArray 23, rowK 3 1 i64 v24 x23, rowK 3 1 i64 (.slice (some ⟨b19, 0, none⟩) 1 1) ([(W ((W x8.2) - 1))])] w0 w29 := hP.below hb
     refine seq_val (U x28) r (fun R => y_assign r rfl) rfl fun fr r => ?_
     refine wn ?_
     exact nxy10 (x23, x28) v24 _ _ _ hD r (hs_cons rfl (hs_cons rfl (hs_cons rfl (hs_cons rfl (hs_cons rfl (hs_cons rfl (hs_cons rfl hs_nil))))))) (hP.pick [0, 1, 2] rfl rfl)
    ·
     have hD := (cond_f h18).symm.trans hD
     refine wp_exit ?_
     exact bky10 (x8.1, x8.2) γ9 _ _ _ hD r (hs_cons rfl (hs_cons rfl (hs_cons rfl (hs_cons rfl (hs_cons rfl (hs_cons rfl (hs_cons rfl hs_nil))))))) (hP.pick [0, 1, 2] rfl rfl)
  ·
   rintro x30 γ31 fr w32 g r hP hD
   have hP : Post No [memR a1_g a1, cellC b1 ((planC a0)).toArray 23, rowK 3 1 i64 γ31 x30.1] w0 w32 := hP
   refine wsr ?_
   refine seq_val γ31 r (fun R => y_move r rfl) rfl fun fr r => ?_
   refine seq_val γ31 r (fun R => y_assign r rfl) rfl fun fr r => ?_
   refine wn ?_
   refine wp_ret ?_
   have hv : x30.1 = res := Option.some.inj hD
   try dsimp only [Exit.then, Exit.inBlock]
   refine ret_tmp (fn := Tryz.f26) r (t := 6) rfl (v := γ31) rfl ?_
   subst hv
   exact ⟨γ31, rfl, (hP.pick [2] rfl rfl).done (rest_cons rfl rest_nil)⟩

end Go.Proofs.YtphnnjiaiemkcaaGreat
