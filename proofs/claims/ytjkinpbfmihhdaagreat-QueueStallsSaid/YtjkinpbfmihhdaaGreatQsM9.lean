/- Some of our texts, one behind the other. -/
import Derived.Test.YtjkinpbfmihhdaaGreatQsM8
set_option linter.all false
/- Written by a program of ours (wip/gen.py): a memory that is laid out -/
set_option linter.unusedVariables false
set_option maxRecDepth 20000
set_option maxHeartbeats 2000000
namespace Go.Proofs.YtjkinpbfmihhdaaGreat
open Go.RowKit
theorem cl108 : callable Tryz.prog 108 = true := by kernel_rfl

theorem cl109 : callable Tryz.prog 109 = true := by kernel_rfl

theorem cl110 : callable Tryz.prog 110 = true := by kernel_rfl

theorem cl111 : callable Tryz.prog 111 = true := by kernel_rfl

theorem cl31 : callable Tryz.prog 31 = true := by kernel_rfl

def D.cubiclelaw09_Laid (fu : Nat) (a0 : Plan) : Option (Mem) := ((D.mem_New fu ([(D.plan_Plan_Size a0)])).bind (fun (x10 : Mem × Int) => (Option.bind (bif (x10.2 != 0) then (some true) else (some false)) (fun (x16 : Bool) => (bif x16 then none else ((D.mem_Memory_Cap fu x10.1 0).bind (fun (x21 : Cap) => ((D.prog_Run_None fu (fu, (D.free_Fresh (fu + 1) a0)) x10.1 x21 (IntKind.i64.wrap (a0.nodes + 1))).bind (fun (x22 : Unit × Int × Bool × Mem) => (bif (!x22.2.2.1) then none else (some x22.2.2.2)))))))))))

theorem c_cubiclelaw09_Laid {fu : Nat} (w0 : World) (a0 : Plan) {res : Mem} (hD : D.cubiclelaw09_Laid fu a0 = some res) :
    Calls Tryz.prog 28 #[.agg (planC a0).toArray] w0 (fun e w' => ∃ (g0 : MG), e = .returned (.pointer (some ⟨g0.mb, 0, none⟩)) ∧ Done No No [memK g0 res] w0 w') := by
 refine enter Tryz.func28 rfl 37 rfl rfl fun fr r => ?_
 have hP : Post No [] w0 w0 := Post.nil w0
 unfold D.cubiclelaw09_Laid at hD
 refine wsr ?_
 refine seq_new (.cells ((planC a0)).toArray 25 (0, 0)) r (fun R => y_box r (v := (.agg (planC a0).toArray)) rfl) rfl fun fr b1 w2 n3 r => ?_
 have hP : Post No [cellC b1 ((planC a0)).toArray 25] w0 w2 := hP.new n3
 refine seq_val (.pointer none) r (fun R => y_assign r rfl) rfl fun fr r => ?_
 refine wn ?_
 refine wsr ?_
 refine seq_val (.agg (planC a0).toArray) r (fun R => y_load_agg r (cs := (planC a0)) (n := 6) rfl (hP.cell (i := 0) rfl) ta25 rfl) rfl fun fr r => ?_
 refine seq_call r (c_plan_Plan_Size w2 a0) (fun R hc => y_call r rfl cl109 hc) rfl ?_
 rintro _ w5 ⟨rfl, hb⟩
 refine ⟨_, rfl, fun fr r => ?_⟩
 have hP : Post No [cellC b1 ((planC a0)).toArray 25] w0 w5 := hP.below hb
 refine seq_newS (.cells (([(D.plan_Plan_Size a0)]).flatMap i64).toArray 3 (0, 0)) 1 r (fun R => y_bslice r (by kernel_rfl)) rfl fun fr b6 w7 n8 r => ?_
 have hP : Post No [cellC b1 ((planC a0)).toArray 25, rowK 3 1 i64 (.slice (some ⟨b6, 0, none⟩) 1 1) ([(D.plan_Plan_Size a0)])] w0 w7 := hP.newRow n8 (fun _ => rfl) rfl
 obtain ⟨x10, hx10, hD⟩ := bindD_elim hD
 refine seq_call r (c_mem_New w7 ([(D.plan_Plan_Size a0)]) (hP.row (i := 1) rfl).ro hx10) (fun R hc => y_call r rfl cl108 hc) rfl ?_
 rintro _ w11 ⟨mg12, rfl, hq⟩
 refine ⟨_, rfl, fun fr r => ?_⟩
 have hP : Post No [cellC b1 ((planC a0)).toArray 25, rowK 3 1 i64 (.slice (some ⟨b6, 0, none⟩) 1 1) ([(D.plan_Plan_Size a0)]), memK mg12 x10.1] w0 w11 := hP.add hq
 refine seq_val (.tuple #[(.pointer (some ⟨mg12.mb, 0, none⟩)), (I x10.2)]) r (fun R => y_move r rfl) rfl fun fr r => ?_
 refine seq_val (.pointer (some ⟨mg12.mb, 0, none⟩)) r (fun R => y_extract r (vs := #[(.pointer (some ⟨mg12.mb, 0, none⟩)), (I x10.2)]) rfl rfl) rfl fun fr r => ?_
 refine seq_val (I x10.2) r (fun R => y_extract r (vs := #[(.pointer (some ⟨mg12.mb, 0, none⟩)), (I x10.2)]) rfl rfl) rfl fun fr r => ?_
 refine seq_val (.pointer (some ⟨mg12.mb, 0, none⟩)) r (fun R => y_assign r rfl) rfl fun fr r => ?_
 refine seq_val (I x10.2) r (fun R => y_assign r rfl) rfl fun fr r => ?_
 refine wn ?_
 refine wp_seq ?_
 refine wp_seq ?_
 have hP : Post No [cellC b1 ((planC a0)).toArray 25, memK mg12 x10.1] w0 w11 := hP.pick [0, 2] rfl rfl
 refine wp_joinG (N := 37) (Y := Bool) (G := Unit) (fun x γ => [(0, (.agg (planC a0).toArray)), (1, (.pointer (some ⟨b1, 0, none⟩))), (2, (.pointer none)), (3, (.pointer (some ⟨mg12.mb, 0, none⟩))), (4, (I x10.2)), (20, (.bool x))]) (fun x γ w => Post No [cellC b1 ((planC a0)).toArray 25, memK mg12 x10.1] w0 w) hD ?_ ?_
 ·
  rintro y14 RPy14 nxy14 hD
  refine wp_region_lit ?_
  refine seq_val (I x10.2) r (fun R => y_move r rfl) rfl fun fr r => ?_
  refine seq_val _ r (fun R => y_bin r rfl rfl rfl rfl) rfl fun fr r => ?_
  refine seq_val (.bool (x10.2 != 0)) r (fun R => y_move r rfl) rfl fun fr r => ?_
  refine seq_split (x10.2 != 0) (fun h15 => ?_) (fun h15 => ?_)
  ·
   have hD := (cond_t h15).symm.trans hD
   refine s0 r h15 fun fr r => ?_
   refine s0 r h15 fun fr r => ?_
   refine seq_val (.bool true) r (fun R => y_pick r (b := true) (congrArg Value.bool h15) rfl) rfl fun fr r => ?_
   refine wn ?_
   exact nxy14 true () _ _ _ hD r (hs_cons rfl (hs_cons rfl (hs_cons rfl (hs_cons rfl (hs_cons rfl (hs_cons rfl hs_nil)))))) (hP.pick [0, 1] rfl rfl)
  ·
   have hD := (cond_f h15).symm.trans hD
   refine s1 r h15 ?_
   refine seq_val (.pointer (some ⟨mg12.mb, 0, none⟩)) r (fun R => y_move r rfl) rfl fun fr r => ?_
   refine s1 r h15 ?_
   refine seq_val _ r (fun R => y_bin r rfl rfl rfl rfl) rfl fun fr r => ?_
   refine seq_val (.bool false) r (fun R => y_pick r (b := false) (congrArg Value.bool h15) rfl) rfl fun fr r => ?_
   refine wn ?_
   exact nxy14 false () _ _ _ hD r (hs_cons rfl (hs_cons rfl (hs_cons rfl (hs_cons rfl (hs_cons rfl (hs_cons rfl hs_nil)))))) (hP.pick [0, 1] rfl rfl)
 ·
  rintro x16 γ17 fr w18 g r hP hD
  have hP : Post No [cellC b1 ((planC a0)).toArray 25, memK mg12 x10.1] w0 w18 := hP
  refine wp_cond_split (t := x16) (r.ev rfl) (fun h19 => ?_) (fun h19 => ?_)
  ·
   have hD := (cond_t h19).symm.trans hD
   refine wsr ?_
   refine seq_val (.pointer none) r (fun R => y_assign r rfl) rfl fun fr r => ?_
   refine wn ?_
   refine wp_ret ?_
   exact nomatch hD
  ·
   have hD := (cond_f h19).symm.trans hD
   refine wp_skip ?_
   refine wp_seq ?_
   obtain ⟨x21, hx21, hD⟩ := bindD_elim hD
   obtain ⟨x22, hx22, hD⟩ := bindD_elim hD
   refine wp_freeE mg12.bs [.val (.agg (planC a0).toArray), .pred (PrP Tryz.prog encNone (fu, (D.free_Fresh (fu + 1) a0))) (PrP.st _), .val (.pointer (some ⟨mg12.mb, 0, none⟩)), .val (.pointer (some ⟨mg12.mb, 0, none⟩)), .val (.agg (capC x21).toArray), .val (.pointer (some ⟨b1, 0, none⟩)), .val (I a0.nodes), .val (I (W (a0.nodes + 1))), .eff (EffP w18.heap.size (memK mg12 x22.2.2.2) (fun _ : Unit => (.tuple #[(.agg #[]), (I x22.2.1), (.bool x22.2.2.1)])) (fun _ : Unit => [])) (EffP.st _ _ _ _), .val (.tuple #[(.agg #[]), (I x22.2.1), (.bool x22.2.2.1)]), .val (.agg #[]), .val (I x22.2.1), .val (.bool x22.2.2.1), .cell 181 0, .stored 13 #[] 181 0 rfl, .val (I x22.2.1), .val (.bool x22.2.2.1)] mixed r (fun b hb => hP.sep.lt (i := 1) rfl (.inl hb)) (by kernel_rfl) ?_ ?_
   ·
    refine eachE_late r rfl (fun fr1 g w' hk' hd r' => ?_) ?_
    · exact y_load_agg r' (cs := (planC a0)) (n := 6) rfl (hP.cellK (j := 1) rfl (drK hk') (i := 0) rfl rfl) ta25 rfl ⟨Below.refl _ _, rfl⟩
    refine eachE_early r rfl (by kernel_rfl) (fun fr1 g w' hb' hd r' => ?_) ?_
    · exact y_call r' (args := [(.agg (planC a0).toArray)]) (lc (hd 0 rfl).1 l0) cl111 ((c_free_Fresh (F := No) (n := fu) (j := fu + 1) (fun _ h => h.elim) (by omega) a0).mono (by rintro _ w2 ⟨y, rfl, hb2, hr2⟩; exact ⟨_, rfl, hb2, fresh_prog hr2⟩))
    refine eachE_early r rfl (by kernel_rfl) (fun fr1 g w' hb' hd r' => ?_) ?_
    · exact y_move r' (v := (.pointer (some ⟨mg12.mb, 0, none⟩))) rfl ⟨Below.refl _ _, rfl⟩
    refine eachE_late r rfl (fun fr1 g w' hk' hd r' => ?_) ?_
    · exact y_move r' (v := (.pointer (some ⟨mg12.mb, 0, none⟩))) rfl ⟨Below.refl _ _, rfl⟩
    refine eachE_early r rfl (by kernel_rfl) (fun fr1 g w' hb' hd r' => ?_) ?_
    · exact y_call r' (args := [(.pointer (some ⟨mg12.mb, 0, none⟩)), (I 0)]) (lc (hd 3 rfl).1 (lc rfl l0)) cl31 ((c_mem_Memory_Cap _ x10.1 ((hP.below (dr hb')).mem (i := 1) rfl) 0 hx21).mono (by rintro _ w2 ⟨rfl, hb2⟩; exact ⟨_, rfl, hb2, rfl⟩))
    refine eachE_late r rfl (fun fr1 g w' hk' hd r' => ?_) ?_
    · exact y_fieldAddr r' (b := b1) (o := 0) (k := 0) rfl fo25_0 ⟨Below.refl _ _, rfl⟩
    refine eachE_late r rfl (fun fr1 g w' hk' hd r' => ?_) ?_
    · exact y_load_one r' (v := (I a0.nodes)) (hd 5 rfl).1 (hP.cellK (j := 1) rfl (drK hk') (i := 0) rfl rfl) to3 rfl ⟨Below.refl _ _, rfl⟩
    refine eachE_early r rfl (by kernel_rfl) (fun fr1 g w' hb' hd r' => ?_) ?_
    · exact y_bin r' (u := (I a0.nodes)) (u' := (I 1)) (v := (I (W (a0.nodes + 1)))) (hd 6 rfl).1 rfl rfl rfl ⟨Below.refl _ _, rfl⟩
    refine eachE_early r rfl (by kernel_rfl) (fun fr1 g w' hb' hd r' => ?_) ?_
    · exact y_call r' (args := [(g 1).v, (.pointer (some ⟨mg12.mb, 0, none⟩)), (.agg (capC x21).toArray), (I (W (a0.nodes + 1)))]) (lc rfl (lc (hd 2 rfl).1 (lc (hd 4 rfl).1 (lc (hd 7 rfl).1 l0)))) cl110 ((c_prog_Run_None _ (fu, (D.free_Fresh (fu + 1) a0)) x10.1 x21 (W (a0.nodes + 1)) (Sep.beside (hd 1 rfl).1 ((hP.below (dr hb')).sep.pk [1] rfl rfl) (by intro c hc b hb; simp only [List.mem_cons, List.not_mem_nil, or_false] at hc; rcases hc with rfl; exact hP.sep.lt (i := 1) rfl hb) (hd 1 rfl).2.1) hx22).mono (by rintro _ w2 ⟨rfl, hq⟩; exact ⟨_, rfl, hq.chg.kept, EffP.of () hq rfl (fun b hb => hP.sep.lt (i := 1) rfl hb)⟩))
    refine eachE_late r rfl (fun fr1 g w' hk' hd r' => ?_) ?_
    · exact y_move r' (v := (.tuple #[(.agg #[]), (I x22.2.1), (.bool x22.2.2.1)])) (EffP.val (hd 8 rfl).1) ⟨Below.refl _ _, rfl⟩
    refine eachE_late r rfl (fun fr1 g w' hk' hd r' => ?_) ?_
    · exact y_extract r' (vs := #[(.agg #[]), (I x22.2.1), (.bool x22.2.2.1)]) (hd 9 rfl).1 rfl ⟨Below.refl _ _, rfl⟩
    refine eachE_late r rfl (fun fr1 g w' hk' hd r' => ?_) ?_
    · exact y_extract r' (vs := #[(.agg #[]), (I x22.2.1), (.bool x22.2.2.1)]) (hd 9 rfl).1 rfl ⟨Below.refl _ _, rfl⟩
    refine eachE_late r rfl (fun fr1 g w' hk' hd r' => ?_) ?_
    · exact y_extract r' (vs := #[(.agg #[]), (I x22.2.1), (.bool x22.2.2.1)]) (hd 9 rfl).1 rfl ⟨Below.refl _ _, rfl⟩
    refine eachE_late r rfl (fun fr1 g w' hk' hd r' => ?_) ?_
    · exact y_alloc tz181 (fun b w2 n2 => ⟨n2.below, b, rfl, n2.eq, _, n2.at_, rfl⟩)
    refine eachE_late r rfl (fun fr1 g w' hk' hd r' => ?_) ?_
    · obtain ⟨hp, _, c, hc, hn⟩ := (hd 13 rfl).1; exact y_store r' (o := 0) (c := c) (v := (.agg #[])) hp (hd 10 rfl).1 hc ts181 (by rw [hn]; exact Nat.le_of_ble_eq_true rfl) rfl (over2_full (hn.trans rfl)) (fun w2 u2 => ⟨u2, rfl⟩)
    refine eachE_late r rfl (fun fr1 g w' hk' hd r' => ?_) ?_
    · exact y_assign r' (v := (I x22.2.1)) (hd 11 rfl).1 ⟨Below.refl _ _, rfl⟩
    refine eachE_late r rfl (fun fr1 g w' hk' hd r' => ?_) ?_
    · exact y_assign r' (v := (.bool x22.2.2.1)) (hd 12 rfl).1 ⟨Below.refl _ _, rfl⟩
    exact eachF_nil
   ·
    intro fr gg w24 hb hΦ hap r
    obtain ⟨v20, hv1⟩ : ∃ v, v = (gg 1).v := ⟨_, rfl⟩
    have g1 : (gg 1).v = v20 := hv1.symm
    have hs1 : Fresh [progK Tryz.prog encNone (fu, (D.free_Fresh (fu + 1) a0)) v20 (rg (gg 1).lo (gg 1).hi)] (gg 1).lo (gg 1).hi w24 := by subst hv1; exact (hΦ 1 rfl).1
    obtain ⟨⟨⟩, g8, hcE, _, hs8⟩ := (hΦ 8 rfl).1
    obtain ⟨b23, ee_b23⟩ : ∃ b, b = (gg 13).lo := ⟨_, rfl⟩
    have g13 : (gg 13).v = (.pointer (some ⟨b23, 0, none⟩)) := by rw [ee_b23]; exact (hΦ 13 rfl).1.1
    have h_b23 : w24.heap[b23]? = some (.cells #[] 181 (0, 0)) := by rw [ee_b23]; exact (hΦ 14 rfl).1.2
    have hs13 : Fresh [cellC b23 #[] 181] (gg 13).lo (gg 13).hi w24 := by subst ee_b23; exact Fresh.cell (hΦ 13 rfl).1.2.1 h_b23
    have r := r.congr (sc ((hΦ 16 rfl).1) (sc ((hΦ 15 rfl).1) (sc g13 (sc ((hΦ 12 rfl).1) (sc ((hΦ 11 rfl).1) (sc ((hΦ 10 rfl).1) (sc ((hΦ 9 rfl).1) (sc g8 (sc ((hΦ 7 rfl).1) (sc ((hΦ 6 rfl).1) (sc ((hΦ 5 rfl).1) (sc ((hΦ 4 rfl).1) (sc ((hΦ 3 rfl).1) (sc ((hΦ 2 rfl).1) (sc g1 (sc ((hΦ 0 rfl).1) rfl))))))))))))))))
    have hP : Post No [cellC b1 ((planC a0)).toArray 25, memK mg12 x22.2.2.2, progK Tryz.prog encNone (fu, (D.free_Fresh (fu + 1) a0)) v20 (rg (gg 1).lo (gg 1).hi), cellC b23 #[] 181] w0 w24 := hP.effL (i := 1) (l := [([progK Tryz.prog encNone (fu, (D.free_Fresh (fu + 1) a0)) v20 (rg (gg 1).lo (gg 1).hi)], (gg 1).lo, (gg 1).hi), ([cellC b23 #[] 181], (gg 13).lo, (gg 13).hi)]) rfl hb hcE rfl rfl ⟨hs1, (hΦ 1 rfl).2.1, (disj_cons (hap 1 13 rfl) disj_nil), ⟨hs13, (hΦ 13 rfl).2.1, disj_nil, trivial⟩⟩
    refine wp_seq ?_
    refine wsr ?_
    refine seq_val (.bool x22.2.2.1) r (fun R => y_move r rfl) rfl fun fr r => ?_
    refine seq_val (.bool (!x22.2.2.1)) r (fun R => y_un r (u := (.bool x22.2.2.1)) rfl rfl) rfl fun fr r => ?_
    refine wn ?_
    refine wp_cond_split (t := (!x22.2.2.1)) (r.ev rfl) (fun h25 => ?_) (fun h25 => ?_)
    ·
     have hD := (cond_t h25).symm.trans hD
     refine wsr ?_
     refine seq_val (.pointer none) r (fun R => y_assign r rfl) rfl fun fr r => ?_
     refine wn ?_
     refine wp_ret ?_
     exact nomatch hD
    ·
     have hD := (cond_f h25).symm.trans hD
     refine wp_skip ?_
     refine wsr ?_
     refine seq_val (.pointer (some ⟨mg12.mb, 0, none⟩)) r (fun R => y_move r rfl) rfl fun fr r => ?_
     refine seq_val (.pointer (some ⟨mg12.mb, 0, none⟩)) r (fun R => y_assign r rfl) rfl fun fr r => ?_
     refine wn ?_
     refine wp_ret ?_
     have hv : x22.2.2.2 = res := Option.some.inj hD
     try dsimp only [Exit.then, Exit.inBlock]
     refine ret_tmp (fn := Tryz.f28) r (t := 2) rfl (v := (.pointer (some ⟨mg12.mb, 0, none⟩))) rfl ?_
     subst hv
     exact ⟨mg12, rfl, (hP.pick [1] rfl rfl).done (rest_cons rfl rest_nil)⟩

end Go.Proofs.YtjkinpbfmihhdaaGreat

/- Written by a program of ours (wip/gen.py): lists of nodes -/
set_option linter.unusedVariables false
set_option maxRecDepth 20000
set_option maxHeartbeats 2000000
namespace Go.Proofs.YtjkinpbfmihhdaaGreat
open Go.RowKit
theorem cl51 : callable Tryz.prog 51 = true := by kernel_rfl

end Go.Proofs.YtjkinpbfmihhdaaGreat
