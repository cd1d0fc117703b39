/- Some of our texts, one behind the other. -/
import Derived.Test.YtjkinpbfmihhdaaGreatQsM1
import Derived.Test.YtjkinpbfmihhdaaGreatRows
set_option linter.all false
/- Written by a program of ours (wip/gen.py): plans -/
set_option linter.unusedVariables false
set_option maxRecDepth 20000
set_option maxHeartbeats 2000000
namespace Go.Proofs.YtjkinpbfmihhdaaGreat
open Go.RowKit
theorem cl136 : callable Tryz.prog 136 = true := by kernel_rfl

theorem cl142 : callable Tryz.prog 142 = true := by kernel_rfl

theorem cl143 : callable Tryz.prog 143 = true := by kernel_rfl

theorem cl144 : callable Tryz.prog 144 = true := by kernel_rfl

theorem cl158 : callable Tryz.prog 158 = true := by kernel_rfl

theorem cl159 : callable Tryz.prog 159 = true := by kernel_rfl

theorem cl166 : callable Tryz.prog 166 = true := by kernel_rfl

theorem cl167 : callable Tryz.prog 167 = true := by kernel_rfl

theorem cl235 : callable Tryz.prog 235 = true := by kernel_rfl

theorem cl261 : callable Tryz.prog 261 = true := by kernel_rfl

theorem fo25_0 : fieldOff Tryz.prog 25 0 0 = true := by kernel_rfl

theorem fo25_1 : fieldOff Tryz.prog 25 1 1 = true := by kernel_rfl

theorem fo25_2 : fieldOff Tryz.prog 25 2 2 = true := by kernel_rfl

theorem fo25_3 : fieldOff Tryz.prog 25 3 3 = true := by kernel_rfl

theorem fo25_4 : fieldOff Tryz.prog 25 4 4 = true := by kernel_rfl

theorem fo25_5 : fieldOff Tryz.prog 25 5 5 = true := by kernel_rfl

theorem mixed : Tryz.prog.follows .mixedOrders = true := by kernel_rfl

theorem ta216 : tyA Tryz.prog 216 3 = true := by kernel_rfl

theorem ta25 : tyA Tryz.prog 25 6 = true := by kernel_rfl

theorem to3 : tyO Tryz.prog 3 = true := by kernel_rfl

theorem ts216 : sized Tryz.prog 216 3 = true := by kernel_rfl

theorem tz216 : zeroOf Tryz.prog 216 = some (.agg (boundC (⟨0, 0, 0⟩ : Bound)).toArray) := by kernel_rfl

def D.plan_Plan_Formed (a0 : Plan) : Bool := (bif (D.plan_within ([(⟨a0.nodes, 1, 1048576⟩ : Bound), (⟨a0.threads, 1, 16⟩ : Bound), (⟨a0.domains, 0, 64⟩ : Bound), (⟨a0.buckets, 1, 256⟩ : Bound), (⟨a0.gen, 1, 1073741823⟩ : Bound)])) then (D.plan_within ([(⟨a0.retire, (IntKind.i64.wrap ((IntKind.i64.wrap (3 * a0.threads)) + 1)), 1024⟩ : Bound)])) else false)

theorem c_plan_Plan_Formed (w0 : World) 
    (a0 : Plan) :
    Calls Tryz.prog 136 #[.agg (planC a0).toArray] w0 (PureRes (.bool (D.plan_Plan_Formed a0)) w0) := by
 refine enter Tryz.func136 rfl 31 rfl rfl fun fr r => ?_
 have hB := Below.refl w0.heap.size w0
 refine wsr ?_
 refine seq_new (.cells ((planC a0)).toArray 25 (0, 0)) r (fun R => y_box r (v := (.agg (planC a0).toArray)) rfl) rfl fun fr b1 w2 n3 r => ?_
 obtain ⟨e_b1, z_w2, h_b1, hB, zB⟩ := n3.all hB
 refine seq_val (.bool false) r (fun R => y_assign r rfl) rfl fun fr r => ?_
 refine wn ?_
 refine wsr ?_
 refine seq_val _ r (fun R => y_fieldAddr r (o := 0) rfl fo25_0) rfl fun fr r => ?_
 refine seq_val (I a0.nodes) r (fun R => y_load_one r rfl h_b1 to3 rfl) rfl fun fr r => ?_
 refine seq_val (.agg (boundC (⟨a0.nodes, 1, 1048576⟩ : Bound)).toArray) r (fun R => y_build r (by kernel_rfl)) rfl fun fr r => ?_
 refine seq_val _ r (fun R => y_fieldAddr r (o := 0) rfl fo25_1) rfl fun fr r => ?_
 refine seq_val (I a0.threads) r (fun R => y_load_one r rfl h_b1 to3 rfl) rfl fun fr r => ?_
 refine seq_val (.agg (boundC (⟨a0.threads, 1, 16⟩ : Bound)).toArray) r (fun R => y_build r (by kernel_rfl)) rfl fun fr r => ?_
 refine seq_val _ r (fun R => y_fieldAddr r (o := 0) rfl fo25_3) rfl fun fr r => ?_
 refine seq_val (I a0.domains) r (fun R => y_load_one r rfl h_b1 to3 rfl) rfl fun fr r => ?_
 refine seq_val (.agg (boundC (⟨a0.domains, 0, 64⟩ : Bound)).toArray) r (fun R => y_build r (by kernel_rfl)) rfl fun fr r => ?_
 refine seq_val _ r (fun R => y_fieldAddr r (o := 0) rfl fo25_4) rfl fun fr r => ?_
 refine seq_val (I a0.buckets) r (fun R => y_load_one r rfl h_b1 to3 rfl) rfl fun fr r => ?_
 refine seq_val (.agg (boundC (⟨a0.buckets, 1, 256⟩ : Bound)).toArray) r (fun R => y_build r (by kernel_rfl)) rfl fun fr r => ?_
 refine seq_val _ r (fun R => y_fieldAddr r (o := 0) rfl fo25_5) rfl fun fr r => ?_
 refine seq_val (I a0.gen) r (fun R => y_load_one r rfl h_b1 to3 rfl) rfl fun fr r => ?_
 refine seq_val (.agg (boundC (⟨a0.gen, 1, 1073741823⟩ : Bound)).toArray) r (fun R => y_build r (by kernel_rfl)) rfl fun fr r => ?_
 refine seq_newS (.cells ((boundsC [(⟨a0.nodes, 1, 1048576⟩ : Bound), (⟨a0.threads, 1, 16⟩ : Bound), (⟨a0.domains, 0, 64⟩ : Bound), (⟨a0.buckets, 1, 256⟩ : Bound), (⟨a0.gen, 1, 1073741823⟩ : Bound)])).toArray 216 (0, 0)) 5 r (fun R => y_bslice r (by kernel_rfl)) rfl fun fr b4 w5 n6 r => ?_
 have h_b1 := keep n6.below h_b1
 obtain ⟨e_b4, z_w5, h_b4, hB, zB⟩ := n6.all hB
 refine seq_call r (c_plan_within w5 ([(⟨a0.nodes, 1, 1048576⟩ : Bound), (⟨a0.threads, 1, 16⟩ : Bound), (⟨a0.domains, 0, 64⟩ : Bound), (⟨a0.buckets, 1, 256⟩ : Bound), (⟨a0.gen, 1, 1073741823⟩ : Bound)]) h_b4 (by first | assumption | decide | (simp; done))) (fun R hc => y_call r rfl cl235 hc) rfl ?_
 rintro _ w7 ⟨rfl, hb⟩
 refine ⟨_, rfl, fun fr r => ?_⟩
 have z_w7 := hb.size
 have h_b1 := keep hb h_b1
 have h_b4 := keep hb h_b4
 obtain ⟨hB, zB⟩ := bon hb hB
 refine seq_val (.bool (D.plan_within ([(⟨a0.nodes, 1, 1048576⟩ : Bound), (⟨a0.threads, 1, 16⟩ : Bound), (⟨a0.domains, 0, 64⟩ : Bound), (⟨a0.buckets, 1, 256⟩ : Bound), (⟨a0.gen, 1, 1073741823⟩ : Bound)]))) r (fun R => y_move r rfl) rfl fun fr r => ?_
 refine seq_split (D.plan_within ([(⟨a0.nodes, 1, 1048576⟩ : Bound), (⟨a0.threads, 1, 16⟩ : Bound), (⟨a0.domains, 0, 64⟩ : Bound), (⟨a0.buckets, 1, 256⟩ : Bound), (⟨a0.gen, 1, 1073741823⟩ : Bound)])) (fun h8 => ?_) (fun h8 => ?_)
 ·
  refine s1 r h8 ?_
  refine seq_val _ r (fun R => y_fieldAddr r (o := 0) rfl fo25_2) rfl fun fr r => ?_
  refine s1 r h8 ?_
  refine seq_val (I a0.retire) r (fun R => y_load_one r rfl h_b1 to3 rfl) rfl fun fr r => ?_
  refine s1 r h8 ?_
  refine seq_val _ r (fun R => y_fieldAddr r (o := 0) rfl fo25_1) rfl fun fr r => ?_
  refine s1 r h8 ?_
  refine seq_val (I a0.threads) r (fun R => y_load_one r rfl h_b1 to3 rfl) rfl fun fr r => ?_
  refine s1 r h8 ?_
  refine seq_val _ r (fun R => y_bin r rfl rfl rfl rfl) rfl fun fr r => ?_
  refine s1 r h8 ?_
  refine seq_val _ r (fun R => y_bin r rfl rfl rfl rfl) rfl fun fr r => ?_
  refine s1 r h8 ?_
  refine seq_val (.agg (boundC (⟨a0.retire, (W ((W (3 * a0.threads)) + 1)), 1024⟩ : Bound)).toArray) r (fun R => y_build r (by kernel_rfl)) rfl fun fr r => ?_
  refine s1 r h8 ?_
  refine seq_newS (.cells ((boundsC [(⟨a0.retire, (W ((W (3 * a0.threads)) + 1)), 1024⟩ : Bound)])).toArray 216 (0, 0)) 1 r (fun R => y_bslice r (by kernel_rfl)) rfl fun fr b9 w10 n11 r => ?_
  have h_b1 := keep n11.below h_b1
  have h_b4 := keep n11.below h_b4
  obtain ⟨e_b9, z_w10, h_b9, hB, zB⟩ := n11.all hB
  refine s1 r h8 ?_
  refine seq_call r (c_plan_within w10 ([(⟨a0.retire, (W ((W (3 * a0.threads)) + 1)), 1024⟩ : Bound)]) h_b9 (by first | assumption | decide | (simp; done))) (fun R hc => y_call r rfl cl235 hc) rfl ?_
  rintro _ w12 ⟨rfl, hb⟩
  refine ⟨_, rfl, fun fr r => ?_⟩
  have z_w12 := hb.size
  have h_b1 := keep hb h_b1
  have h_b4 := keep hb h_b4
  have h_b9 := keep hb h_b9
  obtain ⟨hB, zB⟩ := bon hb hB
  refine seq_val (.bool (D.plan_within ([(⟨a0.retire, (W ((W (3 * a0.threads)) + 1)), 1024⟩ : Bound)]))) r (fun R => y_pick r (b := true) (congrArg Value.bool h8) rfl) rfl fun fr r => ?_
  refine seq_val (.bool (D.plan_within ([(⟨a0.retire, (W ((W (3 * a0.threads)) + 1)), 1024⟩ : Bound)]))) r (fun R => y_assign r rfl) rfl fun fr r => ?_
  refine wn ?_
  refine wp_ret ?_
  have hd : D.plan_Plan_Formed a0 = (D.plan_within ([(⟨a0.retire, (W ((W (3 * a0.threads)) + 1)), 1024⟩ : Bound)])) := (cond_t h8).trans (rfl)
  refine ret_tmp r rfl rfl ?_
  rw [hd]
  exact ⟨rfl, hB⟩
 ·
  refine s0 r h8 fun fr r => ?_
  refine s0 r h8 fun fr r => ?_
  refine s0 r h8 fun fr r => ?_
  refine s0 r h8 fun fr r => ?_
  refine s0 r h8 fun fr r => ?_
  refine s0 r h8 fun fr r => ?_
  refine s0 r h8 fun fr r => ?_
  refine s0 r h8 fun fr r => ?_
  refine s0 r h8 fun fr r => ?_
  refine seq_val (.bool false) r (fun R => y_pick r (b := false) (congrArg Value.bool h8) rfl) rfl fun fr r => ?_
  refine seq_val (.bool false) r (fun R => y_assign r rfl) rfl fun fr r => ?_
  refine wn ?_
  refine wp_ret ?_
  have hd : D.plan_Plan_Formed a0 = false := (cond_f h8).trans (rfl)
  refine ret_tmp r rfl rfl ?_
  rw [hd]
  exact ⟨rfl, hB⟩

def D.plan_Plan_cells (a0 : Plan) : Int := (maxI 2 a0.buckets)

theorem c_plan_Plan_cells (w0 : World) 
    (a0 : Plan) :
    Calls Tryz.prog 166 #[.agg (planC a0).toArray] w0 (PureRes (.int .i64 (D.plan_Plan_cells a0)) w0) := by
 refine enter Tryz.func166 rfl 6 rfl rfl fun fr r => ?_
 have hB := Below.refl w0.heap.size w0
 refine wsr ?_
 refine seq_new (.cells ((planC a0)).toArray 25 (0, 0)) r (fun R => y_box r (v := (.agg (planC a0).toArray)) rfl) rfl fun fr b1 w2 n3 r => ?_
 obtain ⟨e_b1, z_w2, h_b1, hB, zB⟩ := n3.all hB
 refine seq_val (I 0) r (fun R => y_assign r rfl) rfl fun fr r => ?_
 refine wn ?_
 refine wsr ?_
 refine seq_val _ r (fun R => y_fieldAddr r (o := 0) rfl fo25_4) rfl fun fr r => ?_
 refine seq_val (I a0.buckets) r (fun R => y_load_one r rfl h_b1 to3 rfl) rfl fun fr r => ?_
 refine seq_val (I (maxI 2 a0.buckets)) r (fun R => y_max r (m := 2) (n := a0.buckets) rfl rfl) rfl fun fr r => ?_
 refine seq_val (I (maxI 2 a0.buckets)) r (fun R => y_assign r rfl) rfl fun fr r => ?_
 refine wn ?_
 refine wp_ret ?_
 refine ret_tmp r rfl rfl ?_
 exact ⟨rfl, hB⟩

def D.plan_Plan_hazards (a0 : Plan) : Int := (IntKind.i64.wrap (1 + (IntKind.i64.wrap (a0.domains * (IntKind.i64.wrap (1 + (D.plan_Plan_cells a0)))))))

theorem c_plan_Plan_hazards (w0 : World) 
    (a0 : Plan) :
    Calls Tryz.prog 143 #[.agg (planC a0).toArray] w0 (PureRes (.int .i64 (D.plan_Plan_hazards a0)) w0) := by
 refine enter Tryz.func143 rfl 10 rfl rfl fun fr r => ?_
 have hB := Below.refl w0.heap.size w0
 refine wsr ?_
 refine seq_new (.cells ((planC a0)).toArray 25 (0, 0)) r (fun R => y_box r (v := (.agg (planC a0).toArray)) rfl) rfl fun fr b1 w2 n3 r => ?_
 obtain ⟨e_b1, z_w2, h_b1, hB, zB⟩ := n3.all hB
 refine seq_val (I 0) r (fun R => y_assign r rfl) rfl fun fr r => ?_
 refine wn ?_
 refine wp_seq ?_
 refine wp_drawnF 7 [.val (.pointer (some ⟨b1, 3, none⟩)), .val (I a0.domains), .val (.agg (planC a0).toArray), .val (I (D.plan_Plan_cells a0)), .val (I (W (1 + (D.plan_Plan_cells a0)))), .val (I (W (a0.domains * (W (1 + (D.plan_Plan_cells a0)))))), .val (I (W (1 + (W (a0.domains * (W (1 + (D.plan_Plan_cells a0))))))))] mixed r (by kernel_rfl) (within_cons (by exact trivial) (within_cons (by exact trivial) (within_cons (by exact trivial) (within_cons (by exact trivial) (within_cons (by exact trivial) (within_cons (by exact trivial) (within_cons (by exact trivial) within_nil))))))) ?_ ?_
 ·
  refine ec r (fun _ u _ b d s => y_fieldAddr s (b := b1) (o := 0) rfl fo25_3 bz) ?_
  refine ec r (fun _ u _ b d s => y_load_one s d.1 (keep b h_b1) to3 rfl bz) ?_
  refine ec r (fun _ u _ b d s => y_load_agg s (cs := (planC a0)) (n := 6) rfl (keep b h_b1) ta25 rfl bz) ?_
  refine ec r (fun fr1 u w' hb' hd r' => y_call r' (args := [(.agg (planC a0).toArray)]) (lc hd.1 l0) cl166 ((c_plan_Plan_cells _ a0).mono (by rintro _ w2 ⟨rfl, hb2⟩; exact ⟨_, rfl, hb2, rfl⟩))) ?_
  refine ec r (fun _ u _ b d s => y_bin s rfl d.1 rfl rfl bz) ?_
  refine ec r (fun _ u _ b d s => y_bin s d.1 d.2.1 rfl rfl bz) ?_
  refine ec r (fun _ u _ b d s => y_bin s rfl d.1 rfl rfl bz) ?_
  exact each_nil
 ·
  intro fr u w4 hb hΦ hne r
  have r := r.congr (sc (hΦ 6 (by decide)) (sc (hΦ 5 (by decide)) (sc (hΦ 4 (by decide)) (sc (hΦ 3 (by decide)) (sc (hΦ 2 (by decide)) (sc (hΦ 1 (by decide)) (sc (hΦ 0 (by decide)) rfl)))))))
  have z_w4 := hb.size
  have h_b1 := keep hb h_b1
  obtain ⟨hB, zB⟩ := bon hb hB
  refine seq_val (I (W (1 + (W (a0.domains * (W (1 + (D.plan_Plan_cells a0)))))))) r (fun R => y_assign r rfl) rfl fun fr r => ?_
  refine wn ?_
  refine wp_ret ?_
  refine ret_tmp r rfl rfl ?_
  exact ⟨rfl, hB⟩

def D.plan_Plan_counts (a0 : Plan) : Int := (IntKind.i64.wrap ((D.plan_Plan_hazards a0) + (IntKind.i64.wrap (a0.threads * 3))))

theorem c_plan_Plan_counts (w0 : World) 
    (a0 : Plan) :
    Calls Tryz.prog 261 #[.agg (planC a0).toArray] w0 (PureRes (.int .i64 (D.plan_Plan_counts a0)) w0) := by
 refine enter Tryz.func261 rfl 9 rfl rfl fun fr r => ?_
 have hB := Below.refl w0.heap.size w0
 refine wsr ?_
 refine seq_new (.cells ((planC a0)).toArray 25 (0, 0)) r (fun R => y_box r (v := (.agg (planC a0).toArray)) rfl) rfl fun fr b1 w2 n3 r => ?_
 obtain ⟨e_b1, z_w2, h_b1, hB, zB⟩ := n3.all hB
 refine seq_val (I 0) r (fun R => y_assign r rfl) rfl fun fr r => ?_
 refine wn ?_
 refine wp_seq ?_
 refine wp_drawnF 6 [.val (.agg (planC a0).toArray), .val (I (D.plan_Plan_hazards a0)), .val (.pointer (some ⟨b1, 1, none⟩)), .val (I a0.threads), .val (I (W (a0.threads * 3))), .val (I (W ((D.plan_Plan_hazards a0) + (W (a0.threads * 3)))))] mixed r (by kernel_rfl) (within_cons (by exact trivial) (within_cons (by exact trivial) (within_cons (by exact trivial) (within_cons (by exact trivial) (within_cons (by exact trivial) (within_cons (by exact trivial) within_nil)))))) ?_ ?_
 ·
  refine ec r (fun _ u _ b d s => y_load_agg s (cs := (planC a0)) (n := 6) rfl (keep b h_b1) ta25 rfl bz) ?_
  refine ec r (fun fr1 u w' hb' hd r' => y_call r' (args := [(.agg (planC a0).toArray)]) (lc hd.1 l0) cl143 ((c_plan_Plan_hazards _ a0).mono (by rintro _ w2 ⟨rfl, hb2⟩; exact ⟨_, rfl, hb2, rfl⟩))) ?_
  refine ec r (fun _ u _ b d s => y_fieldAddr s (b := b1) (o := 0) rfl fo25_1 bz) ?_
  refine ec r (fun _ u _ b d s => y_load_one s d.1 (keep b h_b1) to3 rfl bz) ?_
  refine ec r (fun _ u _ b d s => y_bin s d.1 rfl rfl rfl bz) ?_
  refine ec r (fun _ u _ b d s => y_bin s d.1 d.2.1 rfl rfl bz) ?_
  exact each_nil
 ·
  intro fr u w4 hb hΦ hne r
  have r := r.congr (sc (hΦ 5 (by decide)) (sc (hΦ 4 (by decide)) (sc (hΦ 3 (by decide)) (sc (hΦ 2 (by decide)) (sc (hΦ 1 (by decide)) (sc (hΦ 0 (by decide)) rfl))))))
  have z_w4 := hb.size
  have h_b1 := keep hb h_b1
  obtain ⟨hB, zB⟩ := bon hb hB
  refine seq_val (I (W ((D.plan_Plan_hazards a0) + (W (a0.threads * 3))))) r (fun R => y_assign r rfl) rfl fun fr r => ?_
  refine wn ?_
  refine wp_ret ?_
  refine ret_tmp r rfl rfl ?_
  exact ⟨rfl, hB⟩

def D.plan_Plan_nodes (a0 : Plan) : Int := (IntKind.i64.wrap ((D.plan_Plan_counts a0) + (IntKind.i64.wrap (a0.threads * (IntKind.i64.wrap (1 + a0.retire))))))

theorem c_plan_Plan_nodes (w0 : World) 
    (a0 : Plan) :
    Calls Tryz.prog 158 #[.agg (planC a0).toArray] w0 (PureRes (.int .i64 (D.plan_Plan_nodes a0)) w0) := by
 refine enter Tryz.func158 rfl 12 rfl rfl fun fr r => ?_
 have hB := Below.refl w0.heap.size w0
 refine wsr ?_
 refine seq_new (.cells ((planC a0)).toArray 25 (0, 0)) r (fun R => y_box r (v := (.agg (planC a0).toArray)) rfl) rfl fun fr b1 w2 n3 r => ?_
 obtain ⟨e_b1, z_w2, h_b1, hB, zB⟩ := n3.all hB
 refine seq_val (I 0) r (fun R => y_assign r rfl) rfl fun fr r => ?_
 refine wn ?_
 refine wp_seq ?_
 refine wp_drawnF 9 [.val (.agg (planC a0).toArray), .val (I (D.plan_Plan_counts a0)), .val (.pointer (some ⟨b1, 1, none⟩)), .val (I a0.threads), .val (.pointer (some ⟨b1, 2, none⟩)), .val (I a0.retire), .val (I (W (1 + a0.retire))), .val (I (W (a0.threads * (W (1 + a0.retire))))), .val (I (W ((D.plan_Plan_counts a0) + (W (a0.threads * (W (1 + a0.retire)))))))] mixed r (by kernel_rfl) (within_cons (by exact trivial) (within_cons (by exact trivial) (within_cons (by exact trivial) (within_cons (by exact trivial) (within_cons (by exact trivial) (within_cons (by exact trivial) (within_cons (by exact trivial) (within_cons (by exact trivial) (within_cons (by exact trivial) within_nil))))))))) ?_ ?_
 ·
  refine ec r (fun _ u _ b d s => y_load_agg s (cs := (planC a0)) (n := 6) rfl (keep b h_b1) ta25 rfl bz) ?_
  refine ec r (fun fr1 u w' hb' hd r' => y_call r' (args := [(.agg (planC a0).toArray)]) (lc hd.1 l0) cl261 ((c_plan_Plan_counts _ a0).mono (by rintro _ w2 ⟨rfl, hb2⟩; exact ⟨_, rfl, hb2, rfl⟩))) ?_
  refine ec r (fun _ u _ b d s => y_fieldAddr s (b := b1) (o := 0) rfl fo25_1 bz) ?_
  refine ec r (fun _ u _ b d s => y_load_one s d.1 (keep b h_b1) to3 rfl bz) ?_
  refine ec r (fun _ u _ b d s => y_fieldAddr s (b := b1) (o := 0) rfl fo25_2 bz) ?_
  refine ec r (fun _ u _ b d s => y_load_one s d.1 (keep b h_b1) to3 rfl bz) ?_
  refine ec r (fun _ u _ b d s => y_bin s rfl d.1 rfl rfl bz) ?_
  refine ec r (fun _ u _ b d s => y_bin s d.1 d.2.1 rfl rfl bz) ?_
  refine ec r (fun _ u _ b d s => y_bin s d.1 d.2.1 rfl rfl bz) ?_
  exact each_nil
 ·
  intro fr u w4 hb hΦ hne r
  have r := r.congr (sc (hΦ 8 (by decide)) (sc (hΦ 7 (by decide)) (sc (hΦ 6 (by decide)) (sc (hΦ 5 (by decide)) (sc (hΦ 4 (by decide)) (sc (hΦ 3 (by decide)) (sc (hΦ 2 (by decide)) (sc (hΦ 1 (by decide)) (sc (hΦ 0 (by decide)) rfl)))))))))
  have z_w4 := hb.size
  have h_b1 := keep hb h_b1
  obtain ⟨hB, zB⟩ := bon hb hB
  refine seq_val (I (W ((D.plan_Plan_counts a0) + (W (a0.threads * (W (1 + a0.retire))))))) r (fun R => y_assign r rfl) rfl fun fr r => ?_
  refine wn ?_
  refine wp_ret ?_
  refine ret_tmp r rfl rfl ?_
  exact ⟨rfl, hB⟩

def D.plan_Plan_Size (a0 : Plan) : Int := (bif (!(D.plan_Plan_Formed a0)) then 0 else (IntKind.i64.wrap ((D.plan_Plan_nodes a0) + (IntKind.i64.wrap (a0.nodes * 5)))))

theorem c_plan_Plan_Size (w0 : World) 
    (a0 : Plan) :
    Calls Tryz.prog 109 #[.agg (planC a0).toArray] w0 (PureRes (.int .i64 (D.plan_Plan_Size a0)) w0) := by
 refine enter Tryz.func109 rfl 12 rfl rfl fun fr r => ?_
 have hB := Below.refl w0.heap.size w0
 refine wsr ?_
 refine seq_new (.cells ((planC a0)).toArray 25 (0, 0)) r (fun R => y_box r (v := (.agg (planC a0).toArray)) rfl) rfl fun fr b1 w2 n3 r => ?_
 obtain ⟨e_b1, z_w2, h_b1, hB, zB⟩ := n3.all hB
 refine seq_val (I 0) r (fun R => y_assign r rfl) rfl fun fr r => ?_
 refine wn ?_
 refine wp_seq ?_
 refine wsr ?_
 refine seq_val (.agg (planC a0).toArray) r (fun R => y_load_agg r (cs := (planC a0)) (n := 6) rfl h_b1 ta25 rfl) rfl fun fr r => ?_
 refine seq_call r (c_plan_Plan_Formed w2 a0) (fun R hc => y_call r rfl cl136 hc) rfl ?_
 rintro _ w4 ⟨rfl, hb⟩
 refine ⟨_, rfl, fun fr r => ?_⟩
 have z_w4 := hb.size
 have h_b1 := keep hb h_b1
 obtain ⟨hB, zB⟩ := bon hb hB
 refine seq_val (.bool (!(D.plan_Plan_Formed a0))) r (fun R => y_un r (u := (.bool (D.plan_Plan_Formed a0))) rfl rfl) rfl fun fr r => ?_
 refine wn ?_
 refine wp_cond_split (t := (!(D.plan_Plan_Formed a0))) (r.ev rfl) (fun h5 => ?_) (fun h5 => ?_)
 ·
  refine wsr ?_
  refine seq_val (I 0) r (fun R => y_assign r rfl) rfl fun fr r => ?_
  refine wn ?_
  refine wp_ret ?_
  have hd : D.plan_Plan_Size a0 = 0 := (cond_t h5).trans (rfl)
  refine ret_tmp r rfl rfl ?_
  rw [hd]
  exact ⟨rfl, hB⟩
 ·
  refine wp_skip ?_
  refine wp_seq ?_
  refine wp_drawnF 6 [.val (.agg (planC a0).toArray), .val (I (D.plan_Plan_nodes a0)), .val (.pointer (some ⟨b1, 0, none⟩)), .val (I a0.nodes), .val (I (W (a0.nodes * 5))), .val (I (W ((D.plan_Plan_nodes a0) + (W (a0.nodes * 5)))))] mixed r (by kernel_rfl) (within_cons (by exact trivial) (within_cons (by exact trivial) (within_cons (by exact trivial) (within_cons (by exact trivial) (within_cons (by exact trivial) (within_cons (by exact trivial) within_nil)))))) ?_ ?_
  ·
   refine ec r (fun _ u _ b d s => y_load_agg s (cs := (planC a0)) (n := 6) rfl (keep b h_b1) ta25 rfl bz) ?_
   refine ec r (fun fr1 u w' hb' hd r' => y_call r' (args := [(.agg (planC a0).toArray)]) (lc hd.1 l0) cl158 ((c_plan_Plan_nodes _ a0).mono (by rintro _ w2 ⟨rfl, hb2⟩; exact ⟨_, rfl, hb2, rfl⟩))) ?_
   refine ec r (fun _ u _ b d s => y_fieldAddr s (b := b1) (o := 0) rfl fo25_0 bz) ?_
   refine ec r (fun _ u _ b d s => y_load_one s d.1 (keep b h_b1) to3 rfl bz) ?_
   refine ec r (fun _ u _ b d s => y_bin s d.1 rfl rfl rfl bz) ?_
   refine ec r (fun _ u _ b d s => y_bin s d.1 d.2.1 rfl rfl bz) ?_
   exact each_nil
  ·
   intro fr u w6 hb hΦ hne r
   have r := r.congr (sc (hΦ 5 (by decide)) (sc (hΦ 4 (by decide)) (sc (hΦ 3 (by decide)) (sc (hΦ 2 (by decide)) (sc (hΦ 1 (by decide)) (sc (hΦ 0 (by decide)) rfl))))))
   have z_w6 := hb.size
   have h_b1 := keep hb h_b1
   obtain ⟨hB, zB⟩ := bon hb hB
   refine seq_val (I (W ((D.plan_Plan_nodes a0) + (W (a0.nodes * 5))))) r (fun R => y_assign r rfl) rfl fun fr r => ?_
   refine wn ?_
   refine wp_ret ?_
   have hd : D.plan_Plan_Size a0 = (W ((D.plan_Plan_nodes a0) + (W (a0.nodes * 5)))) := (cond_f h5).trans (rfl)
   refine ret_tmp r rfl rfl ?_
   rw [hd]
   exact ⟨rfl, hB⟩

def D.plan_Plan_place (a0 : Plan) (a1 : Int) (a2 : List Bound) : Int := (bif (!(D.plan_Plan_Formed a0)) then (-1) else (bif (!(D.plan_within a2)) then (-1) else a1))

theorem c_plan_Plan_place (w0 : World) 
    (a0 : Plan) (a1 : Int) (a2 : List Bound) {a2_b : Nat} (a2_h : w0.heap[a2_b]? = some (.cells ((boundsC a2)).toArray 216 (0, 0))) (pre0 : a2.length ≤ 8) :
    Calls Tryz.prog 142 #[.agg (planC a0).toArray, .int .i64 a1, .slice (some ⟨a2_b, 0, none⟩) a2.length a2.length] w0 (PureRes (.int .i64 (D.plan_Plan_place a0 a1 a2)) w0) := by
 refine enter Tryz.func142 rfl 16 rfl rfl fun fr r => ?_
 have hB := Below.refl w0.heap.size w0
 have l_a2_b := lt_of_block a2_h
 refine wsr ?_
 refine seq_new (.cells ((planC a0)).toArray 25 (0, 0)) r (fun R => y_box r (v := (.agg (planC a0).toArray)) rfl) rfl fun fr b1 w2 n3 r => ?_
 have a2_h := keep n3.below a2_h
 obtain ⟨e_b1, z_w2, h_b1, hB, zB⟩ := n3.all hB
 refine seq_val (I 0) r (fun R => y_assign r rfl) rfl fun fr r => ?_
 refine wn ?_
 refine wp_seq ?_
 refine wsr ?_
 refine seq_val (.agg (planC a0).toArray) r (fun R => y_load_agg r (cs := (planC a0)) (n := 6) rfl h_b1 ta25 rfl) rfl fun fr r => ?_
 refine seq_call r (c_plan_Plan_Formed w2 a0) (fun R hc => y_call r rfl cl136 hc) rfl ?_
 rintro _ w4 ⟨rfl, hb⟩
 refine ⟨_, rfl, fun fr r => ?_⟩
 have z_w4 := hb.size
 have a2_h := keep hb a2_h
 have h_b1 := keep hb h_b1
 obtain ⟨hB, zB⟩ := bon hb hB
 refine seq_val (.bool (!(D.plan_Plan_Formed a0))) r (fun R => y_un r (u := (.bool (D.plan_Plan_Formed a0))) rfl rfl) rfl fun fr r => ?_
 refine seq_val (.bool (!(D.plan_Plan_Formed a0))) r (fun R => y_move r rfl) rfl fun fr r => ?_
 refine seq_split (!(D.plan_Plan_Formed a0)) (fun h5 => ?_) (fun h5 => ?_)
 ·
  refine s0 r h5 fun fr r => ?_
  refine s0 r h5 fun fr r => ?_
  refine s0 r h5 fun fr r => ?_
  refine seq_val (.bool true) r (fun R => y_pick r (b := true) (congrArg Value.bool h5) rfl) rfl fun fr r => ?_
  refine wn ?_
  refine wp_cond_split (t := true) (r.ev rfl) (fun _ => ?_) (fun h => absurd ((rfl : true = _).symm.trans h) (by decide))
  refine wsr ?_
  refine seq_val (I (-1)) r (fun R => y_assign r rfl) rfl fun fr r => ?_
  refine wn ?_
  refine wp_ret ?_
  have hd : D.plan_Plan_place a0 a1 a2 = (-1) := (cond_t h5).trans (rfl)
  refine ret_tmp r rfl rfl ?_
  rw [hd]
  exact ⟨rfl, hB⟩
 ·
  refine s1 r h5 ?_
  refine seq_val (.slice (some ⟨a2_b, 0, none⟩) a2.length a2.length) r (fun R => y_move r rfl) rfl fun fr r => ?_
  refine s1 r h5 ?_
  refine seq_call r (c_plan_within w4 a2 a2_h (by first | assumption | decide | (simp; done))) (fun R hc => y_call r rfl cl235 hc) rfl ?_
  rintro _ w6 ⟨rfl, hb⟩
  refine ⟨_, rfl, fun fr r => ?_⟩
  have z_w6 := hb.size
  have a2_h := keep hb a2_h
  have h_b1 := keep hb h_b1
  obtain ⟨hB, zB⟩ := bon hb hB
  refine s1 r h5 ?_
  refine seq_val (.bool (!(D.plan_within a2))) r (fun R => y_un r (u := (.bool (D.plan_within a2))) rfl rfl) rfl fun fr r => ?_
  refine seq_val (.bool (!(D.plan_within a2))) r (fun R => y_pick r (b := false) (congrArg Value.bool h5) rfl) rfl fun fr r => ?_
  refine wn ?_
  refine wp_cond_split (t := (!(D.plan_within a2))) (r.ev rfl) (fun h7 => ?_) (fun h7 => ?_)
  ·
   refine wsr ?_
   refine seq_val (I (-1)) r (fun R => y_assign r rfl) rfl fun fr r => ?_
   refine wn ?_
   refine wp_ret ?_
   have hd : D.plan_Plan_place a0 a1 a2 = (-1) := (cond_f h5).trans ((cond_t h7).trans (rfl))
   refine ret_tmp r rfl rfl ?_
   rw [hd]
   exact ⟨rfl, hB⟩
  ·
   refine wp_skip ?_
   refine wsr ?_
   refine seq_val (I a1) r (fun R => y_move r rfl) rfl fun fr r => ?_
   refine seq_val (I a1) r (fun R => y_assign r rfl) rfl fun fr r => ?_
   refine wn ?_
   refine wp_ret ?_
   have hd : D.plan_Plan_place a0 a1 a2 = a1 := (cond_f h5).trans ((cond_f h7).trans (rfl))
   refine ret_tmp r rfl rfl ?_
   rw [hd]
   exact ⟨rfl, hB⟩

theorem c_plan_Plan_place_nil (w0 : World) 
    (a0 : Plan) (a1 : Int) :
    Calls Tryz.prog 142 #[.agg (planC a0).toArray, .int .i64 a1, .slice none 0 0] w0 (PureRes (.int .i64 (D.plan_Plan_place a0 a1 ([]))) w0) := by
 refine enter Tryz.func142 rfl 16 rfl rfl fun fr r => ?_
 have hB := Below.refl w0.heap.size w0
 refine wsr ?_
 refine seq_new (.cells ((planC a0)).toArray 25 (0, 0)) r (fun R => y_box r (v := (.agg (planC a0).toArray)) rfl) rfl fun fr b1 w2 n3 r => ?_
 obtain ⟨e_b1, z_w2, h_b1, hB, zB⟩ := n3.all hB
 refine seq_val (I 0) r (fun R => y_assign r rfl) rfl fun fr r => ?_
 refine wn ?_
 refine wp_seq ?_
 refine wsr ?_
 refine seq_val (.agg (planC a0).toArray) r (fun R => y_load_agg r (cs := (planC a0)) (n := 6) rfl h_b1 ta25 rfl) rfl fun fr r => ?_
 refine seq_call r (c_plan_Plan_Formed w2 a0) (fun R hc => y_call r rfl cl136 hc) rfl ?_
 rintro _ w4 ⟨rfl, hb⟩
 refine ⟨_, rfl, fun fr r => ?_⟩
 have z_w4 := hb.size
 have h_b1 := keep hb h_b1
 obtain ⟨hB, zB⟩ := bon hb hB
 refine seq_val (.bool (!(D.plan_Plan_Formed a0))) r (fun R => y_un r (u := (.bool (D.plan_Plan_Formed a0))) rfl rfl) rfl fun fr r => ?_
 refine seq_val (.bool (!(D.plan_Plan_Formed a0))) r (fun R => y_move r rfl) rfl fun fr r => ?_
 refine seq_split (!(D.plan_Plan_Formed a0)) (fun h5 => ?_) (fun h5 => ?_)
 ·
  refine s0 r h5 fun fr r => ?_
  refine s0 r h5 fun fr r => ?_
  refine s0 r h5 fun fr r => ?_
  refine seq_val (.bool true) r (fun R => y_pick r (b := true) (congrArg Value.bool h5) rfl) rfl fun fr r => ?_
  refine wn ?_
  refine wp_cond_split (t := true) (r.ev rfl) (fun _ => ?_) (fun h => absurd ((rfl : true = _).symm.trans h) (by decide))
  refine wsr ?_
  refine seq_val (I (-1)) r (fun R => y_assign r rfl) rfl fun fr r => ?_
  refine wn ?_
  refine wp_ret ?_
  have hd : D.plan_Plan_place a0 a1 [] = (-1) := (cond_t h5).trans (rfl)
  refine ret_tmp r rfl rfl ?_
  rw [hd]
  exact ⟨rfl, hB⟩
 ·
  refine s1 r h5 ?_
  refine seq_val (.slice none 0 0) r (fun R => y_move r rfl) rfl fun fr r => ?_
  refine s1 r h5 ?_
  refine seq_call r (c_plan_within_nil w4 ) (fun R hc => y_call r rfl cl235 hc) rfl ?_
  rintro _ w6 ⟨rfl, hb⟩
  refine ⟨_, rfl, fun fr r => ?_⟩
  have z_w6 := hb.size
  have h_b1 := keep hb h_b1
  obtain ⟨hB, zB⟩ := bon hb hB
  refine s1 r h5 ?_
  refine seq_val (.bool (!(D.plan_within ([])))) r (fun R => y_un r (u := (.bool (D.plan_within ([])))) rfl rfl) rfl fun fr r => ?_
  refine seq_val (.bool (!(D.plan_within ([])))) r (fun R => y_pick r (b := false) (congrArg Value.bool h5) rfl) rfl fun fr r => ?_
  refine wn ?_
  refine wp_cond_split (t := (!(D.plan_within ([])))) (r.ev rfl) (fun h7 => ?_) (fun h7 => ?_)
  ·
   refine wsr ?_
   refine seq_val (I (-1)) r (fun R => y_assign r rfl) rfl fun fr r => ?_
   refine wn ?_
   refine wp_ret ?_
   have hd : D.plan_Plan_place a0 a1 [] = (-1) := (cond_f h5).trans ((cond_t h7).trans (rfl))
   refine ret_tmp r rfl rfl ?_
   rw [hd]
   exact ⟨rfl, hB⟩
  ·
   refine wp_skip ?_
   refine wsr ?_
   refine seq_val (I a1) r (fun R => y_move r rfl) rfl fun fr r => ?_
   refine seq_val (I a1) r (fun R => y_assign r rfl) rfl fun fr r => ?_
   refine wn ?_
   refine wp_ret ?_
   have hd : D.plan_Plan_place a0 a1 [] = a1 := (cond_f h5).trans ((cond_f h7).trans (rfl))
   refine ret_tmp r rfl rfl ?_
   rw [hd]
   exact ⟨rfl, hB⟩

def D.plan_Plan_Head (a0 : Plan) : Int := (D.plan_Plan_place a0 0 ([]))

theorem c_plan_Plan_Head (w0 : World) 
    (a0 : Plan) :
    Calls Tryz.prog 162 #[.agg (planC a0).toArray] w0 (PureRes (.int .i64 (D.plan_Plan_Head a0)) w0) := by
 refine enter Tryz.func162 rfl 5 rfl rfl fun fr r => ?_
 have hB := Below.refl w0.heap.size w0
 refine wsr ?_
 refine seq_new (.cells ((planC a0)).toArray 25 (0, 0)) r (fun R => y_box r (v := (.agg (planC a0).toArray)) rfl) rfl fun fr b1 w2 n3 r => ?_
 obtain ⟨e_b1, z_w2, h_b1, hB, zB⟩ := n3.all hB
 refine seq_val (I 0) r (fun R => y_assign r rfl) rfl fun fr r => ?_
 refine wn ?_
 refine wsr ?_
 refine seq_val (.agg (planC a0).toArray) r (fun R => y_load_agg r (cs := (planC a0)) (n := 6) rfl h_b1 ta25 rfl) rfl fun fr r => ?_
 refine seq_call r (c_plan_Plan_place_nil w2 a0 0) (fun R hc => y_call r rfl cl142 hc) rfl ?_
 rintro _ w4 ⟨rfl, hb⟩
 refine ⟨_, rfl, fun fr r => ?_⟩
 have z_w4 := hb.size
 have h_b1 := keep hb h_b1
 obtain ⟨hB, zB⟩ := bon hb hB
 refine seq_val (I (D.plan_Plan_place a0 0 ([]))) r (fun R => y_assign r rfl) rfl fun fr r => ?_
 refine wn ?_
 refine wp_ret ?_
 refine ret_tmp r rfl rfl ?_
 exact ⟨rfl, hB⟩

def D.plan_Plan_node (a0 : Plan) (a1 : Int) : Bound := (⟨a1, 0, (IntKind.i64.wrap (a0.nodes - 1))⟩ : Bound)

theorem c_plan_Plan_node (w0 : World) 
    (a0 : Plan) (a1 : Int) :
    Calls Tryz.prog 159 #[.agg (planC a0).toArray, .int .i64 a1] w0 (PureRes (.agg (boundC (D.plan_Plan_node a0 a1)).toArray) w0) := by
 refine enter Tryz.func159 rfl 10 rfl rfl fun fr r => ?_
 have hB := Below.refl w0.heap.size w0
 refine wsr ?_
 refine seq_new (.cells ((planC a0)).toArray 25 (0, 0)) r (fun R => y_box r (v := (.agg (planC a0).toArray)) rfl) rfl fun fr b1 w2 n3 r => ?_
 obtain ⟨e_b1, z_w2, h_b1, hB, zB⟩ := n3.all hB
 refine seq_new (.cells ((boundC (⟨0, 0, 0⟩ : Bound))).toArray 216 (0, 0)) r (fun R => y_alloc tz216) rfl fun fr b4 w5 n6 r => ?_
 have h_b1 := keep n6.below h_b1
 obtain ⟨e_b4, z_w5, h_b4, hB, zB⟩ := n6.all hB
 refine wn ?_
 refine wsr ?_
 refine seq_val (I a1) r (fun R => y_move r rfl) rfl fun fr r => ?_
 refine seq_val _ r (fun R => y_fieldAddr r (o := 0) rfl fo25_0) rfl fun fr r => ?_
 refine seq_val (I a0.nodes) r (fun R => y_load_one r rfl h_b1 to3 rfl) rfl fun fr r => ?_
 refine seq_val _ r (fun R => y_bin r rfl rfl rfl rfl) rfl fun fr r => ?_
 refine seq_val (.agg (boundC (⟨a1, 0, (W (a0.nodes - 1))⟩ : Bound)).toArray) r (fun R => y_build r (by kernel_rfl)) rfl fun fr r => ?_
 refine seq_upd (.cells ((boundC (⟨a1, 0, (W (a0.nodes - 1))⟩ : Bound))).toArray 216 (0, 0)) r (fun R => y_store r (o := 0) (v := (.agg (boundC (⟨a1, 0, (W (a0.nodes - 1))⟩ : Bound)).toArray)) rfl rfl h_b4 ts216 (Nat.le_of_ble_eq_true rfl) rfl rfl) rfl fun fr w7 u8 r => ?_
 have z_w7 := u8.size
 have h_b1 := u8.keep h_b1 (by omega)
 have h_b4 := u8.at_
 obtain ⟨hB, zB⟩ := u8.on hB (by omega)
 refine wn ?_
 refine wp_ret ?_
 refine ret_cell r rfl rfl h_b4 (k := 3) rfl ta216 ?_
 exact ⟨rfl, hB⟩

def D.plan_Plan_Next (a0 : Plan) (a1 : Int) : Int := (D.plan_Plan_place a0 (IntKind.i64.wrap ((IntKind.i64.wrap ((D.plan_Plan_nodes a0) + (IntKind.i64.wrap (a1 * 5)))) + 1)) ([(D.plan_Plan_node a0 a1)]))

theorem c_plan_Plan_Next (w0 : World) 
    (a0 : Plan) (a1 : Int) :
    Calls Tryz.prog 163 #[.agg (planC a0).toArray, .int .i64 a1] w0 (PureRes (.int .i64 (D.plan_Plan_Next a0 a1)) w0) := by
 refine enter Tryz.func163 rfl 17 rfl rfl fun fr r => ?_
 have hB := Below.refl w0.heap.size w0
 refine wsr ?_
 refine seq_new (.cells ((planC a0)).toArray 25 (0, 0)) r (fun R => y_box r (v := (.agg (planC a0).toArray)) rfl) rfl fun fr b1 w2 n3 r => ?_
 obtain ⟨e_b1, z_w2, h_b1, hB, zB⟩ := n3.all hB
 refine seq_val (I 0) r (fun R => y_assign r rfl) rfl fun fr r => ?_
 refine wn ?_
 refine wp_seq ?_
 refine wp_drawnF 12 [.val (.agg (planC a0).toArray), .val (.agg (planC a0).toArray), .val (I (D.plan_Plan_nodes a0)), .val (I a1), .val (I (W (a1 * 5))), .val (I (W ((D.plan_Plan_nodes a0) + (W (a1 * 5))))), .val (I (W ((W ((D.plan_Plan_nodes a0) + (W (a1 * 5)))) + 1))), .val (.agg (planC a0).toArray), .val (I a1), .val (.agg (boundC (D.plan_Plan_node a0 a1)).toArray), .slice w2.heap.size (.cells ((boundsC [(D.plan_Plan_node a0 a1)])).toArray 216 (0, 0)) 1, .val (I (D.plan_Plan_place a0 (W ((W ((D.plan_Plan_nodes a0) + (W (a1 * 5)))) + 1)) ([(D.plan_Plan_node a0 a1)])))] mixed r (by kernel_rfl) (within_cons (by exact trivial) (within_cons (by exact trivial) (within_cons (by exact trivial) (within_cons (by exact trivial) (within_cons (by exact trivial) (within_cons (by exact trivial) (within_cons (by exact trivial) (within_cons (by exact trivial) (within_cons (by exact trivial) (within_cons (by exact trivial) (within_cons (Nat.le_refl _) (within_cons (by exact trivial) within_nil)))))))))))) ?_ ?_
 ·
  refine ec r (fun _ u _ b d s => y_load_agg s (cs := (planC a0)) (n := 6) rfl (keep b h_b1) ta25 rfl bz) ?_
  refine ec r (fun _ u _ b d s => y_load_agg s (cs := (planC a0)) (n := 6) rfl (keep b h_b1) ta25 rfl bz) ?_
  refine ec r (fun fr1 u w' hb' hd r' => y_call r' (args := [(.agg (planC a0).toArray)]) (lc hd.1 l0) cl158 ((c_plan_Plan_nodes _ a0).mono (by rintro _ w2 ⟨rfl, hb2⟩; exact ⟨_, rfl, hb2, rfl⟩))) ?_
  refine ec r (fun _ u _ b d s => y_move s rfl bz) ?_
  refine ec r (fun _ u _ b d s => y_bin s d.1 rfl rfl rfl bz) ?_
  refine ec r (fun _ u _ b d s => y_bin s d.1 d.2.1 rfl rfl bz) ?_
  refine ec r (fun _ u _ b d s => y_bin s d.1 rfl rfl rfl bz) ?_
  refine ec r (fun _ u _ b d s => y_load_agg s (cs := (planC a0)) (n := 6) rfl (keep b h_b1) ta25 rfl bz) ?_
  refine ec r (fun _ u _ b d s => y_move s rfl bz) ?_
  refine ec r (fun fr1 u w' hb' hd r' => y_call r' (args := [(.agg (planC a0).toArray), (I a1)]) (lc hd.1 (lc hd.2.1 l0)) cl159 ((c_plan_Plan_node _ a0 a1).mono (by rintro _ w2 ⟨rfl, hb2⟩; exact ⟨_, rfl, hb2, rfl⟩))) ?_
  refine ec r (fun fr1 u w' hb' hd r' => y_bslice r' (c := ((boundsC [(D.plan_Plan_node a0 a1)])).toArray) (E := 216) (bs1 (congrArg (fun z => (0, z)) hd.1) (by kernel_rfl)) (fun b w2 n2 => ⟨n2.below, b, rfl, Nat.le_of_eq n2.eq.symm, n2.at_⟩)) ?_
  refine each_consF r rfl (fun fr1 u w' hb' hd r' => ?_) ?_
  · obtain ⟨d0, d1, d2, d3, _⟩ := hd; obtain ⟨q2, hq2, _, hr2⟩ := d2; exact y_call r' (args := [(.agg (planC a0).toArray), (I (W ((W ((D.plan_Plan_nodes a0) + (W (a1 * 5)))) + 1))), (.slice (some ⟨q2, 0, none⟩) 1 1)]) (lc d0 (lc d1 (lc hq2 l0))) cl142 ((c_plan_Plan_place _ a0 (W ((W ((D.plan_Plan_nodes a0) + (W (a1 * 5)))) + 1)) ([(D.plan_Plan_node a0 a1)]) hr2 (by first | assumption | decide | (simp; done))).mono (by rintro _ w2 ⟨rfl, hb2⟩; exact ⟨_, rfl, hb2, rfl⟩))
  exact each_nil
 ·
  intro fr u w4 hb hΦ hne r
  obtain ⟨b5, g10, e_b5, h_b5⟩ := hΦ 10 (by decide)
  have l_b5 := lt_of_block h_b5
  have r := r.congr (sc (hΦ 11 (by decide)) (sc g10 (sc (hΦ 9 (by decide)) (sc (hΦ 8 (by decide)) (sc (hΦ 7 (by decide)) (sc (hΦ 6 (by decide)) (sc (hΦ 5 (by decide)) (sc (hΦ 4 (by decide)) (sc (hΦ 3 (by decide)) (sc (hΦ 2 (by decide)) (sc (hΦ 1 (by decide)) (sc (hΦ 0 (by decide)) rfl))))))))))))
  have z_w4 := hb.size
  have h_b1 := keep hb h_b1
  obtain ⟨hB, zB⟩ := bon hb hB
  refine seq_val (I (D.plan_Plan_place a0 (W ((W ((D.plan_Plan_nodes a0) + (W (a1 * 5)))) + 1)) ([(D.plan_Plan_node a0 a1)]))) r (fun R => y_assign r rfl) rfl fun fr r => ?_
  refine wn ?_
  refine wp_ret ?_
  refine ret_tmp r rfl rfl ?_
  exact ⟨rfl, hB⟩

def D.plan_Plan_State (a0 : Plan) (a1 : Int) : Int := (D.plan_Plan_place a0 (IntKind.i64.wrap ((D.plan_Plan_nodes a0) + (IntKind.i64.wrap (a1 * 5)))) ([(D.plan_Plan_node a0 a1)]))

theorem c_plan_Plan_State (w0 : World) 
    (a0 : Plan) (a1 : Int) :
    Calls Tryz.prog 68 #[.agg (planC a0).toArray, .int .i64 a1] w0 (PureRes (.int .i64 (D.plan_Plan_State a0 a1)) w0) := by
 refine enter Tryz.func68 rfl 16 rfl rfl fun fr r => ?_
 have hB := Below.refl w0.heap.size w0
 refine wsr ?_
 refine seq_new (.cells ((planC a0)).toArray 25 (0, 0)) r (fun R => y_box r (v := (.agg (planC a0).toArray)) rfl) rfl fun fr b1 w2 n3 r => ?_
 obtain ⟨e_b1, z_w2, h_b1, hB, zB⟩ := n3.all hB
 refine seq_val (I 0) r (fun R => y_assign r rfl) rfl fun fr r => ?_
 refine wn ?_
 refine wp_seq ?_
 refine wp_drawnF 11 [.val (.agg (planC a0).toArray), .val (.agg (planC a0).toArray), .val (I (D.plan_Plan_nodes a0)), .val (I a1), .val (I (W (a1 * 5))), .val (I (W ((D.plan_Plan_nodes a0) + (W (a1 * 5))))), .val (.agg (planC a0).toArray), .val (I a1), .val (.agg (boundC (D.plan_Plan_node a0 a1)).toArray), .slice w2.heap.size (.cells ((boundsC [(D.plan_Plan_node a0 a1)])).toArray 216 (0, 0)) 1, .val (I (D.plan_Plan_place a0 (W ((D.plan_Plan_nodes a0) + (W (a1 * 5)))) ([(D.plan_Plan_node a0 a1)])))] mixed r (by kernel_rfl) (within_cons (by exact trivial) (within_cons (by exact trivial) (within_cons (by exact trivial) (within_cons (by exact trivial) (within_cons (by exact trivial) (within_cons (by exact trivial) (within_cons (by exact trivial) (within_cons (by exact trivial) (within_cons (by exact trivial) (within_cons (Nat.le_refl _) (within_cons (by exact trivial) within_nil))))))))))) ?_ ?_
 ·
  refine ec r (fun _ u _ b d s => y_load_agg s (cs := (planC a0)) (n := 6) rfl (keep b h_b1) ta25 rfl bz) ?_
  refine ec r (fun _ u _ b d s => y_load_agg s (cs := (planC a0)) (n := 6) rfl (keep b h_b1) ta25 rfl bz) ?_
  refine ec r (fun fr1 u w' hb' hd r' => y_call r' (args := [(.agg (planC a0).toArray)]) (lc hd.1 l0) cl158 ((c_plan_Plan_nodes _ a0).mono (by rintro _ w2 ⟨rfl, hb2⟩; exact ⟨_, rfl, hb2, rfl⟩))) ?_
  refine ec r (fun _ u _ b d s => y_move s rfl bz) ?_
  refine ec r (fun _ u _ b d s => y_bin s d.1 rfl rfl rfl bz) ?_
  refine ec r (fun _ u _ b d s => y_bin s d.1 d.2.1 rfl rfl bz) ?_
  refine ec r (fun _ u _ b d s => y_load_agg s (cs := (planC a0)) (n := 6) rfl (keep b h_b1) ta25 rfl bz) ?_
  refine ec r (fun _ u _ b d s => y_move s rfl bz) ?_
  refine ec r (fun fr1 u w' hb' hd r' => y_call r' (args := [(.agg (planC a0).toArray), (I a1)]) (lc hd.1 (lc hd.2.1 l0)) cl159 ((c_plan_Plan_node _ a0 a1).mono (by rintro _ w2 ⟨rfl, hb2⟩; exact ⟨_, rfl, hb2, rfl⟩))) ?_
  refine ec r (fun fr1 u w' hb' hd r' => y_bslice r' (c := ((boundsC [(D.plan_Plan_node a0 a1)])).toArray) (E := 216) (bs1 (congrArg (fun z => (0, z)) hd.1) (by kernel_rfl)) (fun b w2 n2 => ⟨n2.below, b, rfl, Nat.le_of_eq n2.eq.symm, n2.at_⟩)) ?_
  refine each_consF r rfl (fun fr1 u w' hb' hd r' => ?_) ?_
  · obtain ⟨d0, d1, d2, d3, _⟩ := hd; obtain ⟨q2, hq2, _, hr2⟩ := d2; exact y_call r' (args := [(.agg (planC a0).toArray), (I (W ((D.plan_Plan_nodes a0) + (W (a1 * 5))))), (.slice (some ⟨q2, 0, none⟩) 1 1)]) (lc d0 (lc d1 (lc hq2 l0))) cl142 ((c_plan_Plan_place _ a0 (W ((D.plan_Plan_nodes a0) + (W (a1 * 5)))) ([(D.plan_Plan_node a0 a1)]) hr2 (by first | assumption | decide | (simp; done))).mono (by rintro _ w2 ⟨rfl, hb2⟩; exact ⟨_, rfl, hb2, rfl⟩))
  exact each_nil
 ·
  intro fr u w4 hb hΦ hne r
  obtain ⟨b5, g9, e_b5, h_b5⟩ := hΦ 9 (by decide)
  have l_b5 := lt_of_block h_b5
  have r := r.congr (sc (hΦ 10 (by decide)) (sc g9 (sc (hΦ 8 (by decide)) (sc (hΦ 7 (by decide)) (sc (hΦ 6 (by decide)) (sc (hΦ 5 (by decide)) (sc (hΦ 4 (by decide)) (sc (hΦ 3 (by decide)) (sc (hΦ 2 (by decide)) (sc (hΦ 1 (by decide)) (sc (hΦ 0 (by decide)) rfl)))))))))))
  have z_w4 := hb.size
  have h_b1 := keep hb h_b1
  obtain ⟨hB, zB⟩ := bon hb hB
  refine seq_val (I (D.plan_Plan_place a0 (W ((D.plan_Plan_nodes a0) + (W (a1 * 5)))) ([(D.plan_Plan_node a0 a1)]))) r (fun R => y_assign r rfl) rfl fun fr r => ?_
  refine wn ?_
  refine wp_ret ?_
  refine ret_tmp r rfl rfl ?_
  exact ⟨rfl, hB⟩

def D.plan_Plan_thread (a0 : Plan) (a1 : Int) : Bound := (⟨a1, 0, (IntKind.i64.wrap (a0.threads - 1))⟩ : Bound)

theorem c_plan_Plan_thread (w0 : World) 
    (a0 : Plan) (a1 : Int) :
    Calls Tryz.prog 144 #[.agg (planC a0).toArray, .int .i64 a1] w0 (PureRes (.agg (boundC (D.plan_Plan_thread a0 a1)).toArray) w0) := by
 refine enter Tryz.func144 rfl 10 rfl rfl fun fr r => ?_
 have hB := Below.refl w0.heap.size w0
 refine wsr ?_
 refine seq_new (.cells ((planC a0)).toArray 25 (0, 0)) r (fun R => y_box r (v := (.agg (planC a0).toArray)) rfl) rfl fun fr b1 w2 n3 r => ?_
 obtain ⟨e_b1, z_w2, h_b1, hB, zB⟩ := n3.all hB
 refine seq_new (.cells ((boundC (⟨0, 0, 0⟩ : Bound))).toArray 216 (0, 0)) r (fun R => y_alloc tz216) rfl fun fr b4 w5 n6 r => ?_
 have h_b1 := keep n6.below h_b1
 obtain ⟨e_b4, z_w5, h_b4, hB, zB⟩ := n6.all hB
 refine wn ?_
 refine wsr ?_
 refine seq_val (I a1) r (fun R => y_move r rfl) rfl fun fr r => ?_
 refine seq_val _ r (fun R => y_fieldAddr r (o := 0) rfl fo25_1) rfl fun fr r => ?_
 refine seq_val (I a0.threads) r (fun R => y_load_one r rfl h_b1 to3 rfl) rfl fun fr r => ?_
 refine seq_val _ r (fun R => y_bin r rfl rfl rfl rfl) rfl fun fr r => ?_
 refine seq_val (.agg (boundC (⟨a1, 0, (W (a0.threads - 1))⟩ : Bound)).toArray) r (fun R => y_build r (by kernel_rfl)) rfl fun fr r => ?_
 refine seq_upd (.cells ((boundC (⟨a1, 0, (W (a0.threads - 1))⟩ : Bound))).toArray 216 (0, 0)) r (fun R => y_store r (o := 0) (v := (.agg (boundC (⟨a1, 0, (W (a0.threads - 1))⟩ : Bound)).toArray)) rfl rfl h_b4 ts216 (Nat.le_of_ble_eq_true rfl) rfl rfl) rfl fun fr w7 u8 r => ?_
 have z_w7 := u8.size
 have h_b1 := u8.keep h_b1 (by omega)
 have h_b4 := u8.at_
 obtain ⟨hB, zB⟩ := u8.on hB (by omega)
 refine wn ?_
 refine wp_ret ?_
 refine ret_cell r rfl rfl h_b4 (k := 3) rfl ta216 ?_
 exact ⟨rfl, hB⟩

def D.plan_Plan_Count (a0 : Plan) (a1 : Int) : Int := (D.plan_Plan_place a0 (IntKind.i64.wrap ((D.plan_Plan_counts a0) + (IntKind.i64.wrap (a1 * (IntKind.i64.wrap (1 + a0.retire)))))) ([(D.plan_Plan_thread a0 a1)]))

theorem c_plan_Plan_Count (w0 : World) 
    (a0 : Plan) (a1 : Int) :
    Calls Tryz.prog 164 #[.agg (planC a0).toArray, .int .i64 a1] w0 (PureRes (.int .i64 (D.plan_Plan_Count a0 a1)) w0) := by
 refine enter Tryz.func164 rfl 19 rfl rfl fun fr r => ?_
 have hB := Below.refl w0.heap.size w0
 refine wsr ?_
 refine seq_new (.cells ((planC a0)).toArray 25 (0, 0)) r (fun R => y_box r (v := (.agg (planC a0).toArray)) rfl) rfl fun fr b1 w2 n3 r => ?_
 obtain ⟨e_b1, z_w2, h_b1, hB, zB⟩ := n3.all hB
 refine seq_val (I 0) r (fun R => y_assign r rfl) rfl fun fr r => ?_
 refine wn ?_
 refine wp_seq ?_
 refine wp_drawnF 14 [.val (.agg (planC a0).toArray), .val (.agg (planC a0).toArray), .val (I (D.plan_Plan_counts a0)), .val (I a1), .val (.pointer (some ⟨b1, 2, none⟩)), .val (I a0.retire), .val (I (W (1 + a0.retire))), .val (I (W (a1 * (W (1 + a0.retire))))), .val (I (W ((D.plan_Plan_counts a0) + (W (a1 * (W (1 + a0.retire))))))), .val (.agg (planC a0).toArray), .val (I a1), .val (.agg (boundC (D.plan_Plan_thread a0 a1)).toArray), .slice w2.heap.size (.cells ((boundsC [(D.plan_Plan_thread a0 a1)])).toArray 216 (0, 0)) 1, .val (I (D.plan_Plan_place a0 (W ((D.plan_Plan_counts a0) + (W (a1 * (W (1 + a0.retire)))))) ([(D.plan_Plan_thread a0 a1)])))] mixed r (by kernel_rfl) (within_cons (by exact trivial) (within_cons (by exact trivial) (within_cons (by exact trivial) (within_cons (by exact trivial) (within_cons (by exact trivial) (within_cons (by exact trivial) (within_cons (by exact trivial) (within_cons (by exact trivial) (within_cons (by exact trivial) (within_cons (by exact trivial) (within_cons (by exact trivial) (within_cons (by exact trivial) (within_cons (Nat.le_refl _) (within_cons (by exact trivial) within_nil)))))))))))))) ?_ ?_
 ·
  refine ec r (fun _ u _ b d s => y_load_agg s (cs := (planC a0)) (n := 6) rfl (keep b h_b1) ta25 rfl bz) ?_
  refine ec r (fun _ u _ b d s => y_load_agg s (cs := (planC a0)) (n := 6) rfl (keep b h_b1) ta25 rfl bz) ?_
  refine ec r (fun fr1 u w' hb' hd r' => y_call r' (args := [(.agg (planC a0).toArray)]) (lc hd.1 l0) cl261 ((c_plan_Plan_counts _ a0).mono (by rintro _ w2 ⟨rfl, hb2⟩; exact ⟨_, rfl, hb2, rfl⟩))) ?_
  refine ec r (fun _ u _ b d s => y_move s rfl bz) ?_
  refine ec r (fun _ u _ b d s => y_fieldAddr s (b := b1) (o := 0) rfl fo25_2 bz) ?_
  refine ec r (fun _ u _ b d s => y_load_one s d.1 (keep b h_b1) to3 rfl bz) ?_
  refine ec r (fun _ u _ b d s => y_bin s rfl d.1 rfl rfl bz) ?_
  refine ec r (fun _ u _ b d s => y_bin s d.1 d.2.1 rfl rfl bz) ?_
  refine ec r (fun _ u _ b d s => y_bin s d.1 d.2.1 rfl rfl bz) ?_
  refine ec r (fun _ u _ b d s => y_load_agg s (cs := (planC a0)) (n := 6) rfl (keep b h_b1) ta25 rfl bz) ?_
  refine ec r (fun _ u _ b d s => y_move s rfl bz) ?_
  refine ec r (fun fr1 u w' hb' hd r' => y_call r' (args := [(.agg (planC a0).toArray), (I a1)]) (lc hd.1 (lc hd.2.1 l0)) cl144 ((c_plan_Plan_thread _ a0 a1).mono (by rintro _ w2 ⟨rfl, hb2⟩; exact ⟨_, rfl, hb2, rfl⟩))) ?_
  refine ec r (fun fr1 u w' hb' hd r' => y_bslice r' (c := ((boundsC [(D.plan_Plan_thread a0 a1)])).toArray) (E := 216) (bs1 (congrArg (fun z => (0, z)) hd.1) (by kernel_rfl)) (fun b w2 n2 => ⟨n2.below, b, rfl, Nat.le_of_eq n2.eq.symm, n2.at_⟩)) ?_
  refine each_consF r rfl (fun fr1 u w' hb' hd r' => ?_) ?_
  · obtain ⟨d0, d1, d2, d3, _⟩ := hd; obtain ⟨q2, hq2, _, hr2⟩ := d2; exact y_call r' (args := [(.agg (planC a0).toArray), (I (W ((D.plan_Plan_counts a0) + (W (a1 * (W (1 + a0.retire))))))), (.slice (some ⟨q2, 0, none⟩) 1 1)]) (lc d0 (lc d1 (lc hq2 l0))) cl142 ((c_plan_Plan_place _ a0 (W ((D.plan_Plan_counts a0) + (W (a1 * (W (1 + a0.retire)))))) ([(D.plan_Plan_thread a0 a1)]) hr2 (by first | assumption | decide | (simp; done))).mono (by rintro _ w2 ⟨rfl, hb2⟩; exact ⟨_, rfl, hb2, rfl⟩))
  exact each_nil
 ·
  intro fr u w4 hb hΦ hne r
  obtain ⟨b5, g12, e_b5, h_b5⟩ := hΦ 12 (by decide)
  have l_b5 := lt_of_block h_b5
  have r := r.congr (sc (hΦ 13 (by decide)) (sc g12 (sc (hΦ 11 (by decide)) (sc (hΦ 10 (by decide)) (sc (hΦ 9 (by decide)) (sc (hΦ 8 (by decide)) (sc (hΦ 7 (by decide)) (sc (hΦ 6 (by decide)) (sc (hΦ 5 (by decide)) (sc (hΦ 4 (by decide)) (sc (hΦ 3 (by decide)) (sc (hΦ 2 (by decide)) (sc (hΦ 1 (by decide)) (sc (hΦ 0 (by decide)) rfl))))))))))))))
  have z_w4 := hb.size
  have h_b1 := keep hb h_b1
  obtain ⟨hB, zB⟩ := bon hb hB
  refine seq_val (I (D.plan_Plan_place a0 (W ((D.plan_Plan_counts a0) + (W (a1 * (W (1 + a0.retire)))))) ([(D.plan_Plan_thread a0 a1)]))) r (fun R => y_assign r rfl) rfl fun fr r => ?_
  refine wn ?_
  refine wp_ret ?_
  refine ret_tmp r rfl rfl ?_
  exact ⟨rfl, hB⟩

def D.plan_Plan_Retired (a0 : Plan) (a1 : Int) (a2 : Int) : Int := (D.plan_Plan_place a0 (IntKind.i64.wrap ((IntKind.i64.wrap ((IntKind.i64.wrap ((D.plan_Plan_counts a0) + (IntKind.i64.wrap (a1 * (IntKind.i64.wrap (1 + a0.retire)))))) + 1)) + a2)) ([(D.plan_Plan_thread a0 a1), (⟨a2, 0, (IntKind.i64.wrap (a0.retire - 1))⟩ : Bound)]))

theorem c_plan_Plan_Retired (w0 : World) 
    (a0 : Plan) (a1 : Int) (a2 : Int) :
    Calls Tryz.prog 165 #[.agg (planC a0).toArray, .int .i64 a1, .int .i64 a2] w0 (PureRes (.int .i64 (D.plan_Plan_Retired a0 a1 a2)) w0) := by
 refine enter Tryz.func165 rfl 29 rfl rfl fun fr r => ?_
 have hB := Below.refl w0.heap.size w0
 refine wsr ?_
 refine seq_new (.cells ((planC a0)).toArray 25 (0, 0)) r (fun R => y_box r (v := (.agg (planC a0).toArray)) rfl) rfl fun fr b1 w2 n3 r => ?_
 obtain ⟨e_b1, z_w2, h_b1, hB, zB⟩ := n3.all hB
 refine seq_val (I 0) r (fun R => y_assign r rfl) rfl fun fr r => ?_
 refine wn ?_
 refine wp_seq ?_
 refine wp_drawnF 22 [.val (.agg (planC a0).toArray), .val (.agg (planC a0).toArray), .val (I (D.plan_Plan_counts a0)), .val (I a1), .val (.pointer (some ⟨b1, 2, none⟩)), .val (I a0.retire), .val (I (W (1 + a0.retire))), .val (I (W (a1 * (W (1 + a0.retire))))), .val (I (W ((D.plan_Plan_counts a0) + (W (a1 * (W (1 + a0.retire))))))), .val (I (W ((W ((D.plan_Plan_counts a0) + (W (a1 * (W (1 + a0.retire)))))) + 1))), .val (I a2), .val (I (W ((W ((W ((D.plan_Plan_counts a0) + (W (a1 * (W (1 + a0.retire)))))) + 1)) + a2))), .val (.agg (planC a0).toArray), .val (I a1), .val (.agg (boundC (D.plan_Plan_thread a0 a1)).toArray), .val (I a2), .val (.pointer (some ⟨b1, 2, none⟩)), .val (I a0.retire), .val (I (W (a0.retire - 1))), .val (.agg (boundC (⟨a2, 0, (W (a0.retire - 1))⟩ : Bound)).toArray), .slice w2.heap.size (.cells ((boundsC [(D.plan_Plan_thread a0 a1), (⟨a2, 0, (W (a0.retire - 1))⟩ : Bound)])).toArray 216 (0, 0)) 2, .val (I (D.plan_Plan_place a0 (W ((W ((W ((D.plan_Plan_counts a0) + (W (a1 * (W (1 + a0.retire)))))) + 1)) + a2)) ([(D.plan_Plan_thread a0 a1), (⟨a2, 0, (W (a0.retire - 1))⟩ : Bound)])))] mixed r (by kernel_rfl) (within_cons (by exact trivial) (within_cons (by exact trivial) (within_cons (by exact trivial) (within_cons (by exact trivial) (within_cons (by exact trivial) (within_cons (by exact trivial) (within_cons (by exact trivial) (within_cons (by exact trivial) (within_cons (by exact trivial) (within_cons (by exact trivial) (within_cons (by exact trivial) (within_cons (by exact trivial) (within_cons (by exact trivial) (within_cons (by exact trivial) (within_cons (by exact trivial) (within_cons (by exact trivial) (within_cons (by exact trivial) (within_cons (by exact trivial) (within_cons (by exact trivial) (within_cons (by exact trivial) (within_cons (Nat.le_refl _) (within_cons (by exact trivial) within_nil)))))))))))))))))))))) ?_ ?_
 ·
  refine ec r (fun _ u _ b d s => y_load_agg s (cs := (planC a0)) (n := 6) rfl (keep b h_b1) ta25 rfl bz) ?_
  refine ec r (fun _ u _ b d s => y_load_agg s (cs := (planC a0)) (n := 6) rfl (keep b h_b1) ta25 rfl bz) ?_
  refine ec r (fun fr1 u w' hb' hd r' => y_call r' (args := [(.agg (planC a0).toArray)]) (lc hd.1 l0) cl261 ((c_plan_Plan_counts _ a0).mono (by rintro _ w2 ⟨rfl, hb2⟩; exact ⟨_, rfl, hb2, rfl⟩))) ?_
  refine ec r (fun _ u _ b d s => y_move s rfl bz) ?_
  refine ec r (fun _ u _ b d s => y_fieldAddr s (b := b1) (o := 0) rfl fo25_2 bz) ?_
  refine ec r (fun _ u _ b d s => y_load_one s d.1 (keep b h_b1) to3 rfl bz) ?_
  refine ec r (fun _ u _ b d s => y_bin s rfl d.1 rfl rfl bz) ?_
  refine ec r (fun _ u _ b d s => y_bin s d.1 d.2.1 rfl rfl bz) ?_
  refine ec r (fun _ u _ b d s => y_bin s d.1 d.2.1 rfl rfl bz) ?_
  refine ec r (fun _ u _ b d s => y_bin s d.1 rfl rfl rfl bz) ?_
  refine ec r (fun _ u _ b d s => y_move s rfl bz) ?_
  refine ec r (fun _ u _ b d s => y_bin s d.1 d.2.1 rfl rfl bz) ?_
  refine ec r (fun _ u _ b d s => y_load_agg s (cs := (planC a0)) (n := 6) rfl (keep b h_b1) ta25 rfl bz) ?_
  refine ec r (fun _ u _ b d s => y_move s rfl bz) ?_
  refine ec r (fun fr1 u w' hb' hd r' => y_call r' (args := [(.agg (planC a0).toArray), (I a1)]) (lc hd.1 (lc hd.2.1 l0)) cl144 ((c_plan_Plan_thread _ a0 a1).mono (by rintro _ w2 ⟨rfl, hb2⟩; exact ⟨_, rfl, hb2, rfl⟩))) ?_
  refine ec r (fun _ u _ b d s => y_move s rfl bz) ?_
  refine ec r (fun _ u _ b d s => y_fieldAddr s (b := b1) (o := 0) rfl fo25_2 bz) ?_
  refine ec r (fun _ u _ b d s => y_load_one s d.1 (keep b h_b1) to3 rfl bz) ?_
  refine ec r (fun _ u _ b d s => y_bin s d.1 rfl rfl rfl bz) ?_
  refine ec r (fun fr1 u w' hb' hd r' => y_build r' (v := (.agg (boundC (⟨a2, 0, (W (a0.retire - 1))⟩ : Bound)).toArray)) (bs3 (congrArg (fun z => (0, z)) hd.1) (rfl) (congrArg (fun z => (2, z)) hd.2.1) (by kernel_rfl)) bz) ?_
  refine ec r (fun fr1 u w' hb' hd r' => y_bslice r' (c := ((boundsC [(D.plan_Plan_thread a0 a1), (⟨a2, 0, (W (a0.retire - 1))⟩ : Bound)])).toArray) (E := 216) (bs2 (congrArg (fun z => (0, z)) hd.1) (congrArg (fun z => (1, z)) hd.2.1) (by kernel_rfl)) (fun b w2 n2 => ⟨n2.below, b, rfl, Nat.le_of_eq n2.eq.symm, n2.at_⟩)) ?_
  refine each_consF r rfl (fun fr1 u w' hb' hd r' => ?_) ?_
  · obtain ⟨d0, d1, d2, d3, _⟩ := hd; obtain ⟨q2, hq2, _, hr2⟩ := d2; exact y_call r' (args := [(.agg (planC a0).toArray), (I (W ((W ((W ((D.plan_Plan_counts a0) + (W (a1 * (W (1 + a0.retire)))))) + 1)) + a2))), (.slice (some ⟨q2, 0, none⟩) 2 2)]) (lc d0 (lc d1 (lc hq2 l0))) cl142 ((c_plan_Plan_place _ a0 (W ((W ((W ((D.plan_Plan_counts a0) + (W (a1 * (W (1 + a0.retire)))))) + 1)) + a2)) ([(D.plan_Plan_thread a0 a1), (⟨a2, 0, (W (a0.retire - 1))⟩ : Bound)]) hr2 (by first | assumption | decide | (simp; done))).mono (by rintro _ w2 ⟨rfl, hb2⟩; exact ⟨_, rfl, hb2, rfl⟩))
  exact each_nil
 ·
  intro fr u w4 hb hΦ hne r
  obtain ⟨b5, g20, e_b5, h_b5⟩ := hΦ 20 (by decide)
  have l_b5 := lt_of_block h_b5
  have r := r.congr (sc (hΦ 21 (by decide)) (sc g20 (sc (hΦ 19 (by decide)) (sc (hΦ 18 (by decide)) (sc (hΦ 17 (by decide)) (sc (hΦ 16 (by decide)) (sc (hΦ 15 (by decide)) (sc (hΦ 14 (by decide)) (sc (hΦ 13 (by decide)) (sc (hΦ 12 (by decide)) (sc (hΦ 11 (by decide)) (sc (hΦ 10 (by decide)) (sc (hΦ 9 (by decide)) (sc (hΦ 8 (by decide)) (sc (hΦ 7 (by decide)) (sc (hΦ 6 (by decide)) (sc (hΦ 5 (by decide)) (sc (hΦ 4 (by decide)) (sc (hΦ 3 (by decide)) (sc (hΦ 2 (by decide)) (sc (hΦ 1 (by decide)) (sc (hΦ 0 (by decide)) rfl))))))))))))))))))))))
  have z_w4 := hb.size
  have h_b1 := keep hb h_b1
  obtain ⟨hB, zB⟩ := bon hb hB
  refine seq_val (I (D.plan_Plan_place a0 (W ((W ((W ((D.plan_Plan_counts a0) + (W (a1 * (W (1 + a0.retire)))))) + 1)) + a2)) ([(D.plan_Plan_thread a0 a1), (⟨a2, 0, (W (a0.retire - 1))⟩ : Bound)]))) r (fun R => y_assign r rfl) rfl fun fr r => ?_
  refine wn ?_
  refine wp_ret ?_
  refine ret_tmp r rfl rfl ?_
  exact ⟨rfl, hB⟩

def D.plan_Plan_Hazard (a0 : Plan) (a1 : Int) (a2 : Int) : Int := (D.plan_Plan_place a0 (IntKind.i64.wrap ((IntKind.i64.wrap ((D.plan_Plan_hazards a0) + (IntKind.i64.wrap (a1 * 3)))) + a2)) ([(D.plan_Plan_thread a0 a1), (⟨a2, 0, 2⟩ : Bound)]))

theorem c_plan_Plan_Hazard (w0 : World) 
    (a0 : Plan) (a1 : Int) (a2 : Int) :
    Calls Tryz.prog 52 #[.agg (planC a0).toArray, .int .i64 a1, .int .i64 a2] w0 (PureRes (.int .i64 (D.plan_Plan_Hazard a0 a1 a2)) w0) := by
 refine enter Tryz.func52 rfl 22 rfl rfl fun fr r => ?_
 have hB := Below.refl w0.heap.size w0
 refine wsr ?_
 refine seq_new (.cells ((planC a0)).toArray 25 (0, 0)) r (fun R => y_box r (v := (.agg (planC a0).toArray)) rfl) rfl fun fr b1 w2 n3 r => ?_
 obtain ⟨e_b1, z_w2, h_b1, hB, zB⟩ := n3.all hB
 refine seq_val (I 0) r (fun R => y_assign r rfl) rfl fun fr r => ?_
 refine wn ?_
 refine wp_seq ?_
 refine wp_drawnF 15 [.val (.agg (planC a0).toArray), .val (.agg (planC a0).toArray), .val (I (D.plan_Plan_hazards a0)), .val (I a1), .val (I (W (a1 * 3))), .val (I (W ((D.plan_Plan_hazards a0) + (W (a1 * 3))))), .val (I a2), .val (I (W ((W ((D.plan_Plan_hazards a0) + (W (a1 * 3)))) + a2))), .val (.agg (planC a0).toArray), .val (I a1), .val (.agg (boundC (D.plan_Plan_thread a0 a1)).toArray), .val (I a2), .val (.agg (boundC (⟨a2, 0, 2⟩ : Bound)).toArray), .slice w2.heap.size (.cells ((boundsC [(D.plan_Plan_thread a0 a1), (⟨a2, 0, 2⟩ : Bound)])).toArray 216 (0, 0)) 2, .val (I (D.plan_Plan_place a0 (W ((W ((D.plan_Plan_hazards a0) + (W (a1 * 3)))) + a2)) ([(D.plan_Plan_thread a0 a1), (⟨a2, 0, 2⟩ : Bound)])))] mixed r (by kernel_rfl) (within_cons (by exact trivial) (within_cons (by exact trivial) (within_cons (by exact trivial) (within_cons (by exact trivial) (within_cons (by exact trivial) (within_cons (by exact trivial) (within_cons (by exact trivial) (within_cons (by exact trivial) (within_cons (by exact trivial) (within_cons (by exact trivial) (within_cons (by exact trivial) (within_cons (by exact trivial) (within_cons (by exact trivial) (within_cons (Nat.le_refl _) (within_cons (by exact trivial) within_nil))))))))))))))) ?_ ?_
 ·
  refine ec r (fun _ u _ b d s => y_load_agg s (cs := (planC a0)) (n := 6) rfl (keep b h_b1) ta25 rfl bz) ?_
  refine ec r (fun _ u _ b d s => y_load_agg s (cs := (planC a0)) (n := 6) rfl (keep b h_b1) ta25 rfl bz) ?_
  refine ec r (fun fr1 u w' hb' hd r' => y_call r' (args := [(.agg (planC a0).toArray)]) (lc hd.1 l0) cl143 ((c_plan_Plan_hazards _ a0).mono (by rintro _ w2 ⟨rfl, hb2⟩; exact ⟨_, rfl, hb2, rfl⟩))) ?_
  refine ec r (fun _ u _ b d s => y_move s rfl bz) ?_
  refine ec r (fun _ u _ b d s => y_bin s d.1 rfl rfl rfl bz) ?_
  refine ec r (fun _ u _ b d s => y_bin s d.1 d.2.1 rfl rfl bz) ?_
  refine ec r (fun _ u _ b d s => y_move s rfl bz) ?_
  refine ec r (fun _ u _ b d s => y_bin s d.1 d.2.1 rfl rfl bz) ?_
  refine ec r (fun _ u _ b d s => y_load_agg s (cs := (planC a0)) (n := 6) rfl (keep b h_b1) ta25 rfl bz) ?_
  refine ec r (fun _ u _ b d s => y_move s rfl bz) ?_
  refine ec r (fun fr1 u w' hb' hd r' => y_call r' (args := [(.agg (planC a0).toArray), (I a1)]) (lc hd.1 (lc hd.2.1 l0)) cl144 ((c_plan_Plan_thread _ a0 a1).mono (by rintro _ w2 ⟨rfl, hb2⟩; exact ⟨_, rfl, hb2, rfl⟩))) ?_
  refine ec r (fun _ u _ b d s => y_move s rfl bz) ?_
  refine ec r (fun fr1 u w' hb' hd r' => y_build r' (v := (.agg (boundC (⟨a2, 0, 2⟩ : Bound)).toArray)) (bs3 (congrArg (fun z => (0, z)) hd.1) (rfl) (rfl) (by kernel_rfl)) bz) ?_
  refine ec r (fun fr1 u w' hb' hd r' => y_bslice r' (c := ((boundsC [(D.plan_Plan_thread a0 a1), (⟨a2, 0, 2⟩ : Bound)])).toArray) (E := 216) (bs2 (congrArg (fun z => (0, z)) hd.1) (congrArg (fun z => (1, z)) hd.2.1) (by kernel_rfl)) (fun b w2 n2 => ⟨n2.below, b, rfl, Nat.le_of_eq n2.eq.symm, n2.at_⟩)) ?_
  refine each_consF r rfl (fun fr1 u w' hb' hd r' => ?_) ?_
  · obtain ⟨d0, d1, d2, d3, _⟩ := hd; obtain ⟨q2, hq2, _, hr2⟩ := d2; exact y_call r' (args := [(.agg (planC a0).toArray), (I (W ((W ((D.plan_Plan_hazards a0) + (W (a1 * 3)))) + a2))), (.slice (some ⟨q2, 0, none⟩) 2 2)]) (lc d0 (lc d1 (lc hq2 l0))) cl142 ((c_plan_Plan_place _ a0 (W ((W ((D.plan_Plan_hazards a0) + (W (a1 * 3)))) + a2)) ([(D.plan_Plan_thread a0 a1), (⟨a2, 0, 2⟩ : Bound)]) hr2 (by first | assumption | decide | (simp; done))).mono (by rintro _ w2 ⟨rfl, hb2⟩; exact ⟨_, rfl, hb2, rfl⟩))
  exact each_nil
 ·
  intro fr u w4 hb hΦ hne r
  obtain ⟨b5, g13, e_b5, h_b5⟩ := hΦ 13 (by decide)
  have l_b5 := lt_of_block h_b5
  have r := r.congr (sc (hΦ 14 (by decide)) (sc g13 (sc (hΦ 12 (by decide)) (sc (hΦ 11 (by decide)) (sc (hΦ 10 (by decide)) (sc (hΦ 9 (by decide)) (sc (hΦ 8 (by decide)) (sc (hΦ 7 (by decide)) (sc (hΦ 6 (by decide)) (sc (hΦ 5 (by decide)) (sc (hΦ 4 (by decide)) (sc (hΦ 3 (by decide)) (sc (hΦ 2 (by decide)) (sc (hΦ 1 (by decide)) (sc (hΦ 0 (by decide)) rfl)))))))))))))))
  have z_w4 := hb.size
  have h_b1 := keep hb h_b1
  obtain ⟨hB, zB⟩ := bon hb hB
  refine seq_val (I (D.plan_Plan_place a0 (W ((W ((D.plan_Plan_hazards a0) + (W (a1 * 3)))) + a2)) ([(D.plan_Plan_thread a0 a1), (⟨a2, 0, 2⟩ : Bound)]))) r (fun R => y_assign r rfl) rfl fun fr r => ?_
  refine wn ?_
  refine wp_ret ?_
  refine ret_tmp r rfl rfl ?_
  exact ⟨rfl, hB⟩

def D.plan_Plan_Field (a0 : Plan) (a1 : Int) (a2 : Int) : Int := (D.plan_Plan_place a0 (IntKind.i64.wrap ((IntKind.i64.wrap ((IntKind.i64.wrap ((D.plan_Plan_nodes a0) + (IntKind.i64.wrap (a1 * 5)))) + 2)) + a2)) ([(D.plan_Plan_node a0 a1), (⟨a2, 0, 2⟩ : Bound)]))

theorem c_plan_Plan_Field (w0 : World) 
    (a0 : Plan) (a1 : Int) (a2 : Int) :
    Calls Tryz.prog 150 #[.agg (planC a0).toArray, .int .i64 a1, .int .i64 a2] w0 (PureRes (.int .i64 (D.plan_Plan_Field a0 a1 a2)) w0) := by
 refine enter Tryz.func150 rfl 23 rfl rfl fun fr r => ?_
 have hB := Below.refl w0.heap.size w0
 refine wsr ?_
 refine seq_new (.cells ((planC a0)).toArray 25 (0, 0)) r (fun R => y_box r (v := (.agg (planC a0).toArray)) rfl) rfl fun fr b1 w2 n3 r => ?_
 obtain ⟨e_b1, z_w2, h_b1, hB, zB⟩ := n3.all hB
 refine seq_val (I 0) r (fun R => y_assign r rfl) rfl fun fr r => ?_
 refine wn ?_
 refine wp_seq ?_
 refine wp_drawnF 16 [.val (.agg (planC a0).toArray), .val (.agg (planC a0).toArray), .val (I (D.plan_Plan_nodes a0)), .val (I a1), .val (I (W (a1 * 5))), .val (I (W ((D.plan_Plan_nodes a0) + (W (a1 * 5))))), .val (I (W ((W ((D.plan_Plan_nodes a0) + (W (a1 * 5)))) + 2))), .val (I a2), .val (I (W ((W ((W ((D.plan_Plan_nodes a0) + (W (a1 * 5)))) + 2)) + a2))), .val (.agg (planC a0).toArray), .val (I a1), .val (.agg (boundC (D.plan_Plan_node a0 a1)).toArray), .val (I a2), .val (.agg (boundC (⟨a2, 0, 2⟩ : Bound)).toArray), .slice w2.heap.size (.cells ((boundsC [(D.plan_Plan_node a0 a1), (⟨a2, 0, 2⟩ : Bound)])).toArray 216 (0, 0)) 2, .val (I (D.plan_Plan_place a0 (W ((W ((W ((D.plan_Plan_nodes a0) + (W (a1 * 5)))) + 2)) + a2)) ([(D.plan_Plan_node a0 a1), (⟨a2, 0, 2⟩ : Bound)])))] mixed r (by kernel_rfl) (within_cons (by exact trivial) (within_cons (by exact trivial) (within_cons (by exact trivial) (within_cons (by exact trivial) (within_cons (by exact trivial) (within_cons (by exact trivial) (within_cons (by exact trivial) (within_cons (by exact trivial) (within_cons (by exact trivial) (within_cons (by exact trivial) (within_cons (by exact trivial) (within_cons (by exact trivial) (within_cons (by exact trivial) (within_cons (by exact trivial) (within_cons (Nat.le_refl _) (within_cons (by exact trivial) within_nil)))))))))))))))) ?_ ?_
 ·
  refine ec r (fun _ u _ b d s => y_load_agg s (cs := (planC a0)) (n := 6) rfl (keep b h_b1) ta25 rfl bz) ?_
  refine ec r (fun _ u _ b d s => y_load_agg s (cs := (planC a0)) (n := 6) rfl (keep b h_b1) ta25 rfl bz) ?_
  refine ec r (fun fr1 u w' hb' hd r' => y_call r' (args := [(.agg (planC a0).toArray)]) (lc hd.1 l0) cl158 ((c_plan_Plan_nodes _ a0).mono (by rintro _ w2 ⟨rfl, hb2⟩; exact ⟨_, rfl, hb2, rfl⟩))) ?_
  refine ec r (fun _ u _ b d s => y_move s rfl bz) ?_
  refine ec r (fun _ u _ b d s => y_bin s d.1 rfl rfl rfl bz) ?_
  refine ec r (fun _ u _ b d s => y_bin s d.1 d.2.1 rfl rfl bz) ?_
  refine ec r (fun _ u _ b d s => y_bin s d.1 rfl rfl rfl bz) ?_
  refine ec r (fun _ u _ b d s => y_move s rfl bz) ?_
  refine ec r (fun _ u _ b d s => y_bin s d.1 d.2.1 rfl rfl bz) ?_
  refine ec r (fun _ u _ b d s => y_load_agg s (cs := (planC a0)) (n := 6) rfl (keep b h_b1) ta25 rfl bz) ?_
  refine ec r (fun _ u _ b d s => y_move s rfl bz) ?_
  refine ec r (fun fr1 u w' hb' hd r' => y_call r' (args := [(.agg (planC a0).toArray), (I a1)]) (lc hd.1 (lc hd.2.1 l0)) cl159 ((c_plan_Plan_node _ a0 a1).mono (by rintro _ w2 ⟨rfl, hb2⟩; exact ⟨_, rfl, hb2, rfl⟩))) ?_
  refine ec r (fun _ u _ b d s => y_move s rfl bz) ?_
  refine ec r (fun fr1 u w' hb' hd r' => y_build r' (v := (.agg (boundC (⟨a2, 0, 2⟩ : Bound)).toArray)) (bs3 (congrArg (fun z => (0, z)) hd.1) (rfl) (rfl) (by kernel_rfl)) bz) ?_
  refine ec r (fun fr1 u w' hb' hd r' => y_bslice r' (c := ((boundsC [(D.plan_Plan_node a0 a1), (⟨a2, 0, 2⟩ : Bound)])).toArray) (E := 216) (bs2 (congrArg (fun z => (0, z)) hd.1) (congrArg (fun z => (1, z)) hd.2.1) (by kernel_rfl)) (fun b w2 n2 => ⟨n2.below, b, rfl, Nat.le_of_eq n2.eq.symm, n2.at_⟩)) ?_
  refine each_consF r rfl (fun fr1 u w' hb' hd r' => ?_) ?_
  · obtain ⟨d0, d1, d2, d3, _⟩ := hd; obtain ⟨q2, hq2, _, hr2⟩ := d2; exact y_call r' (args := [(.agg (planC a0).toArray), (I (W ((W ((W ((D.plan_Plan_nodes a0) + (W (a1 * 5)))) + 2)) + a2))), (.slice (some ⟨q2, 0, none⟩) 2 2)]) (lc d0 (lc d1 (lc hq2 l0))) cl142 ((c_plan_Plan_place _ a0 (W ((W ((W ((D.plan_Plan_nodes a0) + (W (a1 * 5)))) + 2)) + a2)) ([(D.plan_Plan_node a0 a1), (⟨a2, 0, 2⟩ : Bound)]) hr2 (by first | assumption | decide | (simp; done))).mono (by rintro _ w2 ⟨rfl, hb2⟩; exact ⟨_, rfl, hb2, rfl⟩))
  exact each_nil
 ·
  intro fr u w4 hb hΦ hne r
  obtain ⟨b5, g14, e_b5, h_b5⟩ := hΦ 14 (by decide)
  have l_b5 := lt_of_block h_b5
  have r := r.congr (sc (hΦ 15 (by decide)) (sc g14 (sc (hΦ 13 (by decide)) (sc (hΦ 12 (by decide)) (sc (hΦ 11 (by decide)) (sc (hΦ 10 (by decide)) (sc (hΦ 9 (by decide)) (sc (hΦ 8 (by decide)) (sc (hΦ 7 (by decide)) (sc (hΦ 6 (by decide)) (sc (hΦ 5 (by decide)) (sc (hΦ 4 (by decide)) (sc (hΦ 3 (by decide)) (sc (hΦ 2 (by decide)) (sc (hΦ 1 (by decide)) (sc (hΦ 0 (by decide)) rfl))))))))))))))))
  have z_w4 := hb.size
  have h_b1 := keep hb h_b1
  obtain ⟨hB, zB⟩ := bon hb hB
  refine seq_val (I (D.plan_Plan_place a0 (W ((W ((W ((D.plan_Plan_nodes a0) + (W (a1 * 5)))) + 2)) + a2)) ([(D.plan_Plan_node a0 a1), (⟨a2, 0, 2⟩ : Bound)]))) r (fun R => y_assign r rfl) rfl fun fr r => ?_
  refine wn ?_
  refine wp_ret ?_
  refine ret_tmp r rfl rfl ?_
  exact ⟨rfl, hB⟩

def D.plan_Plan_domain (a0 : Plan) (a1 : Int) : Bound := (⟨a1, 0, (IntKind.i64.wrap (a0.domains - 1))⟩ : Bound)

theorem c_plan_Plan_domain (w0 : World) 
    (a0 : Plan) (a1 : Int) :
    Calls Tryz.prog 167 #[.agg (planC a0).toArray, .int .i64 a1] w0 (PureRes (.agg (boundC (D.plan_Plan_domain a0 a1)).toArray) w0) := by
 refine enter Tryz.func167 rfl 10 rfl rfl fun fr r => ?_
 have hB := Below.refl w0.heap.size w0
 refine wsr ?_
 refine seq_new (.cells ((planC a0)).toArray 25 (0, 0)) r (fun R => y_box r (v := (.agg (planC a0).toArray)) rfl) rfl fun fr b1 w2 n3 r => ?_
 obtain ⟨e_b1, z_w2, h_b1, hB, zB⟩ := n3.all hB
 refine seq_new (.cells ((boundC (⟨0, 0, 0⟩ : Bound))).toArray 216 (0, 0)) r (fun R => y_alloc tz216) rfl fun fr b4 w5 n6 r => ?_
 have h_b1 := keep n6.below h_b1
 obtain ⟨e_b4, z_w5, h_b4, hB, zB⟩ := n6.all hB
 refine wn ?_
 refine wsr ?_
 refine seq_val (I a1) r (fun R => y_move r rfl) rfl fun fr r => ?_
 refine seq_val _ r (fun R => y_fieldAddr r (o := 0) rfl fo25_3) rfl fun fr r => ?_
 refine seq_val (I a0.domains) r (fun R => y_load_one r rfl h_b1 to3 rfl) rfl fun fr r => ?_
 refine seq_val _ r (fun R => y_bin r rfl rfl rfl rfl) rfl fun fr r => ?_
 refine seq_val (.agg (boundC (⟨a1, 0, (W (a0.domains - 1))⟩ : Bound)).toArray) r (fun R => y_build r (by kernel_rfl)) rfl fun fr r => ?_
 refine seq_upd (.cells ((boundC (⟨a1, 0, (W (a0.domains - 1))⟩ : Bound))).toArray 216 (0, 0)) r (fun R => y_store r (o := 0) (v := (.agg (boundC (⟨a1, 0, (W (a0.domains - 1))⟩ : Bound)).toArray)) rfl rfl h_b4 ts216 (Nat.le_of_ble_eq_true rfl) rfl rfl) rfl fun fr w7 u8 r => ?_
 have z_w7 := u8.size
 have h_b1 := u8.keep h_b1 (by omega)
 have h_b4 := u8.at_
 obtain ⟨hB, zB⟩ := u8.on hB (by omega)
 refine wn ?_
 refine wp_ret ?_
 refine ret_cell r rfl rfl h_b4 (k := 3) rfl ta216 ?_
 exact ⟨rfl, hB⟩

def D.plan_Plan_Cell (a0 : Plan) (a1 : Int) (a2 : Int) : Int := (D.plan_Plan_place a0 (IntKind.i64.wrap ((IntKind.i64.wrap (2 + (IntKind.i64.wrap (a1 * (IntKind.i64.wrap (1 + (D.plan_Plan_cells a0))))))) + a2)) ([(D.plan_Plan_domain a0 a1), (⟨a2, 0, (IntKind.i64.wrap ((D.plan_Plan_cells a0) - 1))⟩ : Bound)]))

theorem c_plan_Plan_Cell (w0 : World) 
    (a0 : Plan) (a1 : Int) (a2 : Int) :
    Calls Tryz.prog 72 #[.agg (planC a0).toArray, .int .i64 a1, .int .i64 a2] w0 (PureRes (.int .i64 (D.plan_Plan_Cell a0 a1 a2)) w0) := by
 refine enter Tryz.func72 rfl 26 rfl rfl fun fr r => ?_
 have hB := Below.refl w0.heap.size w0
 refine wsr ?_
 refine seq_new (.cells ((planC a0)).toArray 25 (0, 0)) r (fun R => y_box r (v := (.agg (planC a0).toArray)) rfl) rfl fun fr b1 w2 n3 r => ?_
 obtain ⟨e_b1, z_w2, h_b1, hB, zB⟩ := n3.all hB
 refine seq_val (I 0) r (fun R => y_assign r rfl) rfl fun fr r => ?_
 refine wn ?_
 refine wp_seq ?_
 refine wp_drawnF 19 [.val (.agg (planC a0).toArray), .val (I a1), .val (.agg (planC a0).toArray), .val (I (D.plan_Plan_cells a0)), .val (I (W (1 + (D.plan_Plan_cells a0)))), .val (I (W (a1 * (W (1 + (D.plan_Plan_cells a0)))))), .val (I (W (2 + (W (a1 * (W (1 + (D.plan_Plan_cells a0)))))))), .val (I a2), .val (I (W ((W (2 + (W (a1 * (W (1 + (D.plan_Plan_cells a0))))))) + a2))), .val (.agg (planC a0).toArray), .val (I a1), .val (.agg (boundC (D.plan_Plan_domain a0 a1)).toArray), .val (I a2), .val (.agg (planC a0).toArray), .val (I (D.plan_Plan_cells a0)), .val (I (W ((D.plan_Plan_cells a0) - 1))), .val (.agg (boundC (⟨a2, 0, (W ((D.plan_Plan_cells a0) - 1))⟩ : Bound)).toArray), .slice w2.heap.size (.cells ((boundsC [(D.plan_Plan_domain a0 a1), (⟨a2, 0, (W ((D.plan_Plan_cells a0) - 1))⟩ : Bound)])).toArray 216 (0, 0)) 2, .val (I (D.plan_Plan_place a0 (W ((W (2 + (W (a1 * (W (1 + (D.plan_Plan_cells a0))))))) + a2)) ([(D.plan_Plan_domain a0 a1), (⟨a2, 0, (W ((D.plan_Plan_cells a0) - 1))⟩ : Bound)])))] mixed r (by kernel_rfl) (within_cons (by exact trivial) (within_cons (by exact trivial) (within_cons (by exact trivial) (within_cons (by exact trivial) (within_cons (by exact trivial) (within_cons (by exact trivial) (within_cons (by exact trivial) (within_cons (by exact trivial) (within_cons (by exact trivial) (within_cons (by exact trivial) (within_cons (by exact trivial) (within_cons (by exact trivial) (within_cons (by exact trivial) (within_cons (by exact trivial) (within_cons (by exact trivial) (within_cons (by exact trivial) (within_cons (by exact trivial) (within_cons (Nat.le_refl _) (within_cons (by exact trivial) within_nil))))))))))))))))))) ?_ ?_
 ·
  refine ec r (fun _ u _ b d s => y_load_agg s (cs := (planC a0)) (n := 6) rfl (keep b h_b1) ta25 rfl bz) ?_
  refine ec r (fun _ u _ b d s => y_move s rfl bz) ?_
  refine ec r (fun _ u _ b d s => y_load_agg s (cs := (planC a0)) (n := 6) rfl (keep b h_b1) ta25 rfl bz) ?_
  refine ec r (fun fr1 u w' hb' hd r' => y_call r' (args := [(.agg (planC a0).toArray)]) (lc hd.1 l0) cl166 ((c_plan_Plan_cells _ a0).mono (by rintro _ w2 ⟨rfl, hb2⟩; exact ⟨_, rfl, hb2, rfl⟩))) ?_
  refine ec r (fun _ u _ b d s => y_bin s rfl d.1 rfl rfl bz) ?_
  refine ec r (fun _ u _ b d s => y_bin s d.1 d.2.1 rfl rfl bz) ?_
  refine ec r (fun _ u _ b d s => y_bin s rfl d.1 rfl rfl bz) ?_
  refine ec r (fun _ u _ b d s => y_move s rfl bz) ?_
  refine ec r (fun _ u _ b d s => y_bin s d.1 d.2.1 rfl rfl bz) ?_
  refine ec r (fun _ u _ b d s => y_load_agg s (cs := (planC a0)) (n := 6) rfl (keep b h_b1) ta25 rfl bz) ?_
  refine ec r (fun _ u _ b d s => y_move s rfl bz) ?_
  refine ec r (fun fr1 u w' hb' hd r' => y_call r' (args := [(.agg (planC a0).toArray), (I a1)]) (lc hd.1 (lc hd.2.1 l0)) cl167 ((c_plan_Plan_domain _ a0 a1).mono (by rintro _ w2 ⟨rfl, hb2⟩; exact ⟨_, rfl, hb2, rfl⟩))) ?_
  refine ec r (fun _ u _ b d s => y_move s rfl bz) ?_
  refine ec r (fun _ u _ b d s => y_load_agg s (cs := (planC a0)) (n := 6) rfl (keep b h_b1) ta25 rfl bz) ?_
  refine ec r (fun fr1 u w' hb' hd r' => y_call r' (args := [(.agg (planC a0).toArray)]) (lc hd.1 l0) cl166 ((c_plan_Plan_cells _ a0).mono (by rintro _ w2 ⟨rfl, hb2⟩; exact ⟨_, rfl, hb2, rfl⟩))) ?_
  refine ec r (fun _ u _ b d s => y_bin s d.1 rfl rfl rfl bz) ?_
  refine ec r (fun fr1 u w' hb' hd r' => y_build r' (v := (.agg (boundC (⟨a2, 0, (W ((D.plan_Plan_cells a0) - 1))⟩ : Bound)).toArray)) (bs3 (congrArg (fun z => (0, z)) hd.1) (rfl) (congrArg (fun z => (2, z)) hd.2.1) (by kernel_rfl)) bz) ?_
  refine ec r (fun fr1 u w' hb' hd r' => y_bslice r' (c := ((boundsC [(D.plan_Plan_domain a0 a1), (⟨a2, 0, (W ((D.plan_Plan_cells a0) - 1))⟩ : Bound)])).toArray) (E := 216) (bs2 (congrArg (fun z => (0, z)) hd.1) (congrArg (fun z => (1, z)) hd.2.1) (by kernel_rfl)) (fun b w2 n2 => ⟨n2.below, b, rfl, Nat.le_of_eq n2.eq.symm, n2.at_⟩)) ?_
  refine each_consF r rfl (fun fr1 u w' hb' hd r' => ?_) ?_
  · obtain ⟨d0, d1, d2, d3, _⟩ := hd; obtain ⟨q2, hq2, _, hr2⟩ := d2; exact y_call r' (args := [(.agg (planC a0).toArray), (I (W ((W (2 + (W (a1 * (W (1 + (D.plan_Plan_cells a0))))))) + a2))), (.slice (some ⟨q2, 0, none⟩) 2 2)]) (lc d0 (lc d1 (lc hq2 l0))) cl142 ((c_plan_Plan_place _ a0 (W ((W (2 + (W (a1 * (W (1 + (D.plan_Plan_cells a0))))))) + a2)) ([(D.plan_Plan_domain a0 a1), (⟨a2, 0, (W ((D.plan_Plan_cells a0) - 1))⟩ : Bound)]) hr2 (by first | assumption | decide | (simp; done))).mono (by rintro _ w2 ⟨rfl, hb2⟩; exact ⟨_, rfl, hb2, rfl⟩))
  exact each_nil
 ·
  intro fr u w4 hb hΦ hne r
  obtain ⟨b5, g17, e_b5, h_b5⟩ := hΦ 17 (by decide)
  have l_b5 := lt_of_block h_b5
  have r := r.congr (sc (hΦ 18 (by decide)) (sc g17 (sc (hΦ 16 (by decide)) (sc (hΦ 15 (by decide)) (sc (hΦ 14 (by decide)) (sc (hΦ 13 (by decide)) (sc (hΦ 12 (by decide)) (sc (hΦ 11 (by decide)) (sc (hΦ 10 (by decide)) (sc (hΦ 9 (by decide)) (sc (hΦ 8 (by decide)) (sc (hΦ 7 (by decide)) (sc (hΦ 6 (by decide)) (sc (hΦ 5 (by decide)) (sc (hΦ 4 (by decide)) (sc (hΦ 3 (by decide)) (sc (hΦ 2 (by decide)) (sc (hΦ 1 (by decide)) (sc (hΦ 0 (by decide)) rfl)))))))))))))))))))
  have z_w4 := hb.size
  have h_b1 := keep hb h_b1
  obtain ⟨hB, zB⟩ := bon hb hB
  refine seq_val (I (D.plan_Plan_place a0 (W ((W (2 + (W (a1 * (W (1 + (D.plan_Plan_cells a0))))))) + a2)) ([(D.plan_Plan_domain a0 a1), (⟨a2, 0, (W ((D.plan_Plan_cells a0) - 1))⟩ : Bound)]))) r (fun R => y_assign r rfl) rfl fun fr r => ?_
  refine wn ?_
  refine wp_ret ?_
  refine ret_tmp r rfl rfl ?_
  exact ⟨rfl, hB⟩

end Go.Proofs.YtjkinpbfmihhdaaGreat

/- The numbers of formed plans. -/
namespace Go.Proofs.YtjkinpbfmihhdaaGreat
open Go.RowKit
structure PF (p : Plan) : Prop where
  n1 : 1 ≤ p.nodes
  n2 : p.nodes ≤ 1048576
  t1 : 1 ≤ p.threads
  t2 : p.threads ≤ 16
  d1 : 0 ≤ p.domains
  d2 : p.domains ≤ 64
  b1 : 1 ≤ p.buckets
  b2 : p.buckets ≤ 256
  g1 : 1 ≤ p.gen
  g2 : p.gen ≤ 1073741823
  r1 : 3 * p.threads + 1 ≤ p.retire
  r2 : p.retire ≤ 1024

theorem all_nil {α : Type} {P : α → Prop} : (∀ b, b ∈ ([] : List α) → P b) ↔ True := ⟨fun _ => trivial, fun _ _ hb => nomatch hb⟩

theorem all_cons {α : Type} {P : α → Prop} {x : α} {l : List α} : (∀ b, b ∈ x :: l → P b) ↔ P x ∧ ∀ b, b ∈ l → P b := List.forall_mem_cons

section
variable {p : Plan} (hp : PF p)
include hp
end
end Go.Proofs.YtjkinpbfmihhdaaGreat

/- Chunks of memory, each apart from the others: what is owned, and what is read alone. -/
namespace Go.Proofs.YtjkinpbfmihhdaaGreat
open Go.RowKit

/-- A chunk: the blocks that it has for itself, those that it reads, and what it says of a world. -/
structure Ck where
  own : List Nat
  ro : List Nat
  ok : World → Prop
  st : ∀ w w' : World, (∀ b, b ∈ own ∨ b ∈ ro → w'.heap[b]? = w.heap[b]?) → w.heap.size ≤ w'.heap.size → ok w → ok w'

def Ck.has (c : Ck) (b : Nat) : Prop := b ∈ c.own ∨ b ∈ c.ro

def Ck.clear (c d : Ck) : Prop := ∀ b, b ∈ c.own → ¬ d.has b

def Sep : List Ck → World → Prop
  | [], _ => True
  | c :: L, w => c.ok w ∧ (∀ b, c.has b → b < w.heap.size) ∧ (∀ d, d ∈ L → c.clear d ∧ d.clear c) ∧ Sep L w

/-- Nothing is changed but what may be. -/
structure Chg (Z : Nat → Prop) (w w' : World) : Prop where
  os : w'.os = w.os
  tape : w'.tape = w.tape
  output : w'.output = w.output
  size : w.heap.size ≤ w'.heap.size
  block : ∀ b, b < w.heap.size → ¬ Z b → w'.heap[b]? = w.heap[b]?

theorem dr {w w' : World} {d : Nat} (h : Below w.heap.size { w with drawn := d } w') : Below w.heap.size w w' := ⟨h.os, h.tape, h.output, h.size, h.block⟩

def No : Nat → Prop := fun _ => False

theorem Chg.below {w w' : World} (h : Chg No w w') : Below w.heap.size w w' := ⟨h.os, h.tape, h.output, h.size, fun b hb => h.block b hb fun h => h⟩

theorem Chg.of_below {w w' : World} (h : Below w.heap.size w w') : Chg No w w' := ⟨h.os, h.tape, h.output, h.size, fun b hb _ => h.block b hb⟩

theorem Chg.refl (Z : Nat → Prop) (w : World) : Chg Z w w := ⟨rfl, rfl, rfl, Nat.le_refl _, fun _ _ _ => rfl⟩

theorem Chg.trans {Z Z' : Nat → Prop} {w w' w'' : World} (h : Chg Z w w') (h' : Chg Z' w' w'') (hz : ∀ b, b < w.heap.size → Z' b → Z b) : Chg Z w w'' :=
  ⟨h'.os.trans h.os, h'.tape.trans h.tape, h'.output.trans h.output, Nat.le_trans h.size h'.size, fun b hb hn => (h'.block b (Nat.lt_of_lt_of_le hb h.size) fun h => hn (hz b hb h)).trans (h.block b hb hn)⟩

section
variable {L N : List Ck} {c c' : Ck} {w w' w0 : World} {i : Nat} {Z : Nat → Prop}

theorem Sep.ok (h : Sep L w) : ∀ c, c ∈ L → c.ok w ∧ ∀ b, c.has b → b < w.heap.size := by
  induction L with
  | nil => intro c hc; cases hc
  | cons d L ih =>
    intro c hc
    rcases List.mem_cons.1 hc with rfl | hc
    · exact ⟨h.1, h.2.1⟩
    · exact ih h.2.2.2 c hc

theorem Sep.get (h : Sep L w) (hi : L[i]? = some c) : c.ok w := (h.ok c (List.mem_of_getElem? hi)).1

theorem Sep.lt (h : Sep L w) (hi : L[i]? = some c) {b : Nat} (hb : c.has b) : b < w.heap.size := (h.ok c (List.mem_of_getElem? hi)).2 b hb

theorem Sep.clear {j : Nat} {d : Ck} (h : Sep L w) (hi : L[i]? = some c) (hj : L[j]? = some d) (hn : i ≠ j) : c.clear d ∧ d.clear c := by
  induction L generalizing i j with
  | nil => simp at hi
  | cons e L ih =>
    cases i with
    | zero =>
      cases j with
      | zero => exact absurd rfl hn
      | succ j =>
        simp only [List.getElem?_cons_zero, Option.some.injEq, List.getElem?_cons_succ] at hi hj
        subst hi
        exact h.2.2.1 d (List.mem_of_getElem? hj)
    | succ i =>
      cases j with
      | zero =>
        simp only [List.getElem?_cons_zero, Option.some.injEq, List.getElem?_cons_succ] at hi hj
        subst hj
        exact (h.2.2.1 c (List.mem_of_getElem? hi)).symm
      | succ j =>
        simp only [List.getElem?_cons_succ] at hi hj
        exact ih h.2.2.2 hi hj (by omega)

theorem Sep.keep (h : Sep L w) (hs : w.heap.size ≤ w'.heap.size) (hk : ∀ c, c ∈ L → ∀ b, c.has b → w'.heap[b]? = w.heap[b]?) : Sep L w' := by
  induction L with
  | nil => trivial
  | cons d L ih =>
    exact ⟨d.st w w' (hk d (List.mem_cons_self ..)) hs h.1, fun b hb => Nat.lt_of_lt_of_le (h.2.1 b hb) hs, h.2.2.1, ih h.2.2.2 fun c hc => hk c (List.mem_cons_of_mem _ hc)⟩

theorem Sep.below (h : Sep L w) (hb : Below w.heap.size w w') : Sep L w' := h.keep hb.size fun c hc b hbc => hb.block b ((h.ok c hc).2 b hbc)

theorem Sep.append (h : Sep L w) (h2 : Sep N w) (hc : ∀ c, c ∈ L → ∀ d, d ∈ N → c.clear d ∧ d.clear c) : Sep (L ++ N) w := by
  induction L with
  | nil => exact h2
  | cons d L ih =>
    refine ⟨h.1, h.2.1, fun e he => ?_, ih h.2.2.2 fun c hc' => hc c (List.mem_cons_of_mem _ hc')⟩
    rcases List.mem_append.1 he with he | he
    · exact h.2.2.1 e he
    · exact hc d (List.mem_cons_self ..) e he

theorem Sep.sub (h : Sep L w) (hs : List.Sublist N L) : Sep N w := by
  induction hs with
  | slnil => trivial
  | cons a _ ih => exact ih h.2.2.2
  | cons_cons a hs ih => exact ⟨h.1, h.2.1, fun d hd => h.2.2.1 d (hs.subset hd), ih h.2.2.2⟩

theorem Sep.setN : ∀ (L : List Ck) (i : Nat), Sep L w → L[i]? = some c → Sep (c' :: N) w' →
    (∀ j d, L[j]? = some d → j ≠ i → (d.ok w' ∧ ∀ b, d.has b → b < w'.heap.size) ∧ ∀ e, e ∈ c' :: N → e.clear d ∧ d.clear e) → Sep (L.set i c' ++ N) w'
  | [], _, _, hi, _, _ => by simp at hi
  | c0 :: L, 0, h, hi, hN, hd => by
    simp only [List.getElem?_cons_zero, Option.some.injEq] at hi
    subst hi
    have hd' : ∀ d, d ∈ L → (d.ok w' ∧ ∀ b, d.has b → b < w'.heap.size) ∧ ∀ e, e ∈ c' :: N → e.clear d ∧ d.clear e := fun d hm => by
      obtain ⟨j, hj⟩ := List.mem_iff_getElem?.1 hm
      exact hd (j + 1) d (by simpa using hj) (by omega)
    refine ⟨hN.1, hN.2.1, fun d hdm => ?_, ?_⟩
    · rcases List.mem_append.1 hdm with hm | hm
      · exact (hd' d hm).2 c' (List.mem_cons_self ..)
      · exact hN.2.2.1 d hm
    · have hL : Sep L w' := by
        have h3 := h.2.2.2
        have h4 : ∀ d, d ∈ L → d.ok w' ∧ ∀ b, d.has b → b < w'.heap.size := fun d hm => (hd' d hm).1
        clear hd hd' hN h
        induction L with
        | nil => trivial
        | cons e L ih => exact ⟨(h4 e (List.mem_cons_self ..)).1, (h4 e (List.mem_cons_self ..)).2, h3.2.2.1, ih h3.2.2.2 fun d hm => h4 d (List.mem_cons_of_mem _ hm)⟩
      exact hL.append hN.2.2.2 fun d hm e he => ((hd' d hm).2 e (List.mem_cons_of_mem _ he)).symm
  | d :: L, i + 1, h, hi, hN, hd => by
    simp only [List.getElem?_cons_succ] at hi
    have hg := hd 0 d rfl (by omega)
    refine ⟨hg.1.1, hg.1.2, fun e he => ?_, Sep.setN L i h.2.2.2 hi hN fun j e hj hn => hd (j + 1) e (by simpa using hj) (by omega)⟩
    rcases List.mem_append.1 he with he | he
    · rcases List.mem_or_eq_of_mem_set he with he | rfl
      · exact h.2.2.1 e he
      · exact (hg.2 _ (List.mem_cons_self ..)).symm
    · exact (hg.2 e (List.mem_cons_of_mem _ he)).symm

/-- What holds in the middle of a call that began in w0. -/
structure Post (Z : Nat → Prop) (L : List Ck) (w0 w : World) : Prop where
  sep : Sep L w
  chg : Chg Z w0 w
  mine : ∀ c, c ∈ L → ∀ b, b ∈ c.own → Z b ∨ w0.heap.size ≤ b

/-- What holds when it is over: Y are blocks that may be read on. -/
structure Done (Z Y : Nat → Prop) (L : List Ck) (w0 w : World) : Prop extends Post Z L w0 w where
  rest : ∀ c, c ∈ L → ∀ b, b ∈ c.ro → Y b ∨ w0.heap.size ≤ b

theorem Post.start (h : Sep L w0) (hz : ∀ c, c ∈ L → ∀ b, b ∈ c.own → Z b) : Post Z L w0 w0 := ⟨h, Chg.refl _ _, fun c hc b hb => .inl (hz c hc b hb)⟩

theorem Post.get (h : Post Z L w0 w) (hi : L[i]? = some c) : c.ok w := h.sep.get hi

theorem Post.below (h : Post Z L w0 w) (hb : Below w.heap.size w w') : Post Z L w0 w' := ⟨h.sep.below hb, h.chg.trans (Chg.of_below hb) (fun _ _ h => h.elim), h.mine⟩

theorem Post.sub (h : Post Z L w0 w) (hs : List.Sublist N L) : Post Z N w0 w := ⟨h.sep.sub hs, h.chg, fun c hc => h.mine c (hs.subset hc)⟩

theorem Post.done {Y : Nat → Prop} (h : Post Z L w0 w) (hr : ∀ c, c ∈ L → ∀ b, b ∈ c.ro → Y b ∨ w0.heap.size ≤ b) : Done Z Y L w0 w := ⟨h, hr⟩

theorem Post.size (h : Post Z L w0 w) : w0.heap.size ≤ w.heap.size := h.chg.size

theorem Post.add (h : Post Z L w0 w) (h2 : Done No No N w w') : Post Z (L ++ N) w0 w' := by
  have hb := h2.chg.below
  have hnew : ∀ d, d ∈ N → ∀ b, d.has b → w.heap.size ≤ b := fun d hd b hb => hb.elim (fun h => (h2.mine d hd b h).resolve_left fun h => h) (fun h => (h2.rest d hd b h).resolve_left fun h => h)
  refine ⟨(h.sep.below hb).append h2.sep fun c hc d hd => ⟨fun b h3 h4 => ?_, fun b h3 h4 => ?_⟩, h.chg.trans h2.chg (fun _ _ h => h.elim), fun c hc b hb => ?_⟩
  · have := (h.sep.ok c hc).2 b (.inl h3); have := hnew d hd b h4; omega
  · have := (h.sep.ok c hc).2 b h4; have := hnew d hd b (.inl h3); omega
  · rcases List.mem_append.1 hc with hc | hc
    · exact h.mine c hc b hb
    · exact .inr (Nat.le_trans h.size (hnew c hc b (.inl hb)))

/-- A chunk is changed, and new ones are made; what is new may read what another chunk (that owns nothing) reads. -/
theorem Post.setY {Y : Nat → Prop} (h : Post Z L w0 w) (hi : L[i]? = some c) (hY : ∀ b, Y b → b ∈ c.ro ∨ ∃ (k : Nat) (e : Ck), L[k]? = some e ∧ e.own = [] ∧ b ∈ e.ro) (h2 : Done (fun b => b ∈ c.own) Y (c' :: N) w w') : Post Z (L.set i c' ++ N) w0 w' := by
  refine ⟨Sep.setN L i h.sep hi h2.sep fun j d hj hn => ?_, h.chg.trans h2.chg (fun b hb hc => (h.mine c (List.mem_of_getElem? hi) b hc).resolve_right (by omega)), fun e he b hb => ?_⟩
  · obtain ⟨h3, h4⟩ := h.sep.clear hi hj (Ne.symm hn)
    have h5 := fun b hb => h.sep.lt hj (b := b) hb
    refine ⟨⟨d.st w w' (fun b hb => h2.chg.block b (h5 b hb) fun hc => h3 b hc hb) h2.chg.size (h.sep.get hj), fun b hb => Nat.lt_of_lt_of_le (h5 b hb) h2.chg.size⟩, fun e he => ⟨fun b h7 h8 => ?_, fun b h7 h8 => ?_⟩⟩
    · rcases h2.mine e he b h7 with h9 | h9
      · exact h3 b h9 h8
      · have := h5 b h8; omega
    · rcases h8 with h8 | h8
      · rcases h2.mine e he b h8 with h9 | h9
        · exact h4 b h7 (.inl h9)
        · have := h5 b (.inl h7); omega
      · rcases h2.rest e he b h8 with h9 | h9
        · rcases hY b h9 with h9 | ⟨k, e', hk, ho, h9⟩
          · exact h4 b h7 (.inr h9)
          · by_cases hjk : j = k
            · subst hjk
              rw [hj] at hk
              obtain rfl := Option.some.inj hk
              rw [ho] at h7; cases h7
            · exact (h.sep.clear hj hk hjk).1 b h7 (.inr h9)
        · have := h5 b (.inl h7); omega
  · have hmine : ∀ e, e ∈ c' :: N → b ∈ e.own → Z b ∨ w0.heap.size ≤ b := fun e he hb => by
      rcases h2.mine e he b hb with h9 | h9
      · exact h.mine c (List.mem_of_getElem? hi) b h9
      · exact .inr (Nat.le_trans h.size h9)
    rcases List.mem_append.1 he with he | he
    · rcases List.mem_or_eq_of_mem_set he with he | rfl
      · exact h.mine e he b hb
      · exact hmine _ (List.mem_cons_self ..) hb
    · exact hmine e (List.mem_cons_of_mem _ he) hb

theorem Post.set (h : Post Z L w0 w) (hi : L[i]? = some c) (h2 : Done (fun b => b ∈ c.own) (fun b => b ∈ c.ro) (c' :: N) w w') : Post Z (L.set i c' ++ N) w0 w' := h.setY hi (fun _ hb => .inl hb) h2

theorem Done.weak {Y Y' : Nat → Prop} (h : Done Z Y L w0 w) (hY : ∀ b, Y b → Y' b) : Done Z Y' L w0 w := ⟨h.toPost, fun c hc b hb => (h.rest c hc b hb).imp (hY b) id⟩

/-- As set, of a call that reads nothing on. -/
theorem Post.setN (h : Post Z L w0 w) (hi : L[i]? = some c) (h2 : Done (fun b => b ∈ c.own) No (c' :: N) w w') : Post Z (L.set i c' ++ N) w0 w' := h.set hi (h2.weak fun _ h => h.elim)

/-- As set, of a call that reads on what chunk k reads. -/
theorem Post.setR {k : Nat} {e : Ck} (h : Post Z L w0 w) (hi : L[i]? = some c) (hk : L[k]? = some e) (ho : e.own = []) (h2 : Done (fun b => b ∈ c.own) (fun b => b ∈ e.ro) (c' :: N) w w') : Post Z (L.set i c' ++ N) w0 w' :=
  h.setY hi (fun _ hb => .inr ⟨k, e, hk, ho, hb⟩) h2

/-! ### Cells -/
def cellC (b : Nat) (c : Array Value) (T : TypeId) : Ck := ⟨[b], [], fun w => w.heap[b]? = some (.cells c T (0, 0)), fun _ _ h _ hw => (h b (.inl (List.mem_cons_self ..))).trans hw⟩

theorem Post.cell {b : Nat} {a : Array Value} {T : TypeId} (h : Post Z L w0 w) (hi : L[i]? = some (cellC b a T)) : w.heap[b]? = some (.cells a T (0, 0)) := h.sep.get hi

theorem no_ro {b : Nat} {a : Array Value} {T : TypeId} {Y : Nat → Prop} {q : Nat} : ∀ c, c ∈ [cellC b a T] → ∀ b, b ∈ c.ro → Y b ∨ q ≤ b := fun c hc b hb => by
  rcases List.mem_singleton.1 hc with rfl
  cases hb

theorem sep_cell {b : Nat} {a : Array Value} {T : TypeId} (h : w.heap[b]? = some (.cells a T (0, 0))) : Sep [cellC b a T] w :=
  ⟨h, (fun b' hb => by rcases hb with hb | hb; (rcases List.mem_singleton.1 hb with rfl; exact lt_of_block h); (cases hb)), (fun _ h => by cases h), trivial⟩

theorem Post.new {b : Nat} {a : Array Value} {T : TypeId} (h : Post Z L w0 w) (hn : New w w' b (.cells a T (0, 0))) : Post Z (L ++ [cellC b a T]) w0 w' :=
  h.add ⟨⟨sep_cell hn.at_, Chg.of_below hn.below, fun c hc b' hb => by rcases List.mem_singleton.1 hc with rfl; rcases List.mem_singleton.1 hb with rfl; exact .inr (Nat.le_of_eq hn.eq.symm)⟩, no_ro⟩

theorem Post.upd {b : Nat} {a a' : Array Value} {T T' : TypeId} (h : Post Z L w0 w) (hi : L[i]? = some (cellC b a T)) (hu : Upd w w' b (.cells a' T' (0, 0))) : Post Z (L.set i (cellC b a' T')) w0 w' := by
  have := h.set (N := []) hi (c' := cellC b a' T') ⟨⟨sep_cell hu.at_, ⟨hu.os, hu.tape, hu.output, Nat.le_of_eq hu.size.symm, fun k _ hk => hu.other k fun e => hk (e ▸ List.mem_singleton.2 rfl)⟩, fun c hc b' hb => by rcases List.mem_singleton.1 hc with rfl; exact .inl hb⟩, no_ro⟩
  rwa [List.append_nil] at this

/-- Some chunks are picked, in whatever order, each once. -/
def distinctN : List Nat → Bool
  | [] => true
  | i :: l => (l.all fun j => !(i == j)) && distinctN l

theorem Sep.pick (h : Sep L w) : ∀ (is : List Nat) (N : List Ck), distinctN is = true → is.map (fun i => L[i]?) = N.map some → Sep N w
  | [], [], _, _ => trivial
  | [], _ :: _, _, h => by simp at h
  | _ :: _, [], _, h => by simp at h
  | i :: is, c :: N, hd, hm => by
    simp only [List.map_cons, List.cons.injEq] at hm
    simp only [distinctN, Bool.and_eq_true] at hd
    refine ⟨h.get hm.1, fun b hb => h.lt hm.1 hb, fun d hdm => ?_, Sep.pick h is N hd.2 hm.2⟩
    obtain ⟨j, hj⟩ := List.mem_iff_getElem?.1 hdm
    have h2 : (is.map fun i => L[i]?)[j]? = (N.map some)[j]? := by rw [hm.2]
    rw [List.getElem?_map, List.getElem?_map, hj] at h2
    cases hk : is[j]? with
    | none => rw [hk] at h2; simp at h2
    | some k =>
      rw [hk] at h2
      simp only [Option.map_some, Option.some.injEq] at h2
      have hn := List.all_eq_true.1 hd.1 k (List.mem_of_getElem? hk)
      exact h.clear hm.1 h2 (by simpa using hn)

theorem Sep.pk (h : Sep L w) (is : List Nat) (hd : distinctN is = true) (hm : is.map (fun i => L[i]?) = N.map some) : Sep N w := h.pick is N hd hm

theorem Post.pick (h : Post Z L w0 w) (is : List Nat) (hd : distinctN is = true) (hm : is.map (fun i => L[i]?) = N.map some) : Post Z N w0 w := by
  refine ⟨h.sep.pick is N hd hm, h.chg, fun c hc b hb => ?_⟩
  obtain ⟨j, hj⟩ := List.mem_iff_getElem?.1 hc
  have h2 : (is.map fun i => L[i]?)[j]? = (N.map some)[j]? := by rw [hm]
  rw [List.getElem?_map, List.getElem?_map, hj] at h2
  cases hk : is[j]? with
  | none => rw [hk] at h2; simp at h2
  | some k =>
    rw [hk] at h2
    simp only [Option.map_some, Option.some.injEq] at h2
    exact h.mine c (List.mem_of_getElem? h2) b hb

theorem rest_nil {Y : Nat → Prop} {q : Nat} : ∀ c, c ∈ ([] : List Ck) → ∀ b, b ∈ c.ro → Y b ∨ q ≤ b := fun c hc => by cases hc

theorem rest_cons {Y : Nat → Prop} {q : Nat} (h : c.ro = []) (ht : ∀ c, c ∈ L → ∀ b, b ∈ c.ro → Y b ∨ q ≤ b) : ∀ d, d ∈ c :: L → ∀ b, b ∈ d.ro → Y b ∨ q ≤ b := fun d hd b hb => by
  rcases List.mem_cons.1 hd with rfl | hd
  · rw [h] at hb; cases hb
  · exact ht d hd b hb

theorem rest_consP {Y : Nat → Prop} {q : Nat} (h : ∀ b, b ∈ c.ro → Y b ∨ q ≤ b) (ht : ∀ c, c ∈ L → ∀ b, b ∈ c.ro → Y b ∨ q ≤ b) : ∀ d, d ∈ c :: L → ∀ b, b ∈ d.ro → Y b ∨ q ≤ b := fun d hd b hb => by
  rcases List.mem_cons.1 hd with rfl | hd
  · exact h b hb
  · exact ht d hd b hb

theorem Post.nil (w : World) : Post No [] w w := .start trivial fun _ h => by cases h

theorem norw_nil : ∀ d, d ∈ ([] : List Ck) → d.own = [] := fun _ h => by cases h

theorem norw_cons (h : c.own = []) (ht : ∀ d, d ∈ L → d.own = []) : ∀ d, d ∈ c :: L → d.own = [] := fun d hd => by
  rcases List.mem_cons.1 hd with rfl | hd
  · exact h
  · exact ht d hd

/-- One more thing that is read alone, where nothing is owned. -/
theorem Post.addRo (h : Post Z L w0 w) (hn : ∀ d, d ∈ L → d.own = []) (hc : c.ok w) (ho : c.own = []) (hl : ∀ b, b ∈ c.ro → b < w.heap.size) : Post Z (L ++ [c]) w0 w := by
  refine ⟨h.sep.append ⟨hc, fun b hb => hb.elim (fun h => by rw [ho] at h; cases h) (hl b), (fun _ h => by cases h), trivial⟩ fun d hd e he => ?_, h.chg, fun d hd b hb => ?_⟩
  · rcases List.mem_singleton.1 he with rfl
    exact ⟨(fun b hb => by rw [hn d hd] at hb; cases hb), (fun b hb => by rw [ho] at hb; cases hb)⟩
  · rcases List.mem_append.1 hd with hd | hd
    · exact h.mine d hd b hb
    · rcases List.mem_singleton.1 hd with rfl
      rw [ho] at hb; cases hb

end

/-! ### What a region makes -/
section
variable {L N : List Ck} {c c' : Ck} {w w' w0 : World} {i : Nat} {Z : Nat → Prop}
/-- New chunks in a stretch of blocks. -/
def Fresh (N : List Ck) (lo hi : Nat) (w : World) : Prop := Sep N w ∧ ∀ c, c ∈ N → ∀ b, c.has b → lo ≤ b ∧ b < hi

def FreshL (B : Nat) (w : World) : List (List Ck × Nat × Nat) → Prop
  | [] => True
  | q :: l => Fresh q.1 q.2.1 q.2.2 w ∧ B ≤ q.2.1 ∧ (∀ p, p ∈ l → q.2.2 ≤ p.2.1 ∨ p.2.2 ≤ q.2.1) ∧ FreshL B w l

theorem FreshL.at_ {B : Nat} : ∀ {l : List (List Ck × Nat × Nat)}, FreshL B w l → ∀ q, q ∈ l → Fresh q.1 q.2.1 q.2.2 w ∧ B ≤ q.2.1
  | [], _, _, h => by cases h
  | p :: l, h, q, hq => by
    rcases List.mem_cons.1 hq with rfl | hq
    · exact ⟨h.1, h.2.1⟩
    · exact FreshL.at_ h.2.2.2 q hq

theorem FreshL.sep {B : Nat} : ∀ {l : List (List Ck × Nat × Nat)}, FreshL B w l → Sep (l.flatMap fun q => q.1) w
  | [], _ => trivial
  | q :: l, h => by
    refine (h.1.1).append (FreshL.sep h.2.2.2) fun c hc d hd => ?_
    obtain ⟨p, hp, hdp⟩ := List.mem_flatMap.1 hd
    have h1 := h.1.2 c hc
    have h2 := (FreshL.at_ h.2.2.2 p hp).1.2 d hdp
    have h3 := h.2.2.1 p hp
    exact ⟨fun b hb hb' => by have := h1 b (.inl hb); have := h2 b hb'; omega, fun b hb hb' => by have := h2 b (.inl hb); have := h1 b hb'; omega⟩

theorem FreshL.done {l : List (List Ck × Nat × Nat)} (hb : Below w.heap.size w w') (h : FreshL w.heap.size w' l) : Done No No (l.flatMap fun q => q.1) w w' := by
  have hn : ∀ c, c ∈ (l.flatMap fun q => q.1) → ∀ b, c.has b → w.heap.size ≤ b := fun c hc b hb => by
    obtain ⟨p, hp, hdp⟩ := List.mem_flatMap.1 hc
    have h2 := h.at_ p hp
    have := h2.1.2 c hdp b hb
    omega
  exact ⟨⟨h.sep, Chg.of_below hb, fun c hc b hb => .inr (hn c hc b (.inl hb))⟩, fun c hc b hb => .inr (hn c hc b (.inr hb))⟩

theorem Post.addL {l : List (List Ck × Nat × Nat)} (h : Post Z L w0 w) (hb : Below w.heap.size w w') (hf : FreshL w.heap.size w' l) : Post Z (L ++ l.flatMap fun q => q.1) w0 w' := h.add (hf.done hb)

theorem disj_nil {lo hi : Nat} : ∀ p, p ∈ ([] : List (List Ck × Nat × Nat)) → hi ≤ p.2.1 ∨ p.2.2 ≤ lo := fun _ h => by cases h

theorem disj_cons {lo hi : Nat} {q : List Ck × Nat × Nat} {l : List (List Ck × Nat × Nat)} (h : hi ≤ q.2.1 ∨ q.2.2 ≤ lo) (ht : ∀ p, p ∈ l → hi ≤ p.2.1 ∨ p.2.2 ≤ lo) : ∀ p, p ∈ q :: l → hi ≤ p.2.1 ∨ p.2.2 ≤ lo := fun p hp => by
  rcases List.mem_cons.1 hp with rfl | hp
  · exact h
  · exact ht p hp

theorem Fresh.cell {b hi : Nat} {a : Array Value} {T : TypeId} (hl : b < hi) (h : w.heap[b]? = some (.cells a T (0, 0))) : Fresh [cellC b a T] b hi w :=
  ⟨sep_cell h, fun c hc b' hb => by
    rcases List.mem_singleton.1 hc with rfl
    rcases hb with hb | hb
    · rcases List.mem_singleton.1 hb with rfl; omega
    · cases hb⟩

/-- What a call makes, told by what isn't known of it. -/
def MkP {G : Type} (val : G → Value) (N : G → List Ck) : Value → Nat → Nat → World → Prop := fun v lo hi w => ∃ y, v = val y ∧ Fresh (N y) lo hi w

theorem MkP.st {G : Type} (val : G → Value) (N : G → List Ck) {B : Nat} {S : Nat → Prop} : ∀ v lo hi w1 w2, MkP val N v lo hi w1 → Kept B S lo hi w1 w2 → MkP val N v lo hi w2 := by
  rintro v lo hi w1 w2 ⟨y, hv, hs, hb⟩ ⟨_, _, _, hz, hk⟩
  exact ⟨y, hv, hs.keep hz fun c hc b hcb => hk b (.inr (hb c hc b hcb)), hb⟩

theorem MkP.of {G : Type} {val : G → Value} {N : G → List Ck} (y : G) (h : Done No No (N y) w w') : MkP val N (val y) w.heap.size w'.heap.size w' :=
  ⟨y, rfl, h.sep, fun c hc b hb => ⟨hb.elim (fun h' => (h.mine c hc b h').resolve_left fun h => h) (fun h' => (h.rest c hc b h').resolve_left fun h => h), (h.sep.ok c hc).2 b hb⟩⟩

end

/-! ### A region with one operation that changes a chunk -/
section
theorem Upd.kept {w w' : World} {b : Nat} {o : Obj} (h : Upd w w' b o) : Kept w.heap.size (fun k => k ∈ [b]) 0 0 w w' :=
  ⟨h.os, h.tape, h.output, Nat.le_of_eq h.size.symm, fun k hk => h.other k (by rcases hk with hk | hk; (exact fun e => hk.2 (List.mem_singleton.2 e)); omega)⟩

theorem fresh_nil {lo hi : Nat} {w : World} : Fresh [] lo hi w := ⟨trivial, fun _ h => by cases h⟩

variable {L : List Ck} {c c' d : Ck} {w w' w0 : World} {i j : Nat} {Z : Nat → Prop}
theorem drK {S : Nat → Prop} {n : Nat} (h : Chg S { w with drawn := n } w') : Chg S w w' := ⟨h.os, h.tape, h.output, h.size, h.block⟩

theorem Post.okK (h : Post Z L w0 w) (hj : L[j]? = some c) (hk : Chg (fun b => b ∈ c.own) w w') (hi : L[i]? = some d) (hne : (j == i) = false) : d.ok w' := by
  have hcl := h.sep.clear hj hi (by simpa using hne)
  exact d.st w w' (fun b hb => hk.block b (h.sep.lt hi hb) fun hc => hcl.1 b hc hb) hk.size (h.sep.get hi)

theorem Post.cellK {b : Nat} {a : Array Value} {T : TypeId} (h : Post Z L w0 w) (hj : L[j]? = some c) (hk : Chg (fun b => b ∈ c.own) w w') (hi : L[i]? = some (cellC b a T)) (hne : (j == i) = false) : w'.heap[b]? = some (.cells a T (0, 0)) := h.okK hj hk hi hne

theorem Post.effL {l : List (List Ck × Nat × Nat)} (h : Post Z L w0 w) (hi : L[i]? = some c) (hk : Chg (fun b => b ∈ c.own) w w') (hc : c'.ok w') (ho : c'.own = c.own) (hr : c'.ro = c.ro) (hf : FreshL w.heap.size w' l) :
    Post Z (L.set i c' ++ l.flatMap fun q => q.1) w0 w' := by
  have hn : ∀ d, d ∈ (l.flatMap fun q => q.1) → ∀ b, d.has b → w.heap.size ≤ b := fun d hd b hb => by
    obtain ⟨p, hp, hdp⟩ := List.mem_flatMap.1 hd
    have h2 := hf.at_ p hp
    have := h2.1.2 d hdp b hb
    omega
  have hlt : ∀ b, c'.has b → b < w.heap.size := fun b hb => h.sep.lt hi (by rcases hb with hb | hb; exact .inl (ho ▸ hb); exact .inr (hr ▸ hb))
  refine h.set hi ⟨⟨⟨hc, fun b hb => Nat.lt_of_lt_of_le (hlt b hb) hk.size, fun d hd => ⟨fun b hb hb' => ?_, fun b hb hb' => ?_⟩, hf.sep⟩, hk, fun d hd b hb => ?_⟩, fun d hd b hb => ?_⟩
  · have := hlt b (.inl hb); have := hn d hd b hb'; omega
  · have := hlt b hb'; have := hn d hd b (.inl hb); omega
  · rcases List.mem_cons.1 hd with rfl | hd
    · exact .inl (ho ▸ hb)
    · exact .inr (hn d hd b (.inl hb))
  · rcases List.mem_cons.1 hd with rfl | hd
    · exact .inl (hr ▸ hb)
    · exact .inr (hn d hd b (.inr hb))

/-- What a call that changes a chunk comes to. -/
def EffP {G : Type} (B : Nat) (c' : Ck) (val : G → Value) (N : G → List Ck) : Value → Nat → Nat → World → Prop := fun v lo hi w => ∃ y, v = val y ∧ c'.ok w ∧ (∀ b, c'.has b → b < B) ∧ Fresh (N y) lo hi w

theorem EffP.st {G : Type} (B : Nat) (c' : Ck) (val : G → Value) (N : G → List Ck) : ∀ v lo hi w1 w2, EffP B c' val N v lo hi w1 → Kept B (fun _ => False) lo hi w1 w2 → EffP B c' val N v lo hi w2 := by
  rintro v lo hi w1 w2 ⟨y, hv, hc, hb, hs, hn⟩ ⟨_, _, _, hz, hk⟩
  exact ⟨y, hv, c'.st _ _ (fun b h => hk b (.inl ⟨hb b h, fun h => h⟩)) hz hc, hb, hs.keep hz fun c hc b hcb => hk b (.inr (hn c hc b hcb)), hn⟩

theorem EffP.val {B : Nat} {v0 : Value} {N : Unit → List Ck} {v : Value} {lo hi : Nat} {w : World} (h : EffP B c' (fun _ : Unit => v0) N v lo hi w) : v = v0 := h.choose_spec.1

theorem EffP.of {G : Type} {B : Nat} {val : G → Value} {N : G → List Ck} (y : G) (h : Done (fun b => b ∈ c.own) No (c' :: N y) w w') (ho : c'.own = c.own) (hlt : ∀ b, c'.has b → b < B) :
    EffP B c' val N (val y) w.heap.size w'.heap.size w' := by
  refine ⟨y, rfl, h.sep.1, hlt, h.sep.2.2.2, fun d hd b hb => ⟨?_, (h.sep.2.2.2.ok d hd).2 b hb⟩⟩
  have hcl := h.sep.2.2.1 d hd
  rcases hb with hb | hb
  · rcases h.mine d (List.mem_cons_of_mem _ hd) b hb with h1 | h1
    · exact absurd (.inl (ho ▸ h1)) (hcl.2 b hb)
    · exact h1
  · exact (h.rest d (List.mem_cons_of_mem _ hd) b hb).resolve_left fun h => h

end
section
variable {P : Program} {Q : Exit → Act → World → Prop} {L : List Oper} {a : Act} {w : World} {N : Nat} {s : SL} {bs : List Nat}
theorem eachE_early {fs : Nat → Fact w.heap.size (fun b => b ∈ bs)} {o : Oper} {l : List Oper} {i : Nat} (r : Fr a N s) (hd : (o.guard.isNone && dstsIn N L) = true) (he : early L (fun i => (fs i).sh) i = true)
    (h : ∀ a' g w', Below w.heap.size w w' → (∀ j, awaits o j = true → (fs j).ok g j w' ∧ w.heap.size ≤ (g j).lo ∧ (g j).hi ≤ w'.heap.size ∧ ∀ q, awaits o q = true → q ≠ j → (g j).hi ≤ (g q).lo ∨ (g q).hi ≤ (g j).lo) → Fr a' N (putsS L (fun j => (g j).v) 0 s) →
      Yields P o a' w' fun v w'' => (fs i).mk g v w' w'') (h2 : EachF P L fs a w l (i + 1)) : EachF P L fs a w (o :: l) i := by
  simp only [Bool.and_eq_true] at hd
  exact ⟨fun g w' h1 h3 h4 h5 h6 h7 => .plain hd.1 (h _ g w' ⟨h1, h3, h4, h5, fun b hb => h6 b hb (.inr he)⟩ h7 (r.puts L _ 0 hd.2)), h2⟩

theorem eachE_late {fs : Nat → Fact w.heap.size (fun b => b ∈ bs)} {o : Oper} {l : List Oper} {i : Nat} (r : Fr a N s) (hd : (o.guard.isNone && dstsIn N L) = true)
    (h : ∀ a' g w', Chg (fun b => b ∈ bs) w w' → (∀ j, awaits o j = true → (fs j).ok g j w' ∧ w.heap.size ≤ (g j).lo ∧ (g j).hi ≤ w'.heap.size ∧ ∀ q, awaits o q = true → q ≠ j → (g j).hi ≤ (g q).lo ∨ (g q).hi ≤ (g j).lo) → Fr a' N (putsS L (fun j => (g j).v) 0 s) →
      Yields P o a' w' fun v w'' => (fs i).mk g v w' w'') (h2 : EachF P L fs a w l (i + 1)) : EachF P L fs a w (o :: l) i := by
  simp only [Bool.and_eq_true] at hd
  exact ⟨fun g w' h1 h3 h4 h5 h6 h7 => .plain hd.1 (h _ g w' ⟨h1, h3, h4, h5, fun b hb hn => h6 b hb (.inl hn)⟩ h7 (r.puts L _ 0 hd.2)), h2⟩

theorem wp_freeE {id : Nat} (bs : List Nat) (fl : List (Fact w.heap.size (fun b => b ∈ bs))) (hm : P.follows .mixedOrders = true) (r : Fr a N s) (hS : ∀ b, b ∈ bs → b < w.heap.size) (hs : (freely L (fun i => (fact fl i).sh) && dstsIn N L && okW L fl) = true)
    (he : EachF P L (fact fl) a { w with drawn := w.drawn + 1 } L 0)
    (hl : ∀ a' g w', Chg (fun b => b ∈ bs) w w' → (∀ i, Nat.ble (i + 1) L.length = true → (fact fl i).ok g i w' ∧ w.heap.size ≤ (g i).lo ∧ (g i).lo ≤ (g i).hi ∧ (g i).hi ≤ w'.heap.size) →
      (∀ i j, (!(i == j) && Nat.ble (i + 1) L.length && Nat.ble (j + 1) L.length) = true → (g i).hi ≤ (g j).lo ∨ (g j).hi ≤ (g i).lo) → Fr a' N (putsS L (fun j => (g j).v) 0 s) → Q .normal a' w') :
    (Code.region id L.toArray true).wp P Q a w := by
  simp only [Bool.and_eq_true] at hs
  refine wp_free (fact fl) (okW_at hs.2) hm rfl hS hs.1.1 (okN_at hs.2) he fun g w' h1 h2 h3 h4 h5 h6 h7 => hl _ g w' ⟨h1, h2, h3, h4, fun b hb hn => h5 b hb hn⟩ (fun i hi => h6 i (Nat.le_of_ble_eq_true hi)) (fun i j hij => ?_) (r.puts L _ 0 hs.1.2)
  simp only [Bool.and_eq_true, Bool.not_eq_true', beq_eq_false_iff_ne] at hij
  exact h7 i j hij.1.1 (Nat.le_of_ble_eq_true hij.1.2) (Nat.le_of_ble_eq_true hij.2)

end

/-! ### Loops and joins with things that aren't told -/
section
variable {P : Program} {Q : Exit → Act → World → Prop} {c : Code} {a : Act} {w : World} {N : Nat} {s : SL} {X Y Z G : Type}

def RoundPostG (Q : Exit → Act → World → Prop) (id N : Nat) (S : X → G → List (Nat × Value)) (I : X → G → World → Prop) (z : Z) (y : Lp X Z) : Exit → Act → World → Prop
  | .normal, a, w => ∃ x' γ' s', y = .next x' ∧ Fr a N s' ∧ (∀ q, q ∈ S x' γ' → look s' q.1 = q.2) ∧ I x' γ' w
  | .exit id', a, w => id' = id ∧ ∃ x' γ' s', y = .brk x' ∧ Fr a N s' ∧ (∀ q, q ∈ S x' γ' → look s' q.1 = q.2) ∧ I x' γ' w
  | .ret, a, w => ∃ z', y = .ret z' ∧ (z' = z → Q .ret a w)
  | _, _, _ => False

theorem wp_loopG {id : Nat} {body : X → Option (Lp X Z)} {f : X → Option Z} {z : Z} {k : Nat} {x0 : X} (S : X → G → List (Nat × Value)) (I : X → G → World → Prop) (γ0 : G) (r : Fr a N s) (hs : ∀ q, q ∈ S x0 γ0 → look s q.1 = q.2) (h0 : I x0 γ0 w)
    (hD : loopThen body k x0 f = some z)
    (round : ∀ x γ a w g y (RP : Exit → Act → World → Prop),
      (∀ x' γ' s' a' w', some (Lp.next x') = some y → Fr a' N s' → (∀ q, q ∈ S x' γ' → look s' q.1 = q.2) → I x' γ' w' → RP .normal a' w') →
      (∀ x' γ' s' a' w', some (Lp.brk x') = some y → Fr a' N s' → (∀ q, q ∈ S x' γ' → look s' q.1 = q.2) → I x' γ' w' → RP (.exit id) a' w') →
      (∀ z' a' w', some (Lp.ret z') = some y → (some z' = some z → Q .ret a' w') → RP .ret a' w') →
      Fr a N (pushes (S x γ) (.base g)) → I x γ w → body x = some y → c.wp P RP a w)
    (rest : ∀ x γ a w g, Fr a N (pushes (S x γ) (.base g)) → I x γ w → f x = some z → Q .normal a w) : (Code.block id (.loop c)).wp P Q a w := by
  obtain ⟨q, hL, hq⟩ := bindD_elim hD
  refine wp_block ?_
  refine wp_loopF (X := (X × G) × Nat) (fun x => S x.1.1 x.1.2) (fun x w => I x.1.1 x.1.2 w ∧ runLoop body x.2 x.1.1 = some q) (fun x => x.2) ((x0, γ0), k) r hs ⟨h0, hL⟩ ?_
  rintro ⟨⟨x, γ⟩, m⟩ a w g hr ⟨hi, hm⟩
  cases m with
  | zero => cases hm
  | succ m =>
    obtain ⟨y, hy, hgo⟩ := bindD_elim hm
    refine Code.wp_mono ?_ (round x γ a w g y (RoundPostG Q id N S I z y) (fun x' γ' s' a' w' h r hs hi => ⟨x', γ', s', (Option.some.inj h).symm, r, hs, hi⟩) (fun x' γ' s' a' w' h r hs hi => ⟨rfl, x', γ', s', (Option.some.inj h).symm, r, hs, hi⟩)
      (fun z' a' w' h hq => ⟨z', (Option.some.inj h).symm, fun h => hq (congrArg some h)⟩) hr hi hy)
    intro e a' w' h
    cases e with
    | normal =>
      obtain ⟨x', γ', s', rfl, h2, h3, h4⟩ := h
      exact ⟨((x', γ'), m), s', h2, h3, ⟨h4, hgo⟩, Nat.lt_succ_self m⟩
    | exit id' =>
      obtain ⟨rfl, x', γ', s', rfl, h2, h3, h4⟩ := h
      have hqe : q = .brk x' := (Option.some.inj hgo).symm
      subst hqe
      show Exit.inBlock id' Q (.exit id') a' w'
      simp only [Exit.inBlock, if_true]
      exact rest x' γ' a' w' _ (h2.forget _ h3) h4 hq
    | ret =>
      obtain ⟨z', rfl, h2⟩ := h
      have hqe : q = .ret z' := (Option.some.inj hgo).symm
      subst hqe
      exact h2 (Option.some.inj hq)
    | _ => exact h.elim

/-- Code that comes to its end, with what it told. -/
theorem wp_joinG {f : Y → Option Z} {t : Option Y} {z : Z} (S : Y → G → List (Nat × Value)) (I : Y → G → World → Prop) (hD : t.bind f = some z)
    (body : ∀ y (RP : Exit → Act → World → Prop), (∀ y' γ s' a' w', some y' = some y → Fr a' N s' → (∀ q, q ∈ S y' γ → look s' q.1 = q.2) → I y' γ w' → RP .normal a' w') → t = some y → c.wp P RP a w)
    (rest : ∀ y γ a w g, Fr a N (pushes (S y γ) (.base g)) → I y γ w → f y = some z → Q .normal a w) : c.wp P Q a w := by
  obtain ⟨y, hy, hf⟩ := bindD_elim hD
  refine Code.wp_mono ?_ (body y (fun e a' w' => e = .normal ∧ ∃ γ s', Fr a' N s' ∧ (∀ q, q ∈ S y γ → look s' q.1 = q.2) ∧ I y γ w') (fun y' γ s' a' w' h r hs hi => by
    obtain rfl : y' = y := Option.some.inj h
    exact ⟨rfl, γ, s', r, hs, hi⟩) hy)
  rintro e a' w' ⟨rfl, γ, s', h2, h3, h4⟩
  exact rest y γ a' w' _ (h2.forget _ h3) h4 hf

end
end Go.Proofs.YtjkinpbfmihhdaaGreat
