/- Some of our texts, one behind the other. -/
import Derived.Test.YtjkinpbfmihhdaaGreatCrM1
import Derived.Test.YtjkinpbfmihhdaaGreatRows
set_option linter.all false
/- Written by a program of ours (wip/gen.py): plans -/
set_option linter.unusedVariables false
set_option maxRecDepth 20000
set_option maxHeartbeats 2000000
namespace Go.Proofs.YtjkinpbfmihhdaaGreat
open Go.RowKit
theorem cl136 : callable Tryz.prog 136 = true := by kernel_rfl

theorem cl142 : callable Tryz.prog 142 = true := by kernel_rfl

theorem cl143 : callable Tryz.prog 143 = true := by kernel_rfl

theorem cl144 : callable Tryz.prog 144 = true := by kernel_rfl

theorem cl158 : callable Tryz.prog 158 = true := by kernel_rfl

theorem cl159 : callable Tryz.prog 159 = true := by kernel_rfl

theorem cl166 : callable Tryz.prog 166 = true := by kernel_rfl

theorem cl235 : callable Tryz.prog 235 = true := by kernel_rfl

theorem cl261 : callable Tryz.prog 261 = true := by kernel_rfl

theorem fo25_0 : fieldOff Tryz.prog 25 0 0 = true := by kernel_rfl

theorem fo25_1 : fieldOff Tryz.prog 25 1 1 = true := by kernel_rfl

theorem fo25_2 : fieldOff Tryz.prog 25 2 2 = true := by kernel_rfl

theorem fo25_3 : fieldOff Tryz.prog 25 3 3 = true := by kernel_rfl

theorem fo25_4 : fieldOff Tryz.prog 25 4 4 = true := by kernel_rfl

theorem fo25_5 : fieldOff Tryz.prog 25 5 5 = true := by kernel_rfl

theorem mixed : Tryz.prog.follows .mixedOrders = true := by kernel_rfl

theorem ta216 : tyA Tryz.prog 216 3 = true := by kernel_rfl

theorem ta25 : tyA Tryz.prog 25 6 = true := by kernel_rfl

theorem to3 : tyO Tryz.prog 3 = true := by kernel_rfl

theorem ts216 : sized Tryz.prog 216 3 = true := by kernel_rfl

theorem tz216 : zeroOf Tryz.prog 216 = some (.agg (boundC (⟨0, 0, 0⟩ : Bound)).toArray) := by kernel_rfl

def D.zz0w (a0 : Plan) : Bool := (bif (D.zz10 ([(⟨a0.nodes, 1, 1048576⟩ : Bound), (⟨a0.threads, 1, 16⟩ : Bound), (⟨a0.domains, 0, 64⟩ : Bound), (⟨a0.buckets, 1, 256⟩ : Bound), (⟨a0.gen, 1, 1073741823⟩ : Bound)])) then (D.zz10 ([(⟨a0.retire, (IntKind.i64.wrap ((IntKind.i64.wrap (3 * a0.threads)) + 1)), 1024⟩ : Bound)])) else false)

theorem zz3k (w0 : World) 
    (a0 : Plan) :
    Calls Tryz.prog 136 #[.agg (planC a0).toArray] w0 (PureRes (.bool (D.zz0w a0)) w0) := by
 refine enter Tryz.func136 rfl 31 rfl rfl fun fr r => ?_
 have hB := Below.refl w0.heap.size w0
 refine wsr ?_
 refine seq_new (.cells ((planC a0)).toArray 25 (0, 0)) r (fun R => y_box r (v := (.agg (planC a0).toArray)) rfl) rfl fun fr b1 w2 n3 r => ?_
 obtain ⟨e_b1, z_w2, h_b1, hB, zB⟩ := n3.all hB
 refine seq_val (.bool false) r (fun R => zz04 r rfl) rfl fun fr r => ?_
 refine wn ?_
 refine wsr ?_
 refine seq_val _ r (fun R => zz02 r (o := 0) rfl fo25_0) rfl fun fr r => ?_
 refine seq_val (I a0.nodes) r (fun R => zz01 r rfl h_b1 to3 rfl) rfl fun fr r => ?_
 refine seq_val (.agg (boundC (⟨a0.nodes, 1, 1048576⟩ : Bound)).toArray) r (fun R => y_build r (by kernel_rfl)) rfl fun fr r => ?_
 refine seq_val _ r (fun R => zz02 r (o := 0) rfl fo25_1) rfl fun fr r => ?_
 refine seq_val (I a0.threads) r (fun R => zz01 r rfl h_b1 to3 rfl) rfl fun fr r => ?_
 refine seq_val (.agg (boundC (⟨a0.threads, 1, 16⟩ : Bound)).toArray) r (fun R => y_build r (by kernel_rfl)) rfl fun fr r => ?_
 refine seq_val _ r (fun R => zz02 r (o := 0) rfl fo25_3) rfl fun fr r => ?_
 refine seq_val (I a0.domains) r (fun R => zz01 r rfl h_b1 to3 rfl) rfl fun fr r => ?_
 refine seq_val (.agg (boundC (⟨a0.domains, 0, 64⟩ : Bound)).toArray) r (fun R => y_build r (by kernel_rfl)) rfl fun fr r => ?_
 refine seq_val _ r (fun R => zz02 r (o := 0) rfl fo25_4) rfl fun fr r => ?_
 refine seq_val (I a0.buckets) r (fun R => zz01 r rfl h_b1 to3 rfl) rfl fun fr r => ?_
 refine seq_val (.agg (boundC (⟨a0.buckets, 1, 256⟩ : Bound)).toArray) r (fun R => y_build r (by kernel_rfl)) rfl fun fr r => ?_
 refine seq_val _ r (fun R => zz02 r (o := 0) rfl fo25_5) rfl fun fr r => ?_
 refine seq_val (I a0.gen) r (fun R => zz01 r rfl h_b1 to3 rfl) rfl fun fr r => ?_
 refine seq_val (.agg (boundC (⟨a0.gen, 1, 1073741823⟩ : Bound)).toArray) r (fun R => y_build r (by kernel_rfl)) rfl fun fr r => ?_
 refine seq_newS (.cells ((boundsC [(⟨a0.nodes, 1, 1048576⟩ : Bound), (⟨a0.threads, 1, 16⟩ : Bound), (⟨a0.domains, 0, 64⟩ : Bound), (⟨a0.buckets, 1, 256⟩ : Bound), (⟨a0.gen, 1, 1073741823⟩ : Bound)])).toArray 216 (0, 0)) 5 r (fun R => zz40 r (by kernel_rfl)) rfl fun fr b4 w5 n6 r => ?_
 have h_b1 := keep n6.below h_b1
 obtain ⟨e_b4, z_w5, h_b4, hB, zB⟩ := n6.all hB
 refine zz06 r (c_plan_within w5 ([(⟨a0.nodes, 1, 1048576⟩ : Bound), (⟨a0.threads, 1, 16⟩ : Bound), (⟨a0.domains, 0, 64⟩ : Bound), (⟨a0.buckets, 1, 256⟩ : Bound), (⟨a0.gen, 1, 1073741823⟩ : Bound)]) h_b4 (by first | assumption | decide | (simp; done))) (fun R hc => y_call r rfl cl235 hc) rfl ?_
 rintro _ w7 ⟨rfl, hb⟩
 refine ⟨_, rfl, fun fr r => ?_⟩
 have z_w7 := hb.size
 have h_b1 := keep hb h_b1
 have h_b4 := keep hb h_b4
 obtain ⟨hB, zB⟩ := bon hb hB
 refine seq_val (.bool (D.zz10 ([(⟨a0.nodes, 1, 1048576⟩ : Bound), (⟨a0.threads, 1, 16⟩ : Bound), (⟨a0.domains, 0, 64⟩ : Bound), (⟨a0.buckets, 1, 256⟩ : Bound), (⟨a0.gen, 1, 1073741823⟩ : Bound)]))) r (fun R => y_move r rfl) rfl fun fr r => ?_
 refine zz0r (D.zz10 ([(⟨a0.nodes, 1, 1048576⟩ : Bound), (⟨a0.threads, 1, 16⟩ : Bound), (⟨a0.domains, 0, 64⟩ : Bound), (⟨a0.buckets, 1, 256⟩ : Bound), (⟨a0.gen, 1, 1073741823⟩ : Bound)])) (fun h8 => ?_) (fun h8 => ?_)
 ·
  refine s1 r h8 ?_
  refine seq_val _ r (fun R => zz02 r (o := 0) rfl fo25_2) rfl fun fr r => ?_
  refine s1 r h8 ?_
  refine seq_val (I a0.retire) r (fun R => zz01 r rfl h_b1 to3 rfl) rfl fun fr r => ?_
  refine s1 r h8 ?_
  refine seq_val _ r (fun R => zz02 r (o := 0) rfl fo25_1) rfl fun fr r => ?_
  refine s1 r h8 ?_
  refine seq_val (I a0.threads) r (fun R => zz01 r rfl h_b1 to3 rfl) rfl fun fr r => ?_
  refine s1 r h8 ?_
  refine seq_val _ r (fun R => y_bin r rfl rfl rfl rfl) rfl fun fr r => ?_
  refine s1 r h8 ?_
  refine seq_val _ r (fun R => y_bin r rfl rfl rfl rfl) rfl fun fr r => ?_
  refine s1 r h8 ?_
  refine seq_val (.agg (boundC (⟨a0.retire, (W ((W (3 * a0.threads)) + 1)), 1024⟩ : Bound)).toArray) r (fun R => y_build r (by kernel_rfl)) rfl fun fr r => ?_
  refine s1 r h8 ?_
  refine seq_newS (.cells ((boundsC [(⟨a0.retire, (W ((W (3 * a0.threads)) + 1)), 1024⟩ : Bound)])).toArray 216 (0, 0)) 1 r (fun R => zz40 r (by kernel_rfl)) rfl fun fr b9 w10 n11 r => ?_
  have h_b1 := keep n11.below h_b1
  have h_b4 := keep n11.below h_b4
  obtain ⟨e_b9, z_w10, h_b9, hB, zB⟩ := n11.all hB
  refine s1 r h8 ?_
  refine zz06 r (c_plan_within w10 ([(⟨a0.retire, (W ((W (3 * a0.threads)) + 1)), 1024⟩ : Bound)]) h_b9 (by first | assumption | decide | (simp; done))) (fun R hc => y_call r rfl cl235 hc) rfl ?_
  rintro _ w12 ⟨rfl, hb⟩
  refine ⟨_, rfl, fun fr r => ?_⟩
  have z_w12 := hb.size
  have h_b1 := keep hb h_b1
  have h_b4 := keep hb h_b4
  have h_b9 := keep hb h_b9
  obtain ⟨hB, zB⟩ := bon hb hB
  refine seq_val (.bool (D.zz10 ([(⟨a0.retire, (W ((W (3 * a0.threads)) + 1)), 1024⟩ : Bound)]))) r (fun R => y_pick r (b := true) (congrArg Value.bool h8) rfl) rfl fun fr r => ?_
  refine seq_val (.bool (D.zz10 ([(⟨a0.retire, (W ((W (3 * a0.threads)) + 1)), 1024⟩ : Bound)]))) r (fun R => zz04 r rfl) rfl fun fr r => ?_
  refine wn ?_
  refine wp_ret ?_
  have hd : D.zz0w a0 = (D.zz10 ([(⟨a0.retire, (W ((W (3 * a0.threads)) + 1)), 1024⟩ : Bound)])) := (cond_t h8).trans (rfl)
  refine ret_tmp r rfl rfl ?_
  rw [hd]
  exact ⟨rfl, hB⟩
 ·
  refine s0 r h8 fun fr r => ?_
  refine s0 r h8 fun fr r => ?_
  refine s0 r h8 fun fr r => ?_
  refine s0 r h8 fun fr r => ?_
  refine s0 r h8 fun fr r => ?_
  refine s0 r h8 fun fr r => ?_
  refine s0 r h8 fun fr r => ?_
  refine s0 r h8 fun fr r => ?_
  refine s0 r h8 fun fr r => ?_
  refine seq_val (.bool false) r (fun R => y_pick r (b := false) (congrArg Value.bool h8) rfl) rfl fun fr r => ?_
  refine seq_val (.bool false) r (fun R => zz04 r rfl) rfl fun fr r => ?_
  refine wn ?_
  refine wp_ret ?_
  have hd : D.zz0w a0 = false := (cond_f h8).trans (rfl)
  refine ret_tmp r rfl rfl ?_
  rw [hd]
  exact ⟨rfl, hB⟩

def D.zz18 (a0 : Plan) : Int := (maxI 2 a0.buckets)

theorem c_plan_Plan_cells (w0 : World) 
    (a0 : Plan) :
    Calls Tryz.prog 166 #[.agg (planC a0).toArray] w0 (PureRes (.int .i64 (D.zz18 a0)) w0) := by
 refine enter Tryz.func166 rfl 6 rfl rfl fun fr r => ?_
 have hB := Below.refl w0.heap.size w0
 refine wsr ?_
 refine seq_new (.cells ((planC a0)).toArray 25 (0, 0)) r (fun R => y_box r (v := (.agg (planC a0).toArray)) rfl) rfl fun fr b1 w2 n3 r => ?_
 obtain ⟨e_b1, z_w2, h_b1, hB, zB⟩ := n3.all hB
 refine seq_val (I 0) r (fun R => zz04 r rfl) rfl fun fr r => ?_
 refine wn ?_
 refine wsr ?_
 refine seq_val _ r (fun R => zz02 r (o := 0) rfl fo25_4) rfl fun fr r => ?_
 refine seq_val (I a0.buckets) r (fun R => zz01 r rfl h_b1 to3 rfl) rfl fun fr r => ?_
 refine seq_val (I (maxI 2 a0.buckets)) r (fun R => y_max r (m := 2) (n := a0.buckets) rfl rfl) rfl fun fr r => ?_
 refine seq_val (I (maxI 2 a0.buckets)) r (fun R => zz04 r rfl) rfl fun fr r => ?_
 refine wn ?_
 refine wp_ret ?_
 refine ret_tmp r rfl rfl ?_
 exact ⟨rfl, hB⟩

def D.zz0f (a0 : Plan) : Int := (IntKind.i64.wrap (1 + (IntKind.i64.wrap (a0.domains * (IntKind.i64.wrap (1 + (D.zz18 a0)))))))

theorem zz5y (w0 : World) 
    (a0 : Plan) :
    Calls Tryz.prog 143 #[.agg (planC a0).toArray] w0 (PureRes (.int .i64 (D.zz0f a0)) w0) := by
 refine enter Tryz.func143 rfl 10 rfl rfl fun fr r => ?_
 have hB := Below.refl w0.heap.size w0
 refine wsr ?_
 refine seq_new (.cells ((planC a0)).toArray 25 (0, 0)) r (fun R => y_box r (v := (.agg (planC a0).toArray)) rfl) rfl fun fr b1 w2 n3 r => ?_
 obtain ⟨e_b1, z_w2, h_b1, hB, zB⟩ := n3.all hB
 refine seq_val (I 0) r (fun R => zz04 r rfl) rfl fun fr r => ?_
 refine wn ?_
 refine wp_seq ?_
 refine zz1c 7 [.val (.pointer (some ⟨b1, 3, none⟩)), .val (I a0.domains), .val (.agg (planC a0).toArray), .val (I (D.zz18 a0)), .val (I (W (1 + (D.zz18 a0)))), .val (I (W (a0.domains * (W (1 + (D.zz18 a0)))))), .val (I (W (1 + (W (a0.domains * (W (1 + (D.zz18 a0))))))))] mixed r (by kernel_rfl) (zz00 (by exact trivial) (zz00 (by exact trivial) (zz00 (by exact trivial) (zz00 (by exact trivial) (zz00 (by exact trivial) (zz00 (by exact trivial) (zz00 (by exact trivial) zz12))))))) ?_ ?_
 ·
  refine ec r (fun _ u _ b d s => zz02 s (b := b1) (o := 0) rfl fo25_3 bz) ?_
  refine ec r (fun _ u _ b d s => zz01 s d.1 (keep b h_b1) to3 rfl bz) ?_
  refine ec r (fun _ u _ b d s => zz03 s (cs := (planC a0)) (n := 6) rfl (keep b h_b1) ta25 rfl bz) ?_
  refine ec r (fun fr1 u w' hb' hd r' => y_call r' (args := [(.agg (planC a0).toArray)]) (lc hd.1 l0) cl166 ((c_plan_Plan_cells _ a0).mono (by rintro _ w2 ⟨rfl, hb2⟩; exact ⟨_, rfl, hb2, rfl⟩))) ?_
  refine ec r (fun _ u _ b d s => y_bin s rfl d.1 rfl rfl bz) ?_
  refine ec r (fun _ u _ b d s => y_bin s d.1 d.2.1 rfl rfl bz) ?_
  refine ec r (fun _ u _ b d s => y_bin s rfl d.1 rfl rfl bz) ?_
  exact zz1l
 ·
  intro fr u w4 hb hΦ hne r
  have r := r.congr (sc (hΦ 6 (by decide)) (sc (hΦ 5 (by decide)) (sc (hΦ 4 (by decide)) (sc (hΦ 3 (by decide)) (sc (hΦ 2 (by decide)) (sc (hΦ 1 (by decide)) (sc (hΦ 0 (by decide)) rfl)))))))
  have z_w4 := hb.size
  have h_b1 := keep hb h_b1
  obtain ⟨hB, zB⟩ := bon hb hB
  refine seq_val (I (W (1 + (W (a0.domains * (W (1 + (D.zz18 a0)))))))) r (fun R => zz04 r rfl) rfl fun fr r => ?_
  refine wn ?_
  refine wp_ret ?_
  refine ret_tmp r rfl rfl ?_
  exact ⟨rfl, hB⟩

def D.zz0m (a0 : Plan) : Int := (IntKind.i64.wrap ((D.zz0f a0) + (IntKind.i64.wrap (a0.threads * 3))))

theorem zz4h (w0 : World) 
    (a0 : Plan) :
    Calls Tryz.prog 261 #[.agg (planC a0).toArray] w0 (PureRes (.int .i64 (D.zz0m a0)) w0) := by
 refine enter Tryz.func261 rfl 9 rfl rfl fun fr r => ?_
 have hB := Below.refl w0.heap.size w0
 refine wsr ?_
 refine seq_new (.cells ((planC a0)).toArray 25 (0, 0)) r (fun R => y_box r (v := (.agg (planC a0).toArray)) rfl) rfl fun fr b1 w2 n3 r => ?_
 obtain ⟨e_b1, z_w2, h_b1, hB, zB⟩ := n3.all hB
 refine seq_val (I 0) r (fun R => zz04 r rfl) rfl fun fr r => ?_
 refine wn ?_
 refine wp_seq ?_
 refine zz1c 6 [.val (.agg (planC a0).toArray), .val (I (D.zz0f a0)), .val (.pointer (some ⟨b1, 1, none⟩)), .val (I a0.threads), .val (I (W (a0.threads * 3))), .val (I (W ((D.zz0f a0) + (W (a0.threads * 3)))))] mixed r (by kernel_rfl) (zz00 (by exact trivial) (zz00 (by exact trivial) (zz00 (by exact trivial) (zz00 (by exact trivial) (zz00 (by exact trivial) (zz00 (by exact trivial) zz12)))))) ?_ ?_
 ·
  refine ec r (fun _ u _ b d s => zz03 s (cs := (planC a0)) (n := 6) rfl (keep b h_b1) ta25 rfl bz) ?_
  refine ec r (fun fr1 u w' hb' hd r' => y_call r' (args := [(.agg (planC a0).toArray)]) (lc hd.1 l0) cl143 ((zz5y _ a0).mono (by rintro _ w2 ⟨rfl, hb2⟩; exact ⟨_, rfl, hb2, rfl⟩))) ?_
  refine ec r (fun _ u _ b d s => zz02 s (b := b1) (o := 0) rfl fo25_1 bz) ?_
  refine ec r (fun _ u _ b d s => zz01 s d.1 (keep b h_b1) to3 rfl bz) ?_
  refine ec r (fun _ u _ b d s => y_bin s d.1 rfl rfl rfl bz) ?_
  refine ec r (fun _ u _ b d s => y_bin s d.1 d.2.1 rfl rfl bz) ?_
  exact zz1l
 ·
  intro fr u w4 hb hΦ hne r
  have r := r.congr (sc (hΦ 5 (by decide)) (sc (hΦ 4 (by decide)) (sc (hΦ 3 (by decide)) (sc (hΦ 2 (by decide)) (sc (hΦ 1 (by decide)) (sc (hΦ 0 (by decide)) rfl))))))
  have z_w4 := hb.size
  have h_b1 := keep hb h_b1
  obtain ⟨hB, zB⟩ := bon hb hB
  refine seq_val (I (W ((D.zz0f a0) + (W (a0.threads * 3))))) r (fun R => zz04 r rfl) rfl fun fr r => ?_
  refine wn ?_
  refine wp_ret ?_
  refine ret_tmp r rfl rfl ?_
  exact ⟨rfl, hB⟩

def D.zz05 (a0 : Plan) : Int := (IntKind.i64.wrap ((D.zz0m a0) + (IntKind.i64.wrap (a0.threads * (IntKind.i64.wrap (1 + a0.retire))))))

theorem zz3p (w0 : World) 
    (a0 : Plan) :
    Calls Tryz.prog 158 #[.agg (planC a0).toArray] w0 (PureRes (.int .i64 (D.zz05 a0)) w0) := by
 refine enter Tryz.func158 rfl 12 rfl rfl fun fr r => ?_
 have hB := Below.refl w0.heap.size w0
 refine wsr ?_
 refine seq_new (.cells ((planC a0)).toArray 25 (0, 0)) r (fun R => y_box r (v := (.agg (planC a0).toArray)) rfl) rfl fun fr b1 w2 n3 r => ?_
 obtain ⟨e_b1, z_w2, h_b1, hB, zB⟩ := n3.all hB
 refine seq_val (I 0) r (fun R => zz04 r rfl) rfl fun fr r => ?_
 refine wn ?_
 refine wp_seq ?_
 refine zz1c 9 [.val (.agg (planC a0).toArray), .val (I (D.zz0m a0)), .val (.pointer (some ⟨b1, 1, none⟩)), .val (I a0.threads), .val (.pointer (some ⟨b1, 2, none⟩)), .val (I a0.retire), .val (I (W (1 + a0.retire))), .val (I (W (a0.threads * (W (1 + a0.retire))))), .val (I (W ((D.zz0m a0) + (W (a0.threads * (W (1 + a0.retire)))))))] mixed r (by kernel_rfl) (zz00 (by exact trivial) (zz00 (by exact trivial) (zz00 (by exact trivial) (zz00 (by exact trivial) (zz00 (by exact trivial) (zz00 (by exact trivial) (zz00 (by exact trivial) (zz00 (by exact trivial) (zz00 (by exact trivial) zz12))))))))) ?_ ?_
 ·
  refine ec r (fun _ u _ b d s => zz03 s (cs := (planC a0)) (n := 6) rfl (keep b h_b1) ta25 rfl bz) ?_
  refine ec r (fun fr1 u w' hb' hd r' => y_call r' (args := [(.agg (planC a0).toArray)]) (lc hd.1 l0) cl261 ((zz4h _ a0).mono (by rintro _ w2 ⟨rfl, hb2⟩; exact ⟨_, rfl, hb2, rfl⟩))) ?_
  refine ec r (fun _ u _ b d s => zz02 s (b := b1) (o := 0) rfl fo25_1 bz) ?_
  refine ec r (fun _ u _ b d s => zz01 s d.1 (keep b h_b1) to3 rfl bz) ?_
  refine ec r (fun _ u _ b d s => zz02 s (b := b1) (o := 0) rfl fo25_2 bz) ?_
  refine ec r (fun _ u _ b d s => zz01 s d.1 (keep b h_b1) to3 rfl bz) ?_
  refine ec r (fun _ u _ b d s => y_bin s rfl d.1 rfl rfl bz) ?_
  refine ec r (fun _ u _ b d s => y_bin s d.1 d.2.1 rfl rfl bz) ?_
  refine ec r (fun _ u _ b d s => y_bin s d.1 d.2.1 rfl rfl bz) ?_
  exact zz1l
 ·
  intro fr u w4 hb hΦ hne r
  have r := r.congr (sc (hΦ 8 (by decide)) (sc (hΦ 7 (by decide)) (sc (hΦ 6 (by decide)) (sc (hΦ 5 (by decide)) (sc (hΦ 4 (by decide)) (sc (hΦ 3 (by decide)) (sc (hΦ 2 (by decide)) (sc (hΦ 1 (by decide)) (sc (hΦ 0 (by decide)) rfl)))))))))
  have z_w4 := hb.size
  have h_b1 := keep hb h_b1
  obtain ⟨hB, zB⟩ := bon hb hB
  refine seq_val (I (W ((D.zz0m a0) + (W (a0.threads * (W (1 + a0.retire))))))) r (fun R => zz04 r rfl) rfl fun fr r => ?_
  refine wn ?_
  refine wp_ret ?_
  refine ret_tmp r rfl rfl ?_
  exact ⟨rfl, hB⟩

def D.zz14 (a0 : Plan) : Int := (bif (!(D.zz0w a0)) then 0 else (IntKind.i64.wrap ((D.zz05 a0) + (IntKind.i64.wrap (a0.nodes * 5)))))

theorem c_plan_Plan_Size (w0 : World) 
    (a0 : Plan) :
    Calls Tryz.prog 109 #[.agg (planC a0).toArray] w0 (PureRes (.int .i64 (D.zz14 a0)) w0) := by
 refine enter Tryz.func109 rfl 12 rfl rfl fun fr r => ?_
 have hB := Below.refl w0.heap.size w0
 refine wsr ?_
 refine seq_new (.cells ((planC a0)).toArray 25 (0, 0)) r (fun R => y_box r (v := (.agg (planC a0).toArray)) rfl) rfl fun fr b1 w2 n3 r => ?_
 obtain ⟨e_b1, z_w2, h_b1, hB, zB⟩ := n3.all hB
 refine seq_val (I 0) r (fun R => zz04 r rfl) rfl fun fr r => ?_
 refine wn ?_
 refine wp_seq ?_
 refine wsr ?_
 refine seq_val (.agg (planC a0).toArray) r (fun R => zz03 r (cs := (planC a0)) (n := 6) rfl h_b1 ta25 rfl) rfl fun fr r => ?_
 refine zz06 r (zz3k w2 a0) (fun R hc => y_call r rfl cl136 hc) rfl ?_
 rintro _ w4 ⟨rfl, hb⟩
 refine ⟨_, rfl, fun fr r => ?_⟩
 have z_w4 := hb.size
 have h_b1 := keep hb h_b1
 obtain ⟨hB, zB⟩ := bon hb hB
 refine seq_val (.bool (!(D.zz0w a0))) r (fun R => y_un r (u := (.bool (D.zz0w a0))) rfl rfl) rfl fun fr r => ?_
 refine wn ?_
 refine wp_cond_split (t := (!(D.zz0w a0))) (r.ev rfl) (fun h5 => ?_) (fun h5 => ?_)
 ·
  refine wsr ?_
  refine seq_val (I 0) r (fun R => zz04 r rfl) rfl fun fr r => ?_
  refine wn ?_
  refine wp_ret ?_
  have hd : D.zz14 a0 = 0 := (cond_t h5).trans (rfl)
  refine ret_tmp r rfl rfl ?_
  rw [hd]
  exact ⟨rfl, hB⟩
 ·
  refine wp_skip ?_
  refine wp_seq ?_
  refine zz1c 6 [.val (.agg (planC a0).toArray), .val (I (D.zz05 a0)), .val (.pointer (some ⟨b1, 0, none⟩)), .val (I a0.nodes), .val (I (W (a0.nodes * 5))), .val (I (W ((D.zz05 a0) + (W (a0.nodes * 5)))))] mixed r (by kernel_rfl) (zz00 (by exact trivial) (zz00 (by exact trivial) (zz00 (by exact trivial) (zz00 (by exact trivial) (zz00 (by exact trivial) (zz00 (by exact trivial) zz12)))))) ?_ ?_
  ·
   refine ec r (fun _ u _ b d s => zz03 s (cs := (planC a0)) (n := 6) rfl (keep b h_b1) ta25 rfl bz) ?_
   refine ec r (fun fr1 u w' hb' hd r' => y_call r' (args := [(.agg (planC a0).toArray)]) (lc hd.1 l0) cl158 ((zz3p _ a0).mono (by rintro _ w2 ⟨rfl, hb2⟩; exact ⟨_, rfl, hb2, rfl⟩))) ?_
   refine ec r (fun _ u _ b d s => zz02 s (b := b1) (o := 0) rfl fo25_0 bz) ?_
   refine ec r (fun _ u _ b d s => zz01 s d.1 (keep b h_b1) to3 rfl bz) ?_
   refine ec r (fun _ u _ b d s => y_bin s d.1 rfl rfl rfl bz) ?_
   refine ec r (fun _ u _ b d s => y_bin s d.1 d.2.1 rfl rfl bz) ?_
   exact zz1l
  ·
   intro fr u w6 hb hΦ hne r
   have r := r.congr (sc (hΦ 5 (by decide)) (sc (hΦ 4 (by decide)) (sc (hΦ 3 (by decide)) (sc (hΦ 2 (by decide)) (sc (hΦ 1 (by decide)) (sc (hΦ 0 (by decide)) rfl))))))
   have z_w6 := hb.size
   have h_b1 := keep hb h_b1
   obtain ⟨hB, zB⟩ := bon hb hB
   refine seq_val (I (W ((D.zz05 a0) + (W (a0.nodes * 5))))) r (fun R => zz04 r rfl) rfl fun fr r => ?_
   refine wn ?_
   refine wp_ret ?_
   have hd : D.zz14 a0 = (W ((D.zz05 a0) + (W (a0.nodes * 5)))) := (cond_f h5).trans (rfl)
   refine ret_tmp r rfl rfl ?_
   rw [hd]
   exact ⟨rfl, hB⟩

def D.zz0l (a0 : Plan) (a1 : Int) (a2 : List Bound) : Int := (bif (!(D.zz0w a0)) then (-1) else (bif (!(D.zz10 a2)) then (-1) else a1))

theorem zz2k (w0 : World) 
    (a0 : Plan) (a1 : Int) (a2 : List Bound) {a2_b : Nat} (a2_h : w0.heap[a2_b]? = some (.cells ((boundsC a2)).toArray 216 (0, 0))) (pre0 : a2.length ≤ 8) :
    Calls Tryz.prog 142 #[.agg (planC a0).toArray, .int .i64 a1, .slice (some ⟨a2_b, 0, none⟩) a2.length a2.length] w0 (PureRes (.int .i64 (D.zz0l a0 a1 a2)) w0) := by
 refine enter Tryz.func142 rfl 16 rfl rfl fun fr r => ?_
 have hB := Below.refl w0.heap.size w0
 have l_a2_b := lt_of_block a2_h
 refine wsr ?_
 refine seq_new (.cells ((planC a0)).toArray 25 (0, 0)) r (fun R => y_box r (v := (.agg (planC a0).toArray)) rfl) rfl fun fr b1 w2 n3 r => ?_
 have a2_h := keep n3.below a2_h
 obtain ⟨e_b1, z_w2, h_b1, hB, zB⟩ := n3.all hB
 refine seq_val (I 0) r (fun R => zz04 r rfl) rfl fun fr r => ?_
 refine wn ?_
 refine wp_seq ?_
 refine wsr ?_
 refine seq_val (.agg (planC a0).toArray) r (fun R => zz03 r (cs := (planC a0)) (n := 6) rfl h_b1 ta25 rfl) rfl fun fr r => ?_
 refine zz06 r (zz3k w2 a0) (fun R hc => y_call r rfl cl136 hc) rfl ?_
 rintro _ w4 ⟨rfl, hb⟩
 refine ⟨_, rfl, fun fr r => ?_⟩
 have z_w4 := hb.size
 have a2_h := keep hb a2_h
 have h_b1 := keep hb h_b1
 obtain ⟨hB, zB⟩ := bon hb hB
 refine seq_val (.bool (!(D.zz0w a0))) r (fun R => y_un r (u := (.bool (D.zz0w a0))) rfl rfl) rfl fun fr r => ?_
 refine seq_val (.bool (!(D.zz0w a0))) r (fun R => y_move r rfl) rfl fun fr r => ?_
 refine zz0r (!(D.zz0w a0)) (fun h5 => ?_) (fun h5 => ?_)
 ·
  refine s0 r h5 fun fr r => ?_
  refine s0 r h5 fun fr r => ?_
  refine s0 r h5 fun fr r => ?_
  refine seq_val (.bool true) r (fun R => y_pick r (b := true) (congrArg Value.bool h5) rfl) rfl fun fr r => ?_
  refine wn ?_
  refine wp_cond_split (t := true) (r.ev rfl) (fun _ => ?_) (fun h => absurd ((rfl : true = _).symm.trans h) (by decide))
  refine wsr ?_
  refine seq_val (I (-1)) r (fun R => zz04 r rfl) rfl fun fr r => ?_
  refine wn ?_
  refine wp_ret ?_
  have hd : D.zz0l a0 a1 a2 = (-1) := (cond_t h5).trans (rfl)
  refine ret_tmp r rfl rfl ?_
  rw [hd]
  exact ⟨rfl, hB⟩
 ·
  refine s1 r h5 ?_
  refine seq_val (.slice (some ⟨a2_b, 0, none⟩) a2.length a2.length) r (fun R => y_move r rfl) rfl fun fr r => ?_
  refine s1 r h5 ?_
  refine zz06 r (c_plan_within w4 a2 a2_h (by first | assumption | decide | (simp; done))) (fun R hc => y_call r rfl cl235 hc) rfl ?_
  rintro _ w6 ⟨rfl, hb⟩
  refine ⟨_, rfl, fun fr r => ?_⟩
  have z_w6 := hb.size
  have a2_h := keep hb a2_h
  have h_b1 := keep hb h_b1
  obtain ⟨hB, zB⟩ := bon hb hB
  refine s1 r h5 ?_
  refine seq_val (.bool (!(D.zz10 a2))) r (fun R => y_un r (u := (.bool (D.zz10 a2))) rfl rfl) rfl fun fr r => ?_
  refine seq_val (.bool (!(D.zz10 a2))) r (fun R => y_pick r (b := false) (congrArg Value.bool h5) rfl) rfl fun fr r => ?_
  refine wn ?_
  refine wp_cond_split (t := (!(D.zz10 a2))) (r.ev rfl) (fun h7 => ?_) (fun h7 => ?_)
  ·
   refine wsr ?_
   refine seq_val (I (-1)) r (fun R => zz04 r rfl) rfl fun fr r => ?_
   refine wn ?_
   refine wp_ret ?_
   have hd : D.zz0l a0 a1 a2 = (-1) := (cond_f h5).trans ((cond_t h7).trans (rfl))
   refine ret_tmp r rfl rfl ?_
   rw [hd]
   exact ⟨rfl, hB⟩
  ·
   refine wp_skip ?_
   refine wsr ?_
   refine seq_val (I a1) r (fun R => y_move r rfl) rfl fun fr r => ?_
   refine seq_val (I a1) r (fun R => zz04 r rfl) rfl fun fr r => ?_
   refine wn ?_
   refine wp_ret ?_
   have hd : D.zz0l a0 a1 a2 = a1 := (cond_f h5).trans ((cond_f h7).trans (rfl))
   refine ret_tmp r rfl rfl ?_
   rw [hd]
   exact ⟨rfl, hB⟩

theorem c_plan_Plan_place_nil (w0 : World) 
    (a0 : Plan) (a1 : Int) :
    Calls Tryz.prog 142 #[.agg (planC a0).toArray, .int .i64 a1, .slice none 0 0] w0 (PureRes (.int .i64 (D.zz0l a0 a1 ([]))) w0) := by
 refine enter Tryz.func142 rfl 16 rfl rfl fun fr r => ?_
 have hB := Below.refl w0.heap.size w0
 refine wsr ?_
 refine seq_new (.cells ((planC a0)).toArray 25 (0, 0)) r (fun R => y_box r (v := (.agg (planC a0).toArray)) rfl) rfl fun fr b1 w2 n3 r => ?_
 obtain ⟨e_b1, z_w2, h_b1, hB, zB⟩ := n3.all hB
 refine seq_val (I 0) r (fun R => zz04 r rfl) rfl fun fr r => ?_
 refine wn ?_
 refine wp_seq ?_
 refine wsr ?_
 refine seq_val (.agg (planC a0).toArray) r (fun R => zz03 r (cs := (planC a0)) (n := 6) rfl h_b1 ta25 rfl) rfl fun fr r => ?_
 refine zz06 r (zz3k w2 a0) (fun R hc => y_call r rfl cl136 hc) rfl ?_
 rintro _ w4 ⟨rfl, hb⟩
 refine ⟨_, rfl, fun fr r => ?_⟩
 have z_w4 := hb.size
 have h_b1 := keep hb h_b1
 obtain ⟨hB, zB⟩ := bon hb hB
 refine seq_val (.bool (!(D.zz0w a0))) r (fun R => y_un r (u := (.bool (D.zz0w a0))) rfl rfl) rfl fun fr r => ?_
 refine seq_val (.bool (!(D.zz0w a0))) r (fun R => y_move r rfl) rfl fun fr r => ?_
 refine zz0r (!(D.zz0w a0)) (fun h5 => ?_) (fun h5 => ?_)
 ·
  refine s0 r h5 fun fr r => ?_
  refine s0 r h5 fun fr r => ?_
  refine s0 r h5 fun fr r => ?_
  refine seq_val (.bool true) r (fun R => y_pick r (b := true) (congrArg Value.bool h5) rfl) rfl fun fr r => ?_
  refine wn ?_
  refine wp_cond_split (t := true) (r.ev rfl) (fun _ => ?_) (fun h => absurd ((rfl : true = _).symm.trans h) (by decide))
  refine wsr ?_
  refine seq_val (I (-1)) r (fun R => zz04 r rfl) rfl fun fr r => ?_
  refine wn ?_
  refine wp_ret ?_
  have hd : D.zz0l a0 a1 [] = (-1) := (cond_t h5).trans (rfl)
  refine ret_tmp r rfl rfl ?_
  rw [hd]
  exact ⟨rfl, hB⟩
 ·
  refine s1 r h5 ?_
  refine seq_val (.slice none 0 0) r (fun R => y_move r rfl) rfl fun fr r => ?_
  refine s1 r h5 ?_
  refine zz06 r (c_plan_within_nil w4 ) (fun R hc => y_call r rfl cl235 hc) rfl ?_
  rintro _ w6 ⟨rfl, hb⟩
  refine ⟨_, rfl, fun fr r => ?_⟩
  have z_w6 := hb.size
  have h_b1 := keep hb h_b1
  obtain ⟨hB, zB⟩ := bon hb hB
  refine s1 r h5 ?_
  refine seq_val (.bool (!(D.zz10 ([])))) r (fun R => y_un r (u := (.bool (D.zz10 ([])))) rfl rfl) rfl fun fr r => ?_
  refine seq_val (.bool (!(D.zz10 ([])))) r (fun R => y_pick r (b := false) (congrArg Value.bool h5) rfl) rfl fun fr r => ?_
  refine wn ?_
  refine wp_cond_split (t := (!(D.zz10 ([])))) (r.ev rfl) (fun h7 => ?_) (fun h7 => ?_)
  ·
   refine wsr ?_
   refine seq_val (I (-1)) r (fun R => zz04 r rfl) rfl fun fr r => ?_
   refine wn ?_
   refine wp_ret ?_
   have hd : D.zz0l a0 a1 [] = (-1) := (cond_f h5).trans ((cond_t h7).trans (rfl))
   refine ret_tmp r rfl rfl ?_
   rw [hd]
   exact ⟨rfl, hB⟩
  ·
   refine wp_skip ?_
   refine wsr ?_
   refine seq_val (I a1) r (fun R => y_move r rfl) rfl fun fr r => ?_
   refine seq_val (I a1) r (fun R => zz04 r rfl) rfl fun fr r => ?_
   refine wn ?_
   refine wp_ret ?_
   have hd : D.zz0l a0 a1 [] = a1 := (cond_f h5).trans ((cond_f h7).trans (rfl))
   refine ret_tmp r rfl rfl ?_
   rw [hd]
   exact ⟨rfl, hB⟩

def D.zz1b (a0 : Plan) : Int := (D.zz0l a0 0 ([]))

theorem zz3d (w0 : World) 
    (a0 : Plan) :
    Calls Tryz.prog 162 #[.agg (planC a0).toArray] w0 (PureRes (.int .i64 (D.zz1b a0)) w0) := by
 refine enter Tryz.func162 rfl 5 rfl rfl fun fr r => ?_
 have hB := Below.refl w0.heap.size w0
 refine wsr ?_
 refine seq_new (.cells ((planC a0)).toArray 25 (0, 0)) r (fun R => y_box r (v := (.agg (planC a0).toArray)) rfl) rfl fun fr b1 w2 n3 r => ?_
 obtain ⟨e_b1, z_w2, h_b1, hB, zB⟩ := n3.all hB
 refine seq_val (I 0) r (fun R => zz04 r rfl) rfl fun fr r => ?_
 refine wn ?_
 refine wsr ?_
 refine seq_val (.agg (planC a0).toArray) r (fun R => zz03 r (cs := (planC a0)) (n := 6) rfl h_b1 ta25 rfl) rfl fun fr r => ?_
 refine zz06 r (c_plan_Plan_place_nil w2 a0 0) (fun R hc => y_call r rfl cl142 hc) rfl ?_
 rintro _ w4 ⟨rfl, hb⟩
 refine ⟨_, rfl, fun fr r => ?_⟩
 have z_w4 := hb.size
 have h_b1 := keep hb h_b1
 obtain ⟨hB, zB⟩ := bon hb hB
 refine seq_val (I (D.zz0l a0 0 ([]))) r (fun R => zz04 r rfl) rfl fun fr r => ?_
 refine wn ?_
 refine wp_ret ?_
 refine ret_tmp r rfl rfl ?_
 exact ⟨rfl, hB⟩

def D.zz0x (a0 : Plan) (a1 : Int) : Bound := (⟨a1, 0, (IntKind.i64.wrap (a0.nodes - 1))⟩ : Bound)

theorem zz5q (w0 : World) 
    (a0 : Plan) (a1 : Int) :
    Calls Tryz.prog 159 #[.agg (planC a0).toArray, .int .i64 a1] w0 (PureRes (.agg (boundC (D.zz0x a0 a1)).toArray) w0) := by
 refine enter Tryz.func159 rfl 10 rfl rfl fun fr r => ?_
 have hB := Below.refl w0.heap.size w0
 refine wsr ?_
 refine seq_new (.cells ((planC a0)).toArray 25 (0, 0)) r (fun R => y_box r (v := (.agg (planC a0).toArray)) rfl) rfl fun fr b1 w2 n3 r => ?_
 obtain ⟨e_b1, z_w2, h_b1, hB, zB⟩ := n3.all hB
 refine seq_new (.cells ((boundC (⟨0, 0, 0⟩ : Bound))).toArray 216 (0, 0)) r (fun R => y_alloc tz216) rfl fun fr b4 w5 n6 r => ?_
 have h_b1 := keep n6.below h_b1
 obtain ⟨e_b4, z_w5, h_b4, hB, zB⟩ := n6.all hB
 refine wn ?_
 refine wsr ?_
 refine seq_val (I a1) r (fun R => y_move r rfl) rfl fun fr r => ?_
 refine seq_val _ r (fun R => zz02 r (o := 0) rfl fo25_0) rfl fun fr r => ?_
 refine seq_val (I a0.nodes) r (fun R => zz01 r rfl h_b1 to3 rfl) rfl fun fr r => ?_
 refine seq_val _ r (fun R => y_bin r rfl rfl rfl rfl) rfl fun fr r => ?_
 refine seq_val (.agg (boundC (⟨a1, 0, (W (a0.nodes - 1))⟩ : Bound)).toArray) r (fun R => y_build r (by kernel_rfl)) rfl fun fr r => ?_
 refine seq_upd (.cells ((boundC (⟨a1, 0, (W (a0.nodes - 1))⟩ : Bound))).toArray 216 (0, 0)) r (fun R => y_store r (o := 0) (v := (.agg (boundC (⟨a1, 0, (W (a0.nodes - 1))⟩ : Bound)).toArray)) rfl rfl h_b4 ts216 (Nat.le_of_ble_eq_true rfl) rfl rfl) rfl fun fr w7 u8 r => ?_
 have z_w7 := u8.size
 have h_b1 := u8.keep h_b1 (by omega)
 have h_b4 := u8.at_
 obtain ⟨hB, zB⟩ := u8.on hB (by omega)
 refine wn ?_
 refine wp_ret ?_
 refine zz0a r rfl rfl h_b4 (k := 3) rfl ta216 ?_
 exact ⟨rfl, hB⟩

def D.zz1h (a0 : Plan) (a1 : Int) : Int := (D.zz0l a0 (IntKind.i64.wrap ((IntKind.i64.wrap ((D.zz05 a0) + (IntKind.i64.wrap (a1 * 5)))) + 1)) ([(D.zz0x a0 a1)]))

theorem zz47 (w0 : World) 
    (a0 : Plan) (a1 : Int) :
    Calls Tryz.prog 163 #[.agg (planC a0).toArray, .int .i64 a1] w0 (PureRes (.int .i64 (D.zz1h a0 a1)) w0) := by
 refine enter Tryz.func163 rfl 17 rfl rfl fun fr r => ?_
 have hB := Below.refl w0.heap.size w0
 refine wsr ?_
 refine seq_new (.cells ((planC a0)).toArray 25 (0, 0)) r (fun R => y_box r (v := (.agg (planC a0).toArray)) rfl) rfl fun fr b1 w2 n3 r => ?_
 obtain ⟨e_b1, z_w2, h_b1, hB, zB⟩ := n3.all hB
 refine seq_val (I 0) r (fun R => zz04 r rfl) rfl fun fr r => ?_
 refine wn ?_
 refine wp_seq ?_
 refine zz1c 12 [.val (.agg (planC a0).toArray), .val (.agg (planC a0).toArray), .val (I (D.zz05 a0)), .val (I a1), .val (I (W (a1 * 5))), .val (I (W ((D.zz05 a0) + (W (a1 * 5))))), .val (I (W ((W ((D.zz05 a0) + (W (a1 * 5)))) + 1))), .val (.agg (planC a0).toArray), .val (I a1), .val (.agg (boundC (D.zz0x a0 a1)).toArray), .slice w2.heap.size (.cells ((boundsC [(D.zz0x a0 a1)])).toArray 216 (0, 0)) 1, .val (I (D.zz0l a0 (W ((W ((D.zz05 a0) + (W (a1 * 5)))) + 1)) ([(D.zz0x a0 a1)])))] mixed r (by kernel_rfl) (zz00 (by exact trivial) (zz00 (by exact trivial) (zz00 (by exact trivial) (zz00 (by exact trivial) (zz00 (by exact trivial) (zz00 (by exact trivial) (zz00 (by exact trivial) (zz00 (by exact trivial) (zz00 (by exact trivial) (zz00 (by exact trivial) (zz00 (Nat.le_refl _) (zz00 (by exact trivial) zz12)))))))))))) ?_ ?_
 ·
  refine ec r (fun _ u _ b d s => zz03 s (cs := (planC a0)) (n := 6) rfl (keep b h_b1) ta25 rfl bz) ?_
  refine ec r (fun _ u _ b d s => zz03 s (cs := (planC a0)) (n := 6) rfl (keep b h_b1) ta25 rfl bz) ?_
  refine ec r (fun fr1 u w' hb' hd r' => y_call r' (args := [(.agg (planC a0).toArray)]) (lc hd.1 l0) cl158 ((zz3p _ a0).mono (by rintro _ w2 ⟨rfl, hb2⟩; exact ⟨_, rfl, hb2, rfl⟩))) ?_
  refine ec r (fun _ u _ b d s => y_move s rfl bz) ?_
  refine ec r (fun _ u _ b d s => y_bin s d.1 rfl rfl rfl bz) ?_
  refine ec r (fun _ u _ b d s => y_bin s d.1 d.2.1 rfl rfl bz) ?_
  refine ec r (fun _ u _ b d s => y_bin s d.1 rfl rfl rfl bz) ?_
  refine ec r (fun _ u _ b d s => zz03 s (cs := (planC a0)) (n := 6) rfl (keep b h_b1) ta25 rfl bz) ?_
  refine ec r (fun _ u _ b d s => y_move s rfl bz) ?_
  refine ec r (fun fr1 u w' hb' hd r' => y_call r' (args := [(.agg (planC a0).toArray), (I a1)]) (lc hd.1 (lc hd.2.1 l0)) cl159 ((zz5q _ a0 a1).mono (by rintro _ w2 ⟨rfl, hb2⟩; exact ⟨_, rfl, hb2, rfl⟩))) ?_
  refine ec r (fun fr1 u w' hb' hd r' => zz40 r' (c := ((boundsC [(D.zz0x a0 a1)])).toArray) (E := 216) (bs1 (congrArg (fun z => (0, z)) hd.1) (by kernel_rfl)) (fun b w2 n2 => ⟨n2.below, b, rfl, Nat.le_of_eq n2.eq.symm, n2.at_⟩)) ?_
  refine zz24 r rfl (fun fr1 u w' hb' hd r' => ?_) ?_
  · obtain ⟨d0, d1, d2, d3, _⟩ := hd; obtain ⟨q2, hq2, _, hr2⟩ := d2; exact y_call r' (args := [(.agg (planC a0).toArray), (I (W ((W ((D.zz05 a0) + (W (a1 * 5)))) + 1))), (.slice (some ⟨q2, 0, none⟩) 1 1)]) (lc d0 (lc d1 (lc hq2 l0))) cl142 ((zz2k _ a0 (W ((W ((D.zz05 a0) + (W (a1 * 5)))) + 1)) ([(D.zz0x a0 a1)]) hr2 (by first | assumption | decide | (simp; done))).mono (by rintro _ w2 ⟨rfl, hb2⟩; exact ⟨_, rfl, hb2, rfl⟩))
  exact zz1l
 ·
  intro fr u w4 hb hΦ hne r
  obtain ⟨b5, g10, e_b5, h_b5⟩ := hΦ 10 (by decide)
  have l_b5 := lt_of_block h_b5
  have r := r.congr (sc (hΦ 11 (by decide)) (sc g10 (sc (hΦ 9 (by decide)) (sc (hΦ 8 (by decide)) (sc (hΦ 7 (by decide)) (sc (hΦ 6 (by decide)) (sc (hΦ 5 (by decide)) (sc (hΦ 4 (by decide)) (sc (hΦ 3 (by decide)) (sc (hΦ 2 (by decide)) (sc (hΦ 1 (by decide)) (sc (hΦ 0 (by decide)) rfl))))))))))))
  have z_w4 := hb.size
  have h_b1 := keep hb h_b1
  obtain ⟨hB, zB⟩ := bon hb hB
  refine seq_val (I (D.zz0l a0 (W ((W ((D.zz05 a0) + (W (a1 * 5)))) + 1)) ([(D.zz0x a0 a1)]))) r (fun R => zz04 r rfl) rfl fun fr r => ?_
  refine wn ?_
  refine wp_ret ?_
  refine ret_tmp r rfl rfl ?_
  exact ⟨rfl, hB⟩

def D.zz0h (a0 : Plan) (a1 : Int) : Int := (D.zz0l a0 (IntKind.i64.wrap ((D.zz05 a0) + (IntKind.i64.wrap (a1 * 5)))) ([(D.zz0x a0 a1)]))

theorem zz2j (w0 : World) 
    (a0 : Plan) (a1 : Int) :
    Calls Tryz.prog 68 #[.agg (planC a0).toArray, .int .i64 a1] w0 (PureRes (.int .i64 (D.zz0h a0 a1)) w0) := by
 refine enter Tryz.func68 rfl 16 rfl rfl fun fr r => ?_
 have hB := Below.refl w0.heap.size w0
 refine wsr ?_
 refine seq_new (.cells ((planC a0)).toArray 25 (0, 0)) r (fun R => y_box r (v := (.agg (planC a0).toArray)) rfl) rfl fun fr b1 w2 n3 r => ?_
 obtain ⟨e_b1, z_w2, h_b1, hB, zB⟩ := n3.all hB
 refine seq_val (I 0) r (fun R => zz04 r rfl) rfl fun fr r => ?_
 refine wn ?_
 refine wp_seq ?_
 refine zz1c 11 [.val (.agg (planC a0).toArray), .val (.agg (planC a0).toArray), .val (I (D.zz05 a0)), .val (I a1), .val (I (W (a1 * 5))), .val (I (W ((D.zz05 a0) + (W (a1 * 5))))), .val (.agg (planC a0).toArray), .val (I a1), .val (.agg (boundC (D.zz0x a0 a1)).toArray), .slice w2.heap.size (.cells ((boundsC [(D.zz0x a0 a1)])).toArray 216 (0, 0)) 1, .val (I (D.zz0l a0 (W ((D.zz05 a0) + (W (a1 * 5)))) ([(D.zz0x a0 a1)])))] mixed r (by kernel_rfl) (zz00 (by exact trivial) (zz00 (by exact trivial) (zz00 (by exact trivial) (zz00 (by exact trivial) (zz00 (by exact trivial) (zz00 (by exact trivial) (zz00 (by exact trivial) (zz00 (by exact trivial) (zz00 (by exact trivial) (zz00 (Nat.le_refl _) (zz00 (by exact trivial) zz12))))))))))) ?_ ?_
 ·
  refine ec r (fun _ u _ b d s => zz03 s (cs := (planC a0)) (n := 6) rfl (keep b h_b1) ta25 rfl bz) ?_
  refine ec r (fun _ u _ b d s => zz03 s (cs := (planC a0)) (n := 6) rfl (keep b h_b1) ta25 rfl bz) ?_
  refine ec r (fun fr1 u w' hb' hd r' => y_call r' (args := [(.agg (planC a0).toArray)]) (lc hd.1 l0) cl158 ((zz3p _ a0).mono (by rintro _ w2 ⟨rfl, hb2⟩; exact ⟨_, rfl, hb2, rfl⟩))) ?_
  refine ec r (fun _ u _ b d s => y_move s rfl bz) ?_
  refine ec r (fun _ u _ b d s => y_bin s d.1 rfl rfl rfl bz) ?_
  refine ec r (fun _ u _ b d s => y_bin s d.1 d.2.1 rfl rfl bz) ?_
  refine ec r (fun _ u _ b d s => zz03 s (cs := (planC a0)) (n := 6) rfl (keep b h_b1) ta25 rfl bz) ?_
  refine ec r (fun _ u _ b d s => y_move s rfl bz) ?_
  refine ec r (fun fr1 u w' hb' hd r' => y_call r' (args := [(.agg (planC a0).toArray), (I a1)]) (lc hd.1 (lc hd.2.1 l0)) cl159 ((zz5q _ a0 a1).mono (by rintro _ w2 ⟨rfl, hb2⟩; exact ⟨_, rfl, hb2, rfl⟩))) ?_
  refine ec r (fun fr1 u w' hb' hd r' => zz40 r' (c := ((boundsC [(D.zz0x a0 a1)])).toArray) (E := 216) (bs1 (congrArg (fun z => (0, z)) hd.1) (by kernel_rfl)) (fun b w2 n2 => ⟨n2.below, b, rfl, Nat.le_of_eq n2.eq.symm, n2.at_⟩)) ?_
  refine zz24 r rfl (fun fr1 u w' hb' hd r' => ?_) ?_
  · obtain ⟨d0, d1, d2, d3, _⟩ := hd; obtain ⟨q2, hq2, _, hr2⟩ := d2; exact y_call r' (args := [(.agg (planC a0).toArray), (I (W ((D.zz05 a0) + (W (a1 * 5))))), (.slice (some ⟨q2, 0, none⟩) 1 1)]) (lc d0 (lc d1 (lc hq2 l0))) cl142 ((zz2k _ a0 (W ((D.zz05 a0) + (W (a1 * 5)))) ([(D.zz0x a0 a1)]) hr2 (by first | assumption | decide | (simp; done))).mono (by rintro _ w2 ⟨rfl, hb2⟩; exact ⟨_, rfl, hb2, rfl⟩))
  exact zz1l
 ·
  intro fr u w4 hb hΦ hne r
  obtain ⟨b5, g9, e_b5, h_b5⟩ := hΦ 9 (by decide)
  have l_b5 := lt_of_block h_b5
  have r := r.congr (sc (hΦ 10 (by decide)) (sc g9 (sc (hΦ 8 (by decide)) (sc (hΦ 7 (by decide)) (sc (hΦ 6 (by decide)) (sc (hΦ 5 (by decide)) (sc (hΦ 4 (by decide)) (sc (hΦ 3 (by decide)) (sc (hΦ 2 (by decide)) (sc (hΦ 1 (by decide)) (sc (hΦ 0 (by decide)) rfl)))))))))))
  have z_w4 := hb.size
  have h_b1 := keep hb h_b1
  obtain ⟨hB, zB⟩ := bon hb hB
  refine seq_val (I (D.zz0l a0 (W ((D.zz05 a0) + (W (a1 * 5)))) ([(D.zz0x a0 a1)]))) r (fun R => zz04 r rfl) rfl fun fr r => ?_
  refine wn ?_
  refine wp_ret ?_
  refine ret_tmp r rfl rfl ?_
  exact ⟨rfl, hB⟩

def D.zz0p (a0 : Plan) (a1 : Int) : Bound := (⟨a1, 0, (IntKind.i64.wrap (a0.threads - 1))⟩ : Bound)

theorem zz4q (w0 : World) 
    (a0 : Plan) (a1 : Int) :
    Calls Tryz.prog 144 #[.agg (planC a0).toArray, .int .i64 a1] w0 (PureRes (.agg (boundC (D.zz0p a0 a1)).toArray) w0) := by
 refine enter Tryz.func144 rfl 10 rfl rfl fun fr r => ?_
 have hB := Below.refl w0.heap.size w0
 refine wsr ?_
 refine seq_new (.cells ((planC a0)).toArray 25 (0, 0)) r (fun R => y_box r (v := (.agg (planC a0).toArray)) rfl) rfl fun fr b1 w2 n3 r => ?_
 obtain ⟨e_b1, z_w2, h_b1, hB, zB⟩ := n3.all hB
 refine seq_new (.cells ((boundC (⟨0, 0, 0⟩ : Bound))).toArray 216 (0, 0)) r (fun R => y_alloc tz216) rfl fun fr b4 w5 n6 r => ?_
 have h_b1 := keep n6.below h_b1
 obtain ⟨e_b4, z_w5, h_b4, hB, zB⟩ := n6.all hB
 refine wn ?_
 refine wsr ?_
 refine seq_val (I a1) r (fun R => y_move r rfl) rfl fun fr r => ?_
 refine seq_val _ r (fun R => zz02 r (o := 0) rfl fo25_1) rfl fun fr r => ?_
 refine seq_val (I a0.threads) r (fun R => zz01 r rfl h_b1 to3 rfl) rfl fun fr r => ?_
 refine seq_val _ r (fun R => y_bin r rfl rfl rfl rfl) rfl fun fr r => ?_
 refine seq_val (.agg (boundC (⟨a1, 0, (W (a0.threads - 1))⟩ : Bound)).toArray) r (fun R => y_build r (by kernel_rfl)) rfl fun fr r => ?_
 refine seq_upd (.cells ((boundC (⟨a1, 0, (W (a0.threads - 1))⟩ : Bound))).toArray 216 (0, 0)) r (fun R => y_store r (o := 0) (v := (.agg (boundC (⟨a1, 0, (W (a0.threads - 1))⟩ : Bound)).toArray)) rfl rfl h_b4 ts216 (Nat.le_of_ble_eq_true rfl) rfl rfl) rfl fun fr w7 u8 r => ?_
 have z_w7 := u8.size
 have h_b1 := u8.keep h_b1 (by omega)
 have h_b4 := u8.at_
 obtain ⟨hB, zB⟩ := u8.on hB (by omega)
 refine wn ?_
 refine wp_ret ?_
 refine zz0a r rfl rfl h_b4 (k := 3) rfl ta216 ?_
 exact ⟨rfl, hB⟩

def D.zz1f (a0 : Plan) (a1 : Int) : Int := (D.zz0l a0 (IntKind.i64.wrap ((D.zz0m a0) + (IntKind.i64.wrap (a1 * (IntKind.i64.wrap (1 + a0.retire)))))) ([(D.zz0p a0 a1)]))

theorem zz3o (w0 : World) 
    (a0 : Plan) (a1 : Int) :
    Calls Tryz.prog 164 #[.agg (planC a0).toArray, .int .i64 a1] w0 (PureRes (.int .i64 (D.zz1f a0 a1)) w0) := by
 refine enter Tryz.func164 rfl 19 rfl rfl fun fr r => ?_
 have hB := Below.refl w0.heap.size w0
 refine wsr ?_
 refine seq_new (.cells ((planC a0)).toArray 25 (0, 0)) r (fun R => y_box r (v := (.agg (planC a0).toArray)) rfl) rfl fun fr b1 w2 n3 r => ?_
 obtain ⟨e_b1, z_w2, h_b1, hB, zB⟩ := n3.all hB
 refine seq_val (I 0) r (fun R => zz04 r rfl) rfl fun fr r => ?_
 refine wn ?_
 refine wp_seq ?_
 refine zz1c 14 [.val (.agg (planC a0).toArray), .val (.agg (planC a0).toArray), .val (I (D.zz0m a0)), .val (I a1), .val (.pointer (some ⟨b1, 2, none⟩)), .val (I a0.retire), .val (I (W (1 + a0.retire))), .val (I (W (a1 * (W (1 + a0.retire))))), .val (I (W ((D.zz0m a0) + (W (a1 * (W (1 + a0.retire))))))), .val (.agg (planC a0).toArray), .val (I a1), .val (.agg (boundC (D.zz0p a0 a1)).toArray), .slice w2.heap.size (.cells ((boundsC [(D.zz0p a0 a1)])).toArray 216 (0, 0)) 1, .val (I (D.zz0l a0 (W ((D.zz0m a0) + (W (a1 * (W (1 + a0.retire)))))) ([(D.zz0p a0 a1)])))] mixed r (by kernel_rfl) (zz00 (by exact trivial) (zz00 (by exact trivial) (zz00 (by exact trivial) (zz00 (by exact trivial) (zz00 (by exact trivial) (zz00 (by exact trivial) (zz00 (by exact trivial) (zz00 (by exact trivial) (zz00 (by exact trivial) (zz00 (by exact trivial) (zz00 (by exact trivial) (zz00 (by exact trivial) (zz00 (Nat.le_refl _) (zz00 (by exact trivial) zz12)))))))))))))) ?_ ?_
 ·
  refine ec r (fun _ u _ b d s => zz03 s (cs := (planC a0)) (n := 6) rfl (keep b h_b1) ta25 rfl bz) ?_
  refine ec r (fun _ u _ b d s => zz03 s (cs := (planC a0)) (n := 6) rfl (keep b h_b1) ta25 rfl bz) ?_
  refine ec r (fun fr1 u w' hb' hd r' => y_call r' (args := [(.agg (planC a0).toArray)]) (lc hd.1 l0) cl261 ((zz4h _ a0).mono (by rintro _ w2 ⟨rfl, hb2⟩; exact ⟨_, rfl, hb2, rfl⟩))) ?_
  refine ec r (fun _ u _ b d s => y_move s rfl bz) ?_
  refine ec r (fun _ u _ b d s => zz02 s (b := b1) (o := 0) rfl fo25_2 bz) ?_
  refine ec r (fun _ u _ b d s => zz01 s d.1 (keep b h_b1) to3 rfl bz) ?_
  refine ec r (fun _ u _ b d s => y_bin s rfl d.1 rfl rfl bz) ?_
  refine ec r (fun _ u _ b d s => y_bin s d.1 d.2.1 rfl rfl bz) ?_
  refine ec r (fun _ u _ b d s => y_bin s d.1 d.2.1 rfl rfl bz) ?_
  refine ec r (fun _ u _ b d s => zz03 s (cs := (planC a0)) (n := 6) rfl (keep b h_b1) ta25 rfl bz) ?_
  refine ec r (fun _ u _ b d s => y_move s rfl bz) ?_
  refine ec r (fun fr1 u w' hb' hd r' => y_call r' (args := [(.agg (planC a0).toArray), (I a1)]) (lc hd.1 (lc hd.2.1 l0)) cl144 ((zz4q _ a0 a1).mono (by rintro _ w2 ⟨rfl, hb2⟩; exact ⟨_, rfl, hb2, rfl⟩))) ?_
  refine ec r (fun fr1 u w' hb' hd r' => zz40 r' (c := ((boundsC [(D.zz0p a0 a1)])).toArray) (E := 216) (bs1 (congrArg (fun z => (0, z)) hd.1) (by kernel_rfl)) (fun b w2 n2 => ⟨n2.below, b, rfl, Nat.le_of_eq n2.eq.symm, n2.at_⟩)) ?_
  refine zz24 r rfl (fun fr1 u w' hb' hd r' => ?_) ?_
  · obtain ⟨d0, d1, d2, d3, _⟩ := hd; obtain ⟨q2, hq2, _, hr2⟩ := d2; exact y_call r' (args := [(.agg (planC a0).toArray), (I (W ((D.zz0m a0) + (W (a1 * (W (1 + a0.retire))))))), (.slice (some ⟨q2, 0, none⟩) 1 1)]) (lc d0 (lc d1 (lc hq2 l0))) cl142 ((zz2k _ a0 (W ((D.zz0m a0) + (W (a1 * (W (1 + a0.retire)))))) ([(D.zz0p a0 a1)]) hr2 (by first | assumption | decide | (simp; done))).mono (by rintro _ w2 ⟨rfl, hb2⟩; exact ⟨_, rfl, hb2, rfl⟩))
  exact zz1l
 ·
  intro fr u w4 hb hΦ hne r
  obtain ⟨b5, g12, e_b5, h_b5⟩ := hΦ 12 (by decide)
  have l_b5 := lt_of_block h_b5
  have r := r.congr (sc (hΦ 13 (by decide)) (sc g12 (sc (hΦ 11 (by decide)) (sc (hΦ 10 (by decide)) (sc (hΦ 9 (by decide)) (sc (hΦ 8 (by decide)) (sc (hΦ 7 (by decide)) (sc (hΦ 6 (by decide)) (sc (hΦ 5 (by decide)) (sc (hΦ 4 (by decide)) (sc (hΦ 3 (by decide)) (sc (hΦ 2 (by decide)) (sc (hΦ 1 (by decide)) (sc (hΦ 0 (by decide)) rfl))))))))))))))
  have z_w4 := hb.size
  have h_b1 := keep hb h_b1
  obtain ⟨hB, zB⟩ := bon hb hB
  refine seq_val (I (D.zz0l a0 (W ((D.zz0m a0) + (W (a1 * (W (1 + a0.retire)))))) ([(D.zz0p a0 a1)]))) r (fun R => zz04 r rfl) rfl fun fr r => ?_
  refine wn ?_
  refine wp_ret ?_
  refine ret_tmp r rfl rfl ?_
  exact ⟨rfl, hB⟩

def D.zz0z (a0 : Plan) (a1 : Int) (a2 : Int) : Int := (D.zz0l a0 (IntKind.i64.wrap ((IntKind.i64.wrap ((IntKind.i64.wrap ((D.zz0m a0) + (IntKind.i64.wrap (a1 * (IntKind.i64.wrap (1 + a0.retire)))))) + 1)) + a2)) ([(D.zz0p a0 a1), (⟨a2, 0, (IntKind.i64.wrap (a0.retire - 1))⟩ : Bound)]))

theorem zz39 (w0 : World) 
    (a0 : Plan) (a1 : Int) (a2 : Int) :
    Calls Tryz.prog 165 #[.agg (planC a0).toArray, .int .i64 a1, .int .i64 a2] w0 (PureRes (.int .i64 (D.zz0z a0 a1 a2)) w0) := by
 refine enter Tryz.func165 rfl 29 rfl rfl fun fr r => ?_
 have hB := Below.refl w0.heap.size w0
 refine wsr ?_
 refine seq_new (.cells ((planC a0)).toArray 25 (0, 0)) r (fun R => y_box r (v := (.agg (planC a0).toArray)) rfl) rfl fun fr b1 w2 n3 r => ?_
 obtain ⟨e_b1, z_w2, h_b1, hB, zB⟩ := n3.all hB
 refine seq_val (I 0) r (fun R => zz04 r rfl) rfl fun fr r => ?_
 refine wn ?_
 refine wp_seq ?_
 refine zz1c 22 [.val (.agg (planC a0).toArray), .val (.agg (planC a0).toArray), .val (I (D.zz0m a0)), .val (I a1), .val (.pointer (some ⟨b1, 2, none⟩)), .val (I a0.retire), .val (I (W (1 + a0.retire))), .val (I (W (a1 * (W (1 + a0.retire))))), .val (I (W ((D.zz0m a0) + (W (a1 * (W (1 + a0.retire))))))), .val (I (W ((W ((D.zz0m a0) + (W (a1 * (W (1 + a0.retire)))))) + 1))), .val (I a2), .val (I (W ((W ((W ((D.zz0m a0) + (W (a1 * (W (1 + a0.retire)))))) + 1)) + a2))), .val (.agg (planC a0).toArray), .val (I a1), .val (.agg (boundC (D.zz0p a0 a1)).toArray), .val (I a2), .val (.pointer (some ⟨b1, 2, none⟩)), .val (I a0.retire), .val (I (W (a0.retire - 1))), .val (.agg (boundC (⟨a2, 0, (W (a0.retire - 1))⟩ : Bound)).toArray), .slice w2.heap.size (.cells ((boundsC [(D.zz0p a0 a1), (⟨a2, 0, (W (a0.retire - 1))⟩ : Bound)])).toArray 216 (0, 0)) 2, .val (I (D.zz0l a0 (W ((W ((W ((D.zz0m a0) + (W (a1 * (W (1 + a0.retire)))))) + 1)) + a2)) ([(D.zz0p a0 a1), (⟨a2, 0, (W (a0.retire - 1))⟩ : Bound)])))] mixed r (by kernel_rfl) (zz00 (by exact trivial) (zz00 (by exact trivial) (zz00 (by exact trivial) (zz00 (by exact trivial) (zz00 (by exact trivial) (zz00 (by exact trivial) (zz00 (by exact trivial) (zz00 (by exact trivial) (zz00 (by exact trivial) (zz00 (by exact trivial) (zz00 (by exact trivial) (zz00 (by exact trivial) (zz00 (by exact trivial) (zz00 (by exact trivial) (zz00 (by exact trivial) (zz00 (by exact trivial) (zz00 (by exact trivial) (zz00 (by exact trivial) (zz00 (by exact trivial) (zz00 (by exact trivial) (zz00 (Nat.le_refl _) (zz00 (by exact trivial) zz12)))))))))))))))))))))) ?_ ?_
 ·
  refine ec r (fun _ u _ b d s => zz03 s (cs := (planC a0)) (n := 6) rfl (keep b h_b1) ta25 rfl bz) ?_
  refine ec r (fun _ u _ b d s => zz03 s (cs := (planC a0)) (n := 6) rfl (keep b h_b1) ta25 rfl bz) ?_
  refine ec r (fun fr1 u w' hb' hd r' => y_call r' (args := [(.agg (planC a0).toArray)]) (lc hd.1 l0) cl261 ((zz4h _ a0).mono (by rintro _ w2 ⟨rfl, hb2⟩; exact ⟨_, rfl, hb2, rfl⟩))) ?_
  refine ec r (fun _ u _ b d s => y_move s rfl bz) ?_
  refine ec r (fun _ u _ b d s => zz02 s (b := b1) (o := 0) rfl fo25_2 bz) ?_
  refine ec r (fun _ u _ b d s => zz01 s d.1 (keep b h_b1) to3 rfl bz) ?_
  refine ec r (fun _ u _ b d s => y_bin s rfl d.1 rfl rfl bz) ?_
  refine ec r (fun _ u _ b d s => y_bin s d.1 d.2.1 rfl rfl bz) ?_
  refine ec r (fun _ u _ b d s => y_bin s d.1 d.2.1 rfl rfl bz) ?_
  refine ec r (fun _ u _ b d s => y_bin s d.1 rfl rfl rfl bz) ?_
  refine ec r (fun _ u _ b d s => y_move s rfl bz) ?_
  refine ec r (fun _ u _ b d s => y_bin s d.1 d.2.1 rfl rfl bz) ?_
  refine ec r (fun _ u _ b d s => zz03 s (cs := (planC a0)) (n := 6) rfl (keep b h_b1) ta25 rfl bz) ?_
  refine ec r (fun _ u _ b d s => y_move s rfl bz) ?_
  refine ec r (fun fr1 u w' hb' hd r' => y_call r' (args := [(.agg (planC a0).toArray), (I a1)]) (lc hd.1 (lc hd.2.1 l0)) cl144 ((zz4q _ a0 a1).mono (by rintro _ w2 ⟨rfl, hb2⟩; exact ⟨_, rfl, hb2, rfl⟩))) ?_
  refine ec r (fun _ u _ b d s => y_move s rfl bz) ?_
  refine ec r (fun _ u _ b d s => zz02 s (b := b1) (o := 0) rfl fo25_2 bz) ?_
  refine ec r (fun _ u _ b d s => zz01 s d.1 (keep b h_b1) to3 rfl bz) ?_
  refine ec r (fun _ u _ b d s => y_bin s d.1 rfl rfl rfl bz) ?_
  refine ec r (fun fr1 u w' hb' hd r' => y_build r' (v := (.agg (boundC (⟨a2, 0, (W (a0.retire - 1))⟩ : Bound)).toArray)) (bs3 (congrArg (fun z => (0, z)) hd.1) (rfl) (congrArg (fun z => (2, z)) hd.2.1) (by kernel_rfl)) bz) ?_
  refine ec r (fun fr1 u w' hb' hd r' => zz40 r' (c := ((boundsC [(D.zz0p a0 a1), (⟨a2, 0, (W (a0.retire - 1))⟩ : Bound)])).toArray) (E := 216) (bs2 (congrArg (fun z => (0, z)) hd.1) (congrArg (fun z => (1, z)) hd.2.1) (by kernel_rfl)) (fun b w2 n2 => ⟨n2.below, b, rfl, Nat.le_of_eq n2.eq.symm, n2.at_⟩)) ?_
  refine zz24 r rfl (fun fr1 u w' hb' hd r' => ?_) ?_
  · obtain ⟨d0, d1, d2, d3, _⟩ := hd; obtain ⟨q2, hq2, _, hr2⟩ := d2; exact y_call r' (args := [(.agg (planC a0).toArray), (I (W ((W ((W ((D.zz0m a0) + (W (a1 * (W (1 + a0.retire)))))) + 1)) + a2))), (.slice (some ⟨q2, 0, none⟩) 2 2)]) (lc d0 (lc d1 (lc hq2 l0))) cl142 ((zz2k _ a0 (W ((W ((W ((D.zz0m a0) + (W (a1 * (W (1 + a0.retire)))))) + 1)) + a2)) ([(D.zz0p a0 a1), (⟨a2, 0, (W (a0.retire - 1))⟩ : Bound)]) hr2 (by first | assumption | decide | (simp; done))).mono (by rintro _ w2 ⟨rfl, hb2⟩; exact ⟨_, rfl, hb2, rfl⟩))
  exact zz1l
 ·
  intro fr u w4 hb hΦ hne r
  obtain ⟨b5, g20, e_b5, h_b5⟩ := hΦ 20 (by decide)
  have l_b5 := lt_of_block h_b5
  have r := r.congr (sc (hΦ 21 (by decide)) (sc g20 (sc (hΦ 19 (by decide)) (sc (hΦ 18 (by decide)) (sc (hΦ 17 (by decide)) (sc (hΦ 16 (by decide)) (sc (hΦ 15 (by decide)) (sc (hΦ 14 (by decide)) (sc (hΦ 13 (by decide)) (sc (hΦ 12 (by decide)) (sc (hΦ 11 (by decide)) (sc (hΦ 10 (by decide)) (sc (hΦ 9 (by decide)) (sc (hΦ 8 (by decide)) (sc (hΦ 7 (by decide)) (sc (hΦ 6 (by decide)) (sc (hΦ 5 (by decide)) (sc (hΦ 4 (by decide)) (sc (hΦ 3 (by decide)) (sc (hΦ 2 (by decide)) (sc (hΦ 1 (by decide)) (sc (hΦ 0 (by decide)) rfl))))))))))))))))))))))
  have z_w4 := hb.size
  have h_b1 := keep hb h_b1
  obtain ⟨hB, zB⟩ := bon hb hB
  refine seq_val (I (D.zz0l a0 (W ((W ((W ((D.zz0m a0) + (W (a1 * (W (1 + a0.retire)))))) + 1)) + a2)) ([(D.zz0p a0 a1), (⟨a2, 0, (W (a0.retire - 1))⟩ : Bound)]))) r (fun R => zz04 r rfl) rfl fun fr r => ?_
  refine wn ?_
  refine wp_ret ?_
  refine ret_tmp r rfl rfl ?_
  exact ⟨rfl, hB⟩

def D.zz22 (a0 : Plan) (a1 : Int) (a2 : Int) : Int := (D.zz0l a0 (IntKind.i64.wrap ((IntKind.i64.wrap ((D.zz0f a0) + (IntKind.i64.wrap (a1 * 3)))) + a2)) ([(D.zz0p a0 a1), (⟨a2, 0, 2⟩ : Bound)]))

theorem zz68 (w0 : World) 
    (a0 : Plan) (a1 : Int) (a2 : Int) :
    Calls Tryz.prog 52 #[.agg (planC a0).toArray, .int .i64 a1, .int .i64 a2] w0 (PureRes (.int .i64 (D.zz22 a0 a1 a2)) w0) := by
 refine enter Tryz.func52 rfl 22 rfl rfl fun fr r => ?_
 have hB := Below.refl w0.heap.size w0
 refine wsr ?_
 refine seq_new (.cells ((planC a0)).toArray 25 (0, 0)) r (fun R => y_box r (v := (.agg (planC a0).toArray)) rfl) rfl fun fr b1 w2 n3 r => ?_
 obtain ⟨e_b1, z_w2, h_b1, hB, zB⟩ := n3.all hB
 refine seq_val (I 0) r (fun R => zz04 r rfl) rfl fun fr r => ?_
 refine wn ?_
 refine wp_seq ?_
 refine zz1c 15 [.val (.agg (planC a0).toArray), .val (.agg (planC a0).toArray), .val (I (D.zz0f a0)), .val (I a1), .val (I (W (a1 * 3))), .val (I (W ((D.zz0f a0) + (W (a1 * 3))))), .val (I a2), .val (I (W ((W ((D.zz0f a0) + (W (a1 * 3)))) + a2))), .val (.agg (planC a0).toArray), .val (I a1), .val (.agg (boundC (D.zz0p a0 a1)).toArray), .val (I a2), .val (.agg (boundC (⟨a2, 0, 2⟩ : Bound)).toArray), .slice w2.heap.size (.cells ((boundsC [(D.zz0p a0 a1), (⟨a2, 0, 2⟩ : Bound)])).toArray 216 (0, 0)) 2, .val (I (D.zz0l a0 (W ((W ((D.zz0f a0) + (W (a1 * 3)))) + a2)) ([(D.zz0p a0 a1), (⟨a2, 0, 2⟩ : Bound)])))] mixed r (by kernel_rfl) (zz00 (by exact trivial) (zz00 (by exact trivial) (zz00 (by exact trivial) (zz00 (by exact trivial) (zz00 (by exact trivial) (zz00 (by exact trivial) (zz00 (by exact trivial) (zz00 (by exact trivial) (zz00 (by exact trivial) (zz00 (by exact trivial) (zz00 (by exact trivial) (zz00 (by exact trivial) (zz00 (by exact trivial) (zz00 (Nat.le_refl _) (zz00 (by exact trivial) zz12))))))))))))))) ?_ ?_
 ·
  refine ec r (fun _ u _ b d s => zz03 s (cs := (planC a0)) (n := 6) rfl (keep b h_b1) ta25 rfl bz) ?_
  refine ec r (fun _ u _ b d s => zz03 s (cs := (planC a0)) (n := 6) rfl (keep b h_b1) ta25 rfl bz) ?_
  refine ec r (fun fr1 u w' hb' hd r' => y_call r' (args := [(.agg (planC a0).toArray)]) (lc hd.1 l0) cl143 ((zz5y _ a0).mono (by rintro _ w2 ⟨rfl, hb2⟩; exact ⟨_, rfl, hb2, rfl⟩))) ?_
  refine ec r (fun _ u _ b d s => y_move s rfl bz) ?_
  refine ec r (fun _ u _ b d s => y_bin s d.1 rfl rfl rfl bz) ?_
  refine ec r (fun _ u _ b d s => y_bin s d.1 d.2.1 rfl rfl bz) ?_
  refine ec r (fun _ u _ b d s => y_move s rfl bz) ?_
  refine ec r (fun _ u _ b d s => y_bin s d.1 d.2.1 rfl rfl bz) ?_
  refine ec r (fun _ u _ b d s => zz03 s (cs := (planC a0)) (n := 6) rfl (keep b h_b1) ta25 rfl bz) ?_
  refine ec r (fun _ u _ b d s => y_move s rfl bz) ?_
  refine ec r (fun fr1 u w' hb' hd r' => y_call r' (args := [(.agg (planC a0).toArray), (I a1)]) (lc hd.1 (lc hd.2.1 l0)) cl144 ((zz4q _ a0 a1).mono (by rintro _ w2 ⟨rfl, hb2⟩; exact ⟨_, rfl, hb2, rfl⟩))) ?_
  refine ec r (fun _ u _ b d s => y_move s rfl bz) ?_
  refine ec r (fun fr1 u w' hb' hd r' => y_build r' (v := (.agg (boundC (⟨a2, 0, 2⟩ : Bound)).toArray)) (bs3 (congrArg (fun z => (0, z)) hd.1) (rfl) (rfl) (by kernel_rfl)) bz) ?_
  refine ec r (fun fr1 u w' hb' hd r' => zz40 r' (c := ((boundsC [(D.zz0p a0 a1), (⟨a2, 0, 2⟩ : Bound)])).toArray) (E := 216) (bs2 (congrArg (fun z => (0, z)) hd.1) (congrArg (fun z => (1, z)) hd.2.1) (by kernel_rfl)) (fun b w2 n2 => ⟨n2.below, b, rfl, Nat.le_of_eq n2.eq.symm, n2.at_⟩)) ?_
  refine zz24 r rfl (fun fr1 u w' hb' hd r' => ?_) ?_
  · obtain ⟨d0, d1, d2, d3, _⟩ := hd; obtain ⟨q2, hq2, _, hr2⟩ := d2; exact y_call r' (args := [(.agg (planC a0).toArray), (I (W ((W ((D.zz0f a0) + (W (a1 * 3)))) + a2))), (.slice (some ⟨q2, 0, none⟩) 2 2)]) (lc d0 (lc d1 (lc hq2 l0))) cl142 ((zz2k _ a0 (W ((W ((D.zz0f a0) + (W (a1 * 3)))) + a2)) ([(D.zz0p a0 a1), (⟨a2, 0, 2⟩ : Bound)]) hr2 (by first | assumption | decide | (simp; done))).mono (by rintro _ w2 ⟨rfl, hb2⟩; exact ⟨_, rfl, hb2, rfl⟩))
  exact zz1l
 ·
  intro fr u w4 hb hΦ hne r
  obtain ⟨b5, g13, e_b5, h_b5⟩ := hΦ 13 (by decide)
  have l_b5 := lt_of_block h_b5
  have r := r.congr (sc (hΦ 14 (by decide)) (sc g13 (sc (hΦ 12 (by decide)) (sc (hΦ 11 (by decide)) (sc (hΦ 10 (by decide)) (sc (hΦ 9 (by decide)) (sc (hΦ 8 (by decide)) (sc (hΦ 7 (by decide)) (sc (hΦ 6 (by decide)) (sc (hΦ 5 (by decide)) (sc (hΦ 4 (by decide)) (sc (hΦ 3 (by decide)) (sc (hΦ 2 (by decide)) (sc (hΦ 1 (by decide)) (sc (hΦ 0 (by decide)) rfl)))))))))))))))
  have z_w4 := hb.size
  have h_b1 := keep hb h_b1
  obtain ⟨hB, zB⟩ := bon hb hB
  refine seq_val (I (D.zz0l a0 (W ((W ((D.zz0f a0) + (W (a1 * 3)))) + a2)) ([(D.zz0p a0 a1), (⟨a2, 0, 2⟩ : Bound)]))) r (fun R => zz04 r rfl) rfl fun fr r => ?_
  refine wn ?_
  refine wp_ret ?_
  refine ret_tmp r rfl rfl ?_
  exact ⟨rfl, hB⟩

def D.zz1u (a0 : Plan) (a1 : Int) (a2 : Int) : Int := (D.zz0l a0 (IntKind.i64.wrap ((IntKind.i64.wrap ((IntKind.i64.wrap ((D.zz05 a0) + (IntKind.i64.wrap (a1 * 5)))) + 2)) + a2)) ([(D.zz0x a0 a1), (⟨a2, 0, 2⟩ : Bound)]))

theorem c_plan_Plan_Field (w0 : World) 
    (a0 : Plan) (a1 : Int) (a2 : Int) :
    Calls Tryz.prog 150 #[.agg (planC a0).toArray, .int .i64 a1, .int .i64 a2] w0 (PureRes (.int .i64 (D.zz1u a0 a1 a2)) w0) := by
 refine enter Tryz.func150 rfl 23 rfl rfl fun fr r => ?_
 have hB := Below.refl w0.heap.size w0
 refine wsr ?_
 refine seq_new (.cells ((planC a0)).toArray 25 (0, 0)) r (fun R => y_box r (v := (.agg (planC a0).toArray)) rfl) rfl fun fr b1 w2 n3 r => ?_
 obtain ⟨e_b1, z_w2, h_b1, hB, zB⟩ := n3.all hB
 refine seq_val (I 0) r (fun R => zz04 r rfl) rfl fun fr r => ?_
 refine wn ?_
 refine wp_seq ?_
 refine zz1c 16 [.val (.agg (planC a0).toArray), .val (.agg (planC a0).toArray), .val (I (D.zz05 a0)), .val (I a1), .val (I (W (a1 * 5))), .val (I (W ((D.zz05 a0) + (W (a1 * 5))))), .val (I (W ((W ((D.zz05 a0) + (W (a1 * 5)))) + 2))), .val (I a2), .val (I (W ((W ((W ((D.zz05 a0) + (W (a1 * 5)))) + 2)) + a2))), .val (.agg (planC a0).toArray), .val (I a1), .val (.agg (boundC (D.zz0x a0 a1)).toArray), .val (I a2), .val (.agg (boundC (⟨a2, 0, 2⟩ : Bound)).toArray), .slice w2.heap.size (.cells ((boundsC [(D.zz0x a0 a1), (⟨a2, 0, 2⟩ : Bound)])).toArray 216 (0, 0)) 2, .val (I (D.zz0l a0 (W ((W ((W ((D.zz05 a0) + (W (a1 * 5)))) + 2)) + a2)) ([(D.zz0x a0 a1), (⟨a2, 0, 2⟩ : Bound)])))] mixed r (by kernel_rfl) (zz00 (by exact trivial) (zz00 (by exact trivial) (zz00 (by exact trivial) (zz00 (by exact trivial) (zz00 (by exact trivial) (zz00 (by exact trivial) (zz00 (by exact trivial) (zz00 (by exact trivial) (zz00 (by exact trivial) (zz00 (by exact trivial) (zz00 (by exact trivial) (zz00 (by exact trivial) (zz00 (by exact trivial) (zz00 (by exact trivial) (zz00 (Nat.le_refl _) (zz00 (by exact trivial) zz12)))))))))))))))) ?_ ?_
 ·
  refine ec r (fun _ u _ b d s => zz03 s (cs := (planC a0)) (n := 6) rfl (keep b h_b1) ta25 rfl bz) ?_
  refine ec r (fun _ u _ b d s => zz03 s (cs := (planC a0)) (n := 6) rfl (keep b h_b1) ta25 rfl bz) ?_
  refine ec r (fun fr1 u w' hb' hd r' => y_call r' (args := [(.agg (planC a0).toArray)]) (lc hd.1 l0) cl158 ((zz3p _ a0).mono (by rintro _ w2 ⟨rfl, hb2⟩; exact ⟨_, rfl, hb2, rfl⟩))) ?_
  refine ec r (fun _ u _ b d s => y_move s rfl bz) ?_
  refine ec r (fun _ u _ b d s => y_bin s d.1 rfl rfl rfl bz) ?_
  refine ec r (fun _ u _ b d s => y_bin s d.1 d.2.1 rfl rfl bz) ?_
  refine ec r (fun _ u _ b d s => y_bin s d.1 rfl rfl rfl bz) ?_
  refine ec r (fun _ u _ b d s => y_move s rfl bz) ?_
  refine ec r (fun _ u _ b d s => y_bin s d.1 d.2.1 rfl rfl bz) ?_
  refine ec r (fun _ u _ b d s => zz03 s (cs := (planC a0)) (n := 6) rfl (keep b h_b1) ta25 rfl bz) ?_
  refine ec r (fun _ u _ b d s => y_move s rfl bz) ?_
  refine ec r (fun fr1 u w' hb' hd r' => y_call r' (args := [(.agg (planC a0).toArray), (I a1)]) (lc hd.1 (lc hd.2.1 l0)) cl159 ((zz5q _ a0 a1).mono (by rintro _ w2 ⟨rfl, hb2⟩; exact ⟨_, rfl, hb2, rfl⟩))) ?_
  refine ec r (fun _ u _ b d s => y_move s rfl bz) ?_
  refine ec r (fun fr1 u w' hb' hd r' => y_build r' (v := (.agg (boundC (⟨a2, 0, 2⟩ : Bound)).toArray)) (bs3 (congrArg (fun z => (0, z)) hd.1) (rfl) (rfl) (by kernel_rfl)) bz) ?_
  refine ec r (fun fr1 u w' hb' hd r' => zz40 r' (c := ((boundsC [(D.zz0x a0 a1), (⟨a2, 0, 2⟩ : Bound)])).toArray) (E := 216) (bs2 (congrArg (fun z => (0, z)) hd.1) (congrArg (fun z => (1, z)) hd.2.1) (by kernel_rfl)) (fun b w2 n2 => ⟨n2.below, b, rfl, Nat.le_of_eq n2.eq.symm, n2.at_⟩)) ?_
  refine zz24 r rfl (fun fr1 u w' hb' hd r' => ?_) ?_
  · obtain ⟨d0, d1, d2, d3, _⟩ := hd; obtain ⟨q2, hq2, _, hr2⟩ := d2; exact y_call r' (args := [(.agg (planC a0).toArray), (I (W ((W ((W ((D.zz05 a0) + (W (a1 * 5)))) + 2)) + a2))), (.slice (some ⟨q2, 0, none⟩) 2 2)]) (lc d0 (lc d1 (lc hq2 l0))) cl142 ((zz2k _ a0 (W ((W ((W ((D.zz05 a0) + (W (a1 * 5)))) + 2)) + a2)) ([(D.zz0x a0 a1), (⟨a2, 0, 2⟩ : Bound)]) hr2 (by first | assumption | decide | (simp; done))).mono (by rintro _ w2 ⟨rfl, hb2⟩; exact ⟨_, rfl, hb2, rfl⟩))
  exact zz1l
 ·
  intro fr u w4 hb hΦ hne r
  obtain ⟨b5, g14, e_b5, h_b5⟩ := hΦ 14 (by decide)
  have l_b5 := lt_of_block h_b5
  have r := r.congr (sc (hΦ 15 (by decide)) (sc g14 (sc (hΦ 13 (by decide)) (sc (hΦ 12 (by decide)) (sc (hΦ 11 (by decide)) (sc (hΦ 10 (by decide)) (sc (hΦ 9 (by decide)) (sc (hΦ 8 (by decide)) (sc (hΦ 7 (by decide)) (sc (hΦ 6 (by decide)) (sc (hΦ 5 (by decide)) (sc (hΦ 4 (by decide)) (sc (hΦ 3 (by decide)) (sc (hΦ 2 (by decide)) (sc (hΦ 1 (by decide)) (sc (hΦ 0 (by decide)) rfl))))))))))))))))
  have z_w4 := hb.size
  have h_b1 := keep hb h_b1
  obtain ⟨hB, zB⟩ := bon hb hB
  refine seq_val (I (D.zz0l a0 (W ((W ((W ((D.zz05 a0) + (W (a1 * 5)))) + 2)) + a2)) ([(D.zz0x a0 a1), (⟨a2, 0, 2⟩ : Bound)]))) r (fun R => zz04 r rfl) rfl fun fr r => ?_
  refine wn ?_
  refine wp_ret ?_
  refine ret_tmp r rfl rfl ?_
  exact ⟨rfl, hB⟩

end Go.Proofs.YtjkinpbfmihhdaaGreat

/- Written by a program of ours (wip/gen.py): fields: their form -/
set_option linter.unusedVariables false
set_option maxRecDepth 20000
set_option maxHeartbeats 2000000
namespace Go.Proofs.YtjkinpbfmihhdaaGreat
open Go.RowKit
theorem fo223_0 : fieldOff Tryz.prog 223 0 0 = true := by kernel_rfl

theorem fo223_1 : fieldOff Tryz.prog 223 1 1 = true := by kernel_rfl

def D.zz0d (a0 : Field) : Bool := (bif (decide (a0.at_ ≥ 0)) then (bif (decide (a0.at_ < 64)) then (bif (decide (a0.bits ≥ 1)) then (decide (a0.bits ≤ (IntKind.i64.wrap (64 - a0.at_)))) else false) else false) else false)

theorem zz2d (w0 : World) 
    (a0 : Field) :
    Calls Tryz.prog 262 #[.agg (fieldC a0).toArray] w0 (PureRes (.bool (D.zz0d a0)) w0) := by
 refine enter Tryz.func262 rfl 24 rfl rfl fun fr r => ?_
 have hB := Below.refl w0.heap.size w0
 refine wsr ?_
 refine seq_new (.cells ((fieldC a0)).toArray 223 (0, 0)) r (fun R => y_box r (v := (.agg (fieldC a0).toArray)) rfl) rfl fun fr b1 w2 n3 r => ?_
 obtain ⟨e_b1, z_w2, h_b1, hB, zB⟩ := n3.all hB
 refine seq_val (.bool false) r (fun R => zz04 r rfl) rfl fun fr r => ?_
 refine wn ?_
 refine wsr ?_
 refine seq_val _ r (fun R => zz02 r (o := 0) rfl fo223_0) rfl fun fr r => ?_
 refine seq_val (I a0.at_) r (fun R => zz01 r rfl h_b1 to3 rfl) rfl fun fr r => ?_
 refine seq_val _ r (fun R => y_bin r rfl rfl rfl rfl) rfl fun fr r => ?_
 refine seq_val (.bool (decide (a0.at_ ≥ 0))) r (fun R => y_move r rfl) rfl fun fr r => ?_
 refine zz0r (decide (a0.at_ ≥ 0)) (fun h4 => ?_) (fun h4 => ?_)
 ·
  refine s1 r h4 ?_
  refine seq_val _ r (fun R => zz02 r (o := 0) rfl fo223_0) rfl fun fr r => ?_
  refine s1 r h4 ?_
  refine seq_val (I a0.at_) r (fun R => zz01 r rfl h_b1 to3 rfl) rfl fun fr r => ?_
  refine s1 r h4 ?_
  refine seq_val _ r (fun R => y_bin r rfl rfl rfl rfl) rfl fun fr r => ?_
  refine seq_val (.bool (decide (a0.at_ < 64))) r (fun R => y_pick r (b := true) (congrArg Value.bool h4) rfl) rfl fun fr r => ?_
  refine seq_val (.bool (decide (a0.at_ < 64))) r (fun R => y_move r rfl) rfl fun fr r => ?_
  refine zz0r (decide (a0.at_ < 64)) (fun h5 => ?_) (fun h5 => ?_)
  ·
   refine s1 r h5 ?_
   refine seq_val _ r (fun R => zz02 r (o := 0) rfl fo223_1) rfl fun fr r => ?_
   refine s1 r h5 ?_
   refine seq_val (I a0.bits) r (fun R => zz01 r rfl h_b1 to3 rfl) rfl fun fr r => ?_
   refine s1 r h5 ?_
   refine seq_val _ r (fun R => y_bin r rfl rfl rfl rfl) rfl fun fr r => ?_
   refine seq_val (.bool (decide (a0.bits ≥ 1))) r (fun R => y_pick r (b := true) (congrArg Value.bool h5) rfl) rfl fun fr r => ?_
   refine seq_val (.bool (decide (a0.bits ≥ 1))) r (fun R => y_move r rfl) rfl fun fr r => ?_
   refine zz0r (decide (a0.bits ≥ 1)) (fun h6 => ?_) (fun h6 => ?_)
   ·
    refine s1 r h6 ?_
    refine seq_val _ r (fun R => zz02 r (o := 0) rfl fo223_1) rfl fun fr r => ?_
    refine s1 r h6 ?_
    refine seq_val (I a0.bits) r (fun R => zz01 r rfl h_b1 to3 rfl) rfl fun fr r => ?_
    refine s1 r h6 ?_
    refine seq_val _ r (fun R => zz02 r (o := 0) rfl fo223_0) rfl fun fr r => ?_
    refine s1 r h6 ?_
    refine seq_val (I a0.at_) r (fun R => zz01 r rfl h_b1 to3 rfl) rfl fun fr r => ?_
    refine s1 r h6 ?_
    refine seq_val _ r (fun R => y_bin r rfl rfl rfl rfl) rfl fun fr r => ?_
    refine s1 r h6 ?_
    refine seq_val _ r (fun R => y_bin r rfl rfl rfl rfl) rfl fun fr r => ?_
    refine seq_val (.bool (decide (a0.bits ≤ (W (64 - a0.at_))))) r (fun R => y_pick r (b := true) (congrArg Value.bool h6) rfl) rfl fun fr r => ?_
    refine seq_val (.bool (decide (a0.bits ≤ (W (64 - a0.at_))))) r (fun R => zz04 r rfl) rfl fun fr r => ?_
    refine wn ?_
    refine wp_ret ?_
    have hd : D.zz0d a0 = (decide (a0.bits ≤ (W (64 - a0.at_)))) := (cond_t h4).trans ((cond_t h5).trans ((cond_t h6).trans (rfl)))
    refine ret_tmp r rfl rfl ?_
    rw [hd]
    exact ⟨rfl, hB⟩
   ·
    refine s0 r h6 fun fr r => ?_
    refine s0 r h6 fun fr r => ?_
    refine s0 r h6 fun fr r => ?_
    refine s0 r h6 fun fr r => ?_
    refine s0 r h6 fun fr r => ?_
    refine s0 r h6 fun fr r => ?_
    refine seq_val (.bool false) r (fun R => y_pick r (b := false) (congrArg Value.bool h6) rfl) rfl fun fr r => ?_
    refine seq_val (.bool false) r (fun R => zz04 r rfl) rfl fun fr r => ?_
    refine wn ?_
    refine wp_ret ?_
    have hd : D.zz0d a0 = false := (cond_t h4).trans ((cond_t h5).trans ((cond_f h6).trans (rfl)))
    refine ret_tmp r rfl rfl ?_
    rw [hd]
    exact ⟨rfl, hB⟩
  ·
   refine s0 r h5 fun fr r => ?_
   refine s0 r h5 fun fr r => ?_
   refine s0 r h5 fun fr r => ?_
   refine seq_val (.bool false) r (fun R => y_pick r (b := false) (congrArg Value.bool h5) rfl) rfl fun fr r => ?_
   refine seq_val (.bool false) r (fun R => y_move r rfl) rfl fun fr r => ?_
   refine s0 r (rfl : false = _) fun fr r => ?_
   refine s0 r (rfl : false = _) fun fr r => ?_
   refine s0 r (rfl : false = _) fun fr r => ?_
   refine s0 r (rfl : false = _) fun fr r => ?_
   refine s0 r (rfl : false = _) fun fr r => ?_
   refine s0 r (rfl : false = _) fun fr r => ?_
   refine seq_val (.bool false) r (fun R => y_pick r (b := false) (congrArg Value.bool (rfl : false = _)) rfl) rfl fun fr r => ?_
   refine seq_val (.bool false) r (fun R => zz04 r rfl) rfl fun fr r => ?_
   refine wn ?_
   refine wp_ret ?_
   have hd : D.zz0d a0 = false := (cond_t h4).trans ((cond_f h5).trans (rfl))
   refine ret_tmp r rfl rfl ?_
   rw [hd]
   exact ⟨rfl, hB⟩
 ·
  refine s0 r h4 fun fr r => ?_
  refine s0 r h4 fun fr r => ?_
  refine s0 r h4 fun fr r => ?_
  refine seq_val (.bool false) r (fun R => y_pick r (b := false) (congrArg Value.bool h4) rfl) rfl fun fr r => ?_
  refine seq_val (.bool false) r (fun R => y_move r rfl) rfl fun fr r => ?_
  refine s0 r (rfl : false = _) fun fr r => ?_
  refine s0 r (rfl : false = _) fun fr r => ?_
  refine s0 r (rfl : false = _) fun fr r => ?_
  refine seq_val (.bool false) r (fun R => y_pick r (b := false) (congrArg Value.bool (rfl : false = _)) rfl) rfl fun fr r => ?_
  refine seq_val (.bool false) r (fun R => y_move r rfl) rfl fun fr r => ?_
  refine s0 r (rfl : false = _) fun fr r => ?_
  refine s0 r (rfl : false = _) fun fr r => ?_
  refine s0 r (rfl : false = _) fun fr r => ?_
  refine s0 r (rfl : false = _) fun fr r => ?_
  refine s0 r (rfl : false = _) fun fr r => ?_
  refine s0 r (rfl : false = _) fun fr r => ?_
  refine seq_val (.bool false) r (fun R => y_pick r (b := false) (congrArg Value.bool (rfl : false = _)) rfl) rfl fun fr r => ?_
  refine seq_val (.bool false) r (fun R => zz04 r rfl) rfl fun fr r => ?_
  refine wn ?_
  refine wp_ret ?_
  have hd : D.zz0d a0 = false := (cond_f h4).trans (rfl)
  refine ret_tmp r rfl rfl ?_
  rw [hd]
  exact ⟨rfl, hB⟩

end Go.Proofs.YtjkinpbfmihhdaaGreat

/- A formed field's numbers. -/
namespace Go.Proofs.YtjkinpbfmihhdaaGreat
theorem field_formed {f : Field} (h : D.zz0d f = true) : 0 ≤ f.at_ ∧ f.at_ < 64 ∧ 1 ≤ f.bits ∧ f.bits ≤ 64 - f.at_ := by
  unfold D.zz0d at h
  have hw : ∀ x : Int, 0 ≤ x → x < 64 → IntKind.i64.wrap (64 - x) = 64 - x := by
    intro x h0 h1
    simp only [IntKind.wrap]
    simp [IntKind.signed, IntKind.bits]
    omega
  cases h1 : decide (f.at_ ≥ 0) <;> rw [h1] at h
  · cases h
  cases h2 : decide (f.at_ < 64) <;> rw [h2] at h
  · cases h
  cases h3 : decide (f.bits ≥ 1) <;> rw [h3] at h
  · cases h
  simp only [decide_eq_true_eq] at h1 h2 h3
  simp only [cond_true, decide_eq_true_eq] at h
  rw [hw _ h1 h2] at h
  omega

end Go.Proofs.YtjkinpbfmihhdaaGreat

/- Written by a program of ours (wip/gen.py): fields -/
set_option linter.unusedVariables false
set_option maxRecDepth 20000
set_option maxHeartbeats 2000000
namespace Go.Proofs.YtjkinpbfmihhdaaGreat
open Go.RowKit
theorem cl260 : callable Tryz.prog 260 = true := by kernel_rfl

theorem cl262 : callable Tryz.prog 262 = true := by kernel_rfl

theorem cl263 : callable Tryz.prog 263 = true := by kernel_rfl

theorem ta223 : tyA Tryz.prog 223 2 = true := by kernel_rfl

def D.zz08 (a0 : Field) : Int := (bif (!(D.zz0d a0)) then 0 else (bif (a0.bits == 64) then 18446744073709551615 else (IntKind.u64.wrap ((shlI .u64 1 a0.bits) - 1))))

theorem zz3l (w0 : World) 
    (a0 : Field) :
    Calls Tryz.prog 263 #[.agg (fieldC a0).toArray] w0 (PureRes (.int .u64 (D.zz08 a0)) w0) := by
 refine enter Tryz.func263 rfl 15 rfl rfl fun fr r => ?_
 have hB := Below.refl w0.heap.size w0
 refine wsr ?_
 refine seq_new (.cells ((fieldC a0)).toArray 223 (0, 0)) r (fun R => y_box r (v := (.agg (fieldC a0).toArray)) rfl) rfl fun fr b1 w2 n3 r => ?_
 obtain ⟨e_b1, z_w2, h_b1, hB, zB⟩ := n3.all hB
 refine seq_val (U 0) r (fun R => zz04 r rfl) rfl fun fr r => ?_
 refine wn ?_
 refine wp_seq ?_
 refine wp_block ?_
 refine wsr ?_
 refine seq_val (.agg (fieldC a0).toArray) r (fun R => zz03 r (cs := (fieldC a0)) (n := 2) rfl h_b1 ta223 rfl) rfl fun fr r => ?_
 refine zz06 r (zz2d w2 a0) (fun R hc => y_call r rfl cl262 hc) rfl ?_
 rintro _ w4 ⟨rfl, hb⟩
 refine ⟨_, rfl, fun fr r => ?_⟩
 have z_w4 := hb.size
 have h_b1 := keep hb h_b1
 obtain ⟨hB, zB⟩ := bon hb hB
 refine seq_val (.bool (!(D.zz0d a0))) r (fun R => y_un r (u := (.bool (D.zz0d a0))) rfl rfl) rfl fun fr r => ?_
 refine seq_val (.bool (!(D.zz0d a0))) r (fun R => zz04 r rfl) rfl fun fr r => ?_
 refine wn ?_
 refine wp_cond_split (t := (!(D.zz0d a0))) (r.ev rfl) (fun h5 => ?_) (fun h5 => ?_)
 ·
  refine wsr ?_
  refine seq_val (U 0) r (fun R => zz04 r rfl) rfl fun fr r => ?_
  refine wn ?_
  refine wp_ret ?_
  have hd : D.zz08 a0 = 0 := (cond_t h5).trans (rfl)
  refine ret_tmp r rfl rfl ?_
  rw [hd]
  exact ⟨rfl, hB⟩
 ·
  refine wsr ?_
  refine seq_val _ r (fun R => zz02 r (o := 0) rfl fo223_1) rfl fun fr r => ?_
  refine seq_val (I a0.bits) r (fun R => zz01 r rfl h_b1 to3 rfl) rfl fun fr r => ?_
  refine seq_val _ r (fun R => y_bin r rfl rfl rfl rfl) rfl fun fr r => ?_
  refine seq_val (.bool (a0.bits == 64)) r (fun R => zz04 r rfl) rfl fun fr r => ?_
  refine wn ?_
  refine wp_cond_split (t := (a0.bits == 64)) (r.ev rfl) (fun h6 => ?_) (fun h6 => ?_)
  ·
   refine wsr ?_
   refine seq_val (U 18446744073709551615) r (fun R => zz04 r rfl) rfl fun fr r => ?_
   refine wn ?_
   refine wp_ret ?_
   have hd : D.zz08 a0 = 18446744073709551615 := (cond_f h5).trans ((cond_t h6).trans (rfl))
   refine ret_tmp r rfl rfl ?_
   rw [hd]
   exact ⟨rfl, hB⟩
  ·
   refine wp_skip ?_
   refine wsr ?_
   refine seq_val _ r (fun R => zz02 r (o := 0) rfl fo223_1) rfl fun fr r => ?_
   refine seq_val (I a0.bits) r (fun R => zz01 r rfl h_b1 to3 rfl) rfl fun fr r => ?_
   refine seq_val _ r (fun R => y_bin r rfl rfl rfl (bin_shl (by first | assumption | decide | (have hq := field_formed (by simpa using ‹(!D.zz0d _) = false›); omega)))) rfl fun fr r => ?_
   refine seq_val _ r (fun R => y_bin r rfl rfl rfl rfl) rfl fun fr r => ?_
   refine seq_val (U (V ((shlI .u64 1 a0.bits) - 1))) r (fun R => zz04 r rfl) rfl fun fr r => ?_
   refine wn ?_
   refine wp_ret ?_
   have hd : D.zz08 a0 = (V ((shlI .u64 1 a0.bits) - 1)) := (cond_f h5).trans ((cond_f h6).trans (rfl))
   refine ret_tmp r rfl rfl ?_
   rw [hd]
   exact ⟨rfl, hB⟩

def D.zz09 (a0 : Field) (a1 : Int) : Int := (bif (!(D.zz0d a0)) then 0 else (zz2s .u64 (shrI .u64 a1 a0.at_) (D.zz08 a0)))

theorem zz3m (w0 : World) 
    (a0 : Field) (a1 : Int) :
    Calls Tryz.prog 161 #[.agg (fieldC a0).toArray, .int .u64 a1] w0 (PureRes (.int .u64 (D.zz09 a0 a1)) w0) := by
 refine enter Tryz.func161 rfl 15 rfl rfl fun fr r => ?_
 have hB := Below.refl w0.heap.size w0
 refine wsr ?_
 refine seq_new (.cells ((fieldC a0)).toArray 223 (0, 0)) r (fun R => y_box r (v := (.agg (fieldC a0).toArray)) rfl) rfl fun fr b1 w2 n3 r => ?_
 obtain ⟨e_b1, z_w2, h_b1, hB, zB⟩ := n3.all hB
 refine seq_val (U 0) r (fun R => zz04 r rfl) rfl fun fr r => ?_
 refine wn ?_
 refine wp_seq ?_
 refine wsr ?_
 refine seq_val (.agg (fieldC a0).toArray) r (fun R => zz03 r (cs := (fieldC a0)) (n := 2) rfl h_b1 ta223 rfl) rfl fun fr r => ?_
 refine zz06 r (zz2d w2 a0) (fun R hc => y_call r rfl cl262 hc) rfl ?_
 rintro _ w4 ⟨rfl, hb⟩
 refine ⟨_, rfl, fun fr r => ?_⟩
 have z_w4 := hb.size
 have h_b1 := keep hb h_b1
 obtain ⟨hB, zB⟩ := bon hb hB
 refine seq_val (.bool (!(D.zz0d a0))) r (fun R => y_un r (u := (.bool (D.zz0d a0))) rfl rfl) rfl fun fr r => ?_
 refine wn ?_
 refine wp_cond_split (t := (!(D.zz0d a0))) (r.ev rfl) (fun h5 => ?_) (fun h5 => ?_)
 ·
  refine wsr ?_
  refine seq_val (U 0) r (fun R => zz04 r rfl) rfl fun fr r => ?_
  refine wn ?_
  refine wp_ret ?_
  have hd : D.zz09 a0 a1 = 0 := (cond_t h5).trans (rfl)
  refine ret_tmp r rfl rfl ?_
  rw [hd]
  exact ⟨rfl, hB⟩
 ·
  refine wp_skip ?_
  refine wp_seq ?_
  refine zz1c 7 [.val (U a1), .val (.pointer (some ⟨b1, 0, none⟩)), .val (I a0.at_), .val (U (shrI .u64 a1 a0.at_)), .val (.agg (fieldC a0).toArray), .val (U (D.zz08 a0)), .val (U (zz2s .u64 (shrI .u64 a1 a0.at_) (D.zz08 a0)))] mixed r (by kernel_rfl) (zz00 (by exact trivial) (zz00 (by exact trivial) (zz00 (by exact trivial) (zz00 (by exact trivial) (zz00 (by exact trivial) (zz00 (by exact trivial) (zz00 (by exact trivial) zz12))))))) ?_ ?_
  ·
   refine ec r (fun _ u _ b d s => y_move s rfl bz) ?_
   refine ec r (fun _ u _ b d s => zz02 s (b := b1) (o := 0) rfl fo223_0 bz) ?_
   refine ec r (fun _ u _ b d s => zz01 s d.1 (keep b h_b1) to3 rfl bz) ?_
   refine ec r (fun _ u _ b d s => y_bin s d.1 d.2.1 rfl (bin_shr (by first | assumption | decide | (have hq := field_formed (by simpa using ‹(!D.zz0d _) = false›); omega))) bz) ?_
   refine ec r (fun _ u _ b d s => zz03 s (cs := (fieldC a0)) (n := 2) rfl (keep b h_b1) ta223 rfl bz) ?_
   refine ec r (fun fr1 u w' hb' hd r' => y_call r' (args := [(.agg (fieldC a0).toArray)]) (lc hd.1 l0) cl263 ((zz3l _ a0).mono (by rintro _ w2 ⟨rfl, hb2⟩; exact ⟨_, rfl, hb2, rfl⟩))) ?_
   refine ec r (fun _ u _ b d s => y_bin s d.1 d.2.1 rfl rfl bz) ?_
   exact zz1l
  ·
   intro fr u w6 hb hΦ hne r
   have r := r.congr (sc (hΦ 6 (by decide)) (sc (hΦ 5 (by decide)) (sc (hΦ 4 (by decide)) (sc (hΦ 3 (by decide)) (sc (hΦ 2 (by decide)) (sc (hΦ 1 (by decide)) (sc (hΦ 0 (by decide)) rfl)))))))
   have z_w6 := hb.size
   have h_b1 := keep hb h_b1
   obtain ⟨hB, zB⟩ := bon hb hB
   refine seq_val (U (zz2s .u64 (shrI .u64 a1 a0.at_) (D.zz08 a0))) r (fun R => zz04 r rfl) rfl fun fr r => ?_
   refine wn ?_
   refine wp_ret ?_
   have hd : D.zz09 a0 a1 = (zz2s .u64 (shrI .u64 a1 a0.at_) (D.zz08 a0)) := (cond_f h5).trans (rfl)
   refine ret_tmp r rfl rfl ?_
   rw [hd]
   exact ⟨rfl, hB⟩

def D.zz0g (a0 : Field) : Int := (bif (!(D.zz0d a0)) then 0 else (shlI .u64 (D.zz08 a0) a0.at_))

theorem zz3f (w0 : World) 
    (a0 : Field) :
    Calls Tryz.prog 260 #[.agg (fieldC a0).toArray] w0 (PureRes (.int .u64 (D.zz0g a0)) w0) := by
 refine enter Tryz.func260 rfl 11 rfl rfl fun fr r => ?_
 have hB := Below.refl w0.heap.size w0
 refine wsr ?_
 refine seq_new (.cells ((fieldC a0)).toArray 223 (0, 0)) r (fun R => y_box r (v := (.agg (fieldC a0).toArray)) rfl) rfl fun fr b1 w2 n3 r => ?_
 obtain ⟨e_b1, z_w2, h_b1, hB, zB⟩ := n3.all hB
 refine seq_val (U 0) r (fun R => zz04 r rfl) rfl fun fr r => ?_
 refine wn ?_
 refine wp_seq ?_
 refine wsr ?_
 refine seq_val (.agg (fieldC a0).toArray) r (fun R => zz03 r (cs := (fieldC a0)) (n := 2) rfl h_b1 ta223 rfl) rfl fun fr r => ?_
 refine zz06 r (zz2d w2 a0) (fun R hc => y_call r rfl cl262 hc) rfl ?_
 rintro _ w4 ⟨rfl, hb⟩
 refine ⟨_, rfl, fun fr r => ?_⟩
 have z_w4 := hb.size
 have h_b1 := keep hb h_b1
 obtain ⟨hB, zB⟩ := bon hb hB
 refine seq_val (.bool (!(D.zz0d a0))) r (fun R => y_un r (u := (.bool (D.zz0d a0))) rfl rfl) rfl fun fr r => ?_
 refine wn ?_
 refine wp_cond_split (t := (!(D.zz0d a0))) (r.ev rfl) (fun h5 => ?_) (fun h5 => ?_)
 ·
  refine wsr ?_
  refine seq_val (U 0) r (fun R => zz04 r rfl) rfl fun fr r => ?_
  refine wn ?_
  refine wp_ret ?_
  have hd : D.zz0g a0 = 0 := (cond_t h5).trans (rfl)
  refine ret_tmp r rfl rfl ?_
  rw [hd]
  exact ⟨rfl, hB⟩
 ·
  refine wp_skip ?_
  refine wp_seq ?_
  refine zz1c 5 [.val (.agg (fieldC a0).toArray), .val (U (D.zz08 a0)), .val (.pointer (some ⟨b1, 0, none⟩)), .val (I a0.at_), .val (U (shlI .u64 (D.zz08 a0) a0.at_))] mixed r (by kernel_rfl) (zz00 (by exact trivial) (zz00 (by exact trivial) (zz00 (by exact trivial) (zz00 (by exact trivial) (zz00 (by exact trivial) zz12))))) ?_ ?_
  ·
   refine ec r (fun _ u _ b d s => zz03 s (cs := (fieldC a0)) (n := 2) rfl (keep b h_b1) ta223 rfl bz) ?_
   refine ec r (fun fr1 u w' hb' hd r' => y_call r' (args := [(.agg (fieldC a0).toArray)]) (lc hd.1 l0) cl263 ((zz3l _ a0).mono (by rintro _ w2 ⟨rfl, hb2⟩; exact ⟨_, rfl, hb2, rfl⟩))) ?_
   refine ec r (fun _ u _ b d s => zz02 s (b := b1) (o := 0) rfl fo223_0 bz) ?_
   refine ec r (fun _ u _ b d s => zz01 s d.1 (keep b h_b1) to3 rfl bz) ?_
   refine ec r (fun _ u _ b d s => y_bin s d.1 d.2.1 rfl (bin_shl (by first | assumption | decide | (have hq := field_formed (by simpa using ‹(!D.zz0d _) = false›); omega))) bz) ?_
   exact zz1l
  ·
   intro fr u w6 hb hΦ hne r
   have r := r.congr (sc (hΦ 4 (by decide)) (sc (hΦ 3 (by decide)) (sc (hΦ 2 (by decide)) (sc (hΦ 1 (by decide)) (sc (hΦ 0 (by decide)) rfl)))))
   have z_w6 := hb.size
   have h_b1 := keep hb h_b1
   obtain ⟨hB, zB⟩ := bon hb hB
   refine seq_val (U (shlI .u64 (D.zz08 a0) a0.at_)) r (fun R => zz04 r rfl) rfl fun fr r => ?_
   refine wn ?_
   refine wp_ret ?_
   have hd : D.zz0g a0 = (shlI .u64 (D.zz08 a0) a0.at_) := (cond_f h5).trans (rfl)
   refine ret_tmp r rfl rfl ?_
   rw [hd]
   exact ⟨rfl, hB⟩

def D.zz0n (a0 : Field) (a1 : Int) (a2 : Int) : Int := (bif (!(D.zz0d a0)) then a1 else (bits_or .u64 (zz11 .u64 a1 (D.zz0g a0)) (shlI .u64 (zz2s .u64 a2 (D.zz08 a0)) a0.at_)))

theorem zz56 (w0 : World) 
    (a0 : Field) (a1 : Int) (a2 : Int) :
    Calls Tryz.prog 296 #[.agg (fieldC a0).toArray, .int .u64 a1, .int .u64 a2] w0 (PureRes (.int .u64 (D.zz0n a0 a1 a2)) w0) := by
 refine enter Tryz.func296 rfl 23 rfl rfl fun fr r => ?_
 have hB := Below.refl w0.heap.size w0
 refine wsr ?_
 refine seq_new (.cells ((fieldC a0)).toArray 223 (0, 0)) r (fun R => y_box r (v := (.agg (fieldC a0).toArray)) rfl) rfl fun fr b1 w2 n3 r => ?_
 obtain ⟨e_b1, z_w2, h_b1, hB, zB⟩ := n3.all hB
 refine seq_val (U 0) r (fun R => zz04 r rfl) rfl fun fr r => ?_
 refine wn ?_
 refine wp_seq ?_
 refine wsr ?_
 refine seq_val (.agg (fieldC a0).toArray) r (fun R => zz03 r (cs := (fieldC a0)) (n := 2) rfl h_b1 ta223 rfl) rfl fun fr r => ?_
 refine zz06 r (zz2d w2 a0) (fun R hc => y_call r rfl cl262 hc) rfl ?_
 rintro _ w4 ⟨rfl, hb⟩
 refine ⟨_, rfl, fun fr r => ?_⟩
 have z_w4 := hb.size
 have h_b1 := keep hb h_b1
 obtain ⟨hB, zB⟩ := bon hb hB
 refine seq_val (.bool (!(D.zz0d a0))) r (fun R => y_un r (u := (.bool (D.zz0d a0))) rfl rfl) rfl fun fr r => ?_
 refine wn ?_
 refine wp_cond_split (t := (!(D.zz0d a0))) (r.ev rfl) (fun h5 => ?_) (fun h5 => ?_)
 ·
  refine wsr ?_
  refine seq_val (U a1) r (fun R => y_move r rfl) rfl fun fr r => ?_
  refine seq_val (U a1) r (fun R => zz04 r rfl) rfl fun fr r => ?_
  refine wn ?_
  refine wp_ret ?_
  have hd : D.zz0n a0 a1 a2 = a1 := (cond_t h5).trans (rfl)
  refine ret_tmp r rfl rfl ?_
  rw [hd]
  exact ⟨rfl, hB⟩
 ·
  refine wp_skip ?_
  refine wp_seq ?_
  refine zz1c 12 [.val (U a1), .val (.agg (fieldC a0).toArray), .val (U (D.zz0g a0)), .val (U (zz11 .u64 a1 (D.zz0g a0))), .val (U a2), .val (.agg (fieldC a0).toArray), .val (U (D.zz08 a0)), .val (U (zz2s .u64 a2 (D.zz08 a0))), .val (.pointer (some ⟨b1, 0, none⟩)), .val (I a0.at_), .val (U (shlI .u64 (zz2s .u64 a2 (D.zz08 a0)) a0.at_)), .val (U (bits_or .u64 (zz11 .u64 a1 (D.zz0g a0)) (shlI .u64 (zz2s .u64 a2 (D.zz08 a0)) a0.at_)))] mixed r (by kernel_rfl) (zz00 (by exact trivial) (zz00 (by exact trivial) (zz00 (by exact trivial) (zz00 (by exact trivial) (zz00 (by exact trivial) (zz00 (by exact trivial) (zz00 (by exact trivial) (zz00 (by exact trivial) (zz00 (by exact trivial) (zz00 (by exact trivial) (zz00 (by exact trivial) (zz00 (by exact trivial) zz12)))))))))))) ?_ ?_
  ·
   refine ec r (fun _ u _ b d s => y_move s rfl bz) ?_
   refine ec r (fun _ u _ b d s => zz03 s (cs := (fieldC a0)) (n := 2) rfl (keep b h_b1) ta223 rfl bz) ?_
   refine ec r (fun fr1 u w' hb' hd r' => y_call r' (args := [(.agg (fieldC a0).toArray)]) (lc hd.1 l0) cl260 ((zz3f _ a0).mono (by rintro _ w2 ⟨rfl, hb2⟩; exact ⟨_, rfl, hb2, rfl⟩))) ?_
   refine ec r (fun _ u _ b d s => y_bin s d.1 d.2.1 rfl rfl bz) ?_
   refine ec r (fun _ u _ b d s => y_move s rfl bz) ?_
   refine ec r (fun _ u _ b d s => zz03 s (cs := (fieldC a0)) (n := 2) rfl (keep b h_b1) ta223 rfl bz) ?_
   refine ec r (fun fr1 u w' hb' hd r' => y_call r' (args := [(.agg (fieldC a0).toArray)]) (lc hd.1 l0) cl263 ((zz3l _ a0).mono (by rintro _ w2 ⟨rfl, hb2⟩; exact ⟨_, rfl, hb2, rfl⟩))) ?_
   refine ec r (fun _ u _ b d s => y_bin s d.1 d.2.1 rfl rfl bz) ?_
   refine ec r (fun _ u _ b d s => zz02 s (b := b1) (o := 0) rfl fo223_0 bz) ?_
   refine ec r (fun _ u _ b d s => zz01 s d.1 (keep b h_b1) to3 rfl bz) ?_
   refine ec r (fun _ u _ b d s => y_bin s d.1 d.2.1 rfl (bin_shl (by first | assumption | decide | (have hq := field_formed (by simpa using ‹(!D.zz0d _) = false›); omega))) bz) ?_
   refine ec r (fun _ u _ b d s => y_bin s d.1 d.2.1 rfl rfl bz) ?_
   exact zz1l
  ·
   intro fr u w6 hb hΦ hne r
   have r := r.congr (sc (hΦ 11 (by decide)) (sc (hΦ 10 (by decide)) (sc (hΦ 9 (by decide)) (sc (hΦ 8 (by decide)) (sc (hΦ 7 (by decide)) (sc (hΦ 6 (by decide)) (sc (hΦ 5 (by decide)) (sc (hΦ 4 (by decide)) (sc (hΦ 3 (by decide)) (sc (hΦ 2 (by decide)) (sc (hΦ 1 (by decide)) (sc (hΦ 0 (by decide)) rfl))))))))))))
   have z_w6 := hb.size
   have h_b1 := keep hb h_b1
   obtain ⟨hB, zB⟩ := bon hb hB
   refine seq_val (U (bits_or .u64 (zz11 .u64 a1 (D.zz0g a0)) (shlI .u64 (zz2s .u64 a2 (D.zz08 a0)) a0.at_))) r (fun R => zz04 r rfl) rfl fun fr r => ?_
   refine wn ?_
   refine wp_ret ?_
   have hd : D.zz0n a0 a1 a2 = (bits_or .u64 (zz11 .u64 a1 (D.zz0g a0)) (shlI .u64 (zz2s .u64 a2 (D.zz08 a0)) a0.at_)) := (cond_f h5).trans (rfl)
   refine ret_tmp r rfl rfl ?_
   rw [hd]
   exact ⟨rfl, hB⟩

end Go.Proofs.YtjkinpbfmihhdaaGreat
