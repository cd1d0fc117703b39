/- Some of our texts, one behind the other. -/
import Derived.Test.YtjkinpbfmihhdaaGreatQoM1
import Derived.Test.YtjkinpbfmihhdaaGreatRows
set_option linter.all false
/- Written by a program of ours (wip/gen.py): plans -/
set_option linter.unusedVariables false
set_option maxRecDepth 20000
set_option maxHeartbeats 2000000
namespace Go.Proofs.YtjkinpbfmihhdaaGreat
open Go.RowKit
theorem cl136 : znb Tryz.prog 136 = true := by kernel_rfl

theorem cl142 : znb Tryz.prog 142 = true := by kernel_rfl

theorem cl143 : znb Tryz.prog 143 = true := by kernel_rfl

theorem cl144 : znb Tryz.prog 144 = true := by kernel_rfl

theorem cl158 : znb Tryz.prog 158 = true := by kernel_rfl

theorem cl159 : znb Tryz.prog 159 = true := by kernel_rfl

theorem cl166 : znb Tryz.prog 166 = true := by kernel_rfl

theorem cl167 : znb Tryz.prog 167 = true := by kernel_rfl

theorem cl235 : znb Tryz.prog 235 = true := by kernel_rfl

theorem cl261 : znb Tryz.prog 261 = true := by kernel_rfl

theorem cl45 : znb Tryz.prog 45 = true := by kernel_rfl

theorem zfQ : zno Tryz.prog 25 0 0 = true := by kernel_rfl

theorem zgH : zno Tryz.prog 25 1 1 = true := by kernel_rfl

theorem zgK : zno Tryz.prog 25 2 2 = true := by kernel_rfl

theorem ziH : zno Tryz.prog 25 3 3 = true := by kernel_rfl

theorem zk3 : zno Tryz.prog 25 4 4 = true := by kernel_rfl

theorem zl0 : zno Tryz.prog 25 5 5 = true := by kernel_rfl

theorem mixed : Tryz.prog.follows .mixedOrders = true := by kernel_rfl

theorem ta216 : tyA Tryz.prog 216 3 = true := by kernel_rfl

theorem ta25 : tyA Tryz.prog 25 6 = true := by kernel_rfl

theorem to3 : tyO Tryz.prog 3 = true := by kernel_rfl

theorem ts216 : sized Tryz.prog 216 3 = true := by kernel_rfl

theorem tz216 : zeroOf Tryz.prog 216 = some (.agg (boundC (⟨0, 0, 0⟩ : Bound)).toArray) := by kernel_rfl

def D.zaO (a0 : Plan) : Bool := (bif (D.zaP ([(⟨a0.nodes, 1, 1048576⟩ : Bound), (⟨a0.threads, 1, 16⟩ : Bound), (⟨a0.domains, 0, 64⟩ : Bound), (⟨a0.buckets, 1, 256⟩ : Bound), (⟨a0.gen, 1, 1073741823⟩ : Bound)])) then (D.zaP ([(⟨a0.retire, (IntKind.i64.wrap ((IntKind.i64.wrap (3 * a0.threads)) + 1)), 1024⟩ : Bound)])) else false)

theorem zdJ (w0 : World) 
    (a0 : Plan) :
    Calls Tryz.prog 136 #[.agg (znc a0).toArray] w0 (PureRes (.bool (D.zaO a0)) w0) := by
 refine enter Tryz.func136 rfl 31 rfl rfl fun fr r => ?_
 have hB := Below.refl w0.heap.size w0
 refine wsr ?_
 refine za5 (.cells ((znc a0)).toArray 25 (0, 0)) r (fun R => znm r (v := (.agg (znc a0).toArray)) rfl) rfl fun fr b1 w2 n3 r => ?_
 obtain ⟨e_b1, z_w2, h_b1, hB, zB⟩ := n3.all hB
 refine za0 (.bool false) r (fun R => za8 r rfl) rfl fun fr r => wn (wsr (za0 _ r (fun R => za4 r (o := 0) rfl zfQ) rfl fun fr r => za0 (I a0.nodes) r (fun R => za3 r rfl h_b1 to3 rfl) rfl fun fr r => za0 (.agg (boundC (⟨a0.nodes, 1, 1048576⟩ : Bound)).toArray) r (fun R => zaM r (by kernel_rfl)) rfl fun fr r => za0 _ r (fun R => za4 r (o := 0) rfl zgH) rfl fun fr r => za0 (I a0.threads) r (fun R => za3 r rfl h_b1 to3 rfl) rfl fun fr r => za0 (.agg (boundC (⟨a0.threads, 1, 16⟩ : Bound)).toArray) r (fun R => zaM r (by kernel_rfl)) rfl fun fr r => za0 _ r (fun R => za4 r (o := 0) rfl ziH) rfl fun fr r => za0 (I a0.domains) r (fun R => za3 r rfl h_b1 to3 rfl) rfl fun fr r => za0 (.agg (boundC (⟨a0.domains, 0, 64⟩ : Bound)).toArray) r (fun R => zaM r (by kernel_rfl)) rfl fun fr r => za0 _ r (fun R => za4 r (o := 0) rfl zk3) rfl fun fr r => za0 (I a0.buckets) r (fun R => za3 r rfl h_b1 to3 rfl) rfl fun fr r => za0 (.agg (boundC (⟨a0.buckets, 1, 256⟩ : Bound)).toArray) r (fun R => zaM r (by kernel_rfl)) rfl fun fr r => za0 _ r (fun R => za4 r (o := 0) rfl zl0) rfl fun fr r => za0 (I a0.gen) r (fun R => za3 r rfl h_b1 to3 rfl) rfl fun fr r => za0 (.agg (boundC (⟨a0.gen, 1, 1073741823⟩ : Bound)).toArray) r (fun R => zaM r (by kernel_rfl)) rfl fun fr r => ?_))
 refine ziu (.cells ((boundsC [(⟨a0.nodes, 1, 1048576⟩ : Bound), (⟨a0.threads, 1, 16⟩ : Bound), (⟨a0.domains, 0, 64⟩ : Bound), (⟨a0.buckets, 1, 256⟩ : Bound), (⟨a0.gen, 1, 1073741823⟩ : Bound)])).toArray 216 (0, 0)) 5 r (fun R => zcS r (by kernel_rfl)) rfl fun fr b4 w5 n6 r => ?_
 have h_b1 := keep n6.below h_b1
 obtain ⟨e_b4, z_w5, h_b4, hB, zB⟩ := n6.all hB
 refine za7 r (zfI w5 ([(⟨a0.nodes, 1, 1048576⟩ : Bound), (⟨a0.threads, 1, 16⟩ : Bound), (⟨a0.domains, 0, 64⟩ : Bound), (⟨a0.buckets, 1, 256⟩ : Bound), (⟨a0.gen, 1, 1073741823⟩ : Bound)]) h_b4 (by first | assumption | decide | (simp; done))) (fun R hc => zac r rfl cl235 hc) rfl ?_
 rintro _ w7 ⟨rfl, hb⟩
 refine ⟨_, rfl, fun fr r => ?_⟩
 have z_w7 := hb.size
 have h_b1 := keep hb h_b1
 have h_b4 := keep hb h_b4
 obtain ⟨hB, zB⟩ := bon hb hB
 refine za0 (.bool (D.zaP ([(⟨a0.nodes, 1, 1048576⟩ : Bound), (⟨a0.threads, 1, 16⟩ : Bound), (⟨a0.domains, 0, 64⟩ : Bound), (⟨a0.buckets, 1, 256⟩ : Bound), (⟨a0.gen, 1, 1073741823⟩ : Bound)]))) r (fun R => zaa r rfl) rfl fun fr r => ?_
 refine zaI (D.zaP ([(⟨a0.nodes, 1, 1048576⟩ : Bound), (⟨a0.threads, 1, 16⟩ : Bound), (⟨a0.domains, 0, 64⟩ : Bound), (⟨a0.buckets, 1, 256⟩ : Bound), (⟨a0.gen, 1, 1073741823⟩ : Bound)])) (fun h8 => ?_) (fun h8 => ?_)
 ·
  refine s1 r h8 (za0 _ r (fun R => za4 r (o := 0) rfl zgK) rfl fun fr r => s1 r h8 (za0 (I a0.retire) r (fun R => za3 r rfl h_b1 to3 rfl) rfl fun fr r => s1 r h8 (za0 _ r (fun R => za4 r (o := 0) rfl zgH) rfl fun fr r => s1 r h8 (za0 (I a0.threads) r (fun R => za3 r rfl h_b1 to3 rfl) rfl fun fr r => s1 r h8 (za0 _ r (fun R => zni r rfl rfl rfl rfl) rfl fun fr r => s1 r h8 (za0 _ r (fun R => zni r rfl rfl rfl rfl) rfl fun fr r => s1 r h8 (za0 (.agg (boundC (⟨a0.retire, (W ((W (3 * a0.threads)) + 1)), 1024⟩ : Bound)).toArray) r (fun R => zaM r (by kernel_rfl)) rfl fun fr r => s1 r h8 ?_)))))))
  refine ziu (.cells ((boundsC [(⟨a0.retire, (W ((W (3 * a0.threads)) + 1)), 1024⟩ : Bound)])).toArray 216 (0, 0)) 1 r (fun R => zcS r (by kernel_rfl)) rfl fun fr b9 w10 n11 r => ?_
  have h_b1 := keep n11.below h_b1
  have h_b4 := keep n11.below h_b4
  obtain ⟨e_b9, z_w10, h_b9, hB, zB⟩ := n11.all hB
  refine s1 r h8 ?_
  refine za7 r (zfI w10 ([(⟨a0.retire, (W ((W (3 * a0.threads)) + 1)), 1024⟩ : Bound)]) h_b9 (by first | assumption | decide | (simp; done))) (fun R hc => zac r rfl cl235 hc) rfl ?_
  rintro _ w12 ⟨rfl, hb⟩
  refine ⟨_, rfl, fun fr r => ?_⟩
  have z_w12 := hb.size
  have h_b1 := keep hb h_b1
  have h_b4 := keep hb h_b4
  have h_b9 := keep hb h_b9
  obtain ⟨hB, zB⟩ := bon hb hB
  refine za0 (.bool (D.zaP ([(⟨a0.retire, (W ((W (3 * a0.threads)) + 1)), 1024⟩ : Bound)]))) r (fun R => zaq r (b := true) (congrArg Value.bool h8) rfl) rfl fun fr r => za0 (.bool (D.zaP ([(⟨a0.retire, (W ((W (3 * a0.threads)) + 1)), 1024⟩ : Bound)]))) r (fun R => za8 r rfl) rfl fun fr r => wn (wp_ret ?_)
  have hd : D.zaO a0 = (D.zaP ([(⟨a0.retire, (W ((W (3 * a0.threads)) + 1)), 1024⟩ : Bound)])) := (zap h8).trans (rfl)
  refine zay r rfl rfl ?_
  rw [hd]
  exact ⟨rfl, hB⟩
 ·
  refine s0 r h8 fun fr r => s0 r h8 fun fr r => s0 r h8 fun fr r => s0 r h8 fun fr r => s0 r h8 fun fr r => s0 r h8 fun fr r => s0 r h8 fun fr r => s0 r h8 fun fr r => s0 r h8 fun fr r => za0 (.bool false) r (fun R => zaq r (b := false) (congrArg Value.bool h8) rfl) rfl fun fr r => za0 (.bool false) r (fun R => za8 r rfl) rfl fun fr r => wn (wp_ret ?_)
  have hd : D.zaO a0 = false := (zak h8).trans (rfl)
  refine zay r rfl rfl ?_
  rw [hd]
  exact ⟨rfl, hB⟩

def D.zal (a0 : Plan) : Int := (maxI 2 a0.buckets)

theorem ze7 (w0 : World) 
    (a0 : Plan) :
    Calls Tryz.prog 166 #[.agg (znc a0).toArray] w0 (PureRes (.int .i64 (D.zal a0)) w0) := by
 refine enter Tryz.func166 rfl 6 rfl rfl fun fr r => ?_
 have hB := Below.refl w0.heap.size w0
 refine wsr ?_
 refine za5 (.cells ((znc a0)).toArray 25 (0, 0)) r (fun R => znm r (v := (.agg (znc a0).toArray)) rfl) rfl fun fr b1 w2 n3 r => ?_
 obtain ⟨e_b1, z_w2, h_b1, hB, zB⟩ := n3.all hB
 refine za0 (I 0) r (fun R => za8 r rfl) rfl fun fr r => wn (wsr (za0 _ r (fun R => za4 r (o := 0) rfl zk3) rfl fun fr r => za0 (I a0.buckets) r (fun R => za3 r rfl h_b1 to3 rfl) rfl fun fr r => za0 (I (maxI 2 a0.buckets)) r (fun R => y_max r (m := 2) (n := a0.buckets) rfl rfl) rfl fun fr r => za0 (I (maxI 2 a0.buckets)) r (fun R => za8 r rfl) rfl fun fr r => wn (wp_ret ?_)))
 refine zay r rfl rfl ?_
 exact ⟨rfl, hB⟩

def D.zab (a0 : Plan) : Int := (IntKind.i64.wrap (1 + (IntKind.i64.wrap (a0.domains * (IntKind.i64.wrap (1 + (D.zal a0)))))))

theorem zeG (w0 : World) 
    (a0 : Plan) :
    Calls Tryz.prog 143 #[.agg (znc a0).toArray] w0 (PureRes (.int .i64 (D.zab a0)) w0) := by
 refine enter Tryz.func143 rfl 10 rfl rfl fun fr r => ?_
 have hB := Below.refl w0.heap.size w0
 refine wsr ?_
 refine za5 (.cells ((znc a0)).toArray 25 (0, 0)) r (fun R => znm r (v := (.agg (znc a0).toArray)) rfl) rfl fun fr b1 w2 n3 r => ?_
 obtain ⟨e_b1, z_w2, h_b1, hB, zB⟩ := n3.all hB
 refine za0 (I 0) r (fun R => za8 r rfl) rfl fun fr r => wn (wp_seq ?_)
 refine zaG 7 [.val (.pointer (some ⟨b1, 3, none⟩)), .val (I a0.domains), .val (.agg (znc a0).toArray), .val (I (D.zal a0)), .val (I (W (1 + (D.zal a0)))), .val (I (W (a0.domains * (W (1 + (D.zal a0)))))), .val (I (W (1 + (W (a0.domains * (W (1 + (D.zal a0))))))))] mixed r (by kernel_rfl) (za1 (by exact trivial) (za1 (by exact trivial) (za1 (by exact trivial) (za1 (by exact trivial) (za1 (by exact trivial) (za1 (by exact trivial) (za1 (by exact trivial) zaz))))))) ?_ ?_
 ·
  refine ec r (fun _ u _ b d s => za4 s (b := b1) (o := 0) rfl ziH bz) (ec r (fun _ u _ b d s => za3 s d.1 (keep b h_b1) to3 rfl bz) (ec r (fun _ u _ b d s => za6 s (cs := (znc a0)) (n := 6) rfl (keep b h_b1) ta25 rfl bz) (ec r (fun fr1 u w' hb' hd r' => zac r' (args := [(.agg (znc a0).toArray)]) (lc hd.1 l0) cl166 ((ze7 _ a0).mono (by rintro _ w2 ⟨rfl, hb2⟩; exact ⟨_, rfl, hb2, rfl⟩))) (ec r (fun _ u _ b d s => zni s rfl d.1 rfl rfl bz) (ec r (fun _ u _ b d s => zni s d.1 d.2.1 rfl rfl bz) (ec r (fun _ u _ b d s => zni s rfl d.1 rfl rfl bz) ?_))))))
  exact zaR
 ·
  intro fr u w4 hb hΦ hne r
  have r := r.congr (sc (hΦ 6 (by decide)) (sc (hΦ 5 (by decide)) (sc (hΦ 4 (by decide)) (sc (hΦ 3 (by decide)) (sc (hΦ 2 (by decide)) (sc (hΦ 1 (by decide)) (sc (hΦ 0 (by decide)) rfl)))))))
  have z_w4 := hb.size
  have h_b1 := keep hb h_b1
  obtain ⟨hB, zB⟩ := bon hb hB
  refine za0 (I (W (1 + (W (a0.domains * (W (1 + (D.zal a0)))))))) r (fun R => za8 r rfl) rfl fun fr r => wn (wp_ret ?_)
  refine zay r rfl rfl ?_
  exact ⟨rfl, hB⟩

def D.zax (a0 : Plan) : Int := (IntKind.i64.wrap ((D.zab a0) + (IntKind.i64.wrap (a0.threads * 3))))

theorem zdW (w0 : World) 
    (a0 : Plan) :
    Calls Tryz.prog 261 #[.agg (znc a0).toArray] w0 (PureRes (.int .i64 (D.zax a0)) w0) := by
 refine enter Tryz.func261 rfl 9 rfl rfl fun fr r => ?_
 have hB := Below.refl w0.heap.size w0
 refine wsr ?_
 refine za5 (.cells ((znc a0)).toArray 25 (0, 0)) r (fun R => znm r (v := (.agg (znc a0).toArray)) rfl) rfl fun fr b1 w2 n3 r => ?_
 obtain ⟨e_b1, z_w2, h_b1, hB, zB⟩ := n3.all hB
 refine za0 (I 0) r (fun R => za8 r rfl) rfl fun fr r => wn (wp_seq ?_)
 refine zaG 6 [.val (.agg (znc a0).toArray), .val (I (D.zab a0)), .val (.pointer (some ⟨b1, 1, none⟩)), .val (I a0.threads), .val (I (W (a0.threads * 3))), .val (I (W ((D.zab a0) + (W (a0.threads * 3)))))] mixed r (by kernel_rfl) (za1 (by exact trivial) (za1 (by exact trivial) (za1 (by exact trivial) (za1 (by exact trivial) (za1 (by exact trivial) (za1 (by exact trivial) zaz)))))) ?_ ?_
 ·
  refine ec r (fun _ u _ b d s => za6 s (cs := (znc a0)) (n := 6) rfl (keep b h_b1) ta25 rfl bz) (ec r (fun fr1 u w' hb' hd r' => zac r' (args := [(.agg (znc a0).toArray)]) (lc hd.1 l0) cl143 ((zeG _ a0).mono (by rintro _ w2 ⟨rfl, hb2⟩; exact ⟨_, rfl, hb2, rfl⟩))) (ec r (fun _ u _ b d s => za4 s (b := b1) (o := 0) rfl zgH bz) (ec r (fun _ u _ b d s => za3 s d.1 (keep b h_b1) to3 rfl bz) (ec r (fun _ u _ b d s => zni s d.1 rfl rfl rfl bz) (ec r (fun _ u _ b d s => zni s d.1 d.2.1 rfl rfl bz) ?_)))))
  exact zaR
 ·
  intro fr u w4 hb hΦ hne r
  have r := r.congr (sc (hΦ 5 (by decide)) (sc (hΦ 4 (by decide)) (sc (hΦ 3 (by decide)) (sc (hΦ 2 (by decide)) (sc (hΦ 1 (by decide)) (sc (hΦ 0 (by decide)) rfl))))))
  have z_w4 := hb.size
  have h_b1 := keep hb h_b1
  obtain ⟨hB, zB⟩ := bon hb hB
  refine za0 (I (W ((D.zab a0) + (W (a0.threads * 3))))) r (fun R => za8 r rfl) rfl fun fr r => wn (wp_ret ?_)
  refine zay r rfl rfl ?_
  exact ⟨rfl, hB⟩

def D.za9 (a0 : Plan) : Int := (IntKind.i64.wrap ((D.zax a0) + (IntKind.i64.wrap (a0.threads * (IntKind.i64.wrap (1 + a0.retire))))))

theorem zd9 (w0 : World) 
    (a0 : Plan) :
    Calls Tryz.prog 158 #[.agg (znc a0).toArray] w0 (PureRes (.int .i64 (D.za9 a0)) w0) := by
 refine enter Tryz.func158 rfl 12 rfl rfl fun fr r => ?_
 have hB := Below.refl w0.heap.size w0
 refine wsr ?_
 refine za5 (.cells ((znc a0)).toArray 25 (0, 0)) r (fun R => znm r (v := (.agg (znc a0).toArray)) rfl) rfl fun fr b1 w2 n3 r => ?_
 obtain ⟨e_b1, z_w2, h_b1, hB, zB⟩ := n3.all hB
 refine za0 (I 0) r (fun R => za8 r rfl) rfl fun fr r => wn (wp_seq ?_)
 refine zaG 9 [.val (.agg (znc a0).toArray), .val (I (D.zax a0)), .val (.pointer (some ⟨b1, 1, none⟩)), .val (I a0.threads), .val (.pointer (some ⟨b1, 2, none⟩)), .val (I a0.retire), .val (I (W (1 + a0.retire))), .val (I (W (a0.threads * (W (1 + a0.retire))))), .val (I (W ((D.zax a0) + (W (a0.threads * (W (1 + a0.retire)))))))] mixed r (by kernel_rfl) (za1 (by exact trivial) (za1 (by exact trivial) (za1 (by exact trivial) (za1 (by exact trivial) (za1 (by exact trivial) (za1 (by exact trivial) (za1 (by exact trivial) (za1 (by exact trivial) (za1 (by exact trivial) zaz))))))))) ?_ ?_
 ·
  refine ec r (fun _ u _ b d s => za6 s (cs := (znc a0)) (n := 6) rfl (keep b h_b1) ta25 rfl bz) (ec r (fun fr1 u w' hb' hd r' => zac r' (args := [(.agg (znc a0).toArray)]) (lc hd.1 l0) cl261 ((zdW _ a0).mono (by rintro _ w2 ⟨rfl, hb2⟩; exact ⟨_, rfl, hb2, rfl⟩))) (ec r (fun _ u _ b d s => za4 s (b := b1) (o := 0) rfl zgH bz) (ec r (fun _ u _ b d s => za3 s d.1 (keep b h_b1) to3 rfl bz) (ec r (fun _ u _ b d s => za4 s (b := b1) (o := 0) rfl zgK bz) (ec r (fun _ u _ b d s => za3 s d.1 (keep b h_b1) to3 rfl bz) (ec r (fun _ u _ b d s => zni s rfl d.1 rfl rfl bz) (ec r (fun _ u _ b d s => zni s d.1 d.2.1 rfl rfl bz) (ec r (fun _ u _ b d s => zni s d.1 d.2.1 rfl rfl bz) ?_))))))))
  exact zaR
 ·
  intro fr u w4 hb hΦ hne r
  have r := r.congr (sc (hΦ 8 (by decide)) (sc (hΦ 7 (by decide)) (sc (hΦ 6 (by decide)) (sc (hΦ 5 (by decide)) (sc (hΦ 4 (by decide)) (sc (hΦ 3 (by decide)) (sc (hΦ 2 (by decide)) (sc (hΦ 1 (by decide)) (sc (hΦ 0 (by decide)) rfl)))))))))
  have z_w4 := hb.size
  have h_b1 := keep hb h_b1
  obtain ⟨hB, zB⟩ := bon hb hB
  refine za0 (I (W ((D.zax a0) + (W (a0.threads * (W (1 + a0.retire))))))) r (fun R => za8 r rfl) rfl fun fr r => wn (wp_ret ?_)
  refine zay r rfl rfl ?_
  exact ⟨rfl, hB⟩

def D.zaD (a0 : Plan) : Int := (bif (!(D.zaO a0)) then 0 else (IntKind.i64.wrap ((D.za9 a0) + (IntKind.i64.wrap (a0.nodes * 5)))))

theorem zie (w0 : World) 
    (a0 : Plan) :
    Calls Tryz.prog 109 #[.agg (znc a0).toArray] w0 (PureRes (.int .i64 (D.zaD a0)) w0) := by
 refine enter Tryz.func109 rfl 12 rfl rfl fun fr r => ?_
 have hB := Below.refl w0.heap.size w0
 refine wsr ?_
 refine za5 (.cells ((znc a0)).toArray 25 (0, 0)) r (fun R => znm r (v := (.agg (znc a0).toArray)) rfl) rfl fun fr b1 w2 n3 r => ?_
 obtain ⟨e_b1, z_w2, h_b1, hB, zB⟩ := n3.all hB
 refine za0 (I 0) r (fun R => za8 r rfl) rfl fun fr r => wn (wp_seq (wsr (za0 (.agg (znc a0).toArray) r (fun R => za6 r (cs := (znc a0)) (n := 6) rfl h_b1 ta25 rfl) rfl fun fr r => ?_)))
 refine za7 r (zdJ w2 a0) (fun R hc => zac r rfl cl136 hc) rfl ?_
 rintro _ w4 ⟨rfl, hb⟩
 refine ⟨_, rfl, fun fr r => ?_⟩
 have z_w4 := hb.size
 have h_b1 := keep hb h_b1
 obtain ⟨hB, zB⟩ := bon hb hB
 refine za0 (.bool (!(D.zaO a0))) r (fun R => y_un r (u := (.bool (D.zaO a0))) rfl rfl) rfl fun fr r => wn ?_
 refine wp_cond_split (t := (!(D.zaO a0))) (r.ev rfl) (fun h5 => ?_) (fun h5 => ?_)
 ·
  refine wsr (za0 (I 0) r (fun R => za8 r rfl) rfl fun fr r => wn (wp_ret ?_))
  have hd : D.zaD a0 = 0 := (zap h5).trans (rfl)
  refine zay r rfl rfl ?_
  rw [hd]
  exact ⟨rfl, hB⟩
 ·
  refine wp_skip (wp_seq ?_)
  refine zaG 6 [.val (.agg (znc a0).toArray), .val (I (D.za9 a0)), .val (.pointer (some ⟨b1, 0, none⟩)), .val (I a0.nodes), .val (I (W (a0.nodes * 5))), .val (I (W ((D.za9 a0) + (W (a0.nodes * 5)))))] mixed r (by kernel_rfl) (za1 (by exact trivial) (za1 (by exact trivial) (za1 (by exact trivial) (za1 (by exact trivial) (za1 (by exact trivial) (za1 (by exact trivial) zaz)))))) ?_ ?_
  ·
   refine ec r (fun _ u _ b d s => za6 s (cs := (znc a0)) (n := 6) rfl (keep b h_b1) ta25 rfl bz) (ec r (fun fr1 u w' hb' hd r' => zac r' (args := [(.agg (znc a0).toArray)]) (lc hd.1 l0) cl158 ((zd9 _ a0).mono (by rintro _ w2 ⟨rfl, hb2⟩; exact ⟨_, rfl, hb2, rfl⟩))) (ec r (fun _ u _ b d s => za4 s (b := b1) (o := 0) rfl zfQ bz) (ec r (fun _ u _ b d s => za3 s d.1 (keep b h_b1) to3 rfl bz) (ec r (fun _ u _ b d s => zni s d.1 rfl rfl rfl bz) (ec r (fun _ u _ b d s => zni s d.1 d.2.1 rfl rfl bz) ?_)))))
   exact zaR
  ·
   intro fr u w6 hb hΦ hne r
   have r := r.congr (sc (hΦ 5 (by decide)) (sc (hΦ 4 (by decide)) (sc (hΦ 3 (by decide)) (sc (hΦ 2 (by decide)) (sc (hΦ 1 (by decide)) (sc (hΦ 0 (by decide)) rfl))))))
   have z_w6 := hb.size
   have h_b1 := keep hb h_b1
   obtain ⟨hB, zB⟩ := bon hb hB
   refine za0 (I (W ((D.za9 a0) + (W (a0.nodes * 5))))) r (fun R => za8 r rfl) rfl fun fr r => wn (wp_ret ?_)
   have hd : D.zaD a0 = (W ((D.za9 a0) + (W (a0.nodes * 5)))) := (zak h5).trans (rfl)
   refine zay r rfl rfl ?_
   rw [hd]
   exact ⟨rfl, hB⟩

def D.zas (a0 : Plan) (a1 : Int) (a2 : List Bound) : Int := (bif (!(D.zaO a0)) then (-1) else (bif (!(D.zaP a2)) then (-1) else a1))

theorem zbL (w0 : World) 
    (a0 : Plan) (a1 : Int) (a2 : List Bound) {a2_b : Nat} (a2_h : w0.heap[a2_b]? = some (.cells ((boundsC a2)).toArray 216 (0, 0))) (pre0 : a2.length ≤ 8) :
    Calls Tryz.prog 142 #[.agg (znc a0).toArray, .int .i64 a1, .slice (some ⟨a2_b, 0, none⟩) a2.length a2.length] w0 (PureRes (.int .i64 (D.zas a0 a1 a2)) w0) := by
 refine enter Tryz.func142 rfl 16 rfl rfl fun fr r => ?_
 have hB := Below.refl w0.heap.size w0
 have l_a2_b := lt_of_block a2_h
 refine wsr ?_
 refine za5 (.cells ((znc a0)).toArray 25 (0, 0)) r (fun R => znm r (v := (.agg (znc a0).toArray)) rfl) rfl fun fr b1 w2 n3 r => ?_
 have a2_h := keep n3.below a2_h
 obtain ⟨e_b1, z_w2, h_b1, hB, zB⟩ := n3.all hB
 refine za0 (I 0) r (fun R => za8 r rfl) rfl fun fr r => wn (wp_seq (wsr (za0 (.agg (znc a0).toArray) r (fun R => za6 r (cs := (znc a0)) (n := 6) rfl h_b1 ta25 rfl) rfl fun fr r => ?_)))
 refine za7 r (zdJ w2 a0) (fun R hc => zac r rfl cl136 hc) rfl ?_
 rintro _ w4 ⟨rfl, hb⟩
 refine ⟨_, rfl, fun fr r => ?_⟩
 have z_w4 := hb.size
 have a2_h := keep hb a2_h
 have h_b1 := keep hb h_b1
 obtain ⟨hB, zB⟩ := bon hb hB
 refine za0 (.bool (!(D.zaO a0))) r (fun R => y_un r (u := (.bool (D.zaO a0))) rfl rfl) rfl fun fr r => za0 (.bool (!(D.zaO a0))) r (fun R => zaa r rfl) rfl fun fr r => ?_
 refine zaI (!(D.zaO a0)) (fun h5 => ?_) (fun h5 => ?_)
 ·
  refine s0 r h5 fun fr r => s0 r h5 fun fr r => s0 r h5 fun fr r => za0 (.bool true) r (fun R => zaq r (b := true) (congrArg Value.bool h5) rfl) rfl fun fr r => wn ?_
  refine wp_cond_split (t := true) (r.ev rfl) (fun _ => ?_) (fun h => absurd ((rfl : true = _).symm.trans h) (by decide))
  refine wsr (za0 (I (-1)) r (fun R => za8 r rfl) rfl fun fr r => wn (wp_ret ?_))
  have hd : D.zas a0 a1 a2 = (-1) := (zap h5).trans (rfl)
  refine zay r rfl rfl ?_
  rw [hd]
  exact ⟨rfl, hB⟩
 ·
  refine s1 r h5 (za0 (.slice (some ⟨a2_b, 0, none⟩) a2.length a2.length) r (fun R => zaa r rfl) rfl fun fr r => s1 r h5 ?_)
  refine za7 r (zfI w4 a2 a2_h (by first | assumption | decide | (simp; done))) (fun R hc => zac r rfl cl235 hc) rfl ?_
  rintro _ w6 ⟨rfl, hb⟩
  refine ⟨_, rfl, fun fr r => ?_⟩
  have z_w6 := hb.size
  have a2_h := keep hb a2_h
  have h_b1 := keep hb h_b1
  obtain ⟨hB, zB⟩ := bon hb hB
  refine s1 r h5 (za0 (.bool (!(D.zaP a2))) r (fun R => y_un r (u := (.bool (D.zaP a2))) rfl rfl) rfl fun fr r => za0 (.bool (!(D.zaP a2))) r (fun R => zaq r (b := false) (congrArg Value.bool h5) rfl) rfl fun fr r => wn ?_)
  refine wp_cond_split (t := (!(D.zaP a2))) (r.ev rfl) (fun h7 => ?_) (fun h7 => ?_)
  ·
   refine wsr (za0 (I (-1)) r (fun R => za8 r rfl) rfl fun fr r => wn (wp_ret ?_))
   have hd : D.zas a0 a1 a2 = (-1) := (zak h5).trans ((zap h7).trans (rfl))
   refine zay r rfl rfl ?_
   rw [hd]
   exact ⟨rfl, hB⟩
  ·
   refine wp_skip (wsr (za0 (I a1) r (fun R => zaa r rfl) rfl fun fr r => za0 (I a1) r (fun R => za8 r rfl) rfl fun fr r => wn (wp_ret ?_)))
   have hd : D.zas a0 a1 a2 = a1 := (zak h5).trans ((zak h7).trans (rfl))
   refine zay r rfl rfl ?_
   rw [hd]
   exact ⟨rfl, hB⟩

theorem zgk (w0 : World) 
    (a0 : Plan) (a1 : Int) :
    Calls Tryz.prog 142 #[.agg (znc a0).toArray, .int .i64 a1, .slice none 0 0] w0 (PureRes (.int .i64 (D.zas a0 a1 ([]))) w0) := by
 refine enter Tryz.func142 rfl 16 rfl rfl fun fr r => ?_
 have hB := Below.refl w0.heap.size w0
 refine wsr ?_
 refine za5 (.cells ((znc a0)).toArray 25 (0, 0)) r (fun R => znm r (v := (.agg (znc a0).toArray)) rfl) rfl fun fr b1 w2 n3 r => ?_
 obtain ⟨e_b1, z_w2, h_b1, hB, zB⟩ := n3.all hB
 refine za0 (I 0) r (fun R => za8 r rfl) rfl fun fr r => wn (wp_seq (wsr (za0 (.agg (znc a0).toArray) r (fun R => za6 r (cs := (znc a0)) (n := 6) rfl h_b1 ta25 rfl) rfl fun fr r => ?_)))
 refine za7 r (zdJ w2 a0) (fun R hc => zac r rfl cl136 hc) rfl ?_
 rintro _ w4 ⟨rfl, hb⟩
 refine ⟨_, rfl, fun fr r => ?_⟩
 have z_w4 := hb.size
 have h_b1 := keep hb h_b1
 obtain ⟨hB, zB⟩ := bon hb hB
 refine za0 (.bool (!(D.zaO a0))) r (fun R => y_un r (u := (.bool (D.zaO a0))) rfl rfl) rfl fun fr r => za0 (.bool (!(D.zaO a0))) r (fun R => zaa r rfl) rfl fun fr r => ?_
 refine zaI (!(D.zaO a0)) (fun h5 => ?_) (fun h5 => ?_)
 ·
  refine s0 r h5 fun fr r => s0 r h5 fun fr r => s0 r h5 fun fr r => za0 (.bool true) r (fun R => zaq r (b := true) (congrArg Value.bool h5) rfl) rfl fun fr r => wn ?_
  refine wp_cond_split (t := true) (r.ev rfl) (fun _ => ?_) (fun h => absurd ((rfl : true = _).symm.trans h) (by decide))
  refine wsr (za0 (I (-1)) r (fun R => za8 r rfl) rfl fun fr r => wn (wp_ret ?_))
  have hd : D.zas a0 a1 [] = (-1) := (zap h5).trans (rfl)
  refine zay r rfl rfl ?_
  rw [hd]
  exact ⟨rfl, hB⟩
 ·
  refine s1 r h5 (za0 (.slice none 0 0) r (fun R => zaa r rfl) rfl fun fr r => s1 r h5 ?_)
  refine za7 r (zhH w4 ) (fun R hc => zac r rfl cl235 hc) rfl ?_
  rintro _ w6 ⟨rfl, hb⟩
  refine ⟨_, rfl, fun fr r => ?_⟩
  have z_w6 := hb.size
  have h_b1 := keep hb h_b1
  obtain ⟨hB, zB⟩ := bon hb hB
  refine s1 r h5 (za0 (.bool (!(D.zaP ([])))) r (fun R => y_un r (u := (.bool (D.zaP ([])))) rfl rfl) rfl fun fr r => za0 (.bool (!(D.zaP ([])))) r (fun R => zaq r (b := false) (congrArg Value.bool h5) rfl) rfl fun fr r => wn ?_)
  refine wp_cond_split (t := (!(D.zaP ([])))) (r.ev rfl) (fun h7 => ?_) (fun h7 => ?_)
  ·
   refine wsr (za0 (I (-1)) r (fun R => za8 r rfl) rfl fun fr r => wn (wp_ret ?_))
   have hd : D.zas a0 a1 [] = (-1) := (zak h5).trans ((zap h7).trans (rfl))
   refine zay r rfl rfl ?_
   rw [hd]
   exact ⟨rfl, hB⟩
  ·
   refine wp_skip (wsr (za0 (I a1) r (fun R => zaa r rfl) rfl fun fr r => za0 (I a1) r (fun R => za8 r rfl) rfl fun fr r => wn (wp_ret ?_)))
   have hd : D.zas a0 a1 [] = a1 := (zak h5).trans ((zak h7).trans (rfl))
   refine zay r rfl rfl ?_
   rw [hd]
   exact ⟨rfl, hB⟩

def D.zb0 (a0 : Plan) : Int := (D.zas a0 0 ([]))

theorem zcH (w0 : World) 
    (a0 : Plan) :
    Calls Tryz.prog 162 #[.agg (znc a0).toArray] w0 (PureRes (.int .i64 (D.zb0 a0)) w0) := by
 refine enter Tryz.func162 rfl 5 rfl rfl fun fr r => ?_
 have hB := Below.refl w0.heap.size w0
 refine wsr ?_
 refine za5 (.cells ((znc a0)).toArray 25 (0, 0)) r (fun R => znm r (v := (.agg (znc a0).toArray)) rfl) rfl fun fr b1 w2 n3 r => ?_
 obtain ⟨e_b1, z_w2, h_b1, hB, zB⟩ := n3.all hB
 refine za0 (I 0) r (fun R => za8 r rfl) rfl fun fr r => wn (wsr (za0 (.agg (znc a0).toArray) r (fun R => za6 r (cs := (znc a0)) (n := 6) rfl h_b1 ta25 rfl) rfl fun fr r => ?_))
 refine za7 r (zgk w2 a0 0) (fun R hc => zac r rfl cl142 hc) rfl ?_
 rintro _ w4 ⟨rfl, hb⟩
 refine ⟨_, rfl, fun fr r => ?_⟩
 have z_w4 := hb.size
 have h_b1 := keep hb h_b1
 obtain ⟨hB, zB⟩ := bon hb hB
 refine za0 (I (D.zas a0 0 ([]))) r (fun R => za8 r rfl) rfl fun fr r => wn (wp_ret ?_)
 refine zay r rfl rfl ?_
 exact ⟨rfl, hB⟩

def D.zaJ (a0 : Plan) (a1 : Int) : Bound := (⟨a1, 0, (IntKind.i64.wrap (a0.nodes - 1))⟩ : Bound)

theorem zeo (w0 : World) 
    (a0 : Plan) (a1 : Int) :
    Calls Tryz.prog 159 #[.agg (znc a0).toArray, .int .i64 a1] w0 (PureRes (.agg (boundC (D.zaJ a0 a1)).toArray) w0) := by
 refine enter Tryz.func159 rfl 10 rfl rfl fun fr r => ?_
 have hB := Below.refl w0.heap.size w0
 refine wsr ?_
 refine za5 (.cells ((znc a0)).toArray 25 (0, 0)) r (fun R => znm r (v := (.agg (znc a0).toArray)) rfl) rfl fun fr b1 w2 n3 r => ?_
 obtain ⟨e_b1, z_w2, h_b1, hB, zB⟩ := n3.all hB
 refine za5 (.cells ((boundC (⟨0, 0, 0⟩ : Bound))).toArray 216 (0, 0)) r (fun R => zag tz216) rfl fun fr b4 w5 n6 r => ?_
 have h_b1 := keep n6.below h_b1
 obtain ⟨e_b4, z_w5, h_b4, hB, zB⟩ := n6.all hB
 refine wn (wsr (za0 (I a1) r (fun R => zaa r rfl) rfl fun fr r => za0 _ r (fun R => za4 r (o := 0) rfl zfQ) rfl fun fr r => za0 (I a0.nodes) r (fun R => za3 r rfl h_b1 to3 rfl) rfl fun fr r => za0 _ r (fun R => zni r rfl rfl rfl rfl) rfl fun fr r => za0 (.agg (boundC (⟨a1, 0, (W (a0.nodes - 1))⟩ : Bound)).toArray) r (fun R => zaM r (by kernel_rfl)) rfl fun fr r => ?_))
 refine zae (.cells ((boundC (⟨a1, 0, (W (a0.nodes - 1))⟩ : Bound))).toArray 216 (0, 0)) r (fun R => zaN r (o := 0) (v := (.agg (boundC (⟨a1, 0, (W (a0.nodes - 1))⟩ : Bound)).toArray)) rfl rfl h_b4 ts216 (Nat.le_of_ble_eq_true rfl) rfl rfl) rfl fun fr w7 u8 r => ?_
 have z_w7 := u8.size
 have h_b1 := u8.keep h_b1 (by omega)
 have h_b4 := u8.at_
 obtain ⟨hB, zB⟩ := u8.on hB (by omega)
 refine wn (wp_ret ?_)
 refine zad r rfl rfl h_b4 (k := 3) rfl ta216 ?_
 exact ⟨rfl, hB⟩

def D.zb3 (a0 : Plan) (a1 : Int) : Int := (D.zas a0 (IntKind.i64.wrap ((IntKind.i64.wrap ((D.za9 a0) + (IntKind.i64.wrap (a1 * 5)))) + 1)) ([(D.zaJ a0 a1)]))

theorem zdr (w0 : World) 
    (a0 : Plan) (a1 : Int) :
    Calls Tryz.prog 163 #[.agg (znc a0).toArray, .int .i64 a1] w0 (PureRes (.int .i64 (D.zb3 a0 a1)) w0) := by
 refine enter Tryz.func163 rfl 17 rfl rfl fun fr r => ?_
 have hB := Below.refl w0.heap.size w0
 refine wsr ?_
 refine za5 (.cells ((znc a0)).toArray 25 (0, 0)) r (fun R => znm r (v := (.agg (znc a0).toArray)) rfl) rfl fun fr b1 w2 n3 r => ?_
 obtain ⟨e_b1, z_w2, h_b1, hB, zB⟩ := n3.all hB
 refine za0 (I 0) r (fun R => za8 r rfl) rfl fun fr r => wn (wp_seq ?_)
 refine zaG 12 [.val (.agg (znc a0).toArray), .val (.agg (znc a0).toArray), .val (I (D.za9 a0)), .val (I a1), .val (I (W (a1 * 5))), .val (I (W ((D.za9 a0) + (W (a1 * 5))))), .val (I (W ((W ((D.za9 a0) + (W (a1 * 5)))) + 1))), .val (.agg (znc a0).toArray), .val (I a1), .val (.agg (boundC (D.zaJ a0 a1)).toArray), .slice w2.heap.size (.cells ((boundsC [(D.zaJ a0 a1)])).toArray 216 (0, 0)) 1, .val (I (D.zas a0 (W ((W ((D.za9 a0) + (W (a1 * 5)))) + 1)) ([(D.zaJ a0 a1)])))] mixed r (by kernel_rfl) (za1 (by exact trivial) (za1 (by exact trivial) (za1 (by exact trivial) (za1 (by exact trivial) (za1 (by exact trivial) (za1 (by exact trivial) (za1 (by exact trivial) (za1 (by exact trivial) (za1 (by exact trivial) (za1 (by exact trivial) (za1 (Nat.le_refl _) (za1 (by exact trivial) zaz)))))))))))) ?_ ?_
 ·
  refine ec r (fun _ u _ b d s => za6 s (cs := (znc a0)) (n := 6) rfl (keep b h_b1) ta25 rfl bz) (ec r (fun _ u _ b d s => za6 s (cs := (znc a0)) (n := 6) rfl (keep b h_b1) ta25 rfl bz) (ec r (fun fr1 u w' hb' hd r' => zac r' (args := [(.agg (znc a0).toArray)]) (lc hd.1 l0) cl158 ((zd9 _ a0).mono (by rintro _ w2 ⟨rfl, hb2⟩; exact ⟨_, rfl, hb2, rfl⟩))) (ec r (fun _ u _ b d s => zaa s rfl bz) (ec r (fun _ u _ b d s => zni s d.1 rfl rfl rfl bz) (ec r (fun _ u _ b d s => zni s d.1 d.2.1 rfl rfl bz) (ec r (fun _ u _ b d s => zni s d.1 rfl rfl rfl bz) (ec r (fun _ u _ b d s => za6 s (cs := (znc a0)) (n := 6) rfl (keep b h_b1) ta25 rfl bz) (ec r (fun _ u _ b d s => zaa s rfl bz) (ec r (fun fr1 u w' hb' hd r' => zac r' (args := [(.agg (znc a0).toArray), (I a1)]) (lc hd.1 (lc hd.2.1 l0)) cl159 ((zeo _ a0 a1).mono (by rintro _ w2 ⟨rfl, hb2⟩; exact ⟨_, rfl, hb2, rfl⟩))) (ec r (fun fr1 u w' hb' hd r' => zcS r' (c := ((boundsC [(D.zaJ a0 a1)])).toArray) (E := 216) (bs1 (congrArg (fun z => (0, z)) hd.1) (by kernel_rfl)) (fun b w2 n2 => ⟨n2.below, b, rfl, Nat.le_of_eq n2.eq.symm, n2.at_⟩)) ?_))))))))))
  refine zb8 r rfl (fun fr1 u w' hb' hd r' => ?_) ?_
  · obtain ⟨d0, d1, d2, d3, _⟩ := hd; obtain ⟨q2, hq2, _, hr2⟩ := d2; exact zac r' (args := [(.agg (znc a0).toArray), (I (W ((W ((D.za9 a0) + (W (a1 * 5)))) + 1))), (.slice (some ⟨q2, 0, none⟩) 1 1)]) (lc d0 (lc d1 (lc hq2 l0))) cl142 ((zbL _ a0 (W ((W ((D.za9 a0) + (W (a1 * 5)))) + 1)) ([(D.zaJ a0 a1)]) hr2 (by first | assumption | decide | (simp; done))).mono (by rintro _ w2 ⟨rfl, hb2⟩; exact ⟨_, rfl, hb2, rfl⟩))
  exact zaR
 ·
  intro fr u w4 hb hΦ hne r
  obtain ⟨b5, g10, e_b5, h_b5⟩ := hΦ 10 (by decide)
  have l_b5 := lt_of_block h_b5
  have r := r.congr (sc (hΦ 11 (by decide)) (sc g10 (sc (hΦ 9 (by decide)) (sc (hΦ 8 (by decide)) (sc (hΦ 7 (by decide)) (sc (hΦ 6 (by decide)) (sc (hΦ 5 (by decide)) (sc (hΦ 4 (by decide)) (sc (hΦ 3 (by decide)) (sc (hΦ 2 (by decide)) (sc (hΦ 1 (by decide)) (sc (hΦ 0 (by decide)) rfl))))))))))))
  have z_w4 := hb.size
  have h_b1 := keep hb h_b1
  obtain ⟨hB, zB⟩ := bon hb hB
  refine za0 (I (D.zas a0 (W ((W ((D.za9 a0) + (W (a1 * 5)))) + 1)) ([(D.zaJ a0 a1)]))) r (fun R => za8 r rfl) rfl fun fr r => wn (wp_ret ?_)
  refine zay r rfl rfl ?_
  exact ⟨rfl, hB⟩

def D.zaK (a0 : Plan) (a1 : Int) : Int := (D.zas a0 (IntKind.i64.wrap ((D.za9 a0) + (IntKind.i64.wrap (a1 * 5)))) ([(D.zaJ a0 a1)]))

theorem zc8 (w0 : World) 
    (a0 : Plan) (a1 : Int) :
    Calls Tryz.prog 68 #[.agg (znc a0).toArray, .int .i64 a1] w0 (PureRes (.int .i64 (D.zaK a0 a1)) w0) := by
 refine enter Tryz.func68 rfl 16 rfl rfl fun fr r => ?_
 have hB := Below.refl w0.heap.size w0
 refine wsr ?_
 refine za5 (.cells ((znc a0)).toArray 25 (0, 0)) r (fun R => znm r (v := (.agg (znc a0).toArray)) rfl) rfl fun fr b1 w2 n3 r => ?_
 obtain ⟨e_b1, z_w2, h_b1, hB, zB⟩ := n3.all hB
 refine za0 (I 0) r (fun R => za8 r rfl) rfl fun fr r => wn (wp_seq ?_)
 refine zaG 11 [.val (.agg (znc a0).toArray), .val (.agg (znc a0).toArray), .val (I (D.za9 a0)), .val (I a1), .val (I (W (a1 * 5))), .val (I (W ((D.za9 a0) + (W (a1 * 5))))), .val (.agg (znc a0).toArray), .val (I a1), .val (.agg (boundC (D.zaJ a0 a1)).toArray), .slice w2.heap.size (.cells ((boundsC [(D.zaJ a0 a1)])).toArray 216 (0, 0)) 1, .val (I (D.zas a0 (W ((D.za9 a0) + (W (a1 * 5)))) ([(D.zaJ a0 a1)])))] mixed r (by kernel_rfl) (za1 (by exact trivial) (za1 (by exact trivial) (za1 (by exact trivial) (za1 (by exact trivial) (za1 (by exact trivial) (za1 (by exact trivial) (za1 (by exact trivial) (za1 (by exact trivial) (za1 (by exact trivial) (za1 (Nat.le_refl _) (za1 (by exact trivial) zaz))))))))))) ?_ ?_
 ·
  refine ec r (fun _ u _ b d s => za6 s (cs := (znc a0)) (n := 6) rfl (keep b h_b1) ta25 rfl bz) (ec r (fun _ u _ b d s => za6 s (cs := (znc a0)) (n := 6) rfl (keep b h_b1) ta25 rfl bz) (ec r (fun fr1 u w' hb' hd r' => zac r' (args := [(.agg (znc a0).toArray)]) (lc hd.1 l0) cl158 ((zd9 _ a0).mono (by rintro _ w2 ⟨rfl, hb2⟩; exact ⟨_, rfl, hb2, rfl⟩))) (ec r (fun _ u _ b d s => zaa s rfl bz) (ec r (fun _ u _ b d s => zni s d.1 rfl rfl rfl bz) (ec r (fun _ u _ b d s => zni s d.1 d.2.1 rfl rfl bz) (ec r (fun _ u _ b d s => za6 s (cs := (znc a0)) (n := 6) rfl (keep b h_b1) ta25 rfl bz) (ec r (fun _ u _ b d s => zaa s rfl bz) (ec r (fun fr1 u w' hb' hd r' => zac r' (args := [(.agg (znc a0).toArray), (I a1)]) (lc hd.1 (lc hd.2.1 l0)) cl159 ((zeo _ a0 a1).mono (by rintro _ w2 ⟨rfl, hb2⟩; exact ⟨_, rfl, hb2, rfl⟩))) (ec r (fun fr1 u w' hb' hd r' => zcS r' (c := ((boundsC [(D.zaJ a0 a1)])).toArray) (E := 216) (bs1 (congrArg (fun z => (0, z)) hd.1) (by kernel_rfl)) (fun b w2 n2 => ⟨n2.below, b, rfl, Nat.le_of_eq n2.eq.symm, n2.at_⟩)) ?_)))))))))
  refine zb8 r rfl (fun fr1 u w' hb' hd r' => ?_) ?_
  · obtain ⟨d0, d1, d2, d3, _⟩ := hd; obtain ⟨q2, hq2, _, hr2⟩ := d2; exact zac r' (args := [(.agg (znc a0).toArray), (I (W ((D.za9 a0) + (W (a1 * 5))))), (.slice (some ⟨q2, 0, none⟩) 1 1)]) (lc d0 (lc d1 (lc hq2 l0))) cl142 ((zbL _ a0 (W ((D.za9 a0) + (W (a1 * 5)))) ([(D.zaJ a0 a1)]) hr2 (by first | assumption | decide | (simp; done))).mono (by rintro _ w2 ⟨rfl, hb2⟩; exact ⟨_, rfl, hb2, rfl⟩))
  exact zaR
 ·
  intro fr u w4 hb hΦ hne r
  obtain ⟨b5, g9, e_b5, h_b5⟩ := hΦ 9 (by decide)
  have l_b5 := lt_of_block h_b5
  have r := r.congr (sc (hΦ 10 (by decide)) (sc g9 (sc (hΦ 8 (by decide)) (sc (hΦ 7 (by decide)) (sc (hΦ 6 (by decide)) (sc (hΦ 5 (by decide)) (sc (hΦ 4 (by decide)) (sc (hΦ 3 (by decide)) (sc (hΦ 2 (by decide)) (sc (hΦ 1 (by decide)) (sc (hΦ 0 (by decide)) rfl)))))))))))
  have z_w4 := hb.size
  have h_b1 := keep hb h_b1
  obtain ⟨hB, zB⟩ := bon hb hB
  refine za0 (I (D.zas a0 (W ((D.za9 a0) + (W (a1 * 5)))) ([(D.zaJ a0 a1)]))) r (fun R => za8 r rfl) rfl fun fr r => wn (wp_ret ?_)
  refine zay r rfl rfl ?_
  exact ⟨rfl, hB⟩

def D.zaE (a0 : Plan) (a1 : Int) : Bound := (⟨a1, 0, (IntKind.i64.wrap (a0.threads - 1))⟩ : Bound)

theorem zdV (w0 : World) 
    (a0 : Plan) (a1 : Int) :
    Calls Tryz.prog 144 #[.agg (znc a0).toArray, .int .i64 a1] w0 (PureRes (.agg (boundC (D.zaE a0 a1)).toArray) w0) := by
 refine enter Tryz.func144 rfl 10 rfl rfl fun fr r => ?_
 have hB := Below.refl w0.heap.size w0
 refine wsr ?_
 refine za5 (.cells ((znc a0)).toArray 25 (0, 0)) r (fun R => znm r (v := (.agg (znc a0).toArray)) rfl) rfl fun fr b1 w2 n3 r => ?_
 obtain ⟨e_b1, z_w2, h_b1, hB, zB⟩ := n3.all hB
 refine za5 (.cells ((boundC (⟨0, 0, 0⟩ : Bound))).toArray 216 (0, 0)) r (fun R => zag tz216) rfl fun fr b4 w5 n6 r => ?_
 have h_b1 := keep n6.below h_b1
 obtain ⟨e_b4, z_w5, h_b4, hB, zB⟩ := n6.all hB
 refine wn (wsr (za0 (I a1) r (fun R => zaa r rfl) rfl fun fr r => za0 _ r (fun R => za4 r (o := 0) rfl zgH) rfl fun fr r => za0 (I a0.threads) r (fun R => za3 r rfl h_b1 to3 rfl) rfl fun fr r => za0 _ r (fun R => zni r rfl rfl rfl rfl) rfl fun fr r => za0 (.agg (boundC (⟨a1, 0, (W (a0.threads - 1))⟩ : Bound)).toArray) r (fun R => zaM r (by kernel_rfl)) rfl fun fr r => ?_))
 refine zae (.cells ((boundC (⟨a1, 0, (W (a0.threads - 1))⟩ : Bound))).toArray 216 (0, 0)) r (fun R => zaN r (o := 0) (v := (.agg (boundC (⟨a1, 0, (W (a0.threads - 1))⟩ : Bound)).toArray)) rfl rfl h_b4 ts216 (Nat.le_of_ble_eq_true rfl) rfl rfl) rfl fun fr w7 u8 r => ?_
 have z_w7 := u8.size
 have h_b1 := u8.keep h_b1 (by omega)
 have h_b4 := u8.at_
 obtain ⟨hB, zB⟩ := u8.on hB (by omega)
 refine wn (wp_ret ?_)
 refine zad r rfl rfl h_b4 (k := 3) rfl ta216 ?_
 exact ⟨rfl, hB⟩

def D.zb6 (a0 : Plan) (a1 : Int) : Int := (D.zas a0 (IntKind.i64.wrap ((D.zax a0) + (IntKind.i64.wrap (a1 * (IntKind.i64.wrap (1 + a0.retire)))))) ([(D.zaE a0 a1)]))

theorem zdd (w0 : World) 
    (a0 : Plan) (a1 : Int) :
    Calls Tryz.prog 164 #[.agg (znc a0).toArray, .int .i64 a1] w0 (PureRes (.int .i64 (D.zb6 a0 a1)) w0) := by
 refine enter Tryz.func164 rfl 19 rfl rfl fun fr r => ?_
 have hB := Below.refl w0.heap.size w0
 refine wsr ?_
 refine za5 (.cells ((znc a0)).toArray 25 (0, 0)) r (fun R => znm r (v := (.agg (znc a0).toArray)) rfl) rfl fun fr b1 w2 n3 r => ?_
 obtain ⟨e_b1, z_w2, h_b1, hB, zB⟩ := n3.all hB
 refine za0 (I 0) r (fun R => za8 r rfl) rfl fun fr r => wn (wp_seq ?_)
 refine zaG 14 [.val (.agg (znc a0).toArray), .val (.agg (znc a0).toArray), .val (I (D.zax a0)), .val (I a1), .val (.pointer (some ⟨b1, 2, none⟩)), .val (I a0.retire), .val (I (W (1 + a0.retire))), .val (I (W (a1 * (W (1 + a0.retire))))), .val (I (W ((D.zax a0) + (W (a1 * (W (1 + a0.retire))))))), .val (.agg (znc a0).toArray), .val (I a1), .val (.agg (boundC (D.zaE a0 a1)).toArray), .slice w2.heap.size (.cells ((boundsC [(D.zaE a0 a1)])).toArray 216 (0, 0)) 1, .val (I (D.zas a0 (W ((D.zax a0) + (W (a1 * (W (1 + a0.retire)))))) ([(D.zaE a0 a1)])))] mixed r (by kernel_rfl) (za1 (by exact trivial) (za1 (by exact trivial) (za1 (by exact trivial) (za1 (by exact trivial) (za1 (by exact trivial) (za1 (by exact trivial) (za1 (by exact trivial) (za1 (by exact trivial) (za1 (by exact trivial) (za1 (by exact trivial) (za1 (by exact trivial) (za1 (by exact trivial) (za1 (Nat.le_refl _) (za1 (by exact trivial) zaz)))))))))))))) ?_ ?_
 ·
  refine ec r (fun _ u _ b d s => za6 s (cs := (znc a0)) (n := 6) rfl (keep b h_b1) ta25 rfl bz) (ec r (fun _ u _ b d s => za6 s (cs := (znc a0)) (n := 6) rfl (keep b h_b1) ta25 rfl bz) (ec r (fun fr1 u w' hb' hd r' => zac r' (args := [(.agg (znc a0).toArray)]) (lc hd.1 l0) cl261 ((zdW _ a0).mono (by rintro _ w2 ⟨rfl, hb2⟩; exact ⟨_, rfl, hb2, rfl⟩))) (ec r (fun _ u _ b d s => zaa s rfl bz) (ec r (fun _ u _ b d s => za4 s (b := b1) (o := 0) rfl zgK bz) (ec r (fun _ u _ b d s => za3 s d.1 (keep b h_b1) to3 rfl bz) (ec r (fun _ u _ b d s => zni s rfl d.1 rfl rfl bz) (ec r (fun _ u _ b d s => zni s d.1 d.2.1 rfl rfl bz) (ec r (fun _ u _ b d s => zni s d.1 d.2.1 rfl rfl bz) (ec r (fun _ u _ b d s => za6 s (cs := (znc a0)) (n := 6) rfl (keep b h_b1) ta25 rfl bz) (ec r (fun _ u _ b d s => zaa s rfl bz) (ec r (fun fr1 u w' hb' hd r' => zac r' (args := [(.agg (znc a0).toArray), (I a1)]) (lc hd.1 (lc hd.2.1 l0)) cl144 ((zdV _ a0 a1).mono (by rintro _ w2 ⟨rfl, hb2⟩; exact ⟨_, rfl, hb2, rfl⟩))) (ec r (fun fr1 u w' hb' hd r' => zcS r' (c := ((boundsC [(D.zaE a0 a1)])).toArray) (E := 216) (bs1 (congrArg (fun z => (0, z)) hd.1) (by kernel_rfl)) (fun b w2 n2 => ⟨n2.below, b, rfl, Nat.le_of_eq n2.eq.symm, n2.at_⟩)) ?_))))))))))))
  refine zb8 r rfl (fun fr1 u w' hb' hd r' => ?_) ?_
  · obtain ⟨d0, d1, d2, d3, _⟩ := hd; obtain ⟨q2, hq2, _, hr2⟩ := d2; exact zac r' (args := [(.agg (znc a0).toArray), (I (W ((D.zax a0) + (W (a1 * (W (1 + a0.retire))))))), (.slice (some ⟨q2, 0, none⟩) 1 1)]) (lc d0 (lc d1 (lc hq2 l0))) cl142 ((zbL _ a0 (W ((D.zax a0) + (W (a1 * (W (1 + a0.retire)))))) ([(D.zaE a0 a1)]) hr2 (by first | assumption | decide | (simp; done))).mono (by rintro _ w2 ⟨rfl, hb2⟩; exact ⟨_, rfl, hb2, rfl⟩))
  exact zaR
 ·
  intro fr u w4 hb hΦ hne r
  obtain ⟨b5, g12, e_b5, h_b5⟩ := hΦ 12 (by decide)
  have l_b5 := lt_of_block h_b5
  have r := r.congr (sc (hΦ 13 (by decide)) (sc g12 (sc (hΦ 11 (by decide)) (sc (hΦ 10 (by decide)) (sc (hΦ 9 (by decide)) (sc (hΦ 8 (by decide)) (sc (hΦ 7 (by decide)) (sc (hΦ 6 (by decide)) (sc (hΦ 5 (by decide)) (sc (hΦ 4 (by decide)) (sc (hΦ 3 (by decide)) (sc (hΦ 2 (by decide)) (sc (hΦ 1 (by decide)) (sc (hΦ 0 (by decide)) rfl))))))))))))))
  have z_w4 := hb.size
  have h_b1 := keep hb h_b1
  obtain ⟨hB, zB⟩ := bon hb hB
  refine za0 (I (D.zas a0 (W ((D.zax a0) + (W (a1 * (W (1 + a0.retire)))))) ([(D.zaE a0 a1)]))) r (fun R => za8 r rfl) rfl fun fr r => wn (wp_ret ?_)
  refine zay r rfl rfl ?_
  exact ⟨rfl, hB⟩

def D.zaQ (a0 : Plan) (a1 : Int) (a2 : Int) : Int := (D.zas a0 (IntKind.i64.wrap ((IntKind.i64.wrap ((IntKind.i64.wrap ((D.zax a0) + (IntKind.i64.wrap (a1 * (IntKind.i64.wrap (1 + a0.retire)))))) + 1)) + a2)) ([(D.zaE a0 a1), (⟨a2, 0, (IntKind.i64.wrap (a0.retire - 1))⟩ : Bound)]))

theorem zcy (w0 : World) 
    (a0 : Plan) (a1 : Int) (a2 : Int) :
    Calls Tryz.prog 165 #[.agg (znc a0).toArray, .int .i64 a1, .int .i64 a2] w0 (PureRes (.int .i64 (D.zaQ a0 a1 a2)) w0) := by
 refine enter Tryz.func165 rfl 29 rfl rfl fun fr r => ?_
 have hB := Below.refl w0.heap.size w0
 refine wsr ?_
 refine za5 (.cells ((znc a0)).toArray 25 (0, 0)) r (fun R => znm r (v := (.agg (znc a0).toArray)) rfl) rfl fun fr b1 w2 n3 r => ?_
 obtain ⟨e_b1, z_w2, h_b1, hB, zB⟩ := n3.all hB
 refine za0 (I 0) r (fun R => za8 r rfl) rfl fun fr r => wn (wp_seq ?_)
 refine zaG 22 [.val (.agg (znc a0).toArray), .val (.agg (znc a0).toArray), .val (I (D.zax a0)), .val (I a1), .val (.pointer (some ⟨b1, 2, none⟩)), .val (I a0.retire), .val (I (W (1 + a0.retire))), .val (I (W (a1 * (W (1 + a0.retire))))), .val (I (W ((D.zax a0) + (W (a1 * (W (1 + a0.retire))))))), .val (I (W ((W ((D.zax a0) + (W (a1 * (W (1 + a0.retire)))))) + 1))), .val (I a2), .val (I (W ((W ((W ((D.zax a0) + (W (a1 * (W (1 + a0.retire)))))) + 1)) + a2))), .val (.agg (znc a0).toArray), .val (I a1), .val (.agg (boundC (D.zaE a0 a1)).toArray), .val (I a2), .val (.pointer (some ⟨b1, 2, none⟩)), .val (I a0.retire), .val (I (W (a0.retire - 1))), .val (.agg (boundC (⟨a2, 0, (W (a0.retire - 1))⟩ : Bound)).toArray), .slice w2.heap.size (.cells ((boundsC [(D.zaE a0 a1), (⟨a2, 0, (W (a0.retire - 1))⟩ : Bound)])).toArray 216 (0, 0)) 2, .val (I (D.zas a0 (W ((W ((W ((D.zax a0) + (W (a1 * (W (1 + a0.retire)))))) + 1)) + a2)) ([(D.zaE a0 a1), (⟨a2, 0, (W (a0.retire - 1))⟩ : Bound)])))] mixed r (by kernel_rfl) (za1 (by exact trivial) (za1 (by exact trivial) (za1 (by exact trivial) (za1 (by exact trivial) (za1 (by exact trivial) (za1 (by exact trivial) (za1 (by exact trivial) (za1 (by exact trivial) (za1 (by exact trivial) (za1 (by exact trivial) (za1 (by exact trivial) (za1 (by exact trivial) (za1 (by exact trivial) (za1 (by exact trivial) (za1 (by exact trivial) (za1 (by exact trivial) (za1 (by exact trivial) (za1 (by exact trivial) (za1 (by exact trivial) (za1 (by exact trivial) (za1 (Nat.le_refl _) (za1 (by exact trivial) zaz)))))))))))))))))))))) ?_ ?_
 ·
  refine ec r (fun _ u _ b d s => za6 s (cs := (znc a0)) (n := 6) rfl (keep b h_b1) ta25 rfl bz) (ec r (fun _ u _ b d s => za6 s (cs := (znc a0)) (n := 6) rfl (keep b h_b1) ta25 rfl bz) (ec r (fun fr1 u w' hb' hd r' => zac r' (args := [(.agg (znc a0).toArray)]) (lc hd.1 l0) cl261 ((zdW _ a0).mono (by rintro _ w2 ⟨rfl, hb2⟩; exact ⟨_, rfl, hb2, rfl⟩))) (ec r (fun _ u _ b d s => zaa s rfl bz) (ec r (fun _ u _ b d s => za4 s (b := b1) (o := 0) rfl zgK bz) (ec r (fun _ u _ b d s => za3 s d.1 (keep b h_b1) to3 rfl bz) (ec r (fun _ u _ b d s => zni s rfl d.1 rfl rfl bz) (ec r (fun _ u _ b d s => zni s d.1 d.2.1 rfl rfl bz) (ec r (fun _ u _ b d s => zni s d.1 d.2.1 rfl rfl bz) (ec r (fun _ u _ b d s => zni s d.1 rfl rfl rfl bz) (ec r (fun _ u _ b d s => zaa s rfl bz) (ec r (fun _ u _ b d s => zni s d.1 d.2.1 rfl rfl bz) (ec r (fun _ u _ b d s => za6 s (cs := (znc a0)) (n := 6) rfl (keep b h_b1) ta25 rfl bz) (ec r (fun _ u _ b d s => zaa s rfl bz) (ec r (fun fr1 u w' hb' hd r' => zac r' (args := [(.agg (znc a0).toArray), (I a1)]) (lc hd.1 (lc hd.2.1 l0)) cl144 ((zdV _ a0 a1).mono (by rintro _ w2 ⟨rfl, hb2⟩; exact ⟨_, rfl, hb2, rfl⟩))) (ec r (fun _ u _ b d s => zaa s rfl bz) (ec r (fun _ u _ b d s => za4 s (b := b1) (o := 0) rfl zgK bz) (ec r (fun _ u _ b d s => za3 s d.1 (keep b h_b1) to3 rfl bz) (ec r (fun _ u _ b d s => zni s d.1 rfl rfl rfl bz) (ec r (fun fr1 u w' hb' hd r' => zaM r' (v := (.agg (boundC (⟨a2, 0, (W (a0.retire - 1))⟩ : Bound)).toArray)) (bs3 (congrArg (fun z => (0, z)) hd.1) (rfl) (congrArg (fun z => (2, z)) hd.2.1) (by kernel_rfl)) bz) (ec r (fun fr1 u w' hb' hd r' => zcS r' (c := ((boundsC [(D.zaE a0 a1), (⟨a2, 0, (W (a0.retire - 1))⟩ : Bound)])).toArray) (E := 216) (bs2 (congrArg (fun z => (0, z)) hd.1) (congrArg (fun z => (1, z)) hd.2.1) (by kernel_rfl)) (fun b w2 n2 => ⟨n2.below, b, rfl, Nat.le_of_eq n2.eq.symm, n2.at_⟩)) ?_))))))))))))))))))))
  refine zb8 r rfl (fun fr1 u w' hb' hd r' => ?_) ?_
  · obtain ⟨d0, d1, d2, d3, _⟩ := hd; obtain ⟨q2, hq2, _, hr2⟩ := d2; exact zac r' (args := [(.agg (znc a0).toArray), (I (W ((W ((W ((D.zax a0) + (W (a1 * (W (1 + a0.retire)))))) + 1)) + a2))), (.slice (some ⟨q2, 0, none⟩) 2 2)]) (lc d0 (lc d1 (lc hq2 l0))) cl142 ((zbL _ a0 (W ((W ((W ((D.zax a0) + (W (a1 * (W (1 + a0.retire)))))) + 1)) + a2)) ([(D.zaE a0 a1), (⟨a2, 0, (W (a0.retire - 1))⟩ : Bound)]) hr2 (by first | assumption | decide | (simp; done))).mono (by rintro _ w2 ⟨rfl, hb2⟩; exact ⟨_, rfl, hb2, rfl⟩))
  exact zaR
 ·
  intro fr u w4 hb hΦ hne r
  obtain ⟨b5, g20, e_b5, h_b5⟩ := hΦ 20 (by decide)
  have l_b5 := lt_of_block h_b5
  have r := r.congr (sc (hΦ 21 (by decide)) (sc g20 (sc (hΦ 19 (by decide)) (sc (hΦ 18 (by decide)) (sc (hΦ 17 (by decide)) (sc (hΦ 16 (by decide)) (sc (hΦ 15 (by decide)) (sc (hΦ 14 (by decide)) (sc (hΦ 13 (by decide)) (sc (hΦ 12 (by decide)) (sc (hΦ 11 (by decide)) (sc (hΦ 10 (by decide)) (sc (hΦ 9 (by decide)) (sc (hΦ 8 (by decide)) (sc (hΦ 7 (by decide)) (sc (hΦ 6 (by decide)) (sc (hΦ 5 (by decide)) (sc (hΦ 4 (by decide)) (sc (hΦ 3 (by decide)) (sc (hΦ 2 (by decide)) (sc (hΦ 1 (by decide)) (sc (hΦ 0 (by decide)) rfl))))))))))))))))))))))
  have z_w4 := hb.size
  have h_b1 := keep hb h_b1
  obtain ⟨hB, zB⟩ := bon hb hB
  refine za0 (I (D.zas a0 (W ((W ((W ((D.zax a0) + (W (a1 * (W (1 + a0.retire)))))) + 1)) + a2)) ([(D.zaE a0 a1), (⟨a2, 0, (W (a0.retire - 1))⟩ : Bound)]))) r (fun R => za8 r rfl) rfl fun fr r => wn (wp_ret ?_)
  refine zay r rfl rfl ?_
  exact ⟨rfl, hB⟩

def D.zbr (a0 : Plan) (a1 : Int) (a2 : Int) : Int := (D.zas a0 (IntKind.i64.wrap ((IntKind.i64.wrap ((D.zab a0) + (IntKind.i64.wrap (a1 * 3)))) + a2)) ([(D.zaE a0 a1), (⟨a2, 0, 2⟩ : Bound)]))

theorem zf1 (w0 : World) 
    (a0 : Plan) (a1 : Int) (a2 : Int) :
    Calls Tryz.prog 52 #[.agg (znc a0).toArray, .int .i64 a1, .int .i64 a2] w0 (PureRes (.int .i64 (D.zbr a0 a1 a2)) w0) := by
 refine enter Tryz.func52 rfl 22 rfl rfl fun fr r => ?_
 have hB := Below.refl w0.heap.size w0
 refine wsr ?_
 refine za5 (.cells ((znc a0)).toArray 25 (0, 0)) r (fun R => znm r (v := (.agg (znc a0).toArray)) rfl) rfl fun fr b1 w2 n3 r => ?_
 obtain ⟨e_b1, z_w2, h_b1, hB, zB⟩ := n3.all hB
 refine za0 (I 0) r (fun R => za8 r rfl) rfl fun fr r => wn (wp_seq ?_)
 refine zaG 15 [.val (.agg (znc a0).toArray), .val (.agg (znc a0).toArray), .val (I (D.zab a0)), .val (I a1), .val (I (W (a1 * 3))), .val (I (W ((D.zab a0) + (W (a1 * 3))))), .val (I a2), .val (I (W ((W ((D.zab a0) + (W (a1 * 3)))) + a2))), .val (.agg (znc a0).toArray), .val (I a1), .val (.agg (boundC (D.zaE a0 a1)).toArray), .val (I a2), .val (.agg (boundC (⟨a2, 0, 2⟩ : Bound)).toArray), .slice w2.heap.size (.cells ((boundsC [(D.zaE a0 a1), (⟨a2, 0, 2⟩ : Bound)])).toArray 216 (0, 0)) 2, .val (I (D.zas a0 (W ((W ((D.zab a0) + (W (a1 * 3)))) + a2)) ([(D.zaE a0 a1), (⟨a2, 0, 2⟩ : Bound)])))] mixed r (by kernel_rfl) (za1 (by exact trivial) (za1 (by exact trivial) (za1 (by exact trivial) (za1 (by exact trivial) (za1 (by exact trivial) (za1 (by exact trivial) (za1 (by exact trivial) (za1 (by exact trivial) (za1 (by exact trivial) (za1 (by exact trivial) (za1 (by exact trivial) (za1 (by exact trivial) (za1 (by exact trivial) (za1 (Nat.le_refl _) (za1 (by exact trivial) zaz))))))))))))))) ?_ ?_
 ·
  refine ec r (fun _ u _ b d s => za6 s (cs := (znc a0)) (n := 6) rfl (keep b h_b1) ta25 rfl bz) (ec r (fun _ u _ b d s => za6 s (cs := (znc a0)) (n := 6) rfl (keep b h_b1) ta25 rfl bz) (ec r (fun fr1 u w' hb' hd r' => zac r' (args := [(.agg (znc a0).toArray)]) (lc hd.1 l0) cl143 ((zeG _ a0).mono (by rintro _ w2 ⟨rfl, hb2⟩; exact ⟨_, rfl, hb2, rfl⟩))) (ec r (fun _ u _ b d s => zaa s rfl bz) (ec r (fun _ u _ b d s => zni s d.1 rfl rfl rfl bz) (ec r (fun _ u _ b d s => zni s d.1 d.2.1 rfl rfl bz) (ec r (fun _ u _ b d s => zaa s rfl bz) (ec r (fun _ u _ b d s => zni s d.1 d.2.1 rfl rfl bz) (ec r (fun _ u _ b d s => za6 s (cs := (znc a0)) (n := 6) rfl (keep b h_b1) ta25 rfl bz) (ec r (fun _ u _ b d s => zaa s rfl bz) (ec r (fun fr1 u w' hb' hd r' => zac r' (args := [(.agg (znc a0).toArray), (I a1)]) (lc hd.1 (lc hd.2.1 l0)) cl144 ((zdV _ a0 a1).mono (by rintro _ w2 ⟨rfl, hb2⟩; exact ⟨_, rfl, hb2, rfl⟩))) (ec r (fun _ u _ b d s => zaa s rfl bz) (ec r (fun fr1 u w' hb' hd r' => zaM r' (v := (.agg (boundC (⟨a2, 0, 2⟩ : Bound)).toArray)) (bs3 (congrArg (fun z => (0, z)) hd.1) (rfl) (rfl) (by kernel_rfl)) bz) (ec r (fun fr1 u w' hb' hd r' => zcS r' (c := ((boundsC [(D.zaE a0 a1), (⟨a2, 0, 2⟩ : Bound)])).toArray) (E := 216) (bs2 (congrArg (fun z => (0, z)) hd.1) (congrArg (fun z => (1, z)) hd.2.1) (by kernel_rfl)) (fun b w2 n2 => ⟨n2.below, b, rfl, Nat.le_of_eq n2.eq.symm, n2.at_⟩)) ?_)))))))))))))
  refine zb8 r rfl (fun fr1 u w' hb' hd r' => ?_) ?_
  · obtain ⟨d0, d1, d2, d3, _⟩ := hd; obtain ⟨q2, hq2, _, hr2⟩ := d2; exact zac r' (args := [(.agg (znc a0).toArray), (I (W ((W ((D.zab a0) + (W (a1 * 3)))) + a2))), (.slice (some ⟨q2, 0, none⟩) 2 2)]) (lc d0 (lc d1 (lc hq2 l0))) cl142 ((zbL _ a0 (W ((W ((D.zab a0) + (W (a1 * 3)))) + a2)) ([(D.zaE a0 a1), (⟨a2, 0, 2⟩ : Bound)]) hr2 (by first | assumption | decide | (simp; done))).mono (by rintro _ w2 ⟨rfl, hb2⟩; exact ⟨_, rfl, hb2, rfl⟩))
  exact zaR
 ·
  intro fr u w4 hb hΦ hne r
  obtain ⟨b5, g13, e_b5, h_b5⟩ := hΦ 13 (by decide)
  have l_b5 := lt_of_block h_b5
  have r := r.congr (sc (hΦ 14 (by decide)) (sc g13 (sc (hΦ 12 (by decide)) (sc (hΦ 11 (by decide)) (sc (hΦ 10 (by decide)) (sc (hΦ 9 (by decide)) (sc (hΦ 8 (by decide)) (sc (hΦ 7 (by decide)) (sc (hΦ 6 (by decide)) (sc (hΦ 5 (by decide)) (sc (hΦ 4 (by decide)) (sc (hΦ 3 (by decide)) (sc (hΦ 2 (by decide)) (sc (hΦ 1 (by decide)) (sc (hΦ 0 (by decide)) rfl)))))))))))))))
  have z_w4 := hb.size
  have h_b1 := keep hb h_b1
  obtain ⟨hB, zB⟩ := bon hb hB
  refine za0 (I (D.zas a0 (W ((W ((D.zab a0) + (W (a1 * 3)))) + a2)) ([(D.zaE a0 a1), (⟨a2, 0, 2⟩ : Bound)]))) r (fun R => za8 r rfl) rfl fun fr r => wn (wp_ret ?_)
  refine zay r rfl rfl ?_
  exact ⟨rfl, hB⟩

def D.zaw (a0 : Plan) (a1 : Int) (a2 : Int) : Int := (D.zas a0 (IntKind.i64.wrap ((IntKind.i64.wrap ((IntKind.i64.wrap ((D.za9 a0) + (IntKind.i64.wrap (a1 * 5)))) + 2)) + a2)) ([(D.zaJ a0 a1), (⟨a2, 0, 2⟩ : Bound)]))

theorem zbN (w0 : World) 
    (a0 : Plan) (a1 : Int) (a2 : Int) :
    Calls Tryz.prog 150 #[.agg (znc a0).toArray, .int .i64 a1, .int .i64 a2] w0 (PureRes (.int .i64 (D.zaw a0 a1 a2)) w0) := by
 refine enter Tryz.func150 rfl 23 rfl rfl fun fr r => ?_
 have hB := Below.refl w0.heap.size w0
 refine wsr ?_
 refine za5 (.cells ((znc a0)).toArray 25 (0, 0)) r (fun R => znm r (v := (.agg (znc a0).toArray)) rfl) rfl fun fr b1 w2 n3 r => ?_
 obtain ⟨e_b1, z_w2, h_b1, hB, zB⟩ := n3.all hB
 refine za0 (I 0) r (fun R => za8 r rfl) rfl fun fr r => wn (wp_seq ?_)
 refine zaG 16 [.val (.agg (znc a0).toArray), .val (.agg (znc a0).toArray), .val (I (D.za9 a0)), .val (I a1), .val (I (W (a1 * 5))), .val (I (W ((D.za9 a0) + (W (a1 * 5))))), .val (I (W ((W ((D.za9 a0) + (W (a1 * 5)))) + 2))), .val (I a2), .val (I (W ((W ((W ((D.za9 a0) + (W (a1 * 5)))) + 2)) + a2))), .val (.agg (znc a0).toArray), .val (I a1), .val (.agg (boundC (D.zaJ a0 a1)).toArray), .val (I a2), .val (.agg (boundC (⟨a2, 0, 2⟩ : Bound)).toArray), .slice w2.heap.size (.cells ((boundsC [(D.zaJ a0 a1), (⟨a2, 0, 2⟩ : Bound)])).toArray 216 (0, 0)) 2, .val (I (D.zas a0 (W ((W ((W ((D.za9 a0) + (W (a1 * 5)))) + 2)) + a2)) ([(D.zaJ a0 a1), (⟨a2, 0, 2⟩ : Bound)])))] mixed r (by kernel_rfl) (za1 (by exact trivial) (za1 (by exact trivial) (za1 (by exact trivial) (za1 (by exact trivial) (za1 (by exact trivial) (za1 (by exact trivial) (za1 (by exact trivial) (za1 (by exact trivial) (za1 (by exact trivial) (za1 (by exact trivial) (za1 (by exact trivial) (za1 (by exact trivial) (za1 (by exact trivial) (za1 (by exact trivial) (za1 (Nat.le_refl _) (za1 (by exact trivial) zaz)))))))))))))))) ?_ ?_
 ·
  refine ec r (fun _ u _ b d s => za6 s (cs := (znc a0)) (n := 6) rfl (keep b h_b1) ta25 rfl bz) (ec r (fun _ u _ b d s => za6 s (cs := (znc a0)) (n := 6) rfl (keep b h_b1) ta25 rfl bz) (ec r (fun fr1 u w' hb' hd r' => zac r' (args := [(.agg (znc a0).toArray)]) (lc hd.1 l0) cl158 ((zd9 _ a0).mono (by rintro _ w2 ⟨rfl, hb2⟩; exact ⟨_, rfl, hb2, rfl⟩))) (ec r (fun _ u _ b d s => zaa s rfl bz) (ec r (fun _ u _ b d s => zni s d.1 rfl rfl rfl bz) (ec r (fun _ u _ b d s => zni s d.1 d.2.1 rfl rfl bz) (ec r (fun _ u _ b d s => zni s d.1 rfl rfl rfl bz) (ec r (fun _ u _ b d s => zaa s rfl bz) (ec r (fun _ u _ b d s => zni s d.1 d.2.1 rfl rfl bz) (ec r (fun _ u _ b d s => za6 s (cs := (znc a0)) (n := 6) rfl (keep b h_b1) ta25 rfl bz) (ec r (fun _ u _ b d s => zaa s rfl bz) (ec r (fun fr1 u w' hb' hd r' => zac r' (args := [(.agg (znc a0).toArray), (I a1)]) (lc hd.1 (lc hd.2.1 l0)) cl159 ((zeo _ a0 a1).mono (by rintro _ w2 ⟨rfl, hb2⟩; exact ⟨_, rfl, hb2, rfl⟩))) (ec r (fun _ u _ b d s => zaa s rfl bz) (ec r (fun fr1 u w' hb' hd r' => zaM r' (v := (.agg (boundC (⟨a2, 0, 2⟩ : Bound)).toArray)) (bs3 (congrArg (fun z => (0, z)) hd.1) (rfl) (rfl) (by kernel_rfl)) bz) (ec r (fun fr1 u w' hb' hd r' => zcS r' (c := ((boundsC [(D.zaJ a0 a1), (⟨a2, 0, 2⟩ : Bound)])).toArray) (E := 216) (bs2 (congrArg (fun z => (0, z)) hd.1) (congrArg (fun z => (1, z)) hd.2.1) (by kernel_rfl)) (fun b w2 n2 => ⟨n2.below, b, rfl, Nat.le_of_eq n2.eq.symm, n2.at_⟩)) ?_))))))))))))))
  refine zb8 r rfl (fun fr1 u w' hb' hd r' => ?_) ?_
  · obtain ⟨d0, d1, d2, d3, _⟩ := hd; obtain ⟨q2, hq2, _, hr2⟩ := d2; exact zac r' (args := [(.agg (znc a0).toArray), (I (W ((W ((W ((D.za9 a0) + (W (a1 * 5)))) + 2)) + a2))), (.slice (some ⟨q2, 0, none⟩) 2 2)]) (lc d0 (lc d1 (lc hq2 l0))) cl142 ((zbL _ a0 (W ((W ((W ((D.za9 a0) + (W (a1 * 5)))) + 2)) + a2)) ([(D.zaJ a0 a1), (⟨a2, 0, 2⟩ : Bound)]) hr2 (by first | assumption | decide | (simp; done))).mono (by rintro _ w2 ⟨rfl, hb2⟩; exact ⟨_, rfl, hb2, rfl⟩))
  exact zaR
 ·
  intro fr u w4 hb hΦ hne r
  obtain ⟨b5, g14, e_b5, h_b5⟩ := hΦ 14 (by decide)
  have l_b5 := lt_of_block h_b5
  have r := r.congr (sc (hΦ 15 (by decide)) (sc g14 (sc (hΦ 13 (by decide)) (sc (hΦ 12 (by decide)) (sc (hΦ 11 (by decide)) (sc (hΦ 10 (by decide)) (sc (hΦ 9 (by decide)) (sc (hΦ 8 (by decide)) (sc (hΦ 7 (by decide)) (sc (hΦ 6 (by decide)) (sc (hΦ 5 (by decide)) (sc (hΦ 4 (by decide)) (sc (hΦ 3 (by decide)) (sc (hΦ 2 (by decide)) (sc (hΦ 1 (by decide)) (sc (hΦ 0 (by decide)) rfl))))))))))))))))
  have z_w4 := hb.size
  have h_b1 := keep hb h_b1
  obtain ⟨hB, zB⟩ := bon hb hB
  refine za0 (I (D.zas a0 (W ((W ((W ((D.za9 a0) + (W (a1 * 5)))) + 2)) + a2)) ([(D.zaJ a0 a1), (⟨a2, 0, 2⟩ : Bound)]))) r (fun R => za8 r rfl) rfl fun fr r => wn (wp_ret ?_)
  refine zay r rfl rfl ?_
  exact ⟨rfl, hB⟩

def D.zar (a0 : Plan) : Bool := (bif (decide (a0.nodes < 1)) then false else (bif (decide (a0.nodes > 1048576)) then false else (bif (decide (a0.threads < 1)) then false else (bif (decide (a0.threads > 16)) then false else (bif (decide (a0.domains < 0)) then false else (bif (decide (a0.domains > 64)) then false else (bif (decide (a0.buckets ≥ 1)) then (bif (decide (a0.buckets ≤ 256)) then (bif (decide (a0.gen ≥ 1)) then (bif (decide (a0.gen ≤ 1073741823)) then (bif (decide (a0.retire > (IntKind.i64.wrap (3 * a0.threads)))) then (decide (a0.retire ≤ 1024)) else false) else false) else false) else false) else false)))))))

theorem zei (w0 : World) 
    (a0 : Plan) :
    Calls Tryz.prog 45 #[.agg (znc a0).toArray] w0 (PureRes (.bool (D.zar a0)) w0) := by
 refine enter Tryz.func45 rfl 62 rfl rfl fun fr r => ?_
 have hB := Below.refl w0.heap.size w0
 refine wsr ?_
 refine za5 (.cells ((znc a0)).toArray 25 (0, 0)) r (fun R => znm r (v := (.agg (znc a0).toArray)) rfl) rfl fun fr b1 w2 n3 r => ?_
 obtain ⟨e_b1, z_w2, h_b1, hB, zB⟩ := n3.all hB
 refine za0 (.bool false) r (fun R => za8 r rfl) rfl fun fr r => wn (wp_seq (wsr (za0 _ r (fun R => za4 r (o := 0) rfl zfQ) rfl fun fr r => za0 (I a0.nodes) r (fun R => za3 r rfl h_b1 to3 rfl) rfl fun fr r => za0 _ r (fun R => zni r rfl rfl rfl rfl) rfl fun fr r => za0 (.bool (decide (a0.nodes < 1))) r (fun R => zaa r rfl) rfl fun fr r => ?_)))
 refine zaI (decide (a0.nodes < 1)) (fun h4 => ?_) (fun h4 => ?_)
 ·
  refine s0 r h4 fun fr r => s0 r h4 fun fr r => s0 r h4 fun fr r => za0 (.bool true) r (fun R => zaq r (b := true) (congrArg Value.bool h4) rfl) rfl fun fr r => za0 (.bool true) r (fun R => zaa r rfl) rfl fun fr r => s0 r (rfl : true = _) fun fr r => s0 r (rfl : true = _) fun fr r => s0 r (rfl : true = _) fun fr r => za0 (.bool true) r (fun R => zaq r (b := true) (congrArg Value.bool (rfl : true = _)) rfl) rfl fun fr r => za0 (.bool true) r (fun R => zaa r rfl) rfl fun fr r => s0 r (rfl : true = _) fun fr r => s0 r (rfl : true = _) fun fr r => s0 r (rfl : true = _) fun fr r => za0 (.bool true) r (fun R => zaq r (b := true) (congrArg Value.bool (rfl : true = _)) rfl) rfl fun fr r => za0 (.bool true) r (fun R => zaa r rfl) rfl fun fr r => s0 r (rfl : true = _) fun fr r => s0 r (rfl : true = _) fun fr r => s0 r (rfl : true = _) fun fr r => za0 (.bool true) r (fun R => zaq r (b := true) (congrArg Value.bool (rfl : true = _)) rfl) rfl fun fr r => za0 (.bool true) r (fun R => zaa r rfl) rfl fun fr r => s0 r (rfl : true = _) fun fr r => s0 r (rfl : true = _) fun fr r => s0 r (rfl : true = _) fun fr r => za0 (.bool true) r (fun R => zaq r (b := true) (congrArg Value.bool (rfl : true = _)) rfl) rfl fun fr r => wn ?_
  refine wp_cond_split (t := true) (r.ev rfl) (fun _ => ?_) (fun h => absurd ((rfl : true = _).symm.trans h) (by decide))
  refine wsr (za0 (.bool false) r (fun R => za8 r rfl) rfl fun fr r => wn (wp_ret ?_))
  have hd : D.zar a0 = false := (zap h4).trans (rfl)
  refine zay r rfl rfl ?_
  rw [hd]
  exact ⟨rfl, hB⟩
 ·
  refine s1 r h4 (za0 _ r (fun R => za4 r (o := 0) rfl zfQ) rfl fun fr r => s1 r h4 (za0 (I a0.nodes) r (fun R => za3 r rfl h_b1 to3 rfl) rfl fun fr r => s1 r h4 (za0 _ r (fun R => zni r rfl rfl rfl rfl) rfl fun fr r => za0 (.bool (decide (a0.nodes > 1048576))) r (fun R => zaq r (b := false) (congrArg Value.bool h4) rfl) rfl fun fr r => za0 (.bool (decide (a0.nodes > 1048576))) r (fun R => zaa r rfl) rfl fun fr r => ?_)))
  refine zaI (decide (a0.nodes > 1048576)) (fun h5 => ?_) (fun h5 => ?_)
  ·
   refine s0 r h5 fun fr r => s0 r h5 fun fr r => s0 r h5 fun fr r => za0 (.bool true) r (fun R => zaq r (b := true) (congrArg Value.bool h5) rfl) rfl fun fr r => za0 (.bool true) r (fun R => zaa r rfl) rfl fun fr r => s0 r (rfl : true = _) fun fr r => s0 r (rfl : true = _) fun fr r => s0 r (rfl : true = _) fun fr r => za0 (.bool true) r (fun R => zaq r (b := true) (congrArg Value.bool (rfl : true = _)) rfl) rfl fun fr r => za0 (.bool true) r (fun R => zaa r rfl) rfl fun fr r => s0 r (rfl : true = _) fun fr r => s0 r (rfl : true = _) fun fr r => s0 r (rfl : true = _) fun fr r => za0 (.bool true) r (fun R => zaq r (b := true) (congrArg Value.bool (rfl : true = _)) rfl) rfl fun fr r => za0 (.bool true) r (fun R => zaa r rfl) rfl fun fr r => s0 r (rfl : true = _) fun fr r => s0 r (rfl : true = _) fun fr r => s0 r (rfl : true = _) fun fr r => za0 (.bool true) r (fun R => zaq r (b := true) (congrArg Value.bool (rfl : true = _)) rfl) rfl fun fr r => wn ?_
   refine wp_cond_split (t := true) (r.ev rfl) (fun _ => ?_) (fun h => absurd ((rfl : true = _).symm.trans h) (by decide))
   refine wsr (za0 (.bool false) r (fun R => za8 r rfl) rfl fun fr r => wn (wp_ret ?_))
   have hd : D.zar a0 = false := (zak h4).trans ((zap h5).trans (rfl))
   refine zay r rfl rfl ?_
   rw [hd]
   exact ⟨rfl, hB⟩
  ·
   refine s1 r h5 (za0 _ r (fun R => za4 r (o := 0) rfl zgH) rfl fun fr r => s1 r h5 (za0 (I a0.threads) r (fun R => za3 r rfl h_b1 to3 rfl) rfl fun fr r => s1 r h5 (za0 _ r (fun R => zni r rfl rfl rfl rfl) rfl fun fr r => za0 (.bool (decide (a0.threads < 1))) r (fun R => zaq r (b := false) (congrArg Value.bool h5) rfl) rfl fun fr r => za0 (.bool (decide (a0.threads < 1))) r (fun R => zaa r rfl) rfl fun fr r => ?_)))
   refine zaI (decide (a0.threads < 1)) (fun h6 => ?_) (fun h6 => ?_)
   ·
    refine s0 r h6 fun fr r => s0 r h6 fun fr r => s0 r h6 fun fr r => za0 (.bool true) r (fun R => zaq r (b := true) (congrArg Value.bool h6) rfl) rfl fun fr r => za0 (.bool true) r (fun R => zaa r rfl) rfl fun fr r => s0 r (rfl : true = _) fun fr r => s0 r (rfl : true = _) fun fr r => s0 r (rfl : true = _) fun fr r => za0 (.bool true) r (fun R => zaq r (b := true) (congrArg Value.bool (rfl : true = _)) rfl) rfl fun fr r => za0 (.bool true) r (fun R => zaa r rfl) rfl fun fr r => s0 r (rfl : true = _) fun fr r => s0 r (rfl : true = _) fun fr r => s0 r (rfl : true = _) fun fr r => za0 (.bool true) r (fun R => zaq r (b := true) (congrArg Value.bool (rfl : true = _)) rfl) rfl fun fr r => wn ?_
    refine wp_cond_split (t := true) (r.ev rfl) (fun _ => ?_) (fun h => absurd ((rfl : true = _).symm.trans h) (by decide))
    refine wsr (za0 (.bool false) r (fun R => za8 r rfl) rfl fun fr r => wn (wp_ret ?_))
    have hd : D.zar a0 = false := (zak h4).trans ((zak h5).trans ((zap h6).trans (rfl)))
    refine zay r rfl rfl ?_
    rw [hd]
    exact ⟨rfl, hB⟩
   ·
    refine s1 r h6 (za0 _ r (fun R => za4 r (o := 0) rfl zgH) rfl fun fr r => s1 r h6 (za0 (I a0.threads) r (fun R => za3 r rfl h_b1 to3 rfl) rfl fun fr r => s1 r h6 (za0 _ r (fun R => zni r rfl rfl rfl rfl) rfl fun fr r => za0 (.bool (decide (a0.threads > 16))) r (fun R => zaq r (b := false) (congrArg Value.bool h6) rfl) rfl fun fr r => za0 (.bool (decide (a0.threads > 16))) r (fun R => zaa r rfl) rfl fun fr r => ?_)))
    refine zaI (decide (a0.threads > 16)) (fun h7 => ?_) (fun h7 => ?_)
    ·
     refine s0 r h7 fun fr r => s0 r h7 fun fr r => s0 r h7 fun fr r => za0 (.bool true) r (fun R => zaq r (b := true) (congrArg Value.bool h7) rfl) rfl fun fr r => za0 (.bool true) r (fun R => zaa r rfl) rfl fun fr r => s0 r (rfl : true = _) fun fr r => s0 r (rfl : true = _) fun fr r => s0 r (rfl : true = _) fun fr r => za0 (.bool true) r (fun R => zaq r (b := true) (congrArg Value.bool (rfl : true = _)) rfl) rfl fun fr r => wn ?_
     refine wp_cond_split (t := true) (r.ev rfl) (fun _ => ?_) (fun h => absurd ((rfl : true = _).symm.trans h) (by decide))
     refine wsr (za0 (.bool false) r (fun R => za8 r rfl) rfl fun fr r => wn (wp_ret ?_))
     have hd : D.zar a0 = false := (zak h4).trans ((zak h5).trans ((zak h6).trans ((zap h7).trans (rfl))))
     refine zay r rfl rfl ?_
     rw [hd]
     exact ⟨rfl, hB⟩
    ·
     refine s1 r h7 (za0 _ r (fun R => za4 r (o := 0) rfl ziH) rfl fun fr r => s1 r h7 (za0 (I a0.domains) r (fun R => za3 r rfl h_b1 to3 rfl) rfl fun fr r => s1 r h7 (za0 _ r (fun R => zni r rfl rfl rfl rfl) rfl fun fr r => za0 (.bool (decide (a0.domains < 0))) r (fun R => zaq r (b := false) (congrArg Value.bool h7) rfl) rfl fun fr r => za0 (.bool (decide (a0.domains < 0))) r (fun R => zaa r rfl) rfl fun fr r => ?_)))
     refine zaI (decide (a0.domains < 0)) (fun h8 => ?_) (fun h8 => ?_)
     ·
      refine s0 r h8 fun fr r => s0 r h8 fun fr r => s0 r h8 fun fr r => za0 (.bool true) r (fun R => zaq r (b := true) (congrArg Value.bool h8) rfl) rfl fun fr r => wn ?_
      refine wp_cond_split (t := true) (r.ev rfl) (fun _ => ?_) (fun h => absurd ((rfl : true = _).symm.trans h) (by decide))
      refine wsr (za0 (.bool false) r (fun R => za8 r rfl) rfl fun fr r => wn (wp_ret ?_))
      have hd : D.zar a0 = false := (zak h4).trans ((zak h5).trans ((zak h6).trans ((zak h7).trans ((zap h8).trans (rfl)))))
      refine zay r rfl rfl ?_
      rw [hd]
      exact ⟨rfl, hB⟩
     ·
      refine s1 r h8 (za0 _ r (fun R => za4 r (o := 0) rfl ziH) rfl fun fr r => s1 r h8 (za0 (I a0.domains) r (fun R => za3 r rfl h_b1 to3 rfl) rfl fun fr r => s1 r h8 (za0 _ r (fun R => zni r rfl rfl rfl rfl) rfl fun fr r => za0 (.bool (decide (a0.domains > 64))) r (fun R => zaq r (b := false) (congrArg Value.bool h8) rfl) rfl fun fr r => wn ?_)))
      refine wp_cond_split (t := (decide (a0.domains > 64))) (r.ev rfl) (fun h9 => ?_) (fun h9 => ?_)
      ·
       refine wsr (za0 (.bool false) r (fun R => za8 r rfl) rfl fun fr r => wn (wp_ret ?_))
       have hd : D.zar a0 = false := (zak h4).trans ((zak h5).trans ((zak h6).trans ((zak h7).trans ((zak h8).trans ((zap h9).trans (rfl))))))
       refine zay r rfl rfl ?_
       rw [hd]
       exact ⟨rfl, hB⟩
      ·
       refine wp_skip (wsr (za0 _ r (fun R => za4 r (o := 0) rfl zk3) rfl fun fr r => za0 (I a0.buckets) r (fun R => za3 r rfl h_b1 to3 rfl) rfl fun fr r => za0 _ r (fun R => zni r rfl rfl rfl rfl) rfl fun fr r => za0 (.bool (decide (a0.buckets ≥ 1))) r (fun R => zaa r rfl) rfl fun fr r => ?_))
       refine zaI (decide (a0.buckets ≥ 1)) (fun h10 => ?_) (fun h10 => ?_)
       ·
        refine s1 r h10 (za0 _ r (fun R => za4 r (o := 0) rfl zk3) rfl fun fr r => s1 r h10 (za0 (I a0.buckets) r (fun R => za3 r rfl h_b1 to3 rfl) rfl fun fr r => s1 r h10 (za0 _ r (fun R => zni r rfl rfl rfl rfl) rfl fun fr r => za0 (.bool (decide (a0.buckets ≤ 256))) r (fun R => zaq r (b := true) (congrArg Value.bool h10) rfl) rfl fun fr r => za0 (.bool (decide (a0.buckets ≤ 256))) r (fun R => zaa r rfl) rfl fun fr r => ?_)))
        refine zaI (decide (a0.buckets ≤ 256)) (fun h11 => ?_) (fun h11 => ?_)
        ·
         refine s1 r h11 (za0 _ r (fun R => za4 r (o := 0) rfl zl0) rfl fun fr r => s1 r h11 (za0 (I a0.gen) r (fun R => za3 r rfl h_b1 to3 rfl) rfl fun fr r => s1 r h11 (za0 _ r (fun R => zni r rfl rfl rfl rfl) rfl fun fr r => za0 (.bool (decide (a0.gen ≥ 1))) r (fun R => zaq r (b := true) (congrArg Value.bool h11) rfl) rfl fun fr r => za0 (.bool (decide (a0.gen ≥ 1))) r (fun R => zaa r rfl) rfl fun fr r => ?_)))
         refine zaI (decide (a0.gen ≥ 1)) (fun h12 => ?_) (fun h12 => ?_)
         ·
          refine s1 r h12 (za0 _ r (fun R => za4 r (o := 0) rfl zl0) rfl fun fr r => s1 r h12 (za0 (I a0.gen) r (fun R => za3 r rfl h_b1 to3 rfl) rfl fun fr r => s1 r h12 (za0 _ r (fun R => zni r rfl rfl rfl rfl) rfl fun fr r => za0 (.bool (decide (a0.gen ≤ 1073741823))) r (fun R => zaq r (b := true) (congrArg Value.bool h12) rfl) rfl fun fr r => za0 (.bool (decide (a0.gen ≤ 1073741823))) r (fun R => zaa r rfl) rfl fun fr r => ?_)))
          refine zaI (decide (a0.gen ≤ 1073741823)) (fun h13 => ?_) (fun h13 => ?_)
          ·
           refine s1 r h13 (za0 _ r (fun R => za4 r (o := 0) rfl zgK) rfl fun fr r => s1 r h13 (za0 (I a0.retire) r (fun R => za3 r rfl h_b1 to3 rfl) rfl fun fr r => s1 r h13 (za0 _ r (fun R => za4 r (o := 0) rfl zgH) rfl fun fr r => s1 r h13 (za0 (I a0.threads) r (fun R => za3 r rfl h_b1 to3 rfl) rfl fun fr r => s1 r h13 (za0 _ r (fun R => zni r rfl rfl rfl rfl) rfl fun fr r => s1 r h13 (za0 _ r (fun R => zni r rfl rfl rfl rfl) rfl fun fr r => za0 (.bool (decide (a0.retire > (W (3 * a0.threads))))) r (fun R => zaq r (b := true) (congrArg Value.bool h13) rfl) rfl fun fr r => za0 (.bool (decide (a0.retire > (W (3 * a0.threads))))) r (fun R => zaa r rfl) rfl fun fr r => ?_))))))
           refine zaI (decide (a0.retire > (W (3 * a0.threads)))) (fun h14 => ?_) (fun h14 => ?_)
           ·
            refine s1 r h14 (za0 _ r (fun R => za4 r (o := 0) rfl zgK) rfl fun fr r => s1 r h14 (za0 (I a0.retire) r (fun R => za3 r rfl h_b1 to3 rfl) rfl fun fr r => s1 r h14 (za0 _ r (fun R => zni r rfl rfl rfl rfl) rfl fun fr r => za0 (.bool (decide (a0.retire ≤ 1024))) r (fun R => zaq r (b := true) (congrArg Value.bool h14) rfl) rfl fun fr r => za0 (.bool (decide (a0.retire ≤ 1024))) r (fun R => za8 r rfl) rfl fun fr r => wn (wp_ret ?_))))
            have hd : D.zar a0 = (decide (a0.retire ≤ 1024)) := (zak h4).trans ((zak h5).trans ((zak h6).trans ((zak h7).trans ((zak h8).trans ((zak h9).trans ((zap h10).trans ((zap h11).trans ((zap h12).trans ((zap h13).trans ((zap h14).trans (rfl)))))))))))
            refine zay r rfl rfl ?_
            rw [hd]
            exact ⟨rfl, hB⟩
           ·
            refine s0 r h14 fun fr r => s0 r h14 fun fr r => s0 r h14 fun fr r => za0 (.bool false) r (fun R => zaq r (b := false) (congrArg Value.bool h14) rfl) rfl fun fr r => za0 (.bool false) r (fun R => za8 r rfl) rfl fun fr r => wn (wp_ret ?_)
            have hd : D.zar a0 = false := (zak h4).trans ((zak h5).trans ((zak h6).trans ((zak h7).trans ((zak h8).trans ((zak h9).trans ((zap h10).trans ((zap h11).trans ((zap h12).trans ((zap h13).trans ((zak h14).trans (rfl)))))))))))
            refine zay r rfl rfl ?_
            rw [hd]
            exact ⟨rfl, hB⟩
          ·
           refine s0 r h13 fun fr r => s0 r h13 fun fr r => s0 r h13 fun fr r => s0 r h13 fun fr r => s0 r h13 fun fr r => s0 r h13 fun fr r => za0 (.bool false) r (fun R => zaq r (b := false) (congrArg Value.bool h13) rfl) rfl fun fr r => za0 (.bool false) r (fun R => zaa r rfl) rfl fun fr r => s0 r (rfl : false = _) fun fr r => s0 r (rfl : false = _) fun fr r => s0 r (rfl : false = _) fun fr r => za0 (.bool false) r (fun R => zaq r (b := false) (congrArg Value.bool (rfl : false = _)) rfl) rfl fun fr r => za0 (.bool false) r (fun R => za8 r rfl) rfl fun fr r => wn (wp_ret ?_)
           have hd : D.zar a0 = false := (zak h4).trans ((zak h5).trans ((zak h6).trans ((zak h7).trans ((zak h8).trans ((zak h9).trans ((zap h10).trans ((zap h11).trans ((zap h12).trans ((zak h13).trans (rfl))))))))))
           refine zay r rfl rfl ?_
           rw [hd]
           exact ⟨rfl, hB⟩
         ·
          refine s0 r h12 fun fr r => s0 r h12 fun fr r => s0 r h12 fun fr r => za0 (.bool false) r (fun R => zaq r (b := false) (congrArg Value.bool h12) rfl) rfl fun fr r => za0 (.bool false) r (fun R => zaa r rfl) rfl fun fr r => s0 r (rfl : false = _) fun fr r => s0 r (rfl : false = _) fun fr r => s0 r (rfl : false = _) fun fr r => s0 r (rfl : false = _) fun fr r => s0 r (rfl : false = _) fun fr r => s0 r (rfl : false = _) fun fr r => za0 (.bool false) r (fun R => zaq r (b := false) (congrArg Value.bool (rfl : false = _)) rfl) rfl fun fr r => za0 (.bool false) r (fun R => zaa r rfl) rfl fun fr r => s0 r (rfl : false = _) fun fr r => s0 r (rfl : false = _) fun fr r => s0 r (rfl : false = _) fun fr r => za0 (.bool false) r (fun R => zaq r (b := false) (congrArg Value.bool (rfl : false = _)) rfl) rfl fun fr r => za0 (.bool false) r (fun R => za8 r rfl) rfl fun fr r => wn (wp_ret ?_)
          have hd : D.zar a0 = false := (zak h4).trans ((zak h5).trans ((zak h6).trans ((zak h7).trans ((zak h8).trans ((zak h9).trans ((zap h10).trans ((zap h11).trans ((zak h12).trans (rfl)))))))))
          refine zay r rfl rfl ?_
          rw [hd]
          exact ⟨rfl, hB⟩
        ·
         refine s0 r h11 fun fr r => s0 r h11 fun fr r => s0 r h11 fun fr r => za0 (.bool false) r (fun R => zaq r (b := false) (congrArg Value.bool h11) rfl) rfl fun fr r => za0 (.bool false) r (fun R => zaa r rfl) rfl fun fr r => s0 r (rfl : false = _) fun fr r => s0 r (rfl : false = _) fun fr r => s0 r (rfl : false = _) fun fr r => za0 (.bool false) r (fun R => zaq r (b := false) (congrArg Value.bool (rfl : false = _)) rfl) rfl fun fr r => za0 (.bool false) r (fun R => zaa r rfl) rfl fun fr r => s0 r (rfl : false = _) fun fr r => s0 r (rfl : false = _) fun fr r => s0 r (rfl : false = _) fun fr r => s0 r (rfl : false = _) fun fr r => s0 r (rfl : false = _) fun fr r => s0 r (rfl : false = _) fun fr r => za0 (.bool false) r (fun R => zaq r (b := false) (congrArg Value.bool (rfl : false = _)) rfl) rfl fun fr r => za0 (.bool false) r (fun R => zaa r rfl) rfl fun fr r => s0 r (rfl : false = _) fun fr r => s0 r (rfl : false = _) fun fr r => s0 r (rfl : false = _) fun fr r => za0 (.bool false) r (fun R => zaq r (b := false) (congrArg Value.bool (rfl : false = _)) rfl) rfl fun fr r => za0 (.bool false) r (fun R => za8 r rfl) rfl fun fr r => wn (wp_ret ?_)
         have hd : D.zar a0 = false := (zak h4).trans ((zak h5).trans ((zak h6).trans ((zak h7).trans ((zak h8).trans ((zak h9).trans ((zap h10).trans ((zak h11).trans (rfl))))))))
         refine zay r rfl rfl ?_
         rw [hd]
         exact ⟨rfl, hB⟩
       ·
        refine s0 r h10 fun fr r => s0 r h10 fun fr r => s0 r h10 fun fr r => za0 (.bool false) r (fun R => zaq r (b := false) (congrArg Value.bool h10) rfl) rfl fun fr r => za0 (.bool false) r (fun R => zaa r rfl) rfl fun fr r => s0 r (rfl : false = _) fun fr r => s0 r (rfl : false = _) fun fr r => s0 r (rfl : false = _) fun fr r => za0 (.bool false) r (fun R => zaq r (b := false) (congrArg Value.bool (rfl : false = _)) rfl) rfl fun fr r => za0 (.bool false) r (fun R => zaa r rfl) rfl fun fr r => s0 r (rfl : false = _) fun fr r => s0 r (rfl : false = _) fun fr r => s0 r (rfl : false = _) fun fr r => za0 (.bool false) r (fun R => zaq r (b := false) (congrArg Value.bool (rfl : false = _)) rfl) rfl fun fr r => za0 (.bool false) r (fun R => zaa r rfl) rfl fun fr r => s0 r (rfl : false = _) fun fr r => s0 r (rfl : false = _) fun fr r => s0 r (rfl : false = _) fun fr r => s0 r (rfl : false = _) fun fr r => s0 r (rfl : false = _) fun fr r => s0 r (rfl : false = _) fun fr r => za0 (.bool false) r (fun R => zaq r (b := false) (congrArg Value.bool (rfl : false = _)) rfl) rfl fun fr r => za0 (.bool false) r (fun R => zaa r rfl) rfl fun fr r => s0 r (rfl : false = _) fun fr r => s0 r (rfl : false = _) fun fr r => s0 r (rfl : false = _) fun fr r => za0 (.bool false) r (fun R => zaq r (b := false) (congrArg Value.bool (rfl : false = _)) rfl) rfl fun fr r => za0 (.bool false) r (fun R => za8 r rfl) rfl fun fr r => wn (wp_ret ?_)
        have hd : D.zar a0 = false := (zak h4).trans ((zak h5).trans ((zak h6).trans ((zak h7).trans ((zak h8).trans ((zak h9).trans ((zak h10).trans (rfl)))))))
        refine zay r rfl rfl ?_
        rw [hd]
        exact ⟨rfl, hB⟩

def D.zb9 (a0 : Plan) : Bool := (bif (!(D.zar a0)) then true else (bif (decide (a0.nodes ≤ 40)) then (bif (decide (a0.retire ≤ 40)) then (bif (decide (a0.domains ≤ 6)) then (decide (a0.buckets ≤ 10)) else false) else false) else false))

theorem zh8 (w0 : World) 
    (a0 : Plan) :
    Calls Tryz.prog 39 #[.agg (znc a0).toArray] w0 (PureRes (.bool (D.zb9 a0)) w0) := by
 refine enter Tryz.func39 rfl 26 rfl rfl fun fr r => ?_
 have hB := Below.refl w0.heap.size w0
 refine wsr ?_
 refine za5 (.cells ((znc a0)).toArray 25 (0, 0)) r (fun R => znm r (v := (.agg (znc a0).toArray)) rfl) rfl fun fr b1 w2 n3 r => ?_
 obtain ⟨e_b1, z_w2, h_b1, hB, zB⟩ := n3.all hB
 refine za0 (.bool false) r (fun R => za8 r rfl) rfl fun fr r => wn (wsr (za0 (.agg (znc a0).toArray) r (fun R => za6 r (cs := (znc a0)) (n := 6) rfl h_b1 ta25 rfl) rfl fun fr r => ?_))
 refine za7 r (zei w2 a0) (fun R hc => zac r rfl cl45 hc) rfl ?_
 rintro _ w4 ⟨rfl, hb⟩
 refine ⟨_, rfl, fun fr r => ?_⟩
 have z_w4 := hb.size
 have h_b1 := keep hb h_b1
 obtain ⟨hB, zB⟩ := bon hb hB
 refine za0 (.bool (!(D.zar a0))) r (fun R => y_un r (u := (.bool (D.zar a0))) rfl rfl) rfl fun fr r => za0 (.bool (!(D.zar a0))) r (fun R => zaa r rfl) rfl fun fr r => ?_
 refine zaI (!(D.zar a0)) (fun h5 => ?_) (fun h5 => ?_)
 ·
  refine s0 r h5 fun fr r => s0 r h5 fun fr r => s0 r h5 fun fr r => s0 r h5 fun fr r => ?_
  refine zcz r rfl rfl rfl (v := undef) rfl (by simp [boolOf, undef]) fun fr r => ?_
  refine zcz r rfl rfl rfl (v := undef) rfl (by simp [boolOf, undef]) fun fr r => ?_
  refine zcz r rfl rfl rfl (v := undef) rfl (by simp [boolOf, undef]) fun fr r => s0 r h5 fun fr r => s0 r h5 fun fr r => ?_
  refine zcz r rfl rfl rfl (v := undef) rfl (by simp [boolOf, undef]) fun fr r => ?_
  refine zcz r rfl rfl rfl (v := undef) rfl (by simp [boolOf, undef]) fun fr r => ?_
  refine zcz r rfl rfl rfl (v := undef) rfl (by simp [boolOf, undef]) fun fr r => s0 r h5 fun fr r => s0 r h5 fun fr r => ?_
  refine zcz r rfl rfl rfl (v := undef) rfl (by simp [boolOf, undef]) fun fr r => ?_
  refine zcz r rfl rfl rfl (v := undef) rfl (by simp [boolOf, undef]) fun fr r => ?_
  refine zcz r rfl rfl rfl (v := undef) rfl (by simp [boolOf, undef]) fun fr r => s0 r h5 fun fr r => za0 (.bool true) r (fun R => zaq r (b := true) (congrArg Value.bool h5) rfl) rfl fun fr r => za0 (.bool true) r (fun R => za8 r rfl) rfl fun fr r => wn (wp_ret ?_)
  have hd : D.zb9 a0 = true := (zap h5).trans (rfl)
  refine zay r rfl rfl ?_
  rw [hd]
  exact ⟨rfl, hB⟩
 ·
  refine s1 r h5 (za0 _ r (fun R => za4 r (o := 0) rfl zfQ) rfl fun fr r => s1 r h5 (za0 (I a0.nodes) r (fun R => za3 r rfl h_b1 to3 rfl) rfl fun fr r => s1 r h5 (za0 _ r (fun R => zni r rfl rfl rfl rfl) rfl fun fr r => s1 r h5 (za0 (.bool (decide (a0.nodes ≤ 40))) r (fun R => zaa r rfl) rfl fun fr r => ?_))))
  refine zaI (decide (a0.nodes ≤ 40)) (fun h6 => ?_) (fun h6 => ?_)
  ·
   refine s1 r h6 (za0 _ r (fun R => za4 r (o := 0) rfl zgK) rfl fun fr r => s1 r h6 (za0 (I a0.retire) r (fun R => za3 r rfl h_b1 to3 rfl) rfl fun fr r => s1 r h6 (za0 _ r (fun R => zni r rfl rfl rfl rfl) rfl fun fr r => s1 r h5 (za0 (.bool (decide (a0.retire ≤ 40))) r (fun R => zaq r (b := true) (congrArg Value.bool h6) rfl) rfl fun fr r => s1 r h5 (za0 (.bool (decide (a0.retire ≤ 40))) r (fun R => zaa r rfl) rfl fun fr r => ?_)))))
   refine zaI (decide (a0.retire ≤ 40)) (fun h7 => ?_) (fun h7 => ?_)
   ·
    refine s1 r h7 (za0 _ r (fun R => za4 r (o := 0) rfl ziH) rfl fun fr r => s1 r h7 (za0 (I a0.domains) r (fun R => za3 r rfl h_b1 to3 rfl) rfl fun fr r => s1 r h7 (za0 _ r (fun R => zni r rfl rfl rfl rfl) rfl fun fr r => s1 r h5 (za0 (.bool (decide (a0.domains ≤ 6))) r (fun R => zaq r (b := true) (congrArg Value.bool h7) rfl) rfl fun fr r => s1 r h5 (za0 (.bool (decide (a0.domains ≤ 6))) r (fun R => zaa r rfl) rfl fun fr r => ?_)))))
    refine zaI (decide (a0.domains ≤ 6)) (fun h8 => ?_) (fun h8 => ?_)
    ·
     refine s1 r h8 (za0 _ r (fun R => za4 r (o := 0) rfl zk3) rfl fun fr r => s1 r h8 (za0 (I a0.buckets) r (fun R => za3 r rfl h_b1 to3 rfl) rfl fun fr r => s1 r h8 (za0 _ r (fun R => zni r rfl rfl rfl rfl) rfl fun fr r => s1 r h5 (za0 (.bool (decide (a0.buckets ≤ 10))) r (fun R => zaq r (b := true) (congrArg Value.bool h8) rfl) rfl fun fr r => za0 (.bool (decide (a0.buckets ≤ 10))) r (fun R => zaq r (b := false) (congrArg Value.bool h5) rfl) rfl fun fr r => za0 (.bool (decide (a0.buckets ≤ 10))) r (fun R => za8 r rfl) rfl fun fr r => wn (wp_ret ?_)))))
     have hd : D.zb9 a0 = (decide (a0.buckets ≤ 10)) := (zak h5).trans ((zap h6).trans ((zap h7).trans ((zap h8).trans (rfl))))
     refine zay r rfl rfl ?_
     rw [hd]
     exact ⟨rfl, hB⟩
    ·
     refine s0 r h8 fun fr r => s0 r h8 fun fr r => s0 r h8 fun fr r => s1 r h5 (za0 (.bool false) r (fun R => zaq r (b := false) (congrArg Value.bool h8) rfl) rfl fun fr r => za0 (.bool false) r (fun R => zaq r (b := false) (congrArg Value.bool h5) rfl) rfl fun fr r => za0 (.bool false) r (fun R => za8 r rfl) rfl fun fr r => wn (wp_ret ?_))
     have hd : D.zb9 a0 = false := (zak h5).trans ((zap h6).trans ((zap h7).trans ((zak h8).trans (rfl))))
     refine zay r rfl rfl ?_
     rw [hd]
     exact ⟨rfl, hB⟩
   ·
    refine s0 r h7 fun fr r => s0 r h7 fun fr r => s0 r h7 fun fr r => s1 r h5 (za0 (.bool false) r (fun R => zaq r (b := false) (congrArg Value.bool h7) rfl) rfl fun fr r => s1 r h5 (za0 (.bool false) r (fun R => zaa r rfl) rfl fun fr r => s0 r (rfl : false = _) fun fr r => s0 r (rfl : false = _) fun fr r => s0 r (rfl : false = _) fun fr r => s1 r h5 (za0 (.bool false) r (fun R => zaq r (b := false) (congrArg Value.bool (rfl : false = _)) rfl) rfl fun fr r => za0 (.bool false) r (fun R => zaq r (b := false) (congrArg Value.bool h5) rfl) rfl fun fr r => za0 (.bool false) r (fun R => za8 r rfl) rfl fun fr r => wn (wp_ret ?_))))
    have hd : D.zb9 a0 = false := (zak h5).trans ((zap h6).trans ((zak h7).trans (rfl)))
    refine zay r rfl rfl ?_
    rw [hd]
    exact ⟨rfl, hB⟩
  ·
   refine s0 r h6 fun fr r => s0 r h6 fun fr r => s0 r h6 fun fr r => s1 r h5 (za0 (.bool false) r (fun R => zaq r (b := false) (congrArg Value.bool h6) rfl) rfl fun fr r => s1 r h5 (za0 (.bool false) r (fun R => zaa r rfl) rfl fun fr r => s0 r (rfl : false = _) fun fr r => s0 r (rfl : false = _) fun fr r => s0 r (rfl : false = _) fun fr r => s1 r h5 (za0 (.bool false) r (fun R => zaq r (b := false) (congrArg Value.bool (rfl : false = _)) rfl) rfl fun fr r => s1 r h5 (za0 (.bool false) r (fun R => zaa r rfl) rfl fun fr r => s0 r (rfl : false = _) fun fr r => s0 r (rfl : false = _) fun fr r => s0 r (rfl : false = _) fun fr r => s1 r h5 (za0 (.bool false) r (fun R => zaq r (b := false) (congrArg Value.bool (rfl : false = _)) rfl) rfl fun fr r => za0 (.bool false) r (fun R => zaq r (b := false) (congrArg Value.bool h5) rfl) rfl fun fr r => za0 (.bool false) r (fun R => za8 r rfl) rfl fun fr r => wn (wp_ret ?_))))))
   have hd : D.zb9 a0 = false := (zak h5).trans ((zak h6).trans (rfl))
   refine zay r rfl rfl ?_
   rw [hd]
   exact ⟨rfl, hB⟩

def D.zbs (a0 : Plan) (a1 : Int) : Bound := (⟨a1, 0, (IntKind.i64.wrap (a0.domains - 1))⟩ : Bound)

theorem zhv (w0 : World) 
    (a0 : Plan) (a1 : Int) :
    Calls Tryz.prog 167 #[.agg (znc a0).toArray, .int .i64 a1] w0 (PureRes (.agg (boundC (D.zbs a0 a1)).toArray) w0) := by
 refine enter Tryz.func167 rfl 10 rfl rfl fun fr r => ?_
 have hB := Below.refl w0.heap.size w0
 refine wsr ?_
 refine za5 (.cells ((znc a0)).toArray 25 (0, 0)) r (fun R => znm r (v := (.agg (znc a0).toArray)) rfl) rfl fun fr b1 w2 n3 r => ?_
 obtain ⟨e_b1, z_w2, h_b1, hB, zB⟩ := n3.all hB
 refine za5 (.cells ((boundC (⟨0, 0, 0⟩ : Bound))).toArray 216 (0, 0)) r (fun R => zag tz216) rfl fun fr b4 w5 n6 r => ?_
 have h_b1 := keep n6.below h_b1
 obtain ⟨e_b4, z_w5, h_b4, hB, zB⟩ := n6.all hB
 refine wn (wsr (za0 (I a1) r (fun R => zaa r rfl) rfl fun fr r => za0 _ r (fun R => za4 r (o := 0) rfl ziH) rfl fun fr r => za0 (I a0.domains) r (fun R => za3 r rfl h_b1 to3 rfl) rfl fun fr r => za0 _ r (fun R => zni r rfl rfl rfl rfl) rfl fun fr r => za0 (.agg (boundC (⟨a1, 0, (W (a0.domains - 1))⟩ : Bound)).toArray) r (fun R => zaM r (by kernel_rfl)) rfl fun fr r => ?_))
 refine zae (.cells ((boundC (⟨a1, 0, (W (a0.domains - 1))⟩ : Bound))).toArray 216 (0, 0)) r (fun R => zaN r (o := 0) (v := (.agg (boundC (⟨a1, 0, (W (a0.domains - 1))⟩ : Bound)).toArray)) rfl rfl h_b4 ts216 (Nat.le_of_ble_eq_true rfl) rfl rfl) rfl fun fr w7 u8 r => ?_
 have z_w7 := u8.size
 have h_b1 := u8.keep h_b1 (by omega)
 have h_b4 := u8.at_
 obtain ⟨hB, zB⟩ := u8.on hB (by omega)
 refine wn (wp_ret ?_)
 refine zad r rfl rfl h_b4 (k := 3) rfl ta216 ?_
 exact ⟨rfl, hB⟩

def D.zb1 (a0 : Plan) (a1 : Int) (a2 : Int) : Int := (D.zas a0 (IntKind.i64.wrap ((IntKind.i64.wrap (2 + (IntKind.i64.wrap (a1 * (IntKind.i64.wrap (1 + (D.zal a0))))))) + a2)) ([(D.zbs a0 a1), (⟨a2, 0, (IntKind.i64.wrap ((D.zal a0) - 1))⟩ : Bound)]))

theorem zep (w0 : World) 
    (a0 : Plan) (a1 : Int) (a2 : Int) :
    Calls Tryz.prog 72 #[.agg (znc a0).toArray, .int .i64 a1, .int .i64 a2] w0 (PureRes (.int .i64 (D.zb1 a0 a1 a2)) w0) := by
 refine enter Tryz.func72 rfl 26 rfl rfl fun fr r => ?_
 have hB := Below.refl w0.heap.size w0
 refine wsr ?_
 refine za5 (.cells ((znc a0)).toArray 25 (0, 0)) r (fun R => znm r (v := (.agg (znc a0).toArray)) rfl) rfl fun fr b1 w2 n3 r => ?_
 obtain ⟨e_b1, z_w2, h_b1, hB, zB⟩ := n3.all hB
 refine za0 (I 0) r (fun R => za8 r rfl) rfl fun fr r => wn (wp_seq ?_)
 refine zaG 19 [.val (.agg (znc a0).toArray), .val (I a1), .val (.agg (znc a0).toArray), .val (I (D.zal a0)), .val (I (W (1 + (D.zal a0)))), .val (I (W (a1 * (W (1 + (D.zal a0)))))), .val (I (W (2 + (W (a1 * (W (1 + (D.zal a0)))))))), .val (I a2), .val (I (W ((W (2 + (W (a1 * (W (1 + (D.zal a0))))))) + a2))), .val (.agg (znc a0).toArray), .val (I a1), .val (.agg (boundC (D.zbs a0 a1)).toArray), .val (I a2), .val (.agg (znc a0).toArray), .val (I (D.zal a0)), .val (I (W ((D.zal a0) - 1))), .val (.agg (boundC (⟨a2, 0, (W ((D.zal a0) - 1))⟩ : Bound)).toArray), .slice w2.heap.size (.cells ((boundsC [(D.zbs a0 a1), (⟨a2, 0, (W ((D.zal a0) - 1))⟩ : Bound)])).toArray 216 (0, 0)) 2, .val (I (D.zas a0 (W ((W (2 + (W (a1 * (W (1 + (D.zal a0))))))) + a2)) ([(D.zbs a0 a1), (⟨a2, 0, (W ((D.zal a0) - 1))⟩ : Bound)])))] mixed r (by kernel_rfl) (za1 (by exact trivial) (za1 (by exact trivial) (za1 (by exact trivial) (za1 (by exact trivial) (za1 (by exact trivial) (za1 (by exact trivial) (za1 (by exact trivial) (za1 (by exact trivial) (za1 (by exact trivial) (za1 (by exact trivial) (za1 (by exact trivial) (za1 (by exact trivial) (za1 (by exact trivial) (za1 (by exact trivial) (za1 (by exact trivial) (za1 (by exact trivial) (za1 (by exact trivial) (za1 (Nat.le_refl _) (za1 (by exact trivial) zaz))))))))))))))))))) ?_ ?_
 ·
  refine ec r (fun _ u _ b d s => za6 s (cs := (znc a0)) (n := 6) rfl (keep b h_b1) ta25 rfl bz) (ec r (fun _ u _ b d s => zaa s rfl bz) (ec r (fun _ u _ b d s => za6 s (cs := (znc a0)) (n := 6) rfl (keep b h_b1) ta25 rfl bz) (ec r (fun fr1 u w' hb' hd r' => zac r' (args := [(.agg (znc a0).toArray)]) (lc hd.1 l0) cl166 ((ze7 _ a0).mono (by rintro _ w2 ⟨rfl, hb2⟩; exact ⟨_, rfl, hb2, rfl⟩))) (ec r (fun _ u _ b d s => zni s rfl d.1 rfl rfl bz) (ec r (fun _ u _ b d s => zni s d.1 d.2.1 rfl rfl bz) (ec r (fun _ u _ b d s => zni s rfl d.1 rfl rfl bz) (ec r (fun _ u _ b d s => zaa s rfl bz) (ec r (fun _ u _ b d s => zni s d.1 d.2.1 rfl rfl bz) (ec r (fun _ u _ b d s => za6 s (cs := (znc a0)) (n := 6) rfl (keep b h_b1) ta25 rfl bz) (ec r (fun _ u _ b d s => zaa s rfl bz) (ec r (fun fr1 u w' hb' hd r' => zac r' (args := [(.agg (znc a0).toArray), (I a1)]) (lc hd.1 (lc hd.2.1 l0)) cl167 ((zhv _ a0 a1).mono (by rintro _ w2 ⟨rfl, hb2⟩; exact ⟨_, rfl, hb2, rfl⟩))) (ec r (fun _ u _ b d s => zaa s rfl bz) (ec r (fun _ u _ b d s => za6 s (cs := (znc a0)) (n := 6) rfl (keep b h_b1) ta25 rfl bz) (ec r (fun fr1 u w' hb' hd r' => zac r' (args := [(.agg (znc a0).toArray)]) (lc hd.1 l0) cl166 ((ze7 _ a0).mono (by rintro _ w2 ⟨rfl, hb2⟩; exact ⟨_, rfl, hb2, rfl⟩))) (ec r (fun _ u _ b d s => zni s d.1 rfl rfl rfl bz) (ec r (fun fr1 u w' hb' hd r' => zaM r' (v := (.agg (boundC (⟨a2, 0, (W ((D.zal a0) - 1))⟩ : Bound)).toArray)) (bs3 (congrArg (fun z => (0, z)) hd.1) (rfl) (congrArg (fun z => (2, z)) hd.2.1) (by kernel_rfl)) bz) (ec r (fun fr1 u w' hb' hd r' => zcS r' (c := ((boundsC [(D.zbs a0 a1), (⟨a2, 0, (W ((D.zal a0) - 1))⟩ : Bound)])).toArray) (E := 216) (bs2 (congrArg (fun z => (0, z)) hd.1) (congrArg (fun z => (1, z)) hd.2.1) (by kernel_rfl)) (fun b w2 n2 => ⟨n2.below, b, rfl, Nat.le_of_eq n2.eq.symm, n2.at_⟩)) ?_)))))))))))))))))
  refine zb8 r rfl (fun fr1 u w' hb' hd r' => ?_) ?_
  · obtain ⟨d0, d1, d2, d3, _⟩ := hd; obtain ⟨q2, hq2, _, hr2⟩ := d2; exact zac r' (args := [(.agg (znc a0).toArray), (I (W ((W (2 + (W (a1 * (W (1 + (D.zal a0))))))) + a2))), (.slice (some ⟨q2, 0, none⟩) 2 2)]) (lc d0 (lc d1 (lc hq2 l0))) cl142 ((zbL _ a0 (W ((W (2 + (W (a1 * (W (1 + (D.zal a0))))))) + a2)) ([(D.zbs a0 a1), (⟨a2, 0, (W ((D.zal a0) - 1))⟩ : Bound)]) hr2 (by first | assumption | decide | (simp; done))).mono (by rintro _ w2 ⟨rfl, hb2⟩; exact ⟨_, rfl, hb2, rfl⟩))
  exact zaR
 ·
  intro fr u w4 hb hΦ hne r
  obtain ⟨b5, g17, e_b5, h_b5⟩ := hΦ 17 (by decide)
  have l_b5 := lt_of_block h_b5
  have r := r.congr (sc (hΦ 18 (by decide)) (sc g17 (sc (hΦ 16 (by decide)) (sc (hΦ 15 (by decide)) (sc (hΦ 14 (by decide)) (sc (hΦ 13 (by decide)) (sc (hΦ 12 (by decide)) (sc (hΦ 11 (by decide)) (sc (hΦ 10 (by decide)) (sc (hΦ 9 (by decide)) (sc (hΦ 8 (by decide)) (sc (hΦ 7 (by decide)) (sc (hΦ 6 (by decide)) (sc (hΦ 5 (by decide)) (sc (hΦ 4 (by decide)) (sc (hΦ 3 (by decide)) (sc (hΦ 2 (by decide)) (sc (hΦ 1 (by decide)) (sc (hΦ 0 (by decide)) rfl)))))))))))))))))))
  have z_w4 := hb.size
  have h_b1 := keep hb h_b1
  obtain ⟨hB, zB⟩ := bon hb hB
  refine za0 (I (D.zas a0 (W ((W (2 + (W (a1 * (W (1 + (D.zal a0))))))) + a2)) ([(D.zbs a0 a1), (⟨a2, 0, (W ((D.zal a0) - 1))⟩ : Bound)]))) r (fun R => za8 r rfl) rfl fun fr r => wn (wp_ret ?_)
  refine zay r rfl rfl ?_
  exact ⟨rfl, hB⟩

end Go.Proofs.YtjkinpbfmihhdaaGreat

/- Written by a program of ours (wip/gen.py): fields: their form -/
set_option linter.unusedVariables false
set_option maxRecDepth 20000
set_option maxHeartbeats 2000000
namespace Go.Proofs.YtjkinpbfmihhdaaGreat
open Go.RowKit
theorem zhC : zno Tryz.prog 223 0 0 = true := by kernel_rfl

theorem zjy : zno Tryz.prog 223 1 1 = true := by kernel_rfl

def D.zai (a0 : Field) : Bool := (bif (decide (a0.at_ ≥ 0)) then (bif (decide (a0.at_ < 64)) then (bif (decide (a0.bits ≥ 1)) then (decide (a0.bits ≤ (IntKind.i64.wrap (64 - a0.at_)))) else false) else false) else false)

theorem zc3 (w0 : World) 
    (a0 : Field) :
    Calls Tryz.prog 262 #[.agg (znh a0).toArray] w0 (PureRes (.bool (D.zai a0)) w0) := by
 refine enter Tryz.func262 rfl 24 rfl rfl fun fr r => ?_
 have hB := Below.refl w0.heap.size w0
 refine wsr ?_
 refine za5 (.cells ((znh a0)).toArray 223 (0, 0)) r (fun R => znm r (v := (.agg (znh a0).toArray)) rfl) rfl fun fr b1 w2 n3 r => ?_
 obtain ⟨e_b1, z_w2, h_b1, hB, zB⟩ := n3.all hB
 refine za0 (.bool false) r (fun R => za8 r rfl) rfl fun fr r => wn (wsr (za0 _ r (fun R => za4 r (o := 0) rfl zhC) rfl fun fr r => za0 (I a0.at_) r (fun R => za3 r rfl h_b1 to3 rfl) rfl fun fr r => za0 _ r (fun R => zni r rfl rfl rfl rfl) rfl fun fr r => za0 (.bool (decide (a0.at_ ≥ 0))) r (fun R => zaa r rfl) rfl fun fr r => ?_))
 refine zaI (decide (a0.at_ ≥ 0)) (fun h4 => ?_) (fun h4 => ?_)
 ·
  refine s1 r h4 (za0 _ r (fun R => za4 r (o := 0) rfl zhC) rfl fun fr r => s1 r h4 (za0 (I a0.at_) r (fun R => za3 r rfl h_b1 to3 rfl) rfl fun fr r => s1 r h4 (za0 _ r (fun R => zni r rfl rfl rfl rfl) rfl fun fr r => za0 (.bool (decide (a0.at_ < 64))) r (fun R => zaq r (b := true) (congrArg Value.bool h4) rfl) rfl fun fr r => za0 (.bool (decide (a0.at_ < 64))) r (fun R => zaa r rfl) rfl fun fr r => ?_)))
  refine zaI (decide (a0.at_ < 64)) (fun h5 => ?_) (fun h5 => ?_)
  ·
   refine s1 r h5 (za0 _ r (fun R => za4 r (o := 0) rfl zjy) rfl fun fr r => s1 r h5 (za0 (I a0.bits) r (fun R => za3 r rfl h_b1 to3 rfl) rfl fun fr r => s1 r h5 (za0 _ r (fun R => zni r rfl rfl rfl rfl) rfl fun fr r => za0 (.bool (decide (a0.bits ≥ 1))) r (fun R => zaq r (b := true) (congrArg Value.bool h5) rfl) rfl fun fr r => za0 (.bool (decide (a0.bits ≥ 1))) r (fun R => zaa r rfl) rfl fun fr r => ?_)))
   refine zaI (decide (a0.bits ≥ 1)) (fun h6 => ?_) (fun h6 => ?_)
   ·
    refine s1 r h6 (za0 _ r (fun R => za4 r (o := 0) rfl zjy) rfl fun fr r => s1 r h6 (za0 (I a0.bits) r (fun R => za3 r rfl h_b1 to3 rfl) rfl fun fr r => s1 r h6 (za0 _ r (fun R => za4 r (o := 0) rfl zhC) rfl fun fr r => s1 r h6 (za0 (I a0.at_) r (fun R => za3 r rfl h_b1 to3 rfl) rfl fun fr r => s1 r h6 (za0 _ r (fun R => zni r rfl rfl rfl rfl) rfl fun fr r => s1 r h6 (za0 _ r (fun R => zni r rfl rfl rfl rfl) rfl fun fr r => za0 (.bool (decide (a0.bits ≤ (W (64 - a0.at_))))) r (fun R => zaq r (b := true) (congrArg Value.bool h6) rfl) rfl fun fr r => za0 (.bool (decide (a0.bits ≤ (W (64 - a0.at_))))) r (fun R => za8 r rfl) rfl fun fr r => wn (wp_ret ?_)))))))
    have hd : D.zai a0 = (decide (a0.bits ≤ (W (64 - a0.at_)))) := (zap h4).trans ((zap h5).trans ((zap h6).trans (rfl)))
    refine zay r rfl rfl ?_
    rw [hd]
    exact ⟨rfl, hB⟩
   ·
    refine s0 r h6 fun fr r => s0 r h6 fun fr r => s0 r h6 fun fr r => s0 r h6 fun fr r => s0 r h6 fun fr r => s0 r h6 fun fr r => za0 (.bool false) r (fun R => zaq r (b := false) (congrArg Value.bool h6) rfl) rfl fun fr r => za0 (.bool false) r (fun R => za8 r rfl) rfl fun fr r => wn (wp_ret ?_)
    have hd : D.zai a0 = false := (zap h4).trans ((zap h5).trans ((zak h6).trans (rfl)))
    refine zay r rfl rfl ?_
    rw [hd]
    exact ⟨rfl, hB⟩
  ·
   refine s0 r h5 fun fr r => s0 r h5 fun fr r => s0 r h5 fun fr r => za0 (.bool false) r (fun R => zaq r (b := false) (congrArg Value.bool h5) rfl) rfl fun fr r => za0 (.bool false) r (fun R => zaa r rfl) rfl fun fr r => s0 r (rfl : false = _) fun fr r => s0 r (rfl : false = _) fun fr r => s0 r (rfl : false = _) fun fr r => s0 r (rfl : false = _) fun fr r => s0 r (rfl : false = _) fun fr r => s0 r (rfl : false = _) fun fr r => za0 (.bool false) r (fun R => zaq r (b := false) (congrArg Value.bool (rfl : false = _)) rfl) rfl fun fr r => za0 (.bool false) r (fun R => za8 r rfl) rfl fun fr r => wn (wp_ret ?_)
   have hd : D.zai a0 = false := (zap h4).trans ((zak h5).trans (rfl))
   refine zay r rfl rfl ?_
   rw [hd]
   exact ⟨rfl, hB⟩
 ·
  refine s0 r h4 fun fr r => s0 r h4 fun fr r => s0 r h4 fun fr r => za0 (.bool false) r (fun R => zaq r (b := false) (congrArg Value.bool h4) rfl) rfl fun fr r => za0 (.bool false) r (fun R => zaa r rfl) rfl fun fr r => s0 r (rfl : false = _) fun fr r => s0 r (rfl : false = _) fun fr r => s0 r (rfl : false = _) fun fr r => za0 (.bool false) r (fun R => zaq r (b := false) (congrArg Value.bool (rfl : false = _)) rfl) rfl fun fr r => za0 (.bool false) r (fun R => zaa r rfl) rfl fun fr r => s0 r (rfl : false = _) fun fr r => s0 r (rfl : false = _) fun fr r => s0 r (rfl : false = _) fun fr r => s0 r (rfl : false = _) fun fr r => s0 r (rfl : false = _) fun fr r => s0 r (rfl : false = _) fun fr r => za0 (.bool false) r (fun R => zaq r (b := false) (congrArg Value.bool (rfl : false = _)) rfl) rfl fun fr r => za0 (.bool false) r (fun R => za8 r rfl) rfl fun fr r => wn (wp_ret ?_)
  have hd : D.zai a0 = false := (zak h4).trans (rfl)
  refine zay r rfl rfl ?_
  rw [hd]
  exact ⟨rfl, hB⟩

end Go.Proofs.YtjkinpbfmihhdaaGreat

/- A formed field's numbers. -/
namespace Go.Proofs.YtjkinpbfmihhdaaGreat
theorem zf3 {f : Field} (h : D.zai f = true) : 0 ≤ f.at_ ∧ f.at_ < 64 ∧ 1 ≤ f.bits ∧ f.bits ≤ 64 - f.at_ := by
  unfold D.zai at h
  have hw : ∀ x : Int, 0 ≤ x → x < 64 → IntKind.i64.wrap (64 - x) = 64 - x := by
    intro x h0 h1
    simp only [IntKind.wrap]
    simp [IntKind.signed, IntKind.bits]
    omega
  cases h1 : decide (f.at_ ≥ 0) <;> rw [h1] at h
  · cases h
  cases h2 : decide (f.at_ < 64) <;> rw [h2] at h
  · cases h
  cases h3 : decide (f.bits ≥ 1) <;> rw [h3] at h
  · cases h
  simp only [decide_eq_true_eq] at h1 h2 h3
  simp only [cond_true, decide_eq_true_eq] at h
  rw [hw _ h1 h2] at h
  omega

end Go.Proofs.YtjkinpbfmihhdaaGreat

/- Written by a program of ours (wip/gen.py): fields -/
set_option linter.unusedVariables false
set_option maxRecDepth 20000
set_option maxHeartbeats 2000000
namespace Go.Proofs.YtjkinpbfmihhdaaGreat
open Go.RowKit
theorem cl260 : znb Tryz.prog 260 = true := by kernel_rfl

theorem cl262 : znb Tryz.prog 262 = true := by kernel_rfl

theorem cl263 : znb Tryz.prog 263 = true := by kernel_rfl

theorem ta223 : tyA Tryz.prog 223 2 = true := by kernel_rfl

def D.zam (a0 : Field) : Int := (bif (!(D.zai a0)) then 0 else (bif (a0.bits == 64) then 18446744073709551615 else (IntKind.u64.wrap ((shlI .u64 1 a0.bits) - 1))))

theorem zcQ (w0 : World) 
    (a0 : Field) :
    Calls Tryz.prog 263 #[.agg (znh a0).toArray] w0 (PureRes (.int .u64 (D.zam a0)) w0) := by
 refine enter Tryz.func263 rfl 15 rfl rfl fun fr r => ?_
 have hB := Below.refl w0.heap.size w0
 refine wsr ?_
 refine za5 (.cells ((znh a0)).toArray 223 (0, 0)) r (fun R => znm r (v := (.agg (znh a0).toArray)) rfl) rfl fun fr b1 w2 n3 r => ?_
 obtain ⟨e_b1, z_w2, h_b1, hB, zB⟩ := n3.all hB
 refine za0 (U 0) r (fun R => za8 r rfl) rfl fun fr r => wn (wp_seq (wp_block (wsr (za0 (.agg (znh a0).toArray) r (fun R => za6 r (cs := (znh a0)) (n := 2) rfl h_b1 ta223 rfl) rfl fun fr r => ?_))))
 refine za7 r (zc3 w2 a0) (fun R hc => zac r rfl cl262 hc) rfl ?_
 rintro _ w4 ⟨rfl, hb⟩
 refine ⟨_, rfl, fun fr r => ?_⟩
 have z_w4 := hb.size
 have h_b1 := keep hb h_b1
 obtain ⟨hB, zB⟩ := bon hb hB
 refine za0 (.bool (!(D.zai a0))) r (fun R => y_un r (u := (.bool (D.zai a0))) rfl rfl) rfl fun fr r => za0 (.bool (!(D.zai a0))) r (fun R => za8 r rfl) rfl fun fr r => wn ?_
 refine wp_cond_split (t := (!(D.zai a0))) (r.ev rfl) (fun h5 => ?_) (fun h5 => ?_)
 ·
  refine wsr (za0 (U 0) r (fun R => za8 r rfl) rfl fun fr r => wn (wp_ret ?_))
  have hd : D.zam a0 = 0 := (zap h5).trans (rfl)
  refine zay r rfl rfl ?_
  rw [hd]
  exact ⟨rfl, hB⟩
 ·
  refine wsr (za0 _ r (fun R => za4 r (o := 0) rfl zjy) rfl fun fr r => za0 (I a0.bits) r (fun R => za3 r rfl h_b1 to3 rfl) rfl fun fr r => za0 _ r (fun R => zni r rfl rfl rfl rfl) rfl fun fr r => za0 (.bool (a0.bits == 64)) r (fun R => za8 r rfl) rfl fun fr r => wn ?_)
  refine wp_cond_split (t := (a0.bits == 64)) (r.ev rfl) (fun h6 => ?_) (fun h6 => ?_)
  ·
   refine wsr (za0 (U 18446744073709551615) r (fun R => za8 r rfl) rfl fun fr r => wn (wp_ret ?_))
   have hd : D.zam a0 = 18446744073709551615 := (zak h5).trans ((zap h6).trans (rfl))
   refine zay r rfl rfl ?_
   rw [hd]
   exact ⟨rfl, hB⟩
  ·
   refine wp_skip (wsr (za0 _ r (fun R => za4 r (o := 0) rfl zjy) rfl fun fr r => za0 (I a0.bits) r (fun R => za3 r rfl h_b1 to3 rfl) rfl fun fr r => za0 _ r (fun R => zni r rfl rfl rfl (zkD (by first | assumption | decide | (have hq := zf3 (by simpa using ‹(!D.zai _) = false›); omega)))) rfl fun fr r => za0 _ r (fun R => zni r rfl rfl rfl rfl) rfl fun fr r => za0 (U (V ((shlI .u64 1 a0.bits) - 1))) r (fun R => za8 r rfl) rfl fun fr r => wn (wp_ret ?_)))
   have hd : D.zam a0 = (V ((shlI .u64 1 a0.bits) - 1)) := (zak h5).trans ((zak h6).trans (rfl))
   refine zay r rfl rfl ?_
   rw [hd]
   exact ⟨rfl, hB⟩

def D.zah (a0 : Field) (a1 : Int) : Int := (bif (!(D.zai a0)) then 0 else (zc0 .u64 (shrI .u64 a1 a0.at_) (D.zam a0)))

theorem zdc (w0 : World) 
    (a0 : Field) (a1 : Int) :
    Calls Tryz.prog 161 #[.agg (znh a0).toArray, .int .u64 a1] w0 (PureRes (.int .u64 (D.zah a0 a1)) w0) := by
 refine enter Tryz.func161 rfl 15 rfl rfl fun fr r => ?_
 have hB := Below.refl w0.heap.size w0
 refine wsr ?_
 refine za5 (.cells ((znh a0)).toArray 223 (0, 0)) r (fun R => znm r (v := (.agg (znh a0).toArray)) rfl) rfl fun fr b1 w2 n3 r => ?_
 obtain ⟨e_b1, z_w2, h_b1, hB, zB⟩ := n3.all hB
 refine za0 (U 0) r (fun R => za8 r rfl) rfl fun fr r => wn (wp_seq (wsr (za0 (.agg (znh a0).toArray) r (fun R => za6 r (cs := (znh a0)) (n := 2) rfl h_b1 ta223 rfl) rfl fun fr r => ?_)))
 refine za7 r (zc3 w2 a0) (fun R hc => zac r rfl cl262 hc) rfl ?_
 rintro _ w4 ⟨rfl, hb⟩
 refine ⟨_, rfl, fun fr r => ?_⟩
 have z_w4 := hb.size
 have h_b1 := keep hb h_b1
 obtain ⟨hB, zB⟩ := bon hb hB
 refine za0 (.bool (!(D.zai a0))) r (fun R => y_un r (u := (.bool (D.zai a0))) rfl rfl) rfl fun fr r => wn ?_
 refine wp_cond_split (t := (!(D.zai a0))) (r.ev rfl) (fun h5 => ?_) (fun h5 => ?_)
 ·
  refine wsr (za0 (U 0) r (fun R => za8 r rfl) rfl fun fr r => wn (wp_ret ?_))
  have hd : D.zah a0 a1 = 0 := (zap h5).trans (rfl)
  refine zay r rfl rfl ?_
  rw [hd]
  exact ⟨rfl, hB⟩
 ·
  refine wp_skip (wp_seq ?_)
  refine zaG 7 [.val (U a1), .val (.pointer (some ⟨b1, 0, none⟩)), .val (I a0.at_), .val (U (shrI .u64 a1 a0.at_)), .val (.agg (znh a0).toArray), .val (U (D.zam a0)), .val (U (zc0 .u64 (shrI .u64 a1 a0.at_) (D.zam a0)))] mixed r (by kernel_rfl) (za1 (by exact trivial) (za1 (by exact trivial) (za1 (by exact trivial) (za1 (by exact trivial) (za1 (by exact trivial) (za1 (by exact trivial) (za1 (by exact trivial) zaz))))))) ?_ ?_
  ·
   refine ec r (fun _ u _ b d s => zaa s rfl bz) (ec r (fun _ u _ b d s => za4 s (b := b1) (o := 0) rfl zhC bz) (ec r (fun _ u _ b d s => za3 s d.1 (keep b h_b1) to3 rfl bz) (ec r (fun _ u _ b d s => zni s d.1 d.2.1 rfl (zlD (by first | assumption | decide | (have hq := zf3 (by simpa using ‹(!D.zai _) = false›); omega))) bz) (ec r (fun _ u _ b d s => za6 s (cs := (znh a0)) (n := 2) rfl (keep b h_b1) ta223 rfl bz) (ec r (fun fr1 u w' hb' hd r' => zac r' (args := [(.agg (znh a0).toArray)]) (lc hd.1 l0) cl263 ((zcQ _ a0).mono (by rintro _ w2 ⟨rfl, hb2⟩; exact ⟨_, rfl, hb2, rfl⟩))) (ec r (fun _ u _ b d s => zni s d.1 d.2.1 rfl rfl bz) ?_))))))
   exact zaR
  ·
   intro fr u w6 hb hΦ hne r
   have r := r.congr (sc (hΦ 6 (by decide)) (sc (hΦ 5 (by decide)) (sc (hΦ 4 (by decide)) (sc (hΦ 3 (by decide)) (sc (hΦ 2 (by decide)) (sc (hΦ 1 (by decide)) (sc (hΦ 0 (by decide)) rfl)))))))
   have z_w6 := hb.size
   have h_b1 := keep hb h_b1
   obtain ⟨hB, zB⟩ := bon hb hB
   refine za0 (U (zc0 .u64 (shrI .u64 a1 a0.at_) (D.zam a0))) r (fun R => za8 r rfl) rfl fun fr r => wn (wp_ret ?_)
   have hd : D.zah a0 a1 = (zc0 .u64 (shrI .u64 a1 a0.at_) (D.zam a0)) := (zak h5).trans (rfl)
   refine zay r rfl rfl ?_
   rw [hd]
   exact ⟨rfl, hB⟩

def D.zat (a0 : Field) : Int := (bif (!(D.zai a0)) then 0 else (shlI .u64 (D.zam a0) a0.at_))

theorem zcR (w0 : World) 
    (a0 : Field) :
    Calls Tryz.prog 260 #[.agg (znh a0).toArray] w0 (PureRes (.int .u64 (D.zat a0)) w0) := by
 refine enter Tryz.func260 rfl 11 rfl rfl fun fr r => ?_
 have hB := Below.refl w0.heap.size w0
 refine wsr ?_
 refine za5 (.cells ((znh a0)).toArray 223 (0, 0)) r (fun R => znm r (v := (.agg (znh a0).toArray)) rfl) rfl fun fr b1 w2 n3 r => ?_
 obtain ⟨e_b1, z_w2, h_b1, hB, zB⟩ := n3.all hB
 refine za0 (U 0) r (fun R => za8 r rfl) rfl fun fr r => wn (wp_seq (wsr (za0 (.agg (znh a0).toArray) r (fun R => za6 r (cs := (znh a0)) (n := 2) rfl h_b1 ta223 rfl) rfl fun fr r => ?_)))
 refine za7 r (zc3 w2 a0) (fun R hc => zac r rfl cl262 hc) rfl ?_
 rintro _ w4 ⟨rfl, hb⟩
 refine ⟨_, rfl, fun fr r => ?_⟩
 have z_w4 := hb.size
 have h_b1 := keep hb h_b1
 obtain ⟨hB, zB⟩ := bon hb hB
 refine za0 (.bool (!(D.zai a0))) r (fun R => y_un r (u := (.bool (D.zai a0))) rfl rfl) rfl fun fr r => wn ?_
 refine wp_cond_split (t := (!(D.zai a0))) (r.ev rfl) (fun h5 => ?_) (fun h5 => ?_)
 ·
  refine wsr (za0 (U 0) r (fun R => za8 r rfl) rfl fun fr r => wn (wp_ret ?_))
  have hd : D.zat a0 = 0 := (zap h5).trans (rfl)
  refine zay r rfl rfl ?_
  rw [hd]
  exact ⟨rfl, hB⟩
 ·
  refine wp_skip (wp_seq ?_)
  refine zaG 5 [.val (.agg (znh a0).toArray), .val (U (D.zam a0)), .val (.pointer (some ⟨b1, 0, none⟩)), .val (I a0.at_), .val (U (shlI .u64 (D.zam a0) a0.at_))] mixed r (by kernel_rfl) (za1 (by exact trivial) (za1 (by exact trivial) (za1 (by exact trivial) (za1 (by exact trivial) (za1 (by exact trivial) zaz))))) ?_ ?_
  ·
   refine ec r (fun _ u _ b d s => za6 s (cs := (znh a0)) (n := 2) rfl (keep b h_b1) ta223 rfl bz) (ec r (fun fr1 u w' hb' hd r' => zac r' (args := [(.agg (znh a0).toArray)]) (lc hd.1 l0) cl263 ((zcQ _ a0).mono (by rintro _ w2 ⟨rfl, hb2⟩; exact ⟨_, rfl, hb2, rfl⟩))) (ec r (fun _ u _ b d s => za4 s (b := b1) (o := 0) rfl zhC bz) (ec r (fun _ u _ b d s => za3 s d.1 (keep b h_b1) to3 rfl bz) (ec r (fun _ u _ b d s => zni s d.1 d.2.1 rfl (zkD (by first | assumption | decide | (have hq := zf3 (by simpa using ‹(!D.zai _) = false›); omega))) bz) ?_))))
   exact zaR
  ·
   intro fr u w6 hb hΦ hne r
   have r := r.congr (sc (hΦ 4 (by decide)) (sc (hΦ 3 (by decide)) (sc (hΦ 2 (by decide)) (sc (hΦ 1 (by decide)) (sc (hΦ 0 (by decide)) rfl)))))
   have z_w6 := hb.size
   have h_b1 := keep hb h_b1
   obtain ⟨hB, zB⟩ := bon hb hB
   refine za0 (U (shlI .u64 (D.zam a0) a0.at_)) r (fun R => za8 r rfl) rfl fun fr r => wn (wp_ret ?_)
   have hd : D.zat a0 = (shlI .u64 (D.zam a0) a0.at_) := (zak h5).trans (rfl)
   refine zay r rfl rfl ?_
   rw [hd]
   exact ⟨rfl, hB⟩

def D.zaH (a0 : Field) (a1 : Int) (a2 : Int) : Int := (bif (!(D.zai a0)) then a1 else (zeQ .u64 (zb4 .u64 a1 (D.zat a0)) (shlI .u64 (zc0 .u64 a2 (D.zam a0)) a0.at_)))

theorem ze4 (w0 : World) 
    (a0 : Field) (a1 : Int) (a2 : Int) :
    Calls Tryz.prog 296 #[.agg (znh a0).toArray, .int .u64 a1, .int .u64 a2] w0 (PureRes (.int .u64 (D.zaH a0 a1 a2)) w0) := by
 refine enter Tryz.func296 rfl 23 rfl rfl fun fr r => ?_
 have hB := Below.refl w0.heap.size w0
 refine wsr ?_
 refine za5 (.cells ((znh a0)).toArray 223 (0, 0)) r (fun R => znm r (v := (.agg (znh a0).toArray)) rfl) rfl fun fr b1 w2 n3 r => ?_
 obtain ⟨e_b1, z_w2, h_b1, hB, zB⟩ := n3.all hB
 refine za0 (U 0) r (fun R => za8 r rfl) rfl fun fr r => wn (wp_seq (wsr (za0 (.agg (znh a0).toArray) r (fun R => za6 r (cs := (znh a0)) (n := 2) rfl h_b1 ta223 rfl) rfl fun fr r => ?_)))
 refine za7 r (zc3 w2 a0) (fun R hc => zac r rfl cl262 hc) rfl ?_
 rintro _ w4 ⟨rfl, hb⟩
 refine ⟨_, rfl, fun fr r => ?_⟩
 have z_w4 := hb.size
 have h_b1 := keep hb h_b1
 obtain ⟨hB, zB⟩ := bon hb hB
 refine za0 (.bool (!(D.zai a0))) r (fun R => y_un r (u := (.bool (D.zai a0))) rfl rfl) rfl fun fr r => wn ?_
 refine wp_cond_split (t := (!(D.zai a0))) (r.ev rfl) (fun h5 => ?_) (fun h5 => ?_)
 ·
  refine wsr (za0 (U a1) r (fun R => zaa r rfl) rfl fun fr r => za0 (U a1) r (fun R => za8 r rfl) rfl fun fr r => wn (wp_ret ?_))
  have hd : D.zaH a0 a1 a2 = a1 := (zap h5).trans (rfl)
  refine zay r rfl rfl ?_
  rw [hd]
  exact ⟨rfl, hB⟩
 ·
  refine wp_skip (wp_seq ?_)
  refine zaG 12 [.val (U a1), .val (.agg (znh a0).toArray), .val (U (D.zat a0)), .val (U (zb4 .u64 a1 (D.zat a0))), .val (U a2), .val (.agg (znh a0).toArray), .val (U (D.zam a0)), .val (U (zc0 .u64 a2 (D.zam a0))), .val (.pointer (some ⟨b1, 0, none⟩)), .val (I a0.at_), .val (U (shlI .u64 (zc0 .u64 a2 (D.zam a0)) a0.at_)), .val (U (zeQ .u64 (zb4 .u64 a1 (D.zat a0)) (shlI .u64 (zc0 .u64 a2 (D.zam a0)) a0.at_)))] mixed r (by kernel_rfl) (za1 (by exact trivial) (za1 (by exact trivial) (za1 (by exact trivial) (za1 (by exact trivial) (za1 (by exact trivial) (za1 (by exact trivial) (za1 (by exact trivial) (za1 (by exact trivial) (za1 (by exact trivial) (za1 (by exact trivial) (za1 (by exact trivial) (za1 (by exact trivial) zaz)))))))))))) ?_ ?_
  ·
   refine ec r (fun _ u _ b d s => zaa s rfl bz) (ec r (fun _ u _ b d s => za6 s (cs := (znh a0)) (n := 2) rfl (keep b h_b1) ta223 rfl bz) (ec r (fun fr1 u w' hb' hd r' => zac r' (args := [(.agg (znh a0).toArray)]) (lc hd.1 l0) cl260 ((zcR _ a0).mono (by rintro _ w2 ⟨rfl, hb2⟩; exact ⟨_, rfl, hb2, rfl⟩))) (ec r (fun _ u _ b d s => zni s d.1 d.2.1 rfl rfl bz) (ec r (fun _ u _ b d s => zaa s rfl bz) (ec r (fun _ u _ b d s => za6 s (cs := (znh a0)) (n := 2) rfl (keep b h_b1) ta223 rfl bz) (ec r (fun fr1 u w' hb' hd r' => zac r' (args := [(.agg (znh a0).toArray)]) (lc hd.1 l0) cl263 ((zcQ _ a0).mono (by rintro _ w2 ⟨rfl, hb2⟩; exact ⟨_, rfl, hb2, rfl⟩))) (ec r (fun _ u _ b d s => zni s d.1 d.2.1 rfl rfl bz) (ec r (fun _ u _ b d s => za4 s (b := b1) (o := 0) rfl zhC bz) (ec r (fun _ u _ b d s => za3 s d.1 (keep b h_b1) to3 rfl bz) (ec r (fun _ u _ b d s => zni s d.1 d.2.1 rfl (zkD (by first | assumption | decide | (have hq := zf3 (by simpa using ‹(!D.zai _) = false›); omega))) bz) (ec r (fun _ u _ b d s => zni s d.1 d.2.1 rfl rfl bz) ?_)))))))))))
   exact zaR
  ·
   intro fr u w6 hb hΦ hne r
   have r := r.congr (sc (hΦ 11 (by decide)) (sc (hΦ 10 (by decide)) (sc (hΦ 9 (by decide)) (sc (hΦ 8 (by decide)) (sc (hΦ 7 (by decide)) (sc (hΦ 6 (by decide)) (sc (hΦ 5 (by decide)) (sc (hΦ 4 (by decide)) (sc (hΦ 3 (by decide)) (sc (hΦ 2 (by decide)) (sc (hΦ 1 (by decide)) (sc (hΦ 0 (by decide)) rfl))))))))))))
   have z_w6 := hb.size
   have h_b1 := keep hb h_b1
   obtain ⟨hB, zB⟩ := bon hb hB
   refine za0 (U (zeQ .u64 (zb4 .u64 a1 (D.zat a0)) (shlI .u64 (zc0 .u64 a2 (D.zam a0)) a0.at_))) r (fun R => za8 r rfl) rfl fun fr r => wn (wp_ret ?_)
   have hd : D.zaH a0 a1 a2 = (zeQ .u64 (zb4 .u64 a1 (D.zat a0)) (shlI .u64 (zc0 .u64 a2 (D.zam a0)) a0.at_)) := (zak h5).trans (rfl)
   refine zay r rfl rfl ?_
   rw [hd]
   exact ⟨rfl, hB⟩

end Go.Proofs.YtjkinpbfmihhdaaGreat
