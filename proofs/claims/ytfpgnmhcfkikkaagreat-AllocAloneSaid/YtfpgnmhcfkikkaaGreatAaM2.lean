/- Some of our texts, one behind the other. -/
import Derived.Test.YtfpgnmhcfkikkaaGreatAaM1
import Derived.Test.YtfpgnmhcfkikkaaGreatRows
set_option linter.all false
/- Ours. -/
set_option maxRecDepth 20000
set_option maxHeartbeats 2000000
namespace Go.Proofs.YtfpgnmhcfkikkaaGreat
open Go.RowKit
theorem zmV : zlp Tryz.prog 103 = true := by kernel_rfl
theorem zlZ : zlp Tryz.prog 120 = true := by kernel_rfl
theorem zmt : zlp Tryz.prog 121 = true := by kernel_rfl
theorem zmC : zlp Tryz.prog 122 = true := by kernel_rfl
theorem zoq : zlp Tryz.prog 146 = true := by kernel_rfl
theorem znr : zlp Tryz.prog 189 = true := by kernel_rfl
theorem zmE : zlp Tryz.prog 190 = true := by kernel_rfl
theorem zmO : zlp Tryz.prog 196 = true := by kernel_rfl
theorem zmk : zlp Tryz.prog 221 = true := by kernel_rfl
theorem zmz : zlp Tryz.prog 222 = true := by kernel_rfl
theorem zec : zlB Tryz.prog 23 0 0 = true := by kernel_rfl
theorem zfI : zlB Tryz.prog 23 1 1 = true := by kernel_rfl
theorem zeJ : zlB Tryz.prog 23 2 2 = true := by kernel_rfl
theorem zi4 : zlB Tryz.prog 23 3 3 = true := by kernel_rfl
theorem zim : zlB Tryz.prog 23 4 4 = true := by kernel_rfl
theorem zi9 : zlB Tryz.prog 23 5 5 = true := by kernel_rfl
theorem mixed : Tryz.prog.follows .mixedOrders = true := by kernel_rfl
theorem zmT : tyA Tryz.prog 214 3 = true := by kernel_rfl
theorem ta23 : tyA Tryz.prog 23 6 = true := by kernel_rfl
theorem to3 : tyO Tryz.prog 3 = true := by kernel_rfl
theorem zmX : sized Tryz.prog 214 3 = true := by kernel_rfl
theorem zmW : zeroOf Tryz.prog 214 = some (.agg (zlI (⟨0, 0, 0⟩ : Bound)).toArray) := by kernel_rfl
def D.zaR (a0 : Plan) : Bool := (bif (D.zaP ([(⟨a0.nodes, 1, 1048576⟩ : Bound), (⟨a0.threads, 1, 16⟩ : Bound), (⟨a0.domains, 0, 64⟩ : Bound), (⟨a0.buckets, 1, 256⟩ : Bound), (⟨a0.gen, 1, 1073741823⟩ : Bound)])) then (D.zaP ([(⟨a0.retire, (IntKind.i64.wrap ((IntKind.i64.wrap (3 * a0.threads)) + 1)), 1024⟩ : Bound)])) else false)
theorem zdk (w0 : World) 
    (a0 : Plan) :
    Calls Tryz.prog 196 #[.agg (zln a0).toArray] w0 (zlE (.bool (D.zaR a0)) w0) := by
 refine enter Tryz.func196 rfl 31 rfl rfl fun fr r => ?_
 have hB := Below.refl w0.heap.size w0
 refine wsr ?_
 refine zaa (.cells ((zln a0)).toArray 23 (0, 0)) r (fun R => zlC r (v := (.agg (zln a0).toArray)) rfl) rfl fun fr b1 w2 n3 r => ?_
 obtain ⟨e_b1, z_w2, h_b1, hB, zB⟩ := n3.all hB
 refine za0 (.bool false) r (fun R => za6 r rfl) rfl fun fr r => wn (wsr (za0 _ r (fun R => za4 r (o := 0) rfl zec) rfl fun fr r => za0 (I a0.nodes) r (fun R => za2 r rfl h_b1 to3 rfl) rfl fun fr r => za0 (.agg (zlI (⟨a0.nodes, 1, 1048576⟩ : Bound)).toArray) r (fun R => zb4 r (by kernel_rfl)) rfl fun fr r => za0 _ r (fun R => za4 r (o := 0) rfl zfI) rfl fun fr r => za0 (I a0.threads) r (fun R => za2 r rfl h_b1 to3 rfl) rfl fun fr r => za0 (.agg (zlI (⟨a0.threads, 1, 16⟩ : Bound)).toArray) r (fun R => zb4 r (by kernel_rfl)) rfl fun fr r => za0 _ r (fun R => za4 r (o := 0) rfl zi4) rfl fun fr r => za0 (I a0.domains) r (fun R => za2 r rfl h_b1 to3 rfl) rfl fun fr r => za0 (.agg (zlI (⟨a0.domains, 0, 64⟩ : Bound)).toArray) r (fun R => zb4 r (by kernel_rfl)) rfl fun fr r => za0 _ r (fun R => za4 r (o := 0) rfl zim) rfl fun fr r => za0 (I a0.buckets) r (fun R => za2 r rfl h_b1 to3 rfl) rfl fun fr r => za0 (.agg (zlI (⟨a0.buckets, 1, 256⟩ : Bound)).toArray) r (fun R => zb4 r (by kernel_rfl)) rfl fun fr r => za0 _ r (fun R => za4 r (o := 0) rfl zi9) rfl fun fr r => za0 (I a0.gen) r (fun R => za2 r rfl h_b1 to3 rfl) rfl fun fr r => za0 (.agg (zlI (⟨a0.gen, 1, 1073741823⟩ : Bound)).toArray) r (fun R => zb4 r (by kernel_rfl)) rfl fun fr r => ?_))
 refine zch (.cells ((boundsC [(⟨a0.nodes, 1, 1048576⟩ : Bound), (⟨a0.threads, 1, 16⟩ : Bound), (⟨a0.domains, 0, 64⟩ : Bound), (⟨a0.buckets, 1, 256⟩ : Bound), (⟨a0.gen, 1, 1073741823⟩ : Bound)])).toArray 214 (0, 0)) 5 r (fun R => zbz r (by kernel_rfl)) rfl fun fr b4 w5 n6 r => ?_
 have h_b1 := keep n6.below h_b1
 obtain ⟨e_b4, z_w5, h_b4, hB, zB⟩ := n6.all hB
 refine za9 r (zeB w5 ([(⟨a0.nodes, 1, 1048576⟩ : Bound), (⟨a0.threads, 1, 16⟩ : Bound), (⟨a0.domains, 0, 64⟩ : Bound), (⟨a0.buckets, 1, 256⟩ : Bound), (⟨a0.gen, 1, 1073741823⟩ : Bound)]) h_b4 (by first | assumption | decide | (simp; done))) (fun R hc => zac r rfl zmk hc) rfl ?_
 rintro _ w7 ⟨rfl, hb⟩
 refine ⟨_, rfl, fun fr r => ?_⟩
 have z_w7 := hb.size
 have h_b1 := keep hb h_b1
 have h_b4 := keep hb h_b4
 obtain ⟨hB, zB⟩ := bon hb hB
 refine za0 (.bool (D.zaP ([(⟨a0.nodes, 1, 1048576⟩ : Bound), (⟨a0.threads, 1, 16⟩ : Bound), (⟨a0.domains, 0, 64⟩ : Bound), (⟨a0.buckets, 1, 256⟩ : Bound), (⟨a0.gen, 1, 1073741823⟩ : Bound)]))) r (fun R => za5 r rfl) rfl fun fr r => ?_
 refine zay (D.zaP ([(⟨a0.nodes, 1, 1048576⟩ : Bound), (⟨a0.threads, 1, 16⟩ : Bound), (⟨a0.domains, 0, 64⟩ : Bound), (⟨a0.buckets, 1, 256⟩ : Bound), (⟨a0.gen, 1, 1073741823⟩ : Bound)])) (fun h8 => ?_) (fun h8 => ?_)
 ·
  refine s1 r h8 (za0 _ r (fun R => za4 r (o := 0) rfl zeJ) rfl fun fr r => s1 r h8 (za0 (I a0.retire) r (fun R => za2 r rfl h_b1 to3 rfl) rfl fun fr r => s1 r h8 (za0 _ r (fun R => za4 r (o := 0) rfl zfI) rfl fun fr r => s1 r h8 (za0 (I a0.threads) r (fun R => za2 r rfl h_b1 to3 rfl) rfl fun fr r => s1 r h8 (za0 _ r (fun R => zlt r rfl rfl rfl rfl) rfl fun fr r => s1 r h8 (za0 _ r (fun R => zlt r rfl rfl rfl rfl) rfl fun fr r => s1 r h8 (za0 (.agg (zlI (⟨a0.retire, (W ((W (3 * a0.threads)) + 1)), 1024⟩ : Bound)).toArray) r (fun R => zb4 r (by kernel_rfl)) rfl fun fr r => s1 r h8 ?_)))))))
  refine zch (.cells ((boundsC [(⟨a0.retire, (W ((W (3 * a0.threads)) + 1)), 1024⟩ : Bound)])).toArray 214 (0, 0)) 1 r (fun R => zbz r (by kernel_rfl)) rfl fun fr b9 w10 n11 r => ?_
  have h_b1 := keep n11.below h_b1
  have h_b4 := keep n11.below h_b4
  obtain ⟨e_b9, z_w10, h_b9, hB, zB⟩ := n11.all hB
  refine s1 r h8 ?_
  refine za9 r (zeB w10 ([(⟨a0.retire, (W ((W (3 * a0.threads)) + 1)), 1024⟩ : Bound)]) h_b9 (by first | assumption | decide | (simp; done))) (fun R hc => zac r rfl zmk hc) rfl ?_
  rintro _ w12 ⟨rfl, hb⟩
  refine ⟨_, rfl, fun fr r => ?_⟩
  have z_w12 := hb.size
  have h_b1 := keep hb h_b1
  have h_b4 := keep hb h_b4
  have h_b9 := keep hb h_b9
  obtain ⟨hB, zB⟩ := bon hb hB
  refine za0 (.bool (D.zaP ([(⟨a0.retire, (W ((W (3 * a0.threads)) + 1)), 1024⟩ : Bound)]))) r (fun R => zai r (b := true) (congrArg Value.bool h8) rfl) rfl fun fr r => za0 (.bool (D.zaP ([(⟨a0.retire, (W ((W (3 * a0.threads)) + 1)), 1024⟩ : Bound)]))) r (fun R => za6 r rfl) rfl fun fr r => wn (wp_ret ?_)
  have hd : D.zaR a0 = (D.zaP ([(⟨a0.retire, (W ((W (3 * a0.threads)) + 1)), 1024⟩ : Bound)])) := (zao h8).trans (rfl)
  refine zaA r rfl rfl ?_
  rw [hd]
  exact ⟨rfl, hB⟩
 ·
  refine s0 r h8 fun fr r => s0 r h8 fun fr r => s0 r h8 fun fr r => s0 r h8 fun fr r => s0 r h8 fun fr r => s0 r h8 fun fr r => s0 r h8 fun fr r => s0 r h8 fun fr r => s0 r h8 fun fr r => za0 (.bool false) r (fun R => zai r (b := false) (congrArg Value.bool h8) rfl) rfl fun fr r => za0 (.bool false) r (fun R => za6 r rfl) rfl fun fr r => wn (wp_ret ?_)
  have hd : D.zaR a0 = false := (zah h8).trans (rfl)
  refine zaA r rfl rfl ?_
  rw [hd]
  exact ⟨rfl, hB⟩
def D.zaU (a0 : Plan) : Int := (maxI 2 a0.buckets)
theorem zg7 (w0 : World) 
    (a0 : Plan) :
    Calls Tryz.prog 146 #[.agg (zln a0).toArray] w0 (zlE (.int .i64 (D.zaU a0)) w0) := by
 refine enter Tryz.func146 rfl 6 rfl rfl fun fr r => ?_
 have hB := Below.refl w0.heap.size w0
 refine wsr ?_
 refine zaa (.cells ((zln a0)).toArray 23 (0, 0)) r (fun R => zlC r (v := (.agg (zln a0).toArray)) rfl) rfl fun fr b1 w2 n3 r => ?_
 obtain ⟨e_b1, z_w2, h_b1, hB, zB⟩ := n3.all hB
 refine za0 (I 0) r (fun R => za6 r rfl) rfl fun fr r => wn (wsr (za0 _ r (fun R => za4 r (o := 0) rfl zim) rfl fun fr r => za0 (I a0.buckets) r (fun R => za2 r rfl h_b1 to3 rfl) rfl fun fr r => za0 (I (maxI 2 a0.buckets)) r (fun R => zn2 r (m := 2) (n := a0.buckets) rfl rfl) rfl fun fr r => za0 (I (maxI 2 a0.buckets)) r (fun R => za6 r rfl) rfl fun fr r => wn (wp_ret ?_)))
 refine zaA r rfl rfl ?_
 exact ⟨rfl, hB⟩
def D.zam (a0 : Plan) : Int := (IntKind.i64.wrap (1 + (IntKind.i64.wrap (a0.domains * (IntKind.i64.wrap (1 + (D.zaU a0)))))))
theorem zdZ (w0 : World) 
    (a0 : Plan) :
    Calls Tryz.prog 189 #[.agg (zln a0).toArray] w0 (zlE (.int .i64 (D.zam a0)) w0) := by
 refine enter Tryz.func189 rfl 10 rfl rfl fun fr r => ?_
 have hB := Below.refl w0.heap.size w0
 refine wsr ?_
 refine zaa (.cells ((zln a0)).toArray 23 (0, 0)) r (fun R => zlC r (v := (.agg (zln a0).toArray)) rfl) rfl fun fr b1 w2 n3 r => ?_
 obtain ⟨e_b1, z_w2, h_b1, hB, zB⟩ := n3.all hB
 refine za0 (I 0) r (fun R => za6 r rfl) rfl fun fr r => wn (wp_seq ?_)
 refine zb5 7 [.val (.pointer (some ⟨b1, 3, none⟩)), .val (I a0.domains), .val (.agg (zln a0).toArray), .val (I (D.zaU a0)), .val (I (W (1 + (D.zaU a0)))), .val (I (W (a0.domains * (W (1 + (D.zaU a0)))))), .val (I (W (1 + (W (a0.domains * (W (1 + (D.zaU a0))))))))] mixed r (by kernel_rfl) (za3 (by exact trivial) (za3 (by exact trivial) (za3 (by exact trivial) (za3 (by exact trivial) (za3 (by exact trivial) (za3 (by exact trivial) (za3 (by exact trivial) zaV))))))) ?_ ?_
 ·
  refine ec r (fun _ u _ b d s => za4 s (b := b1) (o := 0) rfl zi4 bz) (ec r (fun _ u _ b d s => za2 s d.1 (keep b h_b1) to3 rfl bz) (ec r (fun _ u _ b d s => za7 s (cs := (zln a0)) (n := 6) rfl (keep b h_b1) ta23 rfl bz) (ec r (fun fr1 u w' hb' hd r' => zac r' (args := [(.agg (zln a0).toArray)]) (lc hd.1 l0) zoq ((zg7 _ a0).mono (by rintro _ w2 ⟨rfl, hb2⟩; exact ⟨_, rfl, hb2, rfl⟩))) (ec r (fun _ u _ b d s => zlt s rfl d.1 rfl rfl bz) (ec r (fun _ u _ b d s => zlt s d.1 d.2.1 rfl rfl bz) (ec r (fun _ u _ b d s => zlt s rfl d.1 rfl rfl bz) ?_))))))
  exact zbc
 ·
  intro fr u w4 hb hΦ hne r
  have r := r.congr (sc (hΦ 6 (by decide)) (sc (hΦ 5 (by decide)) (sc (hΦ 4 (by decide)) (sc (hΦ 3 (by decide)) (sc (hΦ 2 (by decide)) (sc (hΦ 1 (by decide)) (sc (hΦ 0 (by decide)) rfl)))))))
  have z_w4 := hb.size
  have h_b1 := keep hb h_b1
  obtain ⟨hB, zB⟩ := bon hb hB
  refine za0 (I (W (1 + (W (a0.domains * (W (1 + (D.zaU a0)))))))) r (fun R => za6 r rfl) rfl fun fr r => wn (wp_ret ?_)
  refine zaA r rfl rfl ?_
  exact ⟨rfl, hB⟩
def D.zax (a0 : Plan) : Int := (IntKind.i64.wrap ((D.zam a0) + (IntKind.i64.wrap (a0.threads * 3))))
theorem zdp (w0 : World) 
    (a0 : Plan) :
    Calls Tryz.prog 222 #[.agg (zln a0).toArray] w0 (zlE (.int .i64 (D.zax a0)) w0) := by
 refine enter Tryz.func222 rfl 9 rfl rfl fun fr r => ?_
 have hB := Below.refl w0.heap.size w0
 refine wsr ?_
 refine zaa (.cells ((zln a0)).toArray 23 (0, 0)) r (fun R => zlC r (v := (.agg (zln a0).toArray)) rfl) rfl fun fr b1 w2 n3 r => ?_
 obtain ⟨e_b1, z_w2, h_b1, hB, zB⟩ := n3.all hB
 refine za0 (I 0) r (fun R => za6 r rfl) rfl fun fr r => wn (wp_seq ?_)
 refine zb5 6 [.val (.agg (zln a0).toArray), .val (I (D.zam a0)), .val (.pointer (some ⟨b1, 1, none⟩)), .val (I a0.threads), .val (I (W (a0.threads * 3))), .val (I (W ((D.zam a0) + (W (a0.threads * 3)))))] mixed r (by kernel_rfl) (za3 (by exact trivial) (za3 (by exact trivial) (za3 (by exact trivial) (za3 (by exact trivial) (za3 (by exact trivial) (za3 (by exact trivial) zaV)))))) ?_ ?_
 ·
  refine ec r (fun _ u _ b d s => za7 s (cs := (zln a0)) (n := 6) rfl (keep b h_b1) ta23 rfl bz) (ec r (fun fr1 u w' hb' hd r' => zac r' (args := [(.agg (zln a0).toArray)]) (lc hd.1 l0) znr ((zdZ _ a0).mono (by rintro _ w2 ⟨rfl, hb2⟩; exact ⟨_, rfl, hb2, rfl⟩))) (ec r (fun _ u _ b d s => za4 s (b := b1) (o := 0) rfl zfI bz) (ec r (fun _ u _ b d s => za2 s d.1 (keep b h_b1) to3 rfl bz) (ec r (fun _ u _ b d s => zlt s d.1 rfl rfl rfl bz) (ec r (fun _ u _ b d s => zlt s d.1 d.2.1 rfl rfl bz) ?_)))))
  exact zbc
 ·
  intro fr u w4 hb hΦ hne r
  have r := r.congr (sc (hΦ 5 (by decide)) (sc (hΦ 4 (by decide)) (sc (hΦ 3 (by decide)) (sc (hΦ 2 (by decide)) (sc (hΦ 1 (by decide)) (sc (hΦ 0 (by decide)) rfl))))))
  have z_w4 := hb.size
  have h_b1 := keep hb h_b1
  obtain ⟨hB, zB⟩ := bon hb hB
  refine za0 (I (W ((D.zam a0) + (W (a0.threads * 3))))) r (fun R => za6 r rfl) rfl fun fr r => wn (wp_ret ?_)
  refine zaA r rfl rfl ?_
  exact ⟨rfl, hB⟩
def D.za8 (a0 : Plan) : Int := (IntKind.i64.wrap ((D.zax a0) + (IntKind.i64.wrap (a0.threads * (IntKind.i64.wrap (1 + a0.retire))))))
theorem zcP (w0 : World) 
    (a0 : Plan) :
    Calls Tryz.prog 121 #[.agg (zln a0).toArray] w0 (zlE (.int .i64 (D.za8 a0)) w0) := by
 refine enter Tryz.func121 rfl 12 rfl rfl fun fr r => ?_
 have hB := Below.refl w0.heap.size w0
 refine wsr ?_
 refine zaa (.cells ((zln a0)).toArray 23 (0, 0)) r (fun R => zlC r (v := (.agg (zln a0).toArray)) rfl) rfl fun fr b1 w2 n3 r => ?_
 obtain ⟨e_b1, z_w2, h_b1, hB, zB⟩ := n3.all hB
 refine za0 (I 0) r (fun R => za6 r rfl) rfl fun fr r => wn (wp_seq ?_)
 refine zb5 9 [.val (.agg (zln a0).toArray), .val (I (D.zax a0)), .val (.pointer (some ⟨b1, 1, none⟩)), .val (I a0.threads), .val (.pointer (some ⟨b1, 2, none⟩)), .val (I a0.retire), .val (I (W (1 + a0.retire))), .val (I (W (a0.threads * (W (1 + a0.retire))))), .val (I (W ((D.zax a0) + (W (a0.threads * (W (1 + a0.retire)))))))] mixed r (by kernel_rfl) (za3 (by exact trivial) (za3 (by exact trivial) (za3 (by exact trivial) (za3 (by exact trivial) (za3 (by exact trivial) (za3 (by exact trivial) (za3 (by exact trivial) (za3 (by exact trivial) (za3 (by exact trivial) zaV))))))))) ?_ ?_
 ·
  refine ec r (fun _ u _ b d s => za7 s (cs := (zln a0)) (n := 6) rfl (keep b h_b1) ta23 rfl bz) (ec r (fun fr1 u w' hb' hd r' => zac r' (args := [(.agg (zln a0).toArray)]) (lc hd.1 l0) zmz ((zdp _ a0).mono (by rintro _ w2 ⟨rfl, hb2⟩; exact ⟨_, rfl, hb2, rfl⟩))) (ec r (fun _ u _ b d s => za4 s (b := b1) (o := 0) rfl zfI bz) (ec r (fun _ u _ b d s => za2 s d.1 (keep b h_b1) to3 rfl bz) (ec r (fun _ u _ b d s => za4 s (b := b1) (o := 0) rfl zeJ bz) (ec r (fun _ u _ b d s => za2 s d.1 (keep b h_b1) to3 rfl bz) (ec r (fun _ u _ b d s => zlt s rfl d.1 rfl rfl bz) (ec r (fun _ u _ b d s => zlt s d.1 d.2.1 rfl rfl bz) (ec r (fun _ u _ b d s => zlt s d.1 d.2.1 rfl rfl bz) ?_))))))))
  exact zbc
 ·
  intro fr u w4 hb hΦ hne r
  have r := r.congr (sc (hΦ 8 (by decide)) (sc (hΦ 7 (by decide)) (sc (hΦ 6 (by decide)) (sc (hΦ 5 (by decide)) (sc (hΦ 4 (by decide)) (sc (hΦ 3 (by decide)) (sc (hΦ 2 (by decide)) (sc (hΦ 1 (by decide)) (sc (hΦ 0 (by decide)) rfl)))))))))
  have z_w4 := hb.size
  have h_b1 := keep hb h_b1
  obtain ⟨hB, zB⟩ := bon hb hB
  refine za0 (I (W ((D.zax a0) + (W (a0.threads * (W (1 + a0.retire))))))) r (fun R => za6 r rfl) rfl fun fr r => wn (wp_ret ?_)
  refine zaA r rfl rfl ?_
  exact ⟨rfl, hB⟩
def D.zaD (a0 : Plan) : Int := (bif (!(D.zaR a0)) then 0 else (IntKind.i64.wrap ((D.za8 a0) + (IntKind.i64.wrap (a0.nodes * 5)))))
theorem zgy (w0 : World) 
    (a0 : Plan) :
    Calls Tryz.prog 105 #[.agg (zln a0).toArray] w0 (zlE (.int .i64 (D.zaD a0)) w0) := by
 refine enter Tryz.func105 rfl 12 rfl rfl fun fr r => ?_
 have hB := Below.refl w0.heap.size w0
 refine wsr ?_
 refine zaa (.cells ((zln a0)).toArray 23 (0, 0)) r (fun R => zlC r (v := (.agg (zln a0).toArray)) rfl) rfl fun fr b1 w2 n3 r => ?_
 obtain ⟨e_b1, z_w2, h_b1, hB, zB⟩ := n3.all hB
 refine za0 (I 0) r (fun R => za6 r rfl) rfl fun fr r => wn (wp_seq (wsr (za0 (.agg (zln a0).toArray) r (fun R => za7 r (cs := (zln a0)) (n := 6) rfl h_b1 ta23 rfl) rfl fun fr r => ?_)))
 refine za9 r (zdk w2 a0) (fun R hc => zac r rfl zmO hc) rfl ?_
 rintro _ w4 ⟨rfl, hb⟩
 refine ⟨_, rfl, fun fr r => ?_⟩
 have z_w4 := hb.size
 have h_b1 := keep hb h_b1
 obtain ⟨hB, zB⟩ := bon hb hB
 refine za0 (.bool (!(D.zaR a0))) r (fun R => y_un r (u := (.bool (D.zaR a0))) rfl rfl) rfl fun fr r => wn ?_
 refine wp_cond_split (t := (!(D.zaR a0))) (r.ev rfl) (fun h5 => ?_) (fun h5 => ?_)
 ·
  refine wsr (za0 (I 0) r (fun R => za6 r rfl) rfl fun fr r => wn (wp_ret ?_))
  have hd : D.zaD a0 = 0 := (zao h5).trans (rfl)
  refine zaA r rfl rfl ?_
  rw [hd]
  exact ⟨rfl, hB⟩
 ·
  refine wp_skip (wp_seq ?_)
  refine zb5 6 [.val (.agg (zln a0).toArray), .val (I (D.za8 a0)), .val (zp b1), .val (I a0.nodes), .val (I (W (a0.nodes * 5))), .val (I (W ((D.za8 a0) + (W (a0.nodes * 5)))))] mixed r (by kernel_rfl) (za3 (by exact trivial) (za3 (by exact trivial) (za3 (by exact trivial) (za3 (by exact trivial) (za3 (by exact trivial) (za3 (by exact trivial) zaV)))))) ?_ ?_
  ·
   refine ec r (fun _ u _ b d s => za7 s (cs := (zln a0)) (n := 6) rfl (keep b h_b1) ta23 rfl bz) (ec r (fun fr1 u w' hb' hd r' => zac r' (args := [(.agg (zln a0).toArray)]) (lc hd.1 l0) zmt ((zcP _ a0).mono (by rintro _ w2 ⟨rfl, hb2⟩; exact ⟨_, rfl, hb2, rfl⟩))) (ec r (fun _ u _ b d s => za4 s (b := b1) (o := 0) rfl zec bz) (ec r (fun _ u _ b d s => za2 s d.1 (keep b h_b1) to3 rfl bz) (ec r (fun _ u _ b d s => zlt s d.1 rfl rfl rfl bz) (ec r (fun _ u _ b d s => zlt s d.1 d.2.1 rfl rfl bz) ?_)))))
   exact zbc
  ·
   intro fr u w6 hb hΦ hne r
   have r := r.congr (sc (hΦ 5 (by decide)) (sc (hΦ 4 (by decide)) (sc (hΦ 3 (by decide)) (sc (hΦ 2 (by decide)) (sc (hΦ 1 (by decide)) (sc (hΦ 0 (by decide)) rfl))))))
   have z_w6 := hb.size
   have h_b1 := keep hb h_b1
   obtain ⟨hB, zB⟩ := bon hb hB
   refine za0 (I (W ((D.za8 a0) + (W (a0.nodes * 5))))) r (fun R => za6 r rfl) rfl fun fr r => wn (wp_ret ?_)
   have hd : D.zaD a0 = (W ((D.za8 a0) + (W (a0.nodes * 5)))) := (zah h5).trans (rfl)
   refine zaA r rfl rfl ?_
   rw [hd]
   exact ⟨rfl, hB⟩
def D.zaw (a0 : Plan) (a1 : Int) (a2 : List Bound) : Int := (bif (!(D.zaR a0)) then (-1) else (bif (!(D.zaP a2)) then (-1) else a1))
theorem zc5 (w0 : World) 
    (a0 : Plan) (a1 : Int) (a2 : List Bound) {a2b : Nat} (a2h : w0.heap[a2b]? = some (.cells ((boundsC a2)).toArray 214 (0, 0))) (pre0 : a2.length ≤ 8) :
    Calls Tryz.prog 120 #[.agg (zln a0).toArray, .int .i64 a1, .slice (some ⟨a2b, 0, none⟩) a2.length a2.length] w0 (zlE (.int .i64 (D.zaw a0 a1 a2)) w0) := by
 refine enter Tryz.func120 rfl 16 rfl rfl fun fr r => ?_
 have hB := Below.refl w0.heap.size w0
 have la2b := lt_of_block a2h
 refine wsr ?_
 refine zaa (.cells ((zln a0)).toArray 23 (0, 0)) r (fun R => zlC r (v := (.agg (zln a0).toArray)) rfl) rfl fun fr b1 w2 n3 r => ?_
 have a2h := keep n3.below a2h
 obtain ⟨e_b1, z_w2, h_b1, hB, zB⟩ := n3.all hB
 refine za0 (I 0) r (fun R => za6 r rfl) rfl fun fr r => wn (wp_seq (wsr (za0 (.agg (zln a0).toArray) r (fun R => za7 r (cs := (zln a0)) (n := 6) rfl h_b1 ta23 rfl) rfl fun fr r => ?_)))
 refine za9 r (zdk w2 a0) (fun R hc => zac r rfl zmO hc) rfl ?_
 rintro _ w4 ⟨rfl, hb⟩
 refine ⟨_, rfl, fun fr r => ?_⟩
 have z_w4 := hb.size
 have a2h := keep hb a2h
 have h_b1 := keep hb h_b1
 obtain ⟨hB, zB⟩ := bon hb hB
 refine za0 (.bool (!(D.zaR a0))) r (fun R => y_un r (u := (.bool (D.zaR a0))) rfl rfl) rfl fun fr r => za0 (.bool (!(D.zaR a0))) r (fun R => za5 r rfl) rfl fun fr r => ?_
 refine zay (!(D.zaR a0)) (fun h5 => ?_) (fun h5 => ?_)
 ·
  refine s0 r h5 fun fr r => s0 r h5 fun fr r => s0 r h5 fun fr r => za0 (.bool true) r (fun R => zai r (b := true) (congrArg Value.bool h5) rfl) rfl fun fr r => wn ?_
  refine wp_cond_split (t := true) (r.ev rfl) (fun _ => ?_) (fun h => absurd ((rfl : true = _).symm.trans h) (by decide))
  refine wsr (za0 (I (-1)) r (fun R => za6 r rfl) rfl fun fr r => wn (wp_ret ?_))
  have hd : D.zaw a0 a1 a2 = (-1) := (zao h5).trans (rfl)
  refine zaA r rfl rfl ?_
  rw [hd]
  exact ⟨rfl, hB⟩
 ·
  refine s1 r h5 (za0 (.slice (some ⟨a2b, 0, none⟩) a2.length a2.length) r (fun R => za5 r rfl) rfl fun fr r => s1 r h5 ?_)
  refine za9 r (zeB w4 a2 a2h (by first | assumption | decide | (simp; done))) (fun R hc => zac r rfl zmk hc) rfl ?_
  rintro _ w6 ⟨rfl, hb⟩
  refine ⟨_, rfl, fun fr r => ?_⟩
  have z_w6 := hb.size
  have a2h := keep hb a2h
  have h_b1 := keep hb h_b1
  obtain ⟨hB, zB⟩ := bon hb hB
  refine s1 r h5 (za0 (.bool (!(D.zaP a2))) r (fun R => y_un r (u := (.bool (D.zaP a2))) rfl rfl) rfl fun fr r => za0 (.bool (!(D.zaP a2))) r (fun R => zai r (b := false) (congrArg Value.bool h5) rfl) rfl fun fr r => wn ?_)
  refine wp_cond_split (t := (!(D.zaP a2))) (r.ev rfl) (fun h7 => ?_) (fun h7 => ?_)
  ·
   refine wsr (za0 (I (-1)) r (fun R => za6 r rfl) rfl fun fr r => wn (wp_ret ?_))
   have hd : D.zaw a0 a1 a2 = (-1) := (zah h5).trans ((zao h7).trans (rfl))
   refine zaA r rfl rfl ?_
   rw [hd]
   exact ⟨rfl, hB⟩
  ·
   refine wp_skip (wsr (za0 (I a1) r (fun R => za5 r rfl) rfl fun fr r => za0 (I a1) r (fun R => za6 r rfl) rfl fun fr r => wn (wp_ret ?_)))
   have hd : D.zaw a0 a1 a2 = a1 := (zah h5).trans ((zah h7).trans (rfl))
   refine zaA r rfl rfl ?_
   rw [hd]
   exact ⟨rfl, hB⟩
theorem zeY (w0 : World) 
    (a0 : Plan) (a1 : Int) :
    Calls Tryz.prog 120 #[.agg (zln a0).toArray, .int .i64 a1, .slice none 0 0] w0 (zlE (.int .i64 (D.zaw a0 a1 ([]))) w0) := by
 refine enter Tryz.func120 rfl 16 rfl rfl fun fr r => ?_
 have hB := Below.refl w0.heap.size w0
 refine wsr ?_
 refine zaa (.cells ((zln a0)).toArray 23 (0, 0)) r (fun R => zlC r (v := (.agg (zln a0).toArray)) rfl) rfl fun fr b1 w2 n3 r => ?_
 obtain ⟨e_b1, z_w2, h_b1, hB, zB⟩ := n3.all hB
 refine za0 (I 0) r (fun R => za6 r rfl) rfl fun fr r => wn (wp_seq (wsr (za0 (.agg (zln a0).toArray) r (fun R => za7 r (cs := (zln a0)) (n := 6) rfl h_b1 ta23 rfl) rfl fun fr r => ?_)))
 refine za9 r (zdk w2 a0) (fun R hc => zac r rfl zmO hc) rfl ?_
 rintro _ w4 ⟨rfl, hb⟩
 refine ⟨_, rfl, fun fr r => ?_⟩
 have z_w4 := hb.size
 have h_b1 := keep hb h_b1
 obtain ⟨hB, zB⟩ := bon hb hB
 refine za0 (.bool (!(D.zaR a0))) r (fun R => y_un r (u := (.bool (D.zaR a0))) rfl rfl) rfl fun fr r => za0 (.bool (!(D.zaR a0))) r (fun R => za5 r rfl) rfl fun fr r => ?_
 refine zay (!(D.zaR a0)) (fun h5 => ?_) (fun h5 => ?_)
 ·
  refine s0 r h5 fun fr r => s0 r h5 fun fr r => s0 r h5 fun fr r => za0 (.bool true) r (fun R => zai r (b := true) (congrArg Value.bool h5) rfl) rfl fun fr r => wn ?_
  refine wp_cond_split (t := true) (r.ev rfl) (fun _ => ?_) (fun h => absurd ((rfl : true = _).symm.trans h) (by decide))
  refine wsr (za0 (I (-1)) r (fun R => za6 r rfl) rfl fun fr r => wn (wp_ret ?_))
  have hd : D.zaw a0 a1 [] = (-1) := (zao h5).trans (rfl)
  refine zaA r rfl rfl ?_
  rw [hd]
  exact ⟨rfl, hB⟩
 ·
  refine s1 r h5 (za0 (.slice none 0 0) r (fun R => za5 r rfl) rfl fun fr r => s1 r h5 ?_)
  refine za9 r (zgh w4 ) (fun R hc => zac r rfl zmk hc) rfl ?_
  rintro _ w6 ⟨rfl, hb⟩
  refine ⟨_, rfl, fun fr r => ?_⟩
  have z_w6 := hb.size
  have h_b1 := keep hb h_b1
  obtain ⟨hB, zB⟩ := bon hb hB
  refine s1 r h5 (za0 (.bool (!(D.zaP ([])))) r (fun R => y_un r (u := (.bool (D.zaP ([])))) rfl rfl) rfl fun fr r => za0 (.bool (!(D.zaP ([])))) r (fun R => zai r (b := false) (congrArg Value.bool h5) rfl) rfl fun fr r => wn ?_)
  refine wp_cond_split (t := (!(D.zaP ([])))) (r.ev rfl) (fun h7 => ?_) (fun h7 => ?_)
  ·
   refine wsr (za0 (I (-1)) r (fun R => za6 r rfl) rfl fun fr r => wn (wp_ret ?_))
   have hd : D.zaw a0 a1 [] = (-1) := (zah h5).trans ((zao h7).trans (rfl))
   refine zaA r rfl rfl ?_
   rw [hd]
   exact ⟨rfl, hB⟩
  ·
   refine wp_skip (wsr (za0 (I a1) r (fun R => za5 r rfl) rfl fun fr r => za0 (I a1) r (fun R => za6 r rfl) rfl fun fr r => wn (wp_ret ?_)))
   have hd : D.zaw a0 a1 [] = a1 := (zah h5).trans ((zah h7).trans (rfl))
   refine zaA r rfl rfl ?_
   rw [hd]
   exact ⟨rfl, hB⟩
def D.zaT (a0 : Plan) : Int := (D.zaw a0 0 ([]))
theorem zcb (w0 : World) 
    (a0 : Plan) :
    Calls Tryz.prog 135 #[.agg (zln a0).toArray] w0 (zlE (.int .i64 (D.zaT a0)) w0) := by
 refine enter Tryz.func135 rfl 5 rfl rfl fun fr r => ?_
 have hB := Below.refl w0.heap.size w0
 refine wsr ?_
 refine zaa (.cells ((zln a0)).toArray 23 (0, 0)) r (fun R => zlC r (v := (.agg (zln a0).toArray)) rfl) rfl fun fr b1 w2 n3 r => ?_
 obtain ⟨e_b1, z_w2, h_b1, hB, zB⟩ := n3.all hB
 refine za0 (I 0) r (fun R => za6 r rfl) rfl fun fr r => wn (wsr (za0 (.agg (zln a0).toArray) r (fun R => za7 r (cs := (zln a0)) (n := 6) rfl h_b1 ta23 rfl) rfl fun fr r => ?_))
 refine za9 r (zeY w2 a0 0) (fun R hc => zac r rfl zlZ hc) rfl ?_
 rintro _ w4 ⟨rfl, hb⟩
 refine ⟨_, rfl, fun fr r => ?_⟩
 have z_w4 := hb.size
 have h_b1 := keep hb h_b1
 obtain ⟨hB, zB⟩ := bon hb hB
 refine za0 (I (D.zaw a0 0 ([]))) r (fun R => za6 r rfl) rfl fun fr r => wn (wp_ret ?_)
 refine zaA r rfl rfl ?_
 exact ⟨rfl, hB⟩
def D.zaJ (a0 : Plan) (a1 : Int) : Bound := (⟨a1, 0, (IntKind.i64.wrap (a0.nodes - 1))⟩ : Bound)
theorem zdD (w0 : World) 
    (a0 : Plan) (a1 : Int) :
    Calls Tryz.prog 122 #[.agg (zln a0).toArray, .int .i64 a1] w0 (zlE (.agg (zlI (D.zaJ a0 a1)).toArray) w0) := by
 refine enter Tryz.func122 rfl 10 rfl rfl fun fr r => ?_
 have hB := Below.refl w0.heap.size w0
 refine wsr ?_
 refine zaa (.cells ((zln a0)).toArray 23 (0, 0)) r (fun R => zlC r (v := (.agg (zln a0).toArray)) rfl) rfl fun fr b1 w2 n3 r => ?_
 obtain ⟨e_b1, z_w2, h_b1, hB, zB⟩ := n3.all hB
 refine zaa (.cells ((zlI (⟨0, 0, 0⟩ : Bound))).toArray 214 (0, 0)) r (fun R => zar zmW) rfl fun fr b4 w5 n6 r => ?_
 have h_b1 := keep n6.below h_b1
 obtain ⟨e_b4, z_w5, h_b4, hB, zB⟩ := n6.all hB
 refine wn (wsr (za0 (I a1) r (fun R => za5 r rfl) rfl fun fr r => za0 _ r (fun R => za4 r (o := 0) rfl zec) rfl fun fr r => za0 (I a0.nodes) r (fun R => za2 r rfl h_b1 to3 rfl) rfl fun fr r => za0 _ r (fun R => zlt r rfl rfl rfl rfl) rfl fun fr r => za0 (.agg (zlI (⟨a1, 0, (W (a0.nodes - 1))⟩ : Bound)).toArray) r (fun R => zb4 r (by kernel_rfl)) rfl fun fr r => ?_))
 refine zaf (.cells ((zlI (⟨a1, 0, (W (a0.nodes - 1))⟩ : Bound))).toArray 214 (0, 0)) r (fun R => zb0 r (o := 0) (v := (.agg (zlI (⟨a1, 0, (W (a0.nodes - 1))⟩ : Bound)).toArray)) rfl rfl h_b4 zmX (Nat.le_of_ble_eq_true rfl) rfl rfl) rfl fun fr w7 u8 r => ?_
 have z_w7 := u8.size
 have h_b1 := u8.keep h_b1 (by omega)
 have h_b4 := u8.at_
 obtain ⟨hB, zB⟩ := u8.on hB (by omega)
 refine wn (wp_ret ?_)
 refine zal r rfl rfl h_b4 (k := 3) rfl zmT ?_
 exact ⟨rfl, hB⟩
def D.zaY (a0 : Plan) (a1 : Int) : Int := (D.zaw a0 (IntKind.i64.wrap ((IntKind.i64.wrap ((D.za8 a0) + (IntKind.i64.wrap (a1 * 5)))) + 1)) ([(D.zaJ a0 a1)]))
theorem zcy (w0 : World) 
    (a0 : Plan) (a1 : Int) :
    Calls Tryz.prog 136 #[.agg (zln a0).toArray, .int .i64 a1] w0 (zlE (.int .i64 (D.zaY a0 a1)) w0) := by
 refine enter Tryz.func136 rfl 17 rfl rfl fun fr r => ?_
 have hB := Below.refl w0.heap.size w0
 refine wsr ?_
 refine zaa (.cells ((zln a0)).toArray 23 (0, 0)) r (fun R => zlC r (v := (.agg (zln a0).toArray)) rfl) rfl fun fr b1 w2 n3 r => ?_
 obtain ⟨e_b1, z_w2, h_b1, hB, zB⟩ := n3.all hB
 refine za0 (I 0) r (fun R => za6 r rfl) rfl fun fr r => wn (wp_seq ?_)
 refine zb5 12 [.val (.agg (zln a0).toArray), .val (.agg (zln a0).toArray), .val (I (D.za8 a0)), .val (I a1), .val (I (W (a1 * 5))), .val (I (W ((D.za8 a0) + (W (a1 * 5))))), .val (I (W ((W ((D.za8 a0) + (W (a1 * 5)))) + 1))), .val (.agg (zln a0).toArray), .val (I a1), .val (.agg (zlI (D.zaJ a0 a1)).toArray), .slice w2.heap.size (.cells ((boundsC [(D.zaJ a0 a1)])).toArray 214 (0, 0)) 1, .val (I (D.zaw a0 (W ((W ((D.za8 a0) + (W (a1 * 5)))) + 1)) ([(D.zaJ a0 a1)])))] mixed r (by kernel_rfl) (za3 (by exact trivial) (za3 (by exact trivial) (za3 (by exact trivial) (za3 (by exact trivial) (za3 (by exact trivial) (za3 (by exact trivial) (za3 (by exact trivial) (za3 (by exact trivial) (za3 (by exact trivial) (za3 (by exact trivial) (za3 (Nat.le_refl _) (za3 (by exact trivial) zaV)))))))))))) ?_ ?_
 ·
  refine ec r (fun _ u _ b d s => za7 s (cs := (zln a0)) (n := 6) rfl (keep b h_b1) ta23 rfl bz) (ec r (fun _ u _ b d s => za7 s (cs := (zln a0)) (n := 6) rfl (keep b h_b1) ta23 rfl bz) (ec r (fun fr1 u w' hb' hd r' => zac r' (args := [(.agg (zln a0).toArray)]) (lc hd.1 l0) zmt ((zcP _ a0).mono (by rintro _ w2 ⟨rfl, hb2⟩; exact ⟨_, rfl, hb2, rfl⟩))) (ec r (fun _ u _ b d s => za5 s rfl bz) (ec r (fun _ u _ b d s => zlt s d.1 rfl rfl rfl bz) (ec r (fun _ u _ b d s => zlt s d.1 d.2.1 rfl rfl bz) (ec r (fun _ u _ b d s => zlt s d.1 rfl rfl rfl bz) (ec r (fun _ u _ b d s => za7 s (cs := (zln a0)) (n := 6) rfl (keep b h_b1) ta23 rfl bz) (ec r (fun _ u _ b d s => za5 s rfl bz) (ec r (fun fr1 u w' hb' hd r' => zac r' (args := [(.agg (zln a0).toArray), (I a1)]) (lc hd.1 (lc hd.2.1 l0)) zmC ((zdD _ a0 a1).mono (by rintro _ w2 ⟨rfl, hb2⟩; exact ⟨_, rfl, hb2, rfl⟩))) (ec r (fun fr1 u w' hb' hd r' => zbz r' (c := ((boundsC [(D.zaJ a0 a1)])).toArray) (E := 214) (bs1 (congrArg (fun z => (0, z)) hd.1) (by kernel_rfl)) (fun b w2 n2 => ⟨n2.below, b, rfl, Nat.le_of_eq n2.eq.symm, n2.at_⟩)) ?_))))))))))
  refine zc6 r rfl (fun fr1 u w' hb' hd r' => ?_) ?_
  · obtain ⟨d0, d1, d2, d3, _⟩ := hd; obtain ⟨q2, hq2, _, hr2⟩ := d2; exact zac r' (args := [(.agg (zln a0).toArray), (I (W ((W ((D.za8 a0) + (W (a1 * 5)))) + 1))), (.slice (some ⟨q2, 0, none⟩) 1 1)]) (lc d0 (lc d1 (lc hq2 l0))) zlZ ((zc5 _ a0 (W ((W ((D.za8 a0) + (W (a1 * 5)))) + 1)) ([(D.zaJ a0 a1)]) hr2 (by first | assumption | decide | (simp; done))).mono (by rintro _ w2 ⟨rfl, hb2⟩; exact ⟨_, rfl, hb2, rfl⟩))
  exact zbc
 ·
  intro fr u w4 hb hΦ hne r
  obtain ⟨b5, g10, e_b5, h_b5⟩ := hΦ 10 (by decide)
  have l_b5 := lt_of_block h_b5
  have r := r.congr (sc (hΦ 11 (by decide)) (sc g10 (sc (hΦ 9 (by decide)) (sc (hΦ 8 (by decide)) (sc (hΦ 7 (by decide)) (sc (hΦ 6 (by decide)) (sc (hΦ 5 (by decide)) (sc (hΦ 4 (by decide)) (sc (hΦ 3 (by decide)) (sc (hΦ 2 (by decide)) (sc (hΦ 1 (by decide)) (sc (hΦ 0 (by decide)) rfl))))))))))))
  have z_w4 := hb.size
  have h_b1 := keep hb h_b1
  obtain ⟨hB, zB⟩ := bon hb hB
  refine za0 (I (D.zaw a0 (W ((W ((D.za8 a0) + (W (a1 * 5)))) + 1)) ([(D.zaJ a0 a1)]))) r (fun R => za6 r rfl) rfl fun fr r => wn (wp_ret ?_)
  refine zaA r rfl rfl ?_
  exact ⟨rfl, hB⟩
def D.zaI (a0 : Plan) (a1 : Int) : Int := (D.zaw a0 (IntKind.i64.wrap ((D.za8 a0) + (IntKind.i64.wrap (a1 * 5)))) ([(D.zaJ a0 a1)]))
theorem zbQ (w0 : World) 
    (a0 : Plan) (a1 : Int) :
    Calls Tryz.prog 31 #[.agg (zln a0).toArray, .int .i64 a1] w0 (zlE (.int .i64 (D.zaI a0 a1)) w0) := by
 refine enter Tryz.func31 rfl 16 rfl rfl fun fr r => ?_
 have hB := Below.refl w0.heap.size w0
 refine wsr ?_
 refine zaa (.cells ((zln a0)).toArray 23 (0, 0)) r (fun R => zlC r (v := (.agg (zln a0).toArray)) rfl) rfl fun fr b1 w2 n3 r => ?_
 obtain ⟨e_b1, z_w2, h_b1, hB, zB⟩ := n3.all hB
 refine za0 (I 0) r (fun R => za6 r rfl) rfl fun fr r => wn (wp_seq ?_)
 refine zb5 11 [.val (.agg (zln a0).toArray), .val (.agg (zln a0).toArray), .val (I (D.za8 a0)), .val (I a1), .val (I (W (a1 * 5))), .val (I (W ((D.za8 a0) + (W (a1 * 5))))), .val (.agg (zln a0).toArray), .val (I a1), .val (.agg (zlI (D.zaJ a0 a1)).toArray), .slice w2.heap.size (.cells ((boundsC [(D.zaJ a0 a1)])).toArray 214 (0, 0)) 1, .val (I (D.zaw a0 (W ((D.za8 a0) + (W (a1 * 5)))) ([(D.zaJ a0 a1)])))] mixed r (by kernel_rfl) (za3 (by exact trivial) (za3 (by exact trivial) (za3 (by exact trivial) (za3 (by exact trivial) (za3 (by exact trivial) (za3 (by exact trivial) (za3 (by exact trivial) (za3 (by exact trivial) (za3 (by exact trivial) (za3 (Nat.le_refl _) (za3 (by exact trivial) zaV))))))))))) ?_ ?_
 ·
  refine ec r (fun _ u _ b d s => za7 s (cs := (zln a0)) (n := 6) rfl (keep b h_b1) ta23 rfl bz) (ec r (fun _ u _ b d s => za7 s (cs := (zln a0)) (n := 6) rfl (keep b h_b1) ta23 rfl bz) (ec r (fun fr1 u w' hb' hd r' => zac r' (args := [(.agg (zln a0).toArray)]) (lc hd.1 l0) zmt ((zcP _ a0).mono (by rintro _ w2 ⟨rfl, hb2⟩; exact ⟨_, rfl, hb2, rfl⟩))) (ec r (fun _ u _ b d s => za5 s rfl bz) (ec r (fun _ u _ b d s => zlt s d.1 rfl rfl rfl bz) (ec r (fun _ u _ b d s => zlt s d.1 d.2.1 rfl rfl bz) (ec r (fun _ u _ b d s => za7 s (cs := (zln a0)) (n := 6) rfl (keep b h_b1) ta23 rfl bz) (ec r (fun _ u _ b d s => za5 s rfl bz) (ec r (fun fr1 u w' hb' hd r' => zac r' (args := [(.agg (zln a0).toArray), (I a1)]) (lc hd.1 (lc hd.2.1 l0)) zmC ((zdD _ a0 a1).mono (by rintro _ w2 ⟨rfl, hb2⟩; exact ⟨_, rfl, hb2, rfl⟩))) (ec r (fun fr1 u w' hb' hd r' => zbz r' (c := ((boundsC [(D.zaJ a0 a1)])).toArray) (E := 214) (bs1 (congrArg (fun z => (0, z)) hd.1) (by kernel_rfl)) (fun b w2 n2 => ⟨n2.below, b, rfl, Nat.le_of_eq n2.eq.symm, n2.at_⟩)) ?_)))))))))
  refine zc6 r rfl (fun fr1 u w' hb' hd r' => ?_) ?_
  · obtain ⟨d0, d1, d2, d3, _⟩ := hd; obtain ⟨q2, hq2, _, hr2⟩ := d2; exact zac r' (args := [(.agg (zln a0).toArray), (I (W ((D.za8 a0) + (W (a1 * 5))))), (.slice (some ⟨q2, 0, none⟩) 1 1)]) (lc d0 (lc d1 (lc hq2 l0))) zlZ ((zc5 _ a0 (W ((D.za8 a0) + (W (a1 * 5)))) ([(D.zaJ a0 a1)]) hr2 (by first | assumption | decide | (simp; done))).mono (by rintro _ w2 ⟨rfl, hb2⟩; exact ⟨_, rfl, hb2, rfl⟩))
  exact zbc
 ·
  intro fr u w4 hb hΦ hne r
  obtain ⟨b5, g9, e_b5, h_b5⟩ := hΦ 9 (by decide)
  have l_b5 := lt_of_block h_b5
  have r := r.congr (sc (hΦ 10 (by decide)) (sc g9 (sc (hΦ 8 (by decide)) (sc (hΦ 7 (by decide)) (sc (hΦ 6 (by decide)) (sc (hΦ 5 (by decide)) (sc (hΦ 4 (by decide)) (sc (hΦ 3 (by decide)) (sc (hΦ 2 (by decide)) (sc (hΦ 1 (by decide)) (sc (hΦ 0 (by decide)) rfl)))))))))))
  have z_w4 := hb.size
  have h_b1 := keep hb h_b1
  obtain ⟨hB, zB⟩ := bon hb hB
  refine za0 (I (D.zaw a0 (W ((D.za8 a0) + (W (a1 * 5)))) ([(D.zaJ a0 a1)]))) r (fun R => za6 r rfl) rfl fun fr r => wn (wp_ret ?_)
  refine zaA r rfl rfl ?_
  exact ⟨rfl, hB⟩
def D.zaB (a0 : Plan) (a1 : Int) : Bound := (⟨a1, 0, (IntKind.i64.wrap (a0.threads - 1))⟩ : Bound)
theorem zdd (w0 : World) 
    (a0 : Plan) (a1 : Int) :
    Calls Tryz.prog 190 #[.agg (zln a0).toArray, .int .i64 a1] w0 (zlE (.agg (zlI (D.zaB a0 a1)).toArray) w0) := by
 refine enter Tryz.func190 rfl 10 rfl rfl fun fr r => ?_
 have hB := Below.refl w0.heap.size w0
 refine wsr ?_
 refine zaa (.cells ((zln a0)).toArray 23 (0, 0)) r (fun R => zlC r (v := (.agg (zln a0).toArray)) rfl) rfl fun fr b1 w2 n3 r => ?_
 obtain ⟨e_b1, z_w2, h_b1, hB, zB⟩ := n3.all hB
 refine zaa (.cells ((zlI (⟨0, 0, 0⟩ : Bound))).toArray 214 (0, 0)) r (fun R => zar zmW) rfl fun fr b4 w5 n6 r => ?_
 have h_b1 := keep n6.below h_b1
 obtain ⟨e_b4, z_w5, h_b4, hB, zB⟩ := n6.all hB
 refine wn (wsr (za0 (I a1) r (fun R => za5 r rfl) rfl fun fr r => za0 _ r (fun R => za4 r (o := 0) rfl zfI) rfl fun fr r => za0 (I a0.threads) r (fun R => za2 r rfl h_b1 to3 rfl) rfl fun fr r => za0 _ r (fun R => zlt r rfl rfl rfl rfl) rfl fun fr r => za0 (.agg (zlI (⟨a1, 0, (W (a0.threads - 1))⟩ : Bound)).toArray) r (fun R => zb4 r (by kernel_rfl)) rfl fun fr r => ?_))
 refine zaf (.cells ((zlI (⟨a1, 0, (W (a0.threads - 1))⟩ : Bound))).toArray 214 (0, 0)) r (fun R => zb0 r (o := 0) (v := (.agg (zlI (⟨a1, 0, (W (a0.threads - 1))⟩ : Bound)).toArray)) rfl rfl h_b4 zmX (Nat.le_of_ble_eq_true rfl) rfl rfl) rfl fun fr w7 u8 r => ?_
 have z_w7 := u8.size
 have h_b1 := u8.keep h_b1 (by omega)
 have h_b4 := u8.at_
 obtain ⟨hB, zB⟩ := u8.on hB (by omega)
 refine wn (wp_ret ?_)
 refine zal r rfl rfl h_b4 (k := 3) rfl zmT ?_
 exact ⟨rfl, hB⟩
def D.zaX (a0 : Plan) (a1 : Int) : Int := (D.zaw a0 (IntKind.i64.wrap ((D.zax a0) + (IntKind.i64.wrap (a1 * (IntKind.i64.wrap (1 + a0.retire)))))) ([(D.zaB a0 a1)]))
theorem zck (w0 : World) 
    (a0 : Plan) (a1 : Int) :
    Calls Tryz.prog 137 #[.agg (zln a0).toArray, .int .i64 a1] w0 (zlE (.int .i64 (D.zaX a0 a1)) w0) := by
 refine enter Tryz.func137 rfl 19 rfl rfl fun fr r => ?_
 have hB := Below.refl w0.heap.size w0
 refine wsr ?_
 refine zaa (.cells ((zln a0)).toArray 23 (0, 0)) r (fun R => zlC r (v := (.agg (zln a0).toArray)) rfl) rfl fun fr b1 w2 n3 r => ?_
 obtain ⟨e_b1, z_w2, h_b1, hB, zB⟩ := n3.all hB
 refine za0 (I 0) r (fun R => za6 r rfl) rfl fun fr r => wn (wp_seq ?_)
 refine zb5 14 [.val (.agg (zln a0).toArray), .val (.agg (zln a0).toArray), .val (I (D.zax a0)), .val (I a1), .val (.pointer (some ⟨b1, 2, none⟩)), .val (I a0.retire), .val (I (W (1 + a0.retire))), .val (I (W (a1 * (W (1 + a0.retire))))), .val (I (W ((D.zax a0) + (W (a1 * (W (1 + a0.retire))))))), .val (.agg (zln a0).toArray), .val (I a1), .val (.agg (zlI (D.zaB a0 a1)).toArray), .slice w2.heap.size (.cells ((boundsC [(D.zaB a0 a1)])).toArray 214 (0, 0)) 1, .val (I (D.zaw a0 (W ((D.zax a0) + (W (a1 * (W (1 + a0.retire)))))) ([(D.zaB a0 a1)])))] mixed r (by kernel_rfl) (za3 (by exact trivial) (za3 (by exact trivial) (za3 (by exact trivial) (za3 (by exact trivial) (za3 (by exact trivial) (za3 (by exact trivial) (za3 (by exact trivial) (za3 (by exact trivial) (za3 (by exact trivial) (za3 (by exact trivial) (za3 (by exact trivial) (za3 (by exact trivial) (za3 (Nat.le_refl _) (za3 (by exact trivial) zaV)))))))))))))) ?_ ?_
 ·
  refine ec r (fun _ u _ b d s => za7 s (cs := (zln a0)) (n := 6) rfl (keep b h_b1) ta23 rfl bz) (ec r (fun _ u _ b d s => za7 s (cs := (zln a0)) (n := 6) rfl (keep b h_b1) ta23 rfl bz) (ec r (fun fr1 u w' hb' hd r' => zac r' (args := [(.agg (zln a0).toArray)]) (lc hd.1 l0) zmz ((zdp _ a0).mono (by rintro _ w2 ⟨rfl, hb2⟩; exact ⟨_, rfl, hb2, rfl⟩))) (ec r (fun _ u _ b d s => za5 s rfl bz) (ec r (fun _ u _ b d s => za4 s (b := b1) (o := 0) rfl zeJ bz) (ec r (fun _ u _ b d s => za2 s d.1 (keep b h_b1) to3 rfl bz) (ec r (fun _ u _ b d s => zlt s rfl d.1 rfl rfl bz) (ec r (fun _ u _ b d s => zlt s d.1 d.2.1 rfl rfl bz) (ec r (fun _ u _ b d s => zlt s d.1 d.2.1 rfl rfl bz) (ec r (fun _ u _ b d s => za7 s (cs := (zln a0)) (n := 6) rfl (keep b h_b1) ta23 rfl bz) (ec r (fun _ u _ b d s => za5 s rfl bz) (ec r (fun fr1 u w' hb' hd r' => zac r' (args := [(.agg (zln a0).toArray), (I a1)]) (lc hd.1 (lc hd.2.1 l0)) zmE ((zdd _ a0 a1).mono (by rintro _ w2 ⟨rfl, hb2⟩; exact ⟨_, rfl, hb2, rfl⟩))) (ec r (fun fr1 u w' hb' hd r' => zbz r' (c := ((boundsC [(D.zaB a0 a1)])).toArray) (E := 214) (bs1 (congrArg (fun z => (0, z)) hd.1) (by kernel_rfl)) (fun b w2 n2 => ⟨n2.below, b, rfl, Nat.le_of_eq n2.eq.symm, n2.at_⟩)) ?_))))))))))))
  refine zc6 r rfl (fun fr1 u w' hb' hd r' => ?_) ?_
  · obtain ⟨d0, d1, d2, d3, _⟩ := hd; obtain ⟨q2, hq2, _, hr2⟩ := d2; exact zac r' (args := [(.agg (zln a0).toArray), (I (W ((D.zax a0) + (W (a1 * (W (1 + a0.retire))))))), (.slice (some ⟨q2, 0, none⟩) 1 1)]) (lc d0 (lc d1 (lc hq2 l0))) zlZ ((zc5 _ a0 (W ((D.zax a0) + (W (a1 * (W (1 + a0.retire)))))) ([(D.zaB a0 a1)]) hr2 (by first | assumption | decide | (simp; done))).mono (by rintro _ w2 ⟨rfl, hb2⟩; exact ⟨_, rfl, hb2, rfl⟩))
  exact zbc
 ·
  intro fr u w4 hb hΦ hne r
  obtain ⟨b5, g12, e_b5, h_b5⟩ := hΦ 12 (by decide)
  have l_b5 := lt_of_block h_b5
  have r := r.congr (sc (hΦ 13 (by decide)) (sc g12 (sc (hΦ 11 (by decide)) (sc (hΦ 10 (by decide)) (sc (hΦ 9 (by decide)) (sc (hΦ 8 (by decide)) (sc (hΦ 7 (by decide)) (sc (hΦ 6 (by decide)) (sc (hΦ 5 (by decide)) (sc (hΦ 4 (by decide)) (sc (hΦ 3 (by decide)) (sc (hΦ 2 (by decide)) (sc (hΦ 1 (by decide)) (sc (hΦ 0 (by decide)) rfl))))))))))))))
  have z_w4 := hb.size
  have h_b1 := keep hb h_b1
  obtain ⟨hB, zB⟩ := bon hb hB
  refine za0 (I (D.zaw a0 (W ((D.zax a0) + (W (a1 * (W (1 + a0.retire)))))) ([(D.zaB a0 a1)]))) r (fun R => za6 r rfl) rfl fun fr r => wn (wp_ret ?_)
  refine zaA r rfl rfl ?_
  exact ⟨rfl, hB⟩
def D.zaK (a0 : Plan) (a1 : Int) (a2 : Int) : Int := (D.zaw a0 (IntKind.i64.wrap ((IntKind.i64.wrap ((IntKind.i64.wrap ((D.zax a0) + (IntKind.i64.wrap (a1 * (IntKind.i64.wrap (1 + a0.retire)))))) + 1)) + a2)) ([(D.zaB a0 a1), (⟨a2, 0, (IntKind.i64.wrap (a0.retire - 1))⟩ : Bound)]))
theorem zc8 (w0 : World) 
    (a0 : Plan) (a1 : Int) (a2 : Int) :
    Calls Tryz.prog 138 #[.agg (zln a0).toArray, .int .i64 a1, .int .i64 a2] w0 (zlE (.int .i64 (D.zaK a0 a1 a2)) w0) := by
 refine enter Tryz.func138 rfl 29 rfl rfl fun fr r => ?_
 have hB := Below.refl w0.heap.size w0
 refine wsr ?_
 refine zaa (.cells ((zln a0)).toArray 23 (0, 0)) r (fun R => zlC r (v := (.agg (zln a0).toArray)) rfl) rfl fun fr b1 w2 n3 r => ?_
 obtain ⟨e_b1, z_w2, h_b1, hB, zB⟩ := n3.all hB
 refine za0 (I 0) r (fun R => za6 r rfl) rfl fun fr r => wn (wp_seq ?_)
 refine zb5 22 [.val (.agg (zln a0).toArray), .val (.agg (zln a0).toArray), .val (I (D.zax a0)), .val (I a1), .val (.pointer (some ⟨b1, 2, none⟩)), .val (I a0.retire), .val (I (W (1 + a0.retire))), .val (I (W (a1 * (W (1 + a0.retire))))), .val (I (W ((D.zax a0) + (W (a1 * (W (1 + a0.retire))))))), .val (I (W ((W ((D.zax a0) + (W (a1 * (W (1 + a0.retire)))))) + 1))), .val (I a2), .val (I (W ((W ((W ((D.zax a0) + (W (a1 * (W (1 + a0.retire)))))) + 1)) + a2))), .val (.agg (zln a0).toArray), .val (I a1), .val (.agg (zlI (D.zaB a0 a1)).toArray), .val (I a2), .val (.pointer (some ⟨b1, 2, none⟩)), .val (I a0.retire), .val (I (W (a0.retire - 1))), .val (.agg (zlI (⟨a2, 0, (W (a0.retire - 1))⟩ : Bound)).toArray), .slice w2.heap.size (.cells ((boundsC [(D.zaB a0 a1), (⟨a2, 0, (W (a0.retire - 1))⟩ : Bound)])).toArray 214 (0, 0)) 2, .val (I (D.zaw a0 (W ((W ((W ((D.zax a0) + (W (a1 * (W (1 + a0.retire)))))) + 1)) + a2)) ([(D.zaB a0 a1), (⟨a2, 0, (W (a0.retire - 1))⟩ : Bound)])))] mixed r (by kernel_rfl) (za3 (by exact trivial) (za3 (by exact trivial) (za3 (by exact trivial) (za3 (by exact trivial) (za3 (by exact trivial) (za3 (by exact trivial) (za3 (by exact trivial) (za3 (by exact trivial) (za3 (by exact trivial) (za3 (by exact trivial) (za3 (by exact trivial) (za3 (by exact trivial) (za3 (by exact trivial) (za3 (by exact trivial) (za3 (by exact trivial) (za3 (by exact trivial) (za3 (by exact trivial) (za3 (by exact trivial) (za3 (by exact trivial) (za3 (by exact trivial) (za3 (Nat.le_refl _) (za3 (by exact trivial) zaV)))))))))))))))))))))) ?_ ?_
 ·
  refine ec r (fun _ u _ b d s => za7 s (cs := (zln a0)) (n := 6) rfl (keep b h_b1) ta23 rfl bz) (ec r (fun _ u _ b d s => za7 s (cs := (zln a0)) (n := 6) rfl (keep b h_b1) ta23 rfl bz) (ec r (fun fr1 u w' hb' hd r' => zac r' (args := [(.agg (zln a0).toArray)]) (lc hd.1 l0) zmz ((zdp _ a0).mono (by rintro _ w2 ⟨rfl, hb2⟩; exact ⟨_, rfl, hb2, rfl⟩))) (ec r (fun _ u _ b d s => za5 s rfl bz) (ec r (fun _ u _ b d s => za4 s (b := b1) (o := 0) rfl zeJ bz) (ec r (fun _ u _ b d s => za2 s d.1 (keep b h_b1) to3 rfl bz) (ec r (fun _ u _ b d s => zlt s rfl d.1 rfl rfl bz) (ec r (fun _ u _ b d s => zlt s d.1 d.2.1 rfl rfl bz) (ec r (fun _ u _ b d s => zlt s d.1 d.2.1 rfl rfl bz) (ec r (fun _ u _ b d s => zlt s d.1 rfl rfl rfl bz) (ec r (fun _ u _ b d s => za5 s rfl bz) (ec r (fun _ u _ b d s => zlt s d.1 d.2.1 rfl rfl bz) (ec r (fun _ u _ b d s => za7 s (cs := (zln a0)) (n := 6) rfl (keep b h_b1) ta23 rfl bz) (ec r (fun _ u _ b d s => za5 s rfl bz) (ec r (fun fr1 u w' hb' hd r' => zac r' (args := [(.agg (zln a0).toArray), (I a1)]) (lc hd.1 (lc hd.2.1 l0)) zmE ((zdd _ a0 a1).mono (by rintro _ w2 ⟨rfl, hb2⟩; exact ⟨_, rfl, hb2, rfl⟩))) (ec r (fun _ u _ b d s => za5 s rfl bz) (ec r (fun _ u _ b d s => za4 s (b := b1) (o := 0) rfl zeJ bz) (ec r (fun _ u _ b d s => za2 s d.1 (keep b h_b1) to3 rfl bz) (ec r (fun _ u _ b d s => zlt s d.1 rfl rfl rfl bz) (ec r (fun fr1 u w' hb' hd r' => zb4 r' (v := (.agg (zlI (⟨a2, 0, (W (a0.retire - 1))⟩ : Bound)).toArray)) (bs3 (congrArg (fun z => (0, z)) hd.1) (rfl) (congrArg (fun z => (2, z)) hd.2.1) (by kernel_rfl)) bz) (ec r (fun fr1 u w' hb' hd r' => zbz r' (c := ((boundsC [(D.zaB a0 a1), (⟨a2, 0, (W (a0.retire - 1))⟩ : Bound)])).toArray) (E := 214) (bs2 (congrArg (fun z => (0, z)) hd.1) (congrArg (fun z => (1, z)) hd.2.1) (by kernel_rfl)) (fun b w2 n2 => ⟨n2.below, b, rfl, Nat.le_of_eq n2.eq.symm, n2.at_⟩)) ?_))))))))))))))))))))
  refine zc6 r rfl (fun fr1 u w' hb' hd r' => ?_) ?_
  · obtain ⟨d0, d1, d2, d3, _⟩ := hd; obtain ⟨q2, hq2, _, hr2⟩ := d2; exact zac r' (args := [(.agg (zln a0).toArray), (I (W ((W ((W ((D.zax a0) + (W (a1 * (W (1 + a0.retire)))))) + 1)) + a2))), (.slice (some ⟨q2, 0, none⟩) 2 2)]) (lc d0 (lc d1 (lc hq2 l0))) zlZ ((zc5 _ a0 (W ((W ((W ((D.zax a0) + (W (a1 * (W (1 + a0.retire)))))) + 1)) + a2)) ([(D.zaB a0 a1), (⟨a2, 0, (W (a0.retire - 1))⟩ : Bound)]) hr2 (by first | assumption | decide | (simp; done))).mono (by rintro _ w2 ⟨rfl, hb2⟩; exact ⟨_, rfl, hb2, rfl⟩))
  exact zbc
 ·
  intro fr u w4 hb hΦ hne r
  obtain ⟨b5, g20, e_b5, h_b5⟩ := hΦ 20 (by decide)
  have l_b5 := lt_of_block h_b5
  have r := r.congr (sc (hΦ 21 (by decide)) (sc g20 (sc (hΦ 19 (by decide)) (sc (hΦ 18 (by decide)) (sc (hΦ 17 (by decide)) (sc (hΦ 16 (by decide)) (sc (hΦ 15 (by decide)) (sc (hΦ 14 (by decide)) (sc (hΦ 13 (by decide)) (sc (hΦ 12 (by decide)) (sc (hΦ 11 (by decide)) (sc (hΦ 10 (by decide)) (sc (hΦ 9 (by decide)) (sc (hΦ 8 (by decide)) (sc (hΦ 7 (by decide)) (sc (hΦ 6 (by decide)) (sc (hΦ 5 (by decide)) (sc (hΦ 4 (by decide)) (sc (hΦ 3 (by decide)) (sc (hΦ 2 (by decide)) (sc (hΦ 1 (by decide)) (sc (hΦ 0 (by decide)) rfl))))))))))))))))))))))
  have z_w4 := hb.size
  have h_b1 := keep hb h_b1
  obtain ⟨hB, zB⟩ := bon hb hB
  refine za0 (I (D.zaw a0 (W ((W ((W ((D.zax a0) + (W (a1 * (W (1 + a0.retire)))))) + 1)) + a2)) ([(D.zaB a0 a1), (⟨a2, 0, (W (a0.retire - 1))⟩ : Bound)]))) r (fun R => za6 r rfl) rfl fun fr r => wn (wp_ret ?_)
  refine zaA r rfl rfl ?_
  exact ⟨rfl, hB⟩
def D.zbY (a0 : Plan) (a1 : Int) (a2 : Int) : Int := (D.zaw a0 (IntKind.i64.wrap ((IntKind.i64.wrap ((D.zam a0) + (IntKind.i64.wrap (a1 * 3)))) + a2)) ([(D.zaB a0 a1), (⟨a2, 0, 2⟩ : Bound)]))
theorem zfU (w0 : World) 
    (a0 : Plan) (a1 : Int) (a2 : Int) :
    Calls Tryz.prog 88 #[.agg (zln a0).toArray, .int .i64 a1, .int .i64 a2] w0 (zlE (.int .i64 (D.zbY a0 a1 a2)) w0) := by
 refine enter Tryz.func88 rfl 22 rfl rfl fun fr r => ?_
 have hB := Below.refl w0.heap.size w0
 refine wsr ?_
 refine zaa (.cells ((zln a0)).toArray 23 (0, 0)) r (fun R => zlC r (v := (.agg (zln a0).toArray)) rfl) rfl fun fr b1 w2 n3 r => ?_
 obtain ⟨e_b1, z_w2, h_b1, hB, zB⟩ := n3.all hB
 refine za0 (I 0) r (fun R => za6 r rfl) rfl fun fr r => wn (wp_seq ?_)
 refine zb5 15 [.val (.agg (zln a0).toArray), .val (.agg (zln a0).toArray), .val (I (D.zam a0)), .val (I a1), .val (I (W (a1 * 3))), .val (I (W ((D.zam a0) + (W (a1 * 3))))), .val (I a2), .val (I (W ((W ((D.zam a0) + (W (a1 * 3)))) + a2))), .val (.agg (zln a0).toArray), .val (I a1), .val (.agg (zlI (D.zaB a0 a1)).toArray), .val (I a2), .val (.agg (zlI (⟨a2, 0, 2⟩ : Bound)).toArray), .slice w2.heap.size (.cells ((boundsC [(D.zaB a0 a1), (⟨a2, 0, 2⟩ : Bound)])).toArray 214 (0, 0)) 2, .val (I (D.zaw a0 (W ((W ((D.zam a0) + (W (a1 * 3)))) + a2)) ([(D.zaB a0 a1), (⟨a2, 0, 2⟩ : Bound)])))] mixed r (by kernel_rfl) (za3 (by exact trivial) (za3 (by exact trivial) (za3 (by exact trivial) (za3 (by exact trivial) (za3 (by exact trivial) (za3 (by exact trivial) (za3 (by exact trivial) (za3 (by exact trivial) (za3 (by exact trivial) (za3 (by exact trivial) (za3 (by exact trivial) (za3 (by exact trivial) (za3 (by exact trivial) (za3 (Nat.le_refl _) (za3 (by exact trivial) zaV))))))))))))))) ?_ ?_
 ·
  refine ec r (fun _ u _ b d s => za7 s (cs := (zln a0)) (n := 6) rfl (keep b h_b1) ta23 rfl bz) (ec r (fun _ u _ b d s => za7 s (cs := (zln a0)) (n := 6) rfl (keep b h_b1) ta23 rfl bz) (ec r (fun fr1 u w' hb' hd r' => zac r' (args := [(.agg (zln a0).toArray)]) (lc hd.1 l0) znr ((zdZ _ a0).mono (by rintro _ w2 ⟨rfl, hb2⟩; exact ⟨_, rfl, hb2, rfl⟩))) (ec r (fun _ u _ b d s => za5 s rfl bz) (ec r (fun _ u _ b d s => zlt s d.1 rfl rfl rfl bz) (ec r (fun _ u _ b d s => zlt s d.1 d.2.1 rfl rfl bz) (ec r (fun _ u _ b d s => za5 s rfl bz) (ec r (fun _ u _ b d s => zlt s d.1 d.2.1 rfl rfl bz) (ec r (fun _ u _ b d s => za7 s (cs := (zln a0)) (n := 6) rfl (keep b h_b1) ta23 rfl bz) (ec r (fun _ u _ b d s => za5 s rfl bz) (ec r (fun fr1 u w' hb' hd r' => zac r' (args := [(.agg (zln a0).toArray), (I a1)]) (lc hd.1 (lc hd.2.1 l0)) zmE ((zdd _ a0 a1).mono (by rintro _ w2 ⟨rfl, hb2⟩; exact ⟨_, rfl, hb2, rfl⟩))) (ec r (fun _ u _ b d s => za5 s rfl bz) (ec r (fun fr1 u w' hb' hd r' => zb4 r' (v := (.agg (zlI (⟨a2, 0, 2⟩ : Bound)).toArray)) (bs3 (congrArg (fun z => (0, z)) hd.1) (rfl) (rfl) (by kernel_rfl)) bz) (ec r (fun fr1 u w' hb' hd r' => zbz r' (c := ((boundsC [(D.zaB a0 a1), (⟨a2, 0, 2⟩ : Bound)])).toArray) (E := 214) (bs2 (congrArg (fun z => (0, z)) hd.1) (congrArg (fun z => (1, z)) hd.2.1) (by kernel_rfl)) (fun b w2 n2 => ⟨n2.below, b, rfl, Nat.le_of_eq n2.eq.symm, n2.at_⟩)) ?_)))))))))))))
  refine zc6 r rfl (fun fr1 u w' hb' hd r' => ?_) ?_
  · obtain ⟨d0, d1, d2, d3, _⟩ := hd; obtain ⟨q2, hq2, _, hr2⟩ := d2; exact zac r' (args := [(.agg (zln a0).toArray), (I (W ((W ((D.zam a0) + (W (a1 * 3)))) + a2))), (.slice (some ⟨q2, 0, none⟩) 2 2)]) (lc d0 (lc d1 (lc hq2 l0))) zlZ ((zc5 _ a0 (W ((W ((D.zam a0) + (W (a1 * 3)))) + a2)) ([(D.zaB a0 a1), (⟨a2, 0, 2⟩ : Bound)]) hr2 (by first | assumption | decide | (simp; done))).mono (by rintro _ w2 ⟨rfl, hb2⟩; exact ⟨_, rfl, hb2, rfl⟩))
  exact zbc
 ·
  intro fr u w4 hb hΦ hne r
  obtain ⟨b5, g13, e_b5, h_b5⟩ := hΦ 13 (by decide)
  have l_b5 := lt_of_block h_b5
  have r := r.congr (sc (hΦ 14 (by decide)) (sc g13 (sc (hΦ 12 (by decide)) (sc (hΦ 11 (by decide)) (sc (hΦ 10 (by decide)) (sc (hΦ 9 (by decide)) (sc (hΦ 8 (by decide)) (sc (hΦ 7 (by decide)) (sc (hΦ 6 (by decide)) (sc (hΦ 5 (by decide)) (sc (hΦ 4 (by decide)) (sc (hΦ 3 (by decide)) (sc (hΦ 2 (by decide)) (sc (hΦ 1 (by decide)) (sc (hΦ 0 (by decide)) rfl)))))))))))))))
  have z_w4 := hb.size
  have h_b1 := keep hb h_b1
  obtain ⟨hB, zB⟩ := bon hb hB
  refine za0 (I (D.zaw a0 (W ((W ((D.zam a0) + (W (a1 * 3)))) + a2)) ([(D.zaB a0 a1), (⟨a2, 0, 2⟩ : Bound)]))) r (fun R => za6 r rfl) rfl fun fr r => wn (wp_ret ?_)
  refine zaA r rfl rfl ?_
  exact ⟨rfl, hB⟩
def D.zc9 (a0 : Plan) (a1 : Int) (a2 : Int) : Int := (D.zaw a0 (IntKind.i64.wrap ((IntKind.i64.wrap ((IntKind.i64.wrap ((D.za8 a0) + (IntKind.i64.wrap (a1 * 5)))) + 2)) + a2)) ([(D.zaJ a0 a1), (⟨a2, 0, 2⟩ : Bound)]))
theorem zgf (w0 : World) 
    (a0 : Plan) (a1 : Int) (a2 : Int) :
    Calls Tryz.prog 140 #[.agg (zln a0).toArray, .int .i64 a1, .int .i64 a2] w0 (zlE (.int .i64 (D.zc9 a0 a1 a2)) w0) := by
 refine enter Tryz.func140 rfl 23 rfl rfl fun fr r => ?_
 have hB := Below.refl w0.heap.size w0
 refine wsr ?_
 refine zaa (.cells ((zln a0)).toArray 23 (0, 0)) r (fun R => zlC r (v := (.agg (zln a0).toArray)) rfl) rfl fun fr b1 w2 n3 r => ?_
 obtain ⟨e_b1, z_w2, h_b1, hB, zB⟩ := n3.all hB
 refine za0 (I 0) r (fun R => za6 r rfl) rfl fun fr r => wn (wp_seq ?_)
 refine zb5 16 [.val (.agg (zln a0).toArray), .val (.agg (zln a0).toArray), .val (I (D.za8 a0)), .val (I a1), .val (I (W (a1 * 5))), .val (I (W ((D.za8 a0) + (W (a1 * 5))))), .val (I (W ((W ((D.za8 a0) + (W (a1 * 5)))) + 2))), .val (I a2), .val (I (W ((W ((W ((D.za8 a0) + (W (a1 * 5)))) + 2)) + a2))), .val (.agg (zln a0).toArray), .val (I a1), .val (.agg (zlI (D.zaJ a0 a1)).toArray), .val (I a2), .val (.agg (zlI (⟨a2, 0, 2⟩ : Bound)).toArray), .slice w2.heap.size (.cells ((boundsC [(D.zaJ a0 a1), (⟨a2, 0, 2⟩ : Bound)])).toArray 214 (0, 0)) 2, .val (I (D.zaw a0 (W ((W ((W ((D.za8 a0) + (W (a1 * 5)))) + 2)) + a2)) ([(D.zaJ a0 a1), (⟨a2, 0, 2⟩ : Bound)])))] mixed r (by kernel_rfl) (za3 (by exact trivial) (za3 (by exact trivial) (za3 (by exact trivial) (za3 (by exact trivial) (za3 (by exact trivial) (za3 (by exact trivial) (za3 (by exact trivial) (za3 (by exact trivial) (za3 (by exact trivial) (za3 (by exact trivial) (za3 (by exact trivial) (za3 (by exact trivial) (za3 (by exact trivial) (za3 (by exact trivial) (za3 (Nat.le_refl _) (za3 (by exact trivial) zaV)))))))))))))))) ?_ ?_
 ·
  refine ec r (fun _ u _ b d s => za7 s (cs := (zln a0)) (n := 6) rfl (keep b h_b1) ta23 rfl bz) (ec r (fun _ u _ b d s => za7 s (cs := (zln a0)) (n := 6) rfl (keep b h_b1) ta23 rfl bz) (ec r (fun fr1 u w' hb' hd r' => zac r' (args := [(.agg (zln a0).toArray)]) (lc hd.1 l0) zmt ((zcP _ a0).mono (by rintro _ w2 ⟨rfl, hb2⟩; exact ⟨_, rfl, hb2, rfl⟩))) (ec r (fun _ u _ b d s => za5 s rfl bz) (ec r (fun _ u _ b d s => zlt s d.1 rfl rfl rfl bz) (ec r (fun _ u _ b d s => zlt s d.1 d.2.1 rfl rfl bz) (ec r (fun _ u _ b d s => zlt s d.1 rfl rfl rfl bz) (ec r (fun _ u _ b d s => za5 s rfl bz) (ec r (fun _ u _ b d s => zlt s d.1 d.2.1 rfl rfl bz) (ec r (fun _ u _ b d s => za7 s (cs := (zln a0)) (n := 6) rfl (keep b h_b1) ta23 rfl bz) (ec r (fun _ u _ b d s => za5 s rfl bz) (ec r (fun fr1 u w' hb' hd r' => zac r' (args := [(.agg (zln a0).toArray), (I a1)]) (lc hd.1 (lc hd.2.1 l0)) zmC ((zdD _ a0 a1).mono (by rintro _ w2 ⟨rfl, hb2⟩; exact ⟨_, rfl, hb2, rfl⟩))) (ec r (fun _ u _ b d s => za5 s rfl bz) (ec r (fun fr1 u w' hb' hd r' => zb4 r' (v := (.agg (zlI (⟨a2, 0, 2⟩ : Bound)).toArray)) (bs3 (congrArg (fun z => (0, z)) hd.1) (rfl) (rfl) (by kernel_rfl)) bz) (ec r (fun fr1 u w' hb' hd r' => zbz r' (c := ((boundsC [(D.zaJ a0 a1), (⟨a2, 0, 2⟩ : Bound)])).toArray) (E := 214) (bs2 (congrArg (fun z => (0, z)) hd.1) (congrArg (fun z => (1, z)) hd.2.1) (by kernel_rfl)) (fun b w2 n2 => ⟨n2.below, b, rfl, Nat.le_of_eq n2.eq.symm, n2.at_⟩)) ?_))))))))))))))
  refine zc6 r rfl (fun fr1 u w' hb' hd r' => ?_) ?_
  · obtain ⟨d0, d1, d2, d3, _⟩ := hd; obtain ⟨q2, hq2, _, hr2⟩ := d2; exact zac r' (args := [(.agg (zln a0).toArray), (I (W ((W ((W ((D.za8 a0) + (W (a1 * 5)))) + 2)) + a2))), (.slice (some ⟨q2, 0, none⟩) 2 2)]) (lc d0 (lc d1 (lc hq2 l0))) zlZ ((zc5 _ a0 (W ((W ((W ((D.za8 a0) + (W (a1 * 5)))) + 2)) + a2)) ([(D.zaJ a0 a1), (⟨a2, 0, 2⟩ : Bound)]) hr2 (by first | assumption | decide | (simp; done))).mono (by rintro _ w2 ⟨rfl, hb2⟩; exact ⟨_, rfl, hb2, rfl⟩))
  exact zbc
 ·
  intro fr u w4 hb hΦ hne r
  obtain ⟨b5, g14, e_b5, h_b5⟩ := hΦ 14 (by decide)
  have l_b5 := lt_of_block h_b5
  have r := r.congr (sc (hΦ 15 (by decide)) (sc g14 (sc (hΦ 13 (by decide)) (sc (hΦ 12 (by decide)) (sc (hΦ 11 (by decide)) (sc (hΦ 10 (by decide)) (sc (hΦ 9 (by decide)) (sc (hΦ 8 (by decide)) (sc (hΦ 7 (by decide)) (sc (hΦ 6 (by decide)) (sc (hΦ 5 (by decide)) (sc (hΦ 4 (by decide)) (sc (hΦ 3 (by decide)) (sc (hΦ 2 (by decide)) (sc (hΦ 1 (by decide)) (sc (hΦ 0 (by decide)) rfl))))))))))))))))
  have z_w4 := hb.size
  have h_b1 := keep hb h_b1
  obtain ⟨hB, zB⟩ := bon hb hB
  refine za0 (I (D.zaw a0 (W ((W ((W ((D.za8 a0) + (W (a1 * 5)))) + 2)) + a2)) ([(D.zaJ a0 a1), (⟨a2, 0, 2⟩ : Bound)]))) r (fun R => za6 r rfl) rfl fun fr r => wn (wp_ret ?_)
  refine zaA r rfl rfl ?_
  exact ⟨rfl, hB⟩
def D.zav (a0 : Plan) : Bool := (bif (decide (a0.nodes < 1)) then false else (bif (decide (a0.nodes > 1048576)) then false else (bif (decide (a0.threads < 1)) then false else (bif (decide (a0.threads > 16)) then false else (bif (decide (a0.domains < 0)) then false else (bif (decide (a0.domains > 64)) then false else (bif (decide (a0.buckets ≥ 1)) then (bif (decide (a0.buckets ≤ 256)) then (bif (decide (a0.gen ≥ 1)) then (bif (decide (a0.gen ≤ 1073741823)) then (bif (decide (a0.retire > (IntKind.i64.wrap (3 * a0.threads)))) then (decide (a0.retire ≤ 1024)) else false) else false) else false) else false) else false)))))))
theorem zdC (w0 : World) 
    (a0 : Plan) :
    Calls Tryz.prog 103 #[.agg (zln a0).toArray] w0 (zlE (.bool (D.zav a0)) w0) := by
 refine enter Tryz.func103 rfl 62 rfl rfl fun fr r => ?_
 have hB := Below.refl w0.heap.size w0
 refine wsr ?_
 refine zaa (.cells ((zln a0)).toArray 23 (0, 0)) r (fun R => zlC r (v := (.agg (zln a0).toArray)) rfl) rfl fun fr b1 w2 n3 r => ?_
 obtain ⟨e_b1, z_w2, h_b1, hB, zB⟩ := n3.all hB
 refine za0 (.bool false) r (fun R => za6 r rfl) rfl fun fr r => wn (wp_seq (wsr (za0 _ r (fun R => za4 r (o := 0) rfl zec) rfl fun fr r => za0 (I a0.nodes) r (fun R => za2 r rfl h_b1 to3 rfl) rfl fun fr r => za0 _ r (fun R => zlt r rfl rfl rfl rfl) rfl fun fr r => za0 (.bool (decide (a0.nodes < 1))) r (fun R => za5 r rfl) rfl fun fr r => ?_)))
 refine zay (decide (a0.nodes < 1)) (fun h4 => ?_) (fun h4 => ?_)
 ·
  refine s0 r h4 fun fr r => s0 r h4 fun fr r => s0 r h4 fun fr r => za0 (.bool true) r (fun R => zai r (b := true) (congrArg Value.bool h4) rfl) rfl fun fr r => za0 (.bool true) r (fun R => za5 r rfl) rfl fun fr r => s0 r (rfl : true = _) fun fr r => s0 r (rfl : true = _) fun fr r => s0 r (rfl : true = _) fun fr r => za0 (.bool true) r (fun R => zai r (b := true) (congrArg Value.bool (rfl : true = _)) rfl) rfl fun fr r => za0 (.bool true) r (fun R => za5 r rfl) rfl fun fr r => s0 r (rfl : true = _) fun fr r => s0 r (rfl : true = _) fun fr r => s0 r (rfl : true = _) fun fr r => za0 (.bool true) r (fun R => zai r (b := true) (congrArg Value.bool (rfl : true = _)) rfl) rfl fun fr r => za0 (.bool true) r (fun R => za5 r rfl) rfl fun fr r => s0 r (rfl : true = _) fun fr r => s0 r (rfl : true = _) fun fr r => s0 r (rfl : true = _) fun fr r => za0 (.bool true) r (fun R => zai r (b := true) (congrArg Value.bool (rfl : true = _)) rfl) rfl fun fr r => za0 (.bool true) r (fun R => za5 r rfl) rfl fun fr r => s0 r (rfl : true = _) fun fr r => s0 r (rfl : true = _) fun fr r => s0 r (rfl : true = _) fun fr r => za0 (.bool true) r (fun R => zai r (b := true) (congrArg Value.bool (rfl : true = _)) rfl) rfl fun fr r => wn ?_
  refine wp_cond_split (t := true) (r.ev rfl) (fun _ => ?_) (fun h => absurd ((rfl : true = _).symm.trans h) (by decide))
  refine wsr (za0 (.bool false) r (fun R => za6 r rfl) rfl fun fr r => wn (wp_ret ?_))
  have hd : D.zav a0 = false := (zao h4).trans (rfl)
  refine zaA r rfl rfl ?_
  rw [hd]
  exact ⟨rfl, hB⟩
 ·
  refine s1 r h4 (za0 _ r (fun R => za4 r (o := 0) rfl zec) rfl fun fr r => s1 r h4 (za0 (I a0.nodes) r (fun R => za2 r rfl h_b1 to3 rfl) rfl fun fr r => s1 r h4 (za0 _ r (fun R => zlt r rfl rfl rfl rfl) rfl fun fr r => za0 (.bool (decide (a0.nodes > 1048576))) r (fun R => zai r (b := false) (congrArg Value.bool h4) rfl) rfl fun fr r => za0 (.bool (decide (a0.nodes > 1048576))) r (fun R => za5 r rfl) rfl fun fr r => ?_)))
  refine zay (decide (a0.nodes > 1048576)) (fun h5 => ?_) (fun h5 => ?_)
  ·
   refine s0 r h5 fun fr r => s0 r h5 fun fr r => s0 r h5 fun fr r => za0 (.bool true) r (fun R => zai r (b := true) (congrArg Value.bool h5) rfl) rfl fun fr r => za0 (.bool true) r (fun R => za5 r rfl) rfl fun fr r => s0 r (rfl : true = _) fun fr r => s0 r (rfl : true = _) fun fr r => s0 r (rfl : true = _) fun fr r => za0 (.bool true) r (fun R => zai r (b := true) (congrArg Value.bool (rfl : true = _)) rfl) rfl fun fr r => za0 (.bool true) r (fun R => za5 r rfl) rfl fun fr r => s0 r (rfl : true = _) fun fr r => s0 r (rfl : true = _) fun fr r => s0 r (rfl : true = _) fun fr r => za0 (.bool true) r (fun R => zai r (b := true) (congrArg Value.bool (rfl : true = _)) rfl) rfl fun fr r => za0 (.bool true) r (fun R => za5 r rfl) rfl fun fr r => s0 r (rfl : true = _) fun fr r => s0 r (rfl : true = _) fun fr r => s0 r (rfl : true = _) fun fr r => za0 (.bool true) r (fun R => zai r (b := true) (congrArg Value.bool (rfl : true = _)) rfl) rfl fun fr r => wn ?_
   refine wp_cond_split (t := true) (r.ev rfl) (fun _ => ?_) (fun h => absurd ((rfl : true = _).symm.trans h) (by decide))
   refine wsr (za0 (.bool false) r (fun R => za6 r rfl) rfl fun fr r => wn (wp_ret ?_))
   have hd : D.zav a0 = false := (zah h4).trans ((zao h5).trans (rfl))
   refine zaA r rfl rfl ?_
   rw [hd]
   exact ⟨rfl, hB⟩
  ·
   refine s1 r h5 (za0 _ r (fun R => za4 r (o := 0) rfl zfI) rfl fun fr r => s1 r h5 (za0 (I a0.threads) r (fun R => za2 r rfl h_b1 to3 rfl) rfl fun fr r => s1 r h5 (za0 _ r (fun R => zlt r rfl rfl rfl rfl) rfl fun fr r => za0 (.bool (decide (a0.threads < 1))) r (fun R => zai r (b := false) (congrArg Value.bool h5) rfl) rfl fun fr r => za0 (.bool (decide (a0.threads < 1))) r (fun R => za5 r rfl) rfl fun fr r => ?_)))
   refine zay (decide (a0.threads < 1)) (fun h6 => ?_) (fun h6 => ?_)
   ·
    refine s0 r h6 fun fr r => s0 r h6 fun fr r => s0 r h6 fun fr r => za0 (.bool true) r (fun R => zai r (b := true) (congrArg Value.bool h6) rfl) rfl fun fr r => za0 (.bool true) r (fun R => za5 r rfl) rfl fun fr r => s0 r (rfl : true = _) fun fr r => s0 r (rfl : true = _) fun fr r => s0 r (rfl : true = _) fun fr r => za0 (.bool true) r (fun R => zai r (b := true) (congrArg Value.bool (rfl : true = _)) rfl) rfl fun fr r => za0 (.bool true) r (fun R => za5 r rfl) rfl fun fr r => s0 r (rfl : true = _) fun fr r => s0 r (rfl : true = _) fun fr r => s0 r (rfl : true = _) fun fr r => za0 (.bool true) r (fun R => zai r (b := true) (congrArg Value.bool (rfl : true = _)) rfl) rfl fun fr r => wn ?_
    refine wp_cond_split (t := true) (r.ev rfl) (fun _ => ?_) (fun h => absurd ((rfl : true = _).symm.trans h) (by decide))
    refine wsr (za0 (.bool false) r (fun R => za6 r rfl) rfl fun fr r => wn (wp_ret ?_))
    have hd : D.zav a0 = false := (zah h4).trans ((zah h5).trans ((zao h6).trans (rfl)))
    refine zaA r rfl rfl ?_
    rw [hd]
    exact ⟨rfl, hB⟩
   ·
    refine s1 r h6 (za0 _ r (fun R => za4 r (o := 0) rfl zfI) rfl fun fr r => s1 r h6 (za0 (I a0.threads) r (fun R => za2 r rfl h_b1 to3 rfl) rfl fun fr r => s1 r h6 (za0 _ r (fun R => zlt r rfl rfl rfl rfl) rfl fun fr r => za0 (.bool (decide (a0.threads > 16))) r (fun R => zai r (b := false) (congrArg Value.bool h6) rfl) rfl fun fr r => za0 (.bool (decide (a0.threads > 16))) r (fun R => za5 r rfl) rfl fun fr r => ?_)))
    refine zay (decide (a0.threads > 16)) (fun h7 => ?_) (fun h7 => ?_)
    ·
     refine s0 r h7 fun fr r => s0 r h7 fun fr r => s0 r h7 fun fr r => za0 (.bool true) r (fun R => zai r (b := true) (congrArg Value.bool h7) rfl) rfl fun fr r => za0 (.bool true) r (fun R => za5 r rfl) rfl fun fr r => s0 r (rfl : true = _) fun fr r => s0 r (rfl : true = _) fun fr r => s0 r (rfl : true = _) fun fr r => za0 (.bool true) r (fun R => zai r (b := true) (congrArg Value.bool (rfl : true = _)) rfl) rfl fun fr r => wn ?_
     refine wp_cond_split (t := true) (r.ev rfl) (fun _ => ?_) (fun h => absurd ((rfl : true = _).symm.trans h) (by decide))
     refine wsr (za0 (.bool false) r (fun R => za6 r rfl) rfl fun fr r => wn (wp_ret ?_))
     have hd : D.zav a0 = false := (zah h4).trans ((zah h5).trans ((zah h6).trans ((zao h7).trans (rfl))))
     refine zaA r rfl rfl ?_
     rw [hd]
     exact ⟨rfl, hB⟩
    ·
     refine s1 r h7 (za0 _ r (fun R => za4 r (o := 0) rfl zi4) rfl fun fr r => s1 r h7 (za0 (I a0.domains) r (fun R => za2 r rfl h_b1 to3 rfl) rfl fun fr r => s1 r h7 (za0 _ r (fun R => zlt r rfl rfl rfl rfl) rfl fun fr r => za0 (.bool (decide (a0.domains < 0))) r (fun R => zai r (b := false) (congrArg Value.bool h7) rfl) rfl fun fr r => za0 (.bool (decide (a0.domains < 0))) r (fun R => za5 r rfl) rfl fun fr r => ?_)))
     refine zay (decide (a0.domains < 0)) (fun h8 => ?_) (fun h8 => ?_)
     ·
      refine s0 r h8 fun fr r => s0 r h8 fun fr r => s0 r h8 fun fr r => za0 (.bool true) r (fun R => zai r (b := true) (congrArg Value.bool h8) rfl) rfl fun fr r => wn ?_
      refine wp_cond_split (t := true) (r.ev rfl) (fun _ => ?_) (fun h => absurd ((rfl : true = _).symm.trans h) (by decide))
      refine wsr (za0 (.bool false) r (fun R => za6 r rfl) rfl fun fr r => wn (wp_ret ?_))
      have hd : D.zav a0 = false := (zah h4).trans ((zah h5).trans ((zah h6).trans ((zah h7).trans ((zao h8).trans (rfl)))))
      refine zaA r rfl rfl ?_
      rw [hd]
      exact ⟨rfl, hB⟩
     ·
      refine s1 r h8 (za0 _ r (fun R => za4 r (o := 0) rfl zi4) rfl fun fr r => s1 r h8 (za0 (I a0.domains) r (fun R => za2 r rfl h_b1 to3 rfl) rfl fun fr r => s1 r h8 (za0 _ r (fun R => zlt r rfl rfl rfl rfl) rfl fun fr r => za0 (.bool (decide (a0.domains > 64))) r (fun R => zai r (b := false) (congrArg Value.bool h8) rfl) rfl fun fr r => wn ?_)))
      refine wp_cond_split (t := (decide (a0.domains > 64))) (r.ev rfl) (fun h9 => ?_) (fun h9 => ?_)
      ·
       refine wsr (za0 (.bool false) r (fun R => za6 r rfl) rfl fun fr r => wn (wp_ret ?_))
       have hd : D.zav a0 = false := (zah h4).trans ((zah h5).trans ((zah h6).trans ((zah h7).trans ((zah h8).trans ((zao h9).trans (rfl))))))
       refine zaA r rfl rfl ?_
       rw [hd]
       exact ⟨rfl, hB⟩
      ·
       refine wp_skip (wsr (za0 _ r (fun R => za4 r (o := 0) rfl zim) rfl fun fr r => za0 (I a0.buckets) r (fun R => za2 r rfl h_b1 to3 rfl) rfl fun fr r => za0 _ r (fun R => zlt r rfl rfl rfl rfl) rfl fun fr r => za0 (.bool (decide (a0.buckets ≥ 1))) r (fun R => za5 r rfl) rfl fun fr r => ?_))
       refine zay (decide (a0.buckets ≥ 1)) (fun h10 => ?_) (fun h10 => ?_)
       ·
        refine s1 r h10 (za0 _ r (fun R => za4 r (o := 0) rfl zim) rfl fun fr r => s1 r h10 (za0 (I a0.buckets) r (fun R => za2 r rfl h_b1 to3 rfl) rfl fun fr r => s1 r h10 (za0 _ r (fun R => zlt r rfl rfl rfl rfl) rfl fun fr r => za0 (.bool (decide (a0.buckets ≤ 256))) r (fun R => zai r (b := true) (congrArg Value.bool h10) rfl) rfl fun fr r => za0 (.bool (decide (a0.buckets ≤ 256))) r (fun R => za5 r rfl) rfl fun fr r => ?_)))
        refine zay (decide (a0.buckets ≤ 256)) (fun h11 => ?_) (fun h11 => ?_)
        ·
         refine s1 r h11 (za0 _ r (fun R => za4 r (o := 0) rfl zi9) rfl fun fr r => s1 r h11 (za0 (I a0.gen) r (fun R => za2 r rfl h_b1 to3 rfl) rfl fun fr r => s1 r h11 (za0 _ r (fun R => zlt r rfl rfl rfl rfl) rfl fun fr r => za0 (.bool (decide (a0.gen ≥ 1))) r (fun R => zai r (b := true) (congrArg Value.bool h11) rfl) rfl fun fr r => za0 (.bool (decide (a0.gen ≥ 1))) r (fun R => za5 r rfl) rfl fun fr r => ?_)))
         refine zay (decide (a0.gen ≥ 1)) (fun h12 => ?_) (fun h12 => ?_)
         ·
          refine s1 r h12 (za0 _ r (fun R => za4 r (o := 0) rfl zi9) rfl fun fr r => s1 r h12 (za0 (I a0.gen) r (fun R => za2 r rfl h_b1 to3 rfl) rfl fun fr r => s1 r h12 (za0 _ r (fun R => zlt r rfl rfl rfl rfl) rfl fun fr r => za0 (.bool (decide (a0.gen ≤ 1073741823))) r (fun R => zai r (b := true) (congrArg Value.bool h12) rfl) rfl fun fr r => za0 (.bool (decide (a0.gen ≤ 1073741823))) r (fun R => za5 r rfl) rfl fun fr r => ?_)))
          refine zay (decide (a0.gen ≤ 1073741823)) (fun h13 => ?_) (fun h13 => ?_)
          ·
           refine s1 r h13 (za0 _ r (fun R => za4 r (o := 0) rfl zeJ) rfl fun fr r => s1 r h13 (za0 (I a0.retire) r (fun R => za2 r rfl h_b1 to3 rfl) rfl fun fr r => s1 r h13 (za0 _ r (fun R => za4 r (o := 0) rfl zfI) rfl fun fr r => s1 r h13 (za0 (I a0.threads) r (fun R => za2 r rfl h_b1 to3 rfl) rfl fun fr r => s1 r h13 (za0 _ r (fun R => zlt r rfl rfl rfl rfl) rfl fun fr r => s1 r h13 (za0 _ r (fun R => zlt r rfl rfl rfl rfl) rfl fun fr r => za0 (.bool (decide (a0.retire > (W (3 * a0.threads))))) r (fun R => zai r (b := true) (congrArg Value.bool h13) rfl) rfl fun fr r => za0 (.bool (decide (a0.retire > (W (3 * a0.threads))))) r (fun R => za5 r rfl) rfl fun fr r => ?_))))))
           refine zay (decide (a0.retire > (W (3 * a0.threads)))) (fun h14 => ?_) (fun h14 => ?_)
           ·
            refine s1 r h14 (za0 _ r (fun R => za4 r (o := 0) rfl zeJ) rfl fun fr r => s1 r h14 (za0 (I a0.retire) r (fun R => za2 r rfl h_b1 to3 rfl) rfl fun fr r => s1 r h14 (za0 _ r (fun R => zlt r rfl rfl rfl rfl) rfl fun fr r => za0 (.bool (decide (a0.retire ≤ 1024))) r (fun R => zai r (b := true) (congrArg Value.bool h14) rfl) rfl fun fr r => za0 (.bool (decide (a0.retire ≤ 1024))) r (fun R => za6 r rfl) rfl fun fr r => wn (wp_ret ?_))))
            have hd : D.zav a0 = (decide (a0.retire ≤ 1024)) := (zah h4).trans ((zah h5).trans ((zah h6).trans ((zah h7).trans ((zah h8).trans ((zah h9).trans ((zao h10).trans ((zao h11).trans ((zao h12).trans ((zao h13).trans ((zao h14).trans (rfl)))))))))))
            refine zaA r rfl rfl ?_
            rw [hd]
            exact ⟨rfl, hB⟩
           ·
            refine s0 r h14 fun fr r => s0 r h14 fun fr r => s0 r h14 fun fr r => za0 (.bool false) r (fun R => zai r (b := false) (congrArg Value.bool h14) rfl) rfl fun fr r => za0 (.bool false) r (fun R => za6 r rfl) rfl fun fr r => wn (wp_ret ?_)
            have hd : D.zav a0 = false := (zah h4).trans ((zah h5).trans ((zah h6).trans ((zah h7).trans ((zah h8).trans ((zah h9).trans ((zao h10).trans ((zao h11).trans ((zao h12).trans ((zao h13).trans ((zah h14).trans (rfl)))))))))))
            refine zaA r rfl rfl ?_
            rw [hd]
            exact ⟨rfl, hB⟩
          ·
           refine s0 r h13 fun fr r => s0 r h13 fun fr r => s0 r h13 fun fr r => s0 r h13 fun fr r => s0 r h13 fun fr r => s0 r h13 fun fr r => za0 (.bool false) r (fun R => zai r (b := false) (congrArg Value.bool h13) rfl) rfl fun fr r => za0 (.bool false) r (fun R => za5 r rfl) rfl fun fr r => s0 r (rfl : false = _) fun fr r => s0 r (rfl : false = _) fun fr r => s0 r (rfl : false = _) fun fr r => za0 (.bool false) r (fun R => zai r (b := false) (congrArg Value.bool (rfl : false = _)) rfl) rfl fun fr r => za0 (.bool false) r (fun R => za6 r rfl) rfl fun fr r => wn (wp_ret ?_)
           have hd : D.zav a0 = false := (zah h4).trans ((zah h5).trans ((zah h6).trans ((zah h7).trans ((zah h8).trans ((zah h9).trans ((zao h10).trans ((zao h11).trans ((zao h12).trans ((zah h13).trans (rfl))))))))))
           refine zaA r rfl rfl ?_
           rw [hd]
           exact ⟨rfl, hB⟩
         ·
          refine s0 r h12 fun fr r => s0 r h12 fun fr r => s0 r h12 fun fr r => za0 (.bool false) r (fun R => zai r (b := false) (congrArg Value.bool h12) rfl) rfl fun fr r => za0 (.bool false) r (fun R => za5 r rfl) rfl fun fr r => s0 r (rfl : false = _) fun fr r => s0 r (rfl : false = _) fun fr r => s0 r (rfl : false = _) fun fr r => s0 r (rfl : false = _) fun fr r => s0 r (rfl : false = _) fun fr r => s0 r (rfl : false = _) fun fr r => za0 (.bool false) r (fun R => zai r (b := false) (congrArg Value.bool (rfl : false = _)) rfl) rfl fun fr r => za0 (.bool false) r (fun R => za5 r rfl) rfl fun fr r => s0 r (rfl : false = _) fun fr r => s0 r (rfl : false = _) fun fr r => s0 r (rfl : false = _) fun fr r => za0 (.bool false) r (fun R => zai r (b := false) (congrArg Value.bool (rfl : false = _)) rfl) rfl fun fr r => za0 (.bool false) r (fun R => za6 r rfl) rfl fun fr r => wn (wp_ret ?_)
          have hd : D.zav a0 = false := (zah h4).trans ((zah h5).trans ((zah h6).trans ((zah h7).trans ((zah h8).trans ((zah h9).trans ((zao h10).trans ((zao h11).trans ((zah h12).trans (rfl)))))))))
          refine zaA r rfl rfl ?_
          rw [hd]
          exact ⟨rfl, hB⟩
        ·
         refine s0 r h11 fun fr r => s0 r h11 fun fr r => s0 r h11 fun fr r => za0 (.bool false) r (fun R => zai r (b := false) (congrArg Value.bool h11) rfl) rfl fun fr r => za0 (.bool false) r (fun R => za5 r rfl) rfl fun fr r => s0 r (rfl : false = _) fun fr r => s0 r (rfl : false = _) fun fr r => s0 r (rfl : false = _) fun fr r => za0 (.bool false) r (fun R => zai r (b := false) (congrArg Value.bool (rfl : false = _)) rfl) rfl fun fr r => za0 (.bool false) r (fun R => za5 r rfl) rfl fun fr r => s0 r (rfl : false = _) fun fr r => s0 r (rfl : false = _) fun fr r => s0 r (rfl : false = _) fun fr r => s0 r (rfl : false = _) fun fr r => s0 r (rfl : false = _) fun fr r => s0 r (rfl : false = _) fun fr r => za0 (.bool false) r (fun R => zai r (b := false) (congrArg Value.bool (rfl : false = _)) rfl) rfl fun fr r => za0 (.bool false) r (fun R => za5 r rfl) rfl fun fr r => s0 r (rfl : false = _) fun fr r => s0 r (rfl : false = _) fun fr r => s0 r (rfl : false = _) fun fr r => za0 (.bool false) r (fun R => zai r (b := false) (congrArg Value.bool (rfl : false = _)) rfl) rfl fun fr r => za0 (.bool false) r (fun R => za6 r rfl) rfl fun fr r => wn (wp_ret ?_)
         have hd : D.zav a0 = false := (zah h4).trans ((zah h5).trans ((zah h6).trans ((zah h7).trans ((zah h8).trans ((zah h9).trans ((zao h10).trans ((zah h11).trans (rfl))))))))
         refine zaA r rfl rfl ?_
         rw [hd]
         exact ⟨rfl, hB⟩
       ·
        refine s0 r h10 fun fr r => s0 r h10 fun fr r => s0 r h10 fun fr r => za0 (.bool false) r (fun R => zai r (b := false) (congrArg Value.bool h10) rfl) rfl fun fr r => za0 (.bool false) r (fun R => za5 r rfl) rfl fun fr r => s0 r (rfl : false = _) fun fr r => s0 r (rfl : false = _) fun fr r => s0 r (rfl : false = _) fun fr r => za0 (.bool false) r (fun R => zai r (b := false) (congrArg Value.bool (rfl : false = _)) rfl) rfl fun fr r => za0 (.bool false) r (fun R => za5 r rfl) rfl fun fr r => s0 r (rfl : false = _) fun fr r => s0 r (rfl : false = _) fun fr r => s0 r (rfl : false = _) fun fr r => za0 (.bool false) r (fun R => zai r (b := false) (congrArg Value.bool (rfl : false = _)) rfl) rfl fun fr r => za0 (.bool false) r (fun R => za5 r rfl) rfl fun fr r => s0 r (rfl : false = _) fun fr r => s0 r (rfl : false = _) fun fr r => s0 r (rfl : false = _) fun fr r => s0 r (rfl : false = _) fun fr r => s0 r (rfl : false = _) fun fr r => s0 r (rfl : false = _) fun fr r => za0 (.bool false) r (fun R => zai r (b := false) (congrArg Value.bool (rfl : false = _)) rfl) rfl fun fr r => za0 (.bool false) r (fun R => za5 r rfl) rfl fun fr r => s0 r (rfl : false = _) fun fr r => s0 r (rfl : false = _) fun fr r => s0 r (rfl : false = _) fun fr r => za0 (.bool false) r (fun R => zai r (b := false) (congrArg Value.bool (rfl : false = _)) rfl) rfl fun fr r => za0 (.bool false) r (fun R => za6 r rfl) rfl fun fr r => wn (wp_ret ?_)
        have hd : D.zav a0 = false := (zah h4).trans ((zah h5).trans ((zah h6).trans ((zah h7).trans ((zah h8).trans ((zah h9).trans ((zah h10).trans (rfl)))))))
        refine zaA r rfl rfl ?_
        rw [hd]
        exact ⟨rfl, hB⟩
def D.zb8 (a0 : Plan) : Bool := (bif (!(D.zav a0)) then true else (bif (decide (a0.nodes ≤ 40)) then (bif (decide (a0.retire ≤ 40)) then (bif (decide (a0.domains ≤ 6)) then (decide (a0.buckets ≤ 10)) else false) else false) else false))
theorem zfL (w0 : World) 
    (a0 : Plan) :
    Calls Tryz.prog 102 #[.agg (zln a0).toArray] w0 (zlE (.bool (D.zb8 a0)) w0) := by
 refine enter Tryz.func102 rfl 26 rfl rfl fun fr r => ?_
 have hB := Below.refl w0.heap.size w0
 refine wsr ?_
 refine zaa (.cells ((zln a0)).toArray 23 (0, 0)) r (fun R => zlC r (v := (.agg (zln a0).toArray)) rfl) rfl fun fr b1 w2 n3 r => ?_
 obtain ⟨e_b1, z_w2, h_b1, hB, zB⟩ := n3.all hB
 refine za0 (.bool false) r (fun R => za6 r rfl) rfl fun fr r => wn (wsr (za0 (.agg (zln a0).toArray) r (fun R => za7 r (cs := (zln a0)) (n := 6) rfl h_b1 ta23 rfl) rfl fun fr r => ?_))
 refine za9 r (zdC w2 a0) (fun R hc => zac r rfl zmV hc) rfl ?_
 rintro _ w4 ⟨rfl, hb⟩
 refine ⟨_, rfl, fun fr r => ?_⟩
 have z_w4 := hb.size
 have h_b1 := keep hb h_b1
 obtain ⟨hB, zB⟩ := bon hb hB
 refine za0 (.bool (!(D.zav a0))) r (fun R => y_un r (u := (.bool (D.zav a0))) rfl rfl) rfl fun fr r => za0 (.bool (!(D.zav a0))) r (fun R => za5 r rfl) rfl fun fr r => ?_
 refine zay (!(D.zav a0)) (fun h5 => ?_) (fun h5 => ?_)
 ·
  refine s0 r h5 fun fr r => s0 r h5 fun fr r => s0 r h5 fun fr r => s0 r h5 fun fr r => ?_
  refine zbE r rfl rfl rfl (v := undef) rfl (by simp [zlu, undef]) fun fr r => ?_
  refine zbE r rfl rfl rfl (v := undef) rfl (by simp [zlu, undef]) fun fr r => ?_
  refine zbE r rfl rfl rfl (v := undef) rfl (by simp [zlu, undef]) fun fr r => s0 r h5 fun fr r => s0 r h5 fun fr r => ?_
  refine zbE r rfl rfl rfl (v := undef) rfl (by simp [zlu, undef]) fun fr r => ?_
  refine zbE r rfl rfl rfl (v := undef) rfl (by simp [zlu, undef]) fun fr r => ?_
  refine zbE r rfl rfl rfl (v := undef) rfl (by simp [zlu, undef]) fun fr r => s0 r h5 fun fr r => s0 r h5 fun fr r => ?_
  refine zbE r rfl rfl rfl (v := undef) rfl (by simp [zlu, undef]) fun fr r => ?_
  refine zbE r rfl rfl rfl (v := undef) rfl (by simp [zlu, undef]) fun fr r => ?_
  refine zbE r rfl rfl rfl (v := undef) rfl (by simp [zlu, undef]) fun fr r => s0 r h5 fun fr r => za0 (.bool true) r (fun R => zai r (b := true) (congrArg Value.bool h5) rfl) rfl fun fr r => za0 (.bool true) r (fun R => za6 r rfl) rfl fun fr r => wn (wp_ret ?_)
  have hd : D.zb8 a0 = true := (zao h5).trans (rfl)
  refine zaA r rfl rfl ?_
  rw [hd]
  exact ⟨rfl, hB⟩
 ·
  refine s1 r h5 (za0 _ r (fun R => za4 r (o := 0) rfl zec) rfl fun fr r => s1 r h5 (za0 (I a0.nodes) r (fun R => za2 r rfl h_b1 to3 rfl) rfl fun fr r => s1 r h5 (za0 _ r (fun R => zlt r rfl rfl rfl rfl) rfl fun fr r => s1 r h5 (za0 (.bool (decide (a0.nodes ≤ 40))) r (fun R => za5 r rfl) rfl fun fr r => ?_))))
  refine zay (decide (a0.nodes ≤ 40)) (fun h6 => ?_) (fun h6 => ?_)
  ·
   refine s1 r h6 (za0 _ r (fun R => za4 r (o := 0) rfl zeJ) rfl fun fr r => s1 r h6 (za0 (I a0.retire) r (fun R => za2 r rfl h_b1 to3 rfl) rfl fun fr r => s1 r h6 (za0 _ r (fun R => zlt r rfl rfl rfl rfl) rfl fun fr r => s1 r h5 (za0 (.bool (decide (a0.retire ≤ 40))) r (fun R => zai r (b := true) (congrArg Value.bool h6) rfl) rfl fun fr r => s1 r h5 (za0 (.bool (decide (a0.retire ≤ 40))) r (fun R => za5 r rfl) rfl fun fr r => ?_)))))
   refine zay (decide (a0.retire ≤ 40)) (fun h7 => ?_) (fun h7 => ?_)
   ·
    refine s1 r h7 (za0 _ r (fun R => za4 r (o := 0) rfl zi4) rfl fun fr r => s1 r h7 (za0 (I a0.domains) r (fun R => za2 r rfl h_b1 to3 rfl) rfl fun fr r => s1 r h7 (za0 _ r (fun R => zlt r rfl rfl rfl rfl) rfl fun fr r => s1 r h5 (za0 (.bool (decide (a0.domains ≤ 6))) r (fun R => zai r (b := true) (congrArg Value.bool h7) rfl) rfl fun fr r => s1 r h5 (za0 (.bool (decide (a0.domains ≤ 6))) r (fun R => za5 r rfl) rfl fun fr r => ?_)))))
    refine zay (decide (a0.domains ≤ 6)) (fun h8 => ?_) (fun h8 => ?_)
    ·
     refine s1 r h8 (za0 _ r (fun R => za4 r (o := 0) rfl zim) rfl fun fr r => s1 r h8 (za0 (I a0.buckets) r (fun R => za2 r rfl h_b1 to3 rfl) rfl fun fr r => s1 r h8 (za0 _ r (fun R => zlt r rfl rfl rfl rfl) rfl fun fr r => s1 r h5 (za0 (.bool (decide (a0.buckets ≤ 10))) r (fun R => zai r (b := true) (congrArg Value.bool h8) rfl) rfl fun fr r => za0 (.bool (decide (a0.buckets ≤ 10))) r (fun R => zai r (b := false) (congrArg Value.bool h5) rfl) rfl fun fr r => za0 (.bool (decide (a0.buckets ≤ 10))) r (fun R => za6 r rfl) rfl fun fr r => wn (wp_ret ?_)))))
     have hd : D.zb8 a0 = (decide (a0.buckets ≤ 10)) := (zah h5).trans ((zao h6).trans ((zao h7).trans ((zao h8).trans (rfl))))
     refine zaA r rfl rfl ?_
     rw [hd]
     exact ⟨rfl, hB⟩
    ·
     refine s0 r h8 fun fr r => s0 r h8 fun fr r => s0 r h8 fun fr r => s1 r h5 (za0 (.bool false) r (fun R => zai r (b := false) (congrArg Value.bool h8) rfl) rfl fun fr r => za0 (.bool false) r (fun R => zai r (b := false) (congrArg Value.bool h5) rfl) rfl fun fr r => za0 (.bool false) r (fun R => za6 r rfl) rfl fun fr r => wn (wp_ret ?_))
     have hd : D.zb8 a0 = false := (zah h5).trans ((zao h6).trans ((zao h7).trans ((zah h8).trans (rfl))))
     refine zaA r rfl rfl ?_
     rw [hd]
     exact ⟨rfl, hB⟩
   ·
    refine s0 r h7 fun fr r => s0 r h7 fun fr r => s0 r h7 fun fr r => s1 r h5 (za0 (.bool false) r (fun R => zai r (b := false) (congrArg Value.bool h7) rfl) rfl fun fr r => s1 r h5 (za0 (.bool false) r (fun R => za5 r rfl) rfl fun fr r => s0 r (rfl : false = _) fun fr r => s0 r (rfl : false = _) fun fr r => s0 r (rfl : false = _) fun fr r => s1 r h5 (za0 (.bool false) r (fun R => zai r (b := false) (congrArg Value.bool (rfl : false = _)) rfl) rfl fun fr r => za0 (.bool false) r (fun R => zai r (b := false) (congrArg Value.bool h5) rfl) rfl fun fr r => za0 (.bool false) r (fun R => za6 r rfl) rfl fun fr r => wn (wp_ret ?_))))
    have hd : D.zb8 a0 = false := (zah h5).trans ((zao h6).trans ((zah h7).trans (rfl)))
    refine zaA r rfl rfl ?_
    rw [hd]
    exact ⟨rfl, hB⟩
  ·
   refine s0 r h6 fun fr r => s0 r h6 fun fr r => s0 r h6 fun fr r => s1 r h5 (za0 (.bool false) r (fun R => zai r (b := false) (congrArg Value.bool h6) rfl) rfl fun fr r => s1 r h5 (za0 (.bool false) r (fun R => za5 r rfl) rfl fun fr r => s0 r (rfl : false = _) fun fr r => s0 r (rfl : false = _) fun fr r => s0 r (rfl : false = _) fun fr r => s1 r h5 (za0 (.bool false) r (fun R => zai r (b := false) (congrArg Value.bool (rfl : false = _)) rfl) rfl fun fr r => s1 r h5 (za0 (.bool false) r (fun R => za5 r rfl) rfl fun fr r => s0 r (rfl : false = _) fun fr r => s0 r (rfl : false = _) fun fr r => s0 r (rfl : false = _) fun fr r => s1 r h5 (za0 (.bool false) r (fun R => zai r (b := false) (congrArg Value.bool (rfl : false = _)) rfl) rfl fun fr r => za0 (.bool false) r (fun R => zai r (b := false) (congrArg Value.bool h5) rfl) rfl fun fr r => za0 (.bool false) r (fun R => za6 r rfl) rfl fun fr r => wn (wp_ret ?_))))))
   have hd : D.zb8 a0 = false := (zah h5).trans ((zah h6).trans (rfl))
   refine zaA r rfl rfl ?_
   rw [hd]
   exact ⟨rfl, hB⟩
end Go.Proofs.YtfpgnmhcfkikkaaGreat

/- Ours. -/
set_option maxRecDepth 20000
set_option maxHeartbeats 2000000
namespace Go.Proofs.YtfpgnmhcfkikkaaGreat
open Go.RowKit
theorem zg0 : zlB Tryz.prog 217 0 0 = true := by kernel_rfl
theorem zhA : zlB Tryz.prog 217 1 1 = true := by kernel_rfl
def D.zaj (a0 : Field) : Bool := (bif (decide (a0.at_ ≥ 0)) then (bif (decide (a0.at_ < 64)) then (bif (decide (a0.bits ≥ 1)) then (decide (a0.bits ≤ (IntKind.i64.wrap (64 - a0.at_)))) else false) else false) else false)
theorem zc1 (w0 : World) 
    (a0 : Field) :
    Calls Tryz.prog 233 #[.agg (zlv a0).toArray] w0 (zlE (.bool (D.zaj a0)) w0) := by
 refine enter Tryz.func233 rfl 24 rfl rfl fun fr r => ?_
 have hB := Below.refl w0.heap.size w0
 refine wsr ?_
 refine zaa (.cells ((zlv a0)).toArray 217 (0, 0)) r (fun R => zlC r (v := (.agg (zlv a0).toArray)) rfl) rfl fun fr b1 w2 n3 r => ?_
 obtain ⟨eb1, zw2, hb1, hB, zB⟩ := n3.all hB
 refine za0 (.bool false) r (fun R => za6 r rfl) rfl fun fr r => wn (wsr (za0 _ r (fun R => za4 r (o := 0) rfl zg0) rfl fun fr r => za0 (I a0.at_) r (fun R => za2 r rfl hb1 to3 rfl) rfl fun fr r => za0 _ r (fun R => zlt r rfl rfl rfl rfl) rfl fun fr r => za0 (.bool (decide (a0.at_ ≥ 0))) r (fun R => za5 r rfl) rfl fun fr r => ?_))
 refine zay (decide (a0.at_ ≥ 0)) (fun h4 => ?_) (fun h4 => ?_)
 ·
  refine s1 r h4 (za0 _ r (fun R => za4 r (o := 0) rfl zg0) rfl fun fr r => s1 r h4 (za0 (I a0.at_) r (fun R => za2 r rfl hb1 to3 rfl) rfl fun fr r => s1 r h4 (za0 _ r (fun R => zlt r rfl rfl rfl rfl) rfl fun fr r => za0 (.bool (decide (a0.at_ < 64))) r (fun R => zai r (b := true) (congrArg Value.bool h4) rfl) rfl fun fr r => za0 (.bool (decide (a0.at_ < 64))) r (fun R => za5 r rfl) rfl fun fr r => ?_)))
  refine zay (decide (a0.at_ < 64)) (fun h5 => ?_) (fun h5 => ?_)
  ·
   refine s1 r h5 (za0 _ r (fun R => za4 r (o := 0) rfl zhA) rfl fun fr r => s1 r h5 (za0 (I a0.bits) r (fun R => za2 r rfl hb1 to3 rfl) rfl fun fr r => s1 r h5 (za0 _ r (fun R => zlt r rfl rfl rfl rfl) rfl fun fr r => za0 (.bool (decide (a0.bits ≥ 1))) r (fun R => zai r (b := true) (congrArg Value.bool h5) rfl) rfl fun fr r => za0 (.bool (decide (a0.bits ≥ 1))) r (fun R => za5 r rfl) rfl fun fr r => ?_)))
   refine zay (decide (a0.bits ≥ 1)) (fun h6 => ?_) (fun h6 => ?_)
   ·
    refine s1 r h6 (za0 _ r (fun R => za4 r (o := 0) rfl zhA) rfl fun fr r => s1 r h6 (za0 (I a0.bits) r (fun R => za2 r rfl hb1 to3 rfl) rfl fun fr r => s1 r h6 (za0 _ r (fun R => za4 r (o := 0) rfl zg0) rfl fun fr r => s1 r h6 (za0 (I a0.at_) r (fun R => za2 r rfl hb1 to3 rfl) rfl fun fr r => s1 r h6 (za0 _ r (fun R => zlt r rfl rfl rfl rfl) rfl fun fr r => s1 r h6 (za0 _ r (fun R => zlt r rfl rfl rfl rfl) rfl fun fr r => za0 (.bool (decide (a0.bits ≤ (W (64 - a0.at_))))) r (fun R => zai r (b := true) (congrArg Value.bool h6) rfl) rfl fun fr r => za0 (.bool (decide (a0.bits ≤ (W (64 - a0.at_))))) r (fun R => za6 r rfl) rfl fun fr r => wn (wp_ret ?_)))))))
    have hd : D.zaj a0 = (decide (a0.bits ≤ (W (64 - a0.at_)))) := (zao h4).trans ((zao h5).trans ((zao h6).trans (rfl)))
    refine zaA r rfl rfl ?_
    rw [hd]
    exact ⟨rfl, hB⟩
   ·
    refine s0 r h6 fun fr r => s0 r h6 fun fr r => s0 r h6 fun fr r => s0 r h6 fun fr r => s0 r h6 fun fr r => s0 r h6 fun fr r => za0 (.bool false) r (fun R => zai r (b := false) (congrArg Value.bool h6) rfl) rfl fun fr r => za0 (.bool false) r (fun R => za6 r rfl) rfl fun fr r => wn (wp_ret ?_)
    have hd : D.zaj a0 = false := (zao h4).trans ((zao h5).trans ((zah h6).trans (rfl)))
    refine zaA r rfl rfl ?_
    rw [hd]
    exact ⟨rfl, hB⟩
  ·
   refine s0 r h5 fun fr r => s0 r h5 fun fr r => s0 r h5 fun fr r => za0 (.bool false) r (fun R => zai r (b := false) (congrArg Value.bool h5) rfl) rfl fun fr r => za0 (.bool false) r (fun R => za5 r rfl) rfl fun fr r => s0 r (rfl : false = _) fun fr r => s0 r (rfl : false = _) fun fr r => s0 r (rfl : false = _) fun fr r => s0 r (rfl : false = _) fun fr r => s0 r (rfl : false = _) fun fr r => s0 r (rfl : false = _) fun fr r => za0 (.bool false) r (fun R => zai r (b := false) (congrArg Value.bool (rfl : false = _)) rfl) rfl fun fr r => za0 (.bool false) r (fun R => za6 r rfl) rfl fun fr r => wn (wp_ret ?_)
   have hd : D.zaj a0 = false := (zao h4).trans ((zah h5).trans (rfl))
   refine zaA r rfl rfl ?_
   rw [hd]
   exact ⟨rfl, hB⟩
 ·
  refine s0 r h4 fun fr r => s0 r h4 fun fr r => s0 r h4 fun fr r => za0 (.bool false) r (fun R => zai r (b := false) (congrArg Value.bool h4) rfl) rfl fun fr r => za0 (.bool false) r (fun R => za5 r rfl) rfl fun fr r => s0 r (rfl : false = _) fun fr r => s0 r (rfl : false = _) fun fr r => s0 r (rfl : false = _) fun fr r => za0 (.bool false) r (fun R => zai r (b := false) (congrArg Value.bool (rfl : false = _)) rfl) rfl fun fr r => za0 (.bool false) r (fun R => za5 r rfl) rfl fun fr r => s0 r (rfl : false = _) fun fr r => s0 r (rfl : false = _) fun fr r => s0 r (rfl : false = _) fun fr r => s0 r (rfl : false = _) fun fr r => s0 r (rfl : false = _) fun fr r => s0 r (rfl : false = _) fun fr r => za0 (.bool false) r (fun R => zai r (b := false) (congrArg Value.bool (rfl : false = _)) rfl) rfl fun fr r => za0 (.bool false) r (fun R => za6 r rfl) rfl fun fr r => wn (wp_ret ?_)
  have hd : D.zaj a0 = false := (zah h4).trans (rfl)
  refine zaA r rfl rfl ?_
  rw [hd]
  exact ⟨rfl, hB⟩
end Go.Proofs.YtfpgnmhcfkikkaaGreat

/- Ours. -/
namespace Go.Proofs.YtfpgnmhcfkikkaaGreat
theorem ze9 {f : Field} (h : D.zaj f = true) : 0 ≤ f.at_ ∧ f.at_ < 64 ∧ 1 ≤ f.bits ∧ f.bits ≤ 64 - f.at_ := by
  unfold D.zaj at h
  have hw : ∀ x : Int, 0 ≤ x → x < 64 → IntKind.i64.wrap (64 - x) = 64 - x := by
    intro x h0 h1
    simp only [IntKind.wrap]
    simp [IntKind.signed, IntKind.bits]
    omega
  cases h1 : decide (f.at_ ≥ 0) <;> rw [h1] at h
  · cases h
  cases h2 : decide (f.at_ < 64) <;> rw [h2] at h
  · cases h
  cases h3 : decide (f.bits ≥ 1) <;> rw [h3] at h
  · cases h
  simp only [decide_eq_true_eq] at h1 h2 h3
  simp only [cond_true, decide_eq_true_eq] at h
  rw [hw _ h1 h2] at h
  omega
end Go.Proofs.YtfpgnmhcfkikkaaGreat

/- Ours. -/
set_option maxRecDepth 20000
set_option maxHeartbeats 2000000
namespace Go.Proofs.YtfpgnmhcfkikkaaGreat
open Go.RowKit
theorem zml : zlp Tryz.prog 224 = true := by kernel_rfl
theorem zmi : zlp Tryz.prog 233 = true := by kernel_rfl
theorem zmq : zlp Tryz.prog 304 = true := by kernel_rfl
theorem zlN : tyA Tryz.prog 217 2 = true := by kernel_rfl
def D.zap (a0 : Field) : Int := (bif (!(D.zaj a0)) then 0 else (bif (a0.bits == 64) then 18446744073709551615 else (IntKind.u64.wrap ((shlI .u64 1 a0.bits) - 1))))
theorem zcG (w0 : World) 
    (a0 : Field) :
    Calls Tryz.prog 224 #[.agg (zlv a0).toArray] w0 (zlE (.int .u64 (D.zap a0)) w0) := by
 refine enter Tryz.func224 rfl 15 rfl rfl fun fr r => ?_
 have hB := Below.refl w0.heap.size w0
 refine wsr ?_
 refine zaa (.cells ((zlv a0)).toArray 217 (0, 0)) r (fun R => zlC r (v := (.agg (zlv a0).toArray)) rfl) rfl fun fr b1 w2 n3 r => ?_
 obtain ⟨e_b1, z_w2, h_b1, hB, zB⟩ := n3.all hB
 refine za0 (U 0) r (fun R => za6 r rfl) rfl fun fr r => wn (wp_seq (wp_block (wsr (za0 (.agg (zlv a0).toArray) r (fun R => za7 r (cs := (zlv a0)) (n := 2) rfl h_b1 zlN rfl) rfl fun fr r => ?_))))
 refine za9 r (zc1 w2 a0) (fun R hc => zac r rfl zmi hc) rfl ?_
 rintro _ w4 ⟨rfl, hb⟩
 refine ⟨_, rfl, fun fr r => ?_⟩
 have z_w4 := hb.size
 have h_b1 := keep hb h_b1
 obtain ⟨hB, zB⟩ := bon hb hB
 refine za0 (.bool (!(D.zaj a0))) r (fun R => y_un r (u := (.bool (D.zaj a0))) rfl rfl) rfl fun fr r => za0 (.bool (!(D.zaj a0))) r (fun R => za6 r rfl) rfl fun fr r => wn ?_
 refine wp_cond_split (t := (!(D.zaj a0))) (r.ev rfl) (fun h5 => ?_) (fun h5 => ?_)
 ·
  refine wsr (za0 (U 0) r (fun R => za6 r rfl) rfl fun fr r => wn (wp_ret ?_))
  have hd : D.zap a0 = 0 := (zao h5).trans (rfl)
  refine zaA r rfl rfl ?_
  rw [hd]
  exact ⟨rfl, hB⟩
 ·
  refine wsr (za0 _ r (fun R => za4 r (o := 0) rfl zhA) rfl fun fr r => za0 (I a0.bits) r (fun R => za2 r rfl h_b1 to3 rfl) rfl fun fr r => za0 _ r (fun R => zlt r rfl rfl rfl rfl) rfl fun fr r => za0 (.bool (a0.bits == 64)) r (fun R => za6 r rfl) rfl fun fr r => wn ?_)
  refine wp_cond_split (t := (a0.bits == 64)) (r.ev rfl) (fun h6 => ?_) (fun h6 => ?_)
  ·
   refine wsr (za0 (U 18446744073709551615) r (fun R => za6 r rfl) rfl fun fr r => wn (wp_ret ?_))
   have hd : D.zap a0 = 18446744073709551615 := (zah h5).trans ((zao h6).trans (rfl))
   refine zaA r rfl rfl ?_
   rw [hd]
   exact ⟨rfl, hB⟩
  ·
   refine wp_skip (wsr (za0 _ r (fun R => za4 r (o := 0) rfl zhA) rfl fun fr r => za0 (I a0.bits) r (fun R => za2 r rfl h_b1 to3 rfl) rfl fun fr r => za0 _ r (fun R => zlt r rfl rfl rfl (ziE (by first | assumption | decide | (have hq := ze9 (by simpa using ‹(!D.zaj _) = false›); omega)))) rfl fun fr r => za0 _ r (fun R => zlt r rfl rfl rfl rfl) rfl fun fr r => za0 (U (V ((shlI .u64 1 a0.bits) - 1))) r (fun R => za6 r rfl) rfl fun fr r => wn (wp_ret ?_)))
   have hd : D.zap a0 = (V ((shlI .u64 1 a0.bits) - 1)) := (zah h5).trans ((zah h6).trans (rfl))
   refine zaA r rfl rfl ?_
   rw [hd]
   exact ⟨rfl, hB⟩
def D.zag (a0 : Field) (a1 : Int) : Int := (bif (!(D.zaj a0)) then 0 else (zbV .u64 (shrI .u64 a1 a0.at_) (D.zap a0)))
theorem zct (w0 : World) 
    (a0 : Field) (a1 : Int) :
    Calls Tryz.prog 134 #[.agg (zlv a0).toArray, .int .u64 a1] w0 (zlE (.int .u64 (D.zag a0 a1)) w0) := by
 refine enter Tryz.func134 rfl 15 rfl rfl fun fr r => ?_
 have hB := Below.refl w0.heap.size w0
 refine wsr ?_
 refine zaa (.cells ((zlv a0)).toArray 217 (0, 0)) r (fun R => zlC r (v := (.agg (zlv a0).toArray)) rfl) rfl fun fr b1 w2 n3 r => ?_
 obtain ⟨e_b1, z_w2, h_b1, hB, zB⟩ := n3.all hB
 refine za0 (U 0) r (fun R => za6 r rfl) rfl fun fr r => wn (wp_seq (wsr (za0 (.agg (zlv a0).toArray) r (fun R => za7 r (cs := (zlv a0)) (n := 2) rfl h_b1 zlN rfl) rfl fun fr r => ?_)))
 refine za9 r (zc1 w2 a0) (fun R hc => zac r rfl zmi hc) rfl ?_
 rintro _ w4 ⟨rfl, hb⟩
 refine ⟨_, rfl, fun fr r => ?_⟩
 have z_w4 := hb.size
 have h_b1 := keep hb h_b1
 obtain ⟨hB, zB⟩ := bon hb hB
 refine za0 (.bool (!(D.zaj a0))) r (fun R => y_un r (u := (.bool (D.zaj a0))) rfl rfl) rfl fun fr r => wn ?_
 refine wp_cond_split (t := (!(D.zaj a0))) (r.ev rfl) (fun h5 => ?_) (fun h5 => ?_)
 ·
  refine wsr (za0 (U 0) r (fun R => za6 r rfl) rfl fun fr r => wn (wp_ret ?_))
  have hd : D.zag a0 a1 = 0 := (zao h5).trans (rfl)
  refine zaA r rfl rfl ?_
  rw [hd]
  exact ⟨rfl, hB⟩
 ·
  refine wp_skip (wp_seq ?_)
  refine zb5 7 [.val (U a1), .val (zp b1), .val (I a0.at_), .val (U (shrI .u64 a1 a0.at_)), .val (.agg (zlv a0).toArray), .val (U (D.zap a0)), .val (U (zbV .u64 (shrI .u64 a1 a0.at_) (D.zap a0)))] mixed r (by kernel_rfl) (za3 (by exact trivial) (za3 (by exact trivial) (za3 (by exact trivial) (za3 (by exact trivial) (za3 (by exact trivial) (za3 (by exact trivial) (za3 (by exact trivial) zaV))))))) ?_ ?_
  ·
   refine ec r (fun _ u _ b d s => za5 s rfl bz) (ec r (fun _ u _ b d s => za4 s (b := b1) (o := 0) rfl zg0 bz) (ec r (fun _ u _ b d s => za2 s d.1 (keep b h_b1) to3 rfl bz) (ec r (fun _ u _ b d s => zlt s d.1 d.2.1 rfl (zkK (by first | assumption | decide | (have hq := ze9 (by simpa using ‹(!D.zaj _) = false›); omega))) bz) (ec r (fun _ u _ b d s => za7 s (cs := (zlv a0)) (n := 2) rfl (keep b h_b1) zlN rfl bz) (ec r (fun fr1 u w' hb' hd r' => zac r' (args := [(.agg (zlv a0).toArray)]) (lc hd.1 l0) zml ((zcG _ a0).mono (by rintro _ w2 ⟨rfl, hb2⟩; exact ⟨_, rfl, hb2, rfl⟩))) (ec r (fun _ u _ b d s => zlt s d.1 d.2.1 rfl rfl bz) ?_))))))
   exact zbc
  ·
   intro fr u w6 hb hΦ hne r
   have r := r.congr (sc (hΦ 6 (by decide)) (sc (hΦ 5 (by decide)) (sc (hΦ 4 (by decide)) (sc (hΦ 3 (by decide)) (sc (hΦ 2 (by decide)) (sc (hΦ 1 (by decide)) (sc (hΦ 0 (by decide)) rfl)))))))
   have z_w6 := hb.size
   have h_b1 := keep hb h_b1
   obtain ⟨hB, zB⟩ := bon hb hB
   refine za0 (U (zbV .u64 (shrI .u64 a1 a0.at_) (D.zap a0))) r (fun R => za6 r rfl) rfl fun fr r => wn (wp_ret ?_)
   have hd : D.zag a0 a1 = (zbV .u64 (shrI .u64 a1 a0.at_) (D.zap a0)) := (zah h5).trans (rfl)
   refine zaA r rfl rfl ?_
   rw [hd]
   exact ⟨rfl, hB⟩
def D.zat (a0 : Field) : Int := (bif (!(D.zaj a0)) then 0 else (shlI .u64 (D.zap a0) a0.at_))
theorem zcF (w0 : World) 
    (a0 : Field) :
    Calls Tryz.prog 304 #[.agg (zlv a0).toArray] w0 (zlE (.int .u64 (D.zat a0)) w0) := by
 refine enter Tryz.func304 rfl 11 rfl rfl fun fr r => ?_
 have hB := Below.refl w0.heap.size w0
 refine wsr ?_
 refine zaa (.cells ((zlv a0)).toArray 217 (0, 0)) r (fun R => zlC r (v := (.agg (zlv a0).toArray)) rfl) rfl fun fr b1 w2 n3 r => ?_
 obtain ⟨e_b1, z_w2, h_b1, hB, zB⟩ := n3.all hB
 refine za0 (U 0) r (fun R => za6 r rfl) rfl fun fr r => wn (wp_seq (wsr (za0 (.agg (zlv a0).toArray) r (fun R => za7 r (cs := (zlv a0)) (n := 2) rfl h_b1 zlN rfl) rfl fun fr r => ?_)))
 refine za9 r (zc1 w2 a0) (fun R hc => zac r rfl zmi hc) rfl ?_
 rintro _ w4 ⟨rfl, hb⟩
 refine ⟨_, rfl, fun fr r => ?_⟩
 have z_w4 := hb.size
 have h_b1 := keep hb h_b1
 obtain ⟨hB, zB⟩ := bon hb hB
 refine za0 (.bool (!(D.zaj a0))) r (fun R => y_un r (u := (.bool (D.zaj a0))) rfl rfl) rfl fun fr r => wn ?_
 refine wp_cond_split (t := (!(D.zaj a0))) (r.ev rfl) (fun h5 => ?_) (fun h5 => ?_)
 ·
  refine wsr (za0 (U 0) r (fun R => za6 r rfl) rfl fun fr r => wn (wp_ret ?_))
  have hd : D.zat a0 = 0 := (zao h5).trans (rfl)
  refine zaA r rfl rfl ?_
  rw [hd]
  exact ⟨rfl, hB⟩
 ·
  refine wp_skip (wp_seq ?_)
  refine zb5 5 [.val (.agg (zlv a0).toArray), .val (U (D.zap a0)), .val (zp b1), .val (I a0.at_), .val (U (shlI .u64 (D.zap a0) a0.at_))] mixed r (by kernel_rfl) (za3 (by exact trivial) (za3 (by exact trivial) (za3 (by exact trivial) (za3 (by exact trivial) (za3 (by exact trivial) zaV))))) ?_ ?_
  ·
   refine ec r (fun _ u _ b d s => za7 s (cs := (zlv a0)) (n := 2) rfl (keep b h_b1) zlN rfl bz) (ec r (fun fr1 u w' hb' hd r' => zac r' (args := [(.agg (zlv a0).toArray)]) (lc hd.1 l0) zml ((zcG _ a0).mono (by rintro _ w2 ⟨rfl, hb2⟩; exact ⟨_, rfl, hb2, rfl⟩))) (ec r (fun _ u _ b d s => za4 s (b := b1) (o := 0) rfl zg0 bz) (ec r (fun _ u _ b d s => za2 s d.1 (keep b h_b1) to3 rfl bz) (ec r (fun _ u _ b d s => zlt s d.1 d.2.1 rfl (ziE (by first | assumption | decide | (have hq := ze9 (by simpa using ‹(!D.zaj _) = false›); omega))) bz) ?_))))
   exact zbc
  ·
   intro fr u w6 hb hΦ hne r
   have r := r.congr (sc (hΦ 4 (by decide)) (sc (hΦ 3 (by decide)) (sc (hΦ 2 (by decide)) (sc (hΦ 1 (by decide)) (sc (hΦ 0 (by decide)) rfl)))))
   have z_w6 := hb.size
   have h_b1 := keep hb h_b1
   obtain ⟨hB, zB⟩ := bon hb hB
   refine za0 (U (shlI .u64 (D.zap a0) a0.at_)) r (fun R => za6 r rfl) rfl fun fr r => wn (wp_ret ?_)
   have hd : D.zat a0 = (shlI .u64 (D.zap a0) a0.at_) := (zah h5).trans (rfl)
   refine zaA r rfl rfl ?_
   rw [hd]
   exact ⟨rfl, hB⟩
def D.zaH (a0 : Field) (a1 : Int) (a2 : Int) : Int := (bif (!(D.zaj a0)) then a1 else (ze1 .u64 (zb6 .u64 a1 (D.zat a0)) (shlI .u64 (zbV .u64 a2 (D.zap a0)) a0.at_)))
theorem zdt (w0 : World) 
    (a0 : Field) (a1 : Int) (a2 : Int) :
    Calls Tryz.prog 225 #[.agg (zlv a0).toArray, .int .u64 a1, .int .u64 a2] w0 (zlE (.int .u64 (D.zaH a0 a1 a2)) w0) := by
 refine enter Tryz.func225 rfl 23 rfl rfl fun fr r => ?_
 have hB := Below.refl w0.heap.size w0
 refine wsr ?_
 refine zaa (.cells ((zlv a0)).toArray 217 (0, 0)) r (fun R => zlC r (v := (.agg (zlv a0).toArray)) rfl) rfl fun fr b1 w2 n3 r => ?_
 obtain ⟨e_b1, z_w2, h_b1, hB, zB⟩ := n3.all hB
 refine za0 (U 0) r (fun R => za6 r rfl) rfl fun fr r => wn (wp_seq (wsr (za0 (.agg (zlv a0).toArray) r (fun R => za7 r (cs := (zlv a0)) (n := 2) rfl h_b1 zlN rfl) rfl fun fr r => ?_)))
 refine za9 r (zc1 w2 a0) (fun R hc => zac r rfl zmi hc) rfl ?_
 rintro _ w4 ⟨rfl, hb⟩
 refine ⟨_, rfl, fun fr r => ?_⟩
 have z_w4 := hb.size
 have h_b1 := keep hb h_b1
 obtain ⟨hB, zB⟩ := bon hb hB
 refine za0 (.bool (!(D.zaj a0))) r (fun R => y_un r (u := (.bool (D.zaj a0))) rfl rfl) rfl fun fr r => wn ?_
 refine wp_cond_split (t := (!(D.zaj a0))) (r.ev rfl) (fun h5 => ?_) (fun h5 => ?_)
 ·
  refine wsr (za0 (U a1) r (fun R => za5 r rfl) rfl fun fr r => za0 (U a1) r (fun R => za6 r rfl) rfl fun fr r => wn (wp_ret ?_))
  have hd : D.zaH a0 a1 a2 = a1 := (zao h5).trans (rfl)
  refine zaA r rfl rfl ?_
  rw [hd]
  exact ⟨rfl, hB⟩
 ·
  refine wp_skip (wp_seq ?_)
  refine zb5 12 [.val (U a1), .val (.agg (zlv a0).toArray), .val (U (D.zat a0)), .val (U (zb6 .u64 a1 (D.zat a0))), .val (U a2), .val (.agg (zlv a0).toArray), .val (U (D.zap a0)), .val (U (zbV .u64 a2 (D.zap a0))), .val (zp b1), .val (I a0.at_), .val (U (shlI .u64 (zbV .u64 a2 (D.zap a0)) a0.at_)), .val (U (ze1 .u64 (zb6 .u64 a1 (D.zat a0)) (shlI .u64 (zbV .u64 a2 (D.zap a0)) a0.at_)))] mixed r (by kernel_rfl) (za3 (by exact trivial) (za3 (by exact trivial) (za3 (by exact trivial) (za3 (by exact trivial) (za3 (by exact trivial) (za3 (by exact trivial) (za3 (by exact trivial) (za3 (by exact trivial) (za3 (by exact trivial) (za3 (by exact trivial) (za3 (by exact trivial) (za3 (by exact trivial) zaV)))))))))))) ?_ ?_
  ·
   refine ec r (fun _ u _ b d s => za5 s rfl bz) (ec r (fun _ u _ b d s => za7 s (cs := (zlv a0)) (n := 2) rfl (keep b h_b1) zlN rfl bz) (ec r (fun fr1 u w' hb' hd r' => zac r' (args := [(.agg (zlv a0).toArray)]) (lc hd.1 l0) zmq ((zcF _ a0).mono (by rintro _ w2 ⟨rfl, hb2⟩; exact ⟨_, rfl, hb2, rfl⟩))) (ec r (fun _ u _ b d s => zlt s d.1 d.2.1 rfl rfl bz) (ec r (fun _ u _ b d s => za5 s rfl bz) (ec r (fun _ u _ b d s => za7 s (cs := (zlv a0)) (n := 2) rfl (keep b h_b1) zlN rfl bz) (ec r (fun fr1 u w' hb' hd r' => zac r' (args := [(.agg (zlv a0).toArray)]) (lc hd.1 l0) zml ((zcG _ a0).mono (by rintro _ w2 ⟨rfl, hb2⟩; exact ⟨_, rfl, hb2, rfl⟩))) (ec r (fun _ u _ b d s => zlt s d.1 d.2.1 rfl rfl bz) (ec r (fun _ u _ b d s => za4 s (b := b1) (o := 0) rfl zg0 bz) (ec r (fun _ u _ b d s => za2 s d.1 (keep b h_b1) to3 rfl bz) (ec r (fun _ u _ b d s => zlt s d.1 d.2.1 rfl (ziE (by first | assumption | decide | (have hq := ze9 (by simpa using ‹(!D.zaj _) = false›); omega))) bz) (ec r (fun _ u _ b d s => zlt s d.1 d.2.1 rfl rfl bz) ?_)))))))))))
   exact zbc
  ·
   intro fr u w6 hb hΦ hne r
   have r := r.congr (sc (hΦ 11 (by decide)) (sc (hΦ 10 (by decide)) (sc (hΦ 9 (by decide)) (sc (hΦ 8 (by decide)) (sc (hΦ 7 (by decide)) (sc (hΦ 6 (by decide)) (sc (hΦ 5 (by decide)) (sc (hΦ 4 (by decide)) (sc (hΦ 3 (by decide)) (sc (hΦ 2 (by decide)) (sc (hΦ 1 (by decide)) (sc (hΦ 0 (by decide)) rfl))))))))))))
   have z_w6 := hb.size
   have h_b1 := keep hb h_b1
   obtain ⟨hB, zB⟩ := bon hb hB
   refine za0 (U (ze1 .u64 (zb6 .u64 a1 (D.zat a0)) (shlI .u64 (zbV .u64 a2 (D.zap a0)) a0.at_))) r (fun R => za6 r rfl) rfl fun fr r => wn (wp_ret ?_)
   have hd : D.zaH a0 a1 a2 = (ze1 .u64 (zb6 .u64 a1 (D.zat a0)) (shlI .u64 (zbV .u64 a2 (D.zap a0)) a0.at_)) := (zah h5).trans (rfl)
   refine zaA r rfl rfl ?_
   rw [hd]
   exact ⟨rfl, hB⟩
end Go.Proofs.YtfpgnmhcfkikkaaGreat
