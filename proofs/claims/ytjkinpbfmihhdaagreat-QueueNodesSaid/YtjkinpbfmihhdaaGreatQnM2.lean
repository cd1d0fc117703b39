/- Some of our texts, one behind the other. -/
import Derived.Test.YtjkinpbfmihhdaaGreatQnM1
import Derived.Test.YtjkinpbfmihhdaaGreatRows
set_option linter.all false
/- Ours. -/
set_option maxRecDepth 20000
set_option maxHeartbeats 2000000
namespace Go.Proofs.YtjkinpbfmihhdaaGreat
open Go.RowKit
theorem zp2 : znv Tryz.prog 136 = true := by kernel_rfl
theorem zok : znv Tryz.prog 142 = true := by kernel_rfl
theorem zq5 : znv Tryz.prog 143 = true := by kernel_rfl
theorem zp6 : znv Tryz.prog 144 = true := by kernel_rfl
theorem zp0 : znv Tryz.prog 158 = true := by kernel_rfl
theorem zpo : znv Tryz.prog 159 = true := by kernel_rfl
theorem zp4 : znv Tryz.prog 166 = true := by kernel_rfl
theorem zsi : znv Tryz.prog 167 = true := by kernel_rfl
theorem zoX : znv Tryz.prog 235 = true := by kernel_rfl
theorem zpk : znv Tryz.prog 261 = true := by kernel_rfl
theorem cl45 : znv Tryz.prog 45 = true := by kernel_rfl
theorem zeD : znH Tryz.prog 25 0 0 = true := by kernel_rfl
theorem zhD : znH Tryz.prog 25 1 1 = true := by kernel_rfl
theorem zgl : znH Tryz.prog 25 2 2 = true := by kernel_rfl
theorem zj1 : znH Tryz.prog 25 3 3 = true := by kernel_rfl
theorem zkk : znH Tryz.prog 25 4 4 = true := by kernel_rfl
theorem zlf : znH Tryz.prog 25 5 5 = true := by kernel_rfl
theorem mixed : Tryz.prog.follows .mixedOrders = true := by kernel_rfl
theorem zpw : tyA Tryz.prog 216 3 = true := by kernel_rfl
theorem ta25 : tyA Tryz.prog 25 6 = true := by kernel_rfl
theorem to3 : tyO Tryz.prog 3 = true := by kernel_rfl
theorem zph : sized Tryz.prog 216 3 = true := by kernel_rfl
theorem zp7 : zeroOf Tryz.prog 216 = some (.agg (znQ (⟨0, 0, 0⟩ : Bound)).toArray) := by kernel_rfl
def D.zaP (a0 : Plan) : Bool := (bif (D.zaR ([(⟨a0.nodes, 1, 1048576⟩ : Bound), (⟨a0.threads, 1, 16⟩ : Bound), (⟨a0.domains, 0, 64⟩ : Bound), (⟨a0.buckets, 1, 256⟩ : Bound), (⟨a0.gen, 1, 1073741823⟩ : Bound)])) then (D.zaR ([(⟨a0.retire, (IntKind.i64.wrap ((IntKind.i64.wrap (3 * a0.threads)) + 1)), 1024⟩ : Bound)])) else false)
theorem zdR (w0 : World) 
    (a0 : Plan) :
    Calls Tryz.prog 136 #[.agg (znu a0).toArray] w0 (znL (.bool (D.zaP a0)) w0) := by
 refine enter Tryz.func136 rfl 31 rfl rfl fun fr r => ?_
 have hB := Below.refl w0.heap.size w0
 refine wsr ?_
 refine za5 (.cells ((znu a0)).toArray 25 (0, 0)) r (fun R => znF r (v := (.agg (znu a0).toArray)) rfl) rfl fun fr b1 w2 n3 r => ?_
 obtain ⟨e_b1, z_w2, h_b1, hB, zB⟩ := n3.all hB
 refine za0 (.bool false) r (fun R => za7 r rfl) rfl fun fr r => wn (wsr (za0 _ r (fun R => za4 r (o := 0) rfl zeD) rfl fun fr r => za0 (I a0.nodes) r (fun R => za3 r rfl h_b1 to3 rfl) rfl fun fr r => za0 (.agg (znQ (⟨a0.nodes, 1, 1048576⟩ : Bound)).toArray) r (fun R => zaQ r (by kernel_rfl)) rfl fun fr r => za0 _ r (fun R => za4 r (o := 0) rfl zhD) rfl fun fr r => za0 (I a0.threads) r (fun R => za3 r rfl h_b1 to3 rfl) rfl fun fr r => za0 (.agg (znQ (⟨a0.threads, 1, 16⟩ : Bound)).toArray) r (fun R => zaQ r (by kernel_rfl)) rfl fun fr r => za0 _ r (fun R => za4 r (o := 0) rfl zj1) rfl fun fr r => za0 (I a0.domains) r (fun R => za3 r rfl h_b1 to3 rfl) rfl fun fr r => za0 (.agg (znQ (⟨a0.domains, 0, 64⟩ : Bound)).toArray) r (fun R => zaQ r (by kernel_rfl)) rfl fun fr r => za0 _ r (fun R => za4 r (o := 0) rfl zkk) rfl fun fr r => za0 (I a0.buckets) r (fun R => za3 r rfl h_b1 to3 rfl) rfl fun fr r => za0 (.agg (znQ (⟨a0.buckets, 1, 256⟩ : Bound)).toArray) r (fun R => zaQ r (by kernel_rfl)) rfl fun fr r => za0 _ r (fun R => za4 r (o := 0) rfl zlf) rfl fun fr r => za0 (I a0.gen) r (fun R => za3 r rfl h_b1 to3 rfl) rfl fun fr r => za0 (.agg (znQ (⟨a0.gen, 1, 1073741823⟩ : Bound)).toArray) r (fun R => zaQ r (by kernel_rfl)) rfl fun fr r => ?_))
 refine zgz (.cells ((boundsC [(⟨a0.nodes, 1, 1048576⟩ : Bound), (⟨a0.threads, 1, 16⟩ : Bound), (⟨a0.domains, 0, 64⟩ : Bound), (⟨a0.buckets, 1, 256⟩ : Bound), (⟨a0.gen, 1, 1073741823⟩ : Bound)])).toArray 216 (0, 0)) 5 r (fun R => zcv r (by kernel_rfl)) rfl fun fr b4 w5 n6 r => ?_
 have h_b1 := keep n6.below h_b1
 obtain ⟨e_b4, z_w5, h_b4, hB, zB⟩ := n6.all hB
 refine za8 r (zfR w5 ([(⟨a0.nodes, 1, 1048576⟩ : Bound), (⟨a0.threads, 1, 16⟩ : Bound), (⟨a0.domains, 0, 64⟩ : Bound), (⟨a0.buckets, 1, 256⟩ : Bound), (⟨a0.gen, 1, 1073741823⟩ : Bound)]) h_b4 (by first | assumption | decide | (simp; done))) (fun R hc => zac r rfl zoX hc) rfl ?_
 rintro _ w7 ⟨rfl, hb⟩
 refine ⟨_, rfl, fun fr r => ?_⟩
 have z_w7 := hb.size
 have h_b1 := keep hb h_b1
 have h_b4 := keep hb h_b4
 obtain ⟨hB, zB⟩ := bon hb hB
 refine za0 (.bool (D.zaR ([(⟨a0.nodes, 1, 1048576⟩ : Bound), (⟨a0.threads, 1, 16⟩ : Bound), (⟨a0.domains, 0, 64⟩ : Bound), (⟨a0.buckets, 1, 256⟩ : Bound), (⟨a0.gen, 1, 1073741823⟩ : Bound)]))) r (fun R => za9 r rfl) rfl fun fr r => ?_
 refine zaF (D.zaR ([(⟨a0.nodes, 1, 1048576⟩ : Bound), (⟨a0.threads, 1, 16⟩ : Bound), (⟨a0.domains, 0, 64⟩ : Bound), (⟨a0.buckets, 1, 256⟩ : Bound), (⟨a0.gen, 1, 1073741823⟩ : Bound)])) (fun h8 => ?_) (fun h8 => ?_)
 ·
  refine s1 r h8 (za0 _ r (fun R => za4 r (o := 0) rfl zgl) rfl fun fr r => s1 r h8 (za0 (I a0.retire) r (fun R => za3 r rfl h_b1 to3 rfl) rfl fun fr r => s1 r h8 (za0 _ r (fun R => za4 r (o := 0) rfl zhD) rfl fun fr r => s1 r h8 (za0 (I a0.threads) r (fun R => za3 r rfl h_b1 to3 rfl) rfl fun fr r => s1 r h8 (za0 _ r (fun R => znA r rfl rfl rfl rfl) rfl fun fr r => s1 r h8 (za0 _ r (fun R => znA r rfl rfl rfl rfl) rfl fun fr r => s1 r h8 (za0 (.agg (znQ (⟨a0.retire, (W ((W (3 * a0.threads)) + 1)), 1024⟩ : Bound)).toArray) r (fun R => zaQ r (by kernel_rfl)) rfl fun fr r => s1 r h8 ?_)))))))
  refine zgz (.cells ((boundsC [(⟨a0.retire, (W ((W (3 * a0.threads)) + 1)), 1024⟩ : Bound)])).toArray 216 (0, 0)) 1 r (fun R => zcv r (by kernel_rfl)) rfl fun fr b9 w10 n11 r => ?_
  have h_b1 := keep n11.below h_b1
  have h_b4 := keep n11.below h_b4
  obtain ⟨e_b9, z_w10, h_b9, hB, zB⟩ := n11.all hB
  refine s1 r h8 ?_
  refine za8 r (zfR w10 ([(⟨a0.retire, (W ((W (3 * a0.threads)) + 1)), 1024⟩ : Bound)]) h_b9 (by first | assumption | decide | (simp; done))) (fun R hc => zac r rfl zoX hc) rfl ?_
  rintro _ w12 ⟨rfl, hb⟩
  refine ⟨_, rfl, fun fr r => ?_⟩
  have z_w12 := hb.size
  have h_b1 := keep hb h_b1
  have h_b4 := keep hb h_b4
  have h_b9 := keep hb h_b9
  obtain ⟨hB, zB⟩ := bon hb hB
  refine za0 (.bool (D.zaR ([(⟨a0.retire, (W ((W (3 * a0.threads)) + 1)), 1024⟩ : Bound)]))) r (fun R => zar r (b := true) (congrArg Value.bool h8) rfl) rfl fun fr r => za0 (.bool (D.zaR ([(⟨a0.retire, (W ((W (3 * a0.threads)) + 1)), 1024⟩ : Bound)]))) r (fun R => za7 r rfl) rfl fun fr r => wn (wp_ret ?_)
  have hd : D.zaP a0 = (D.zaR ([(⟨a0.retire, (W ((W (3 * a0.threads)) + 1)), 1024⟩ : Bound)])) := (zaq h8).trans (rfl)
  refine zaz r rfl rfl ?_
  rw [hd]
  exact ⟨rfl, hB⟩
 ·
  refine s0 r h8 fun fr r => s0 r h8 fun fr r => s0 r h8 fun fr r => s0 r h8 fun fr r => s0 r h8 fun fr r => s0 r h8 fun fr r => s0 r h8 fun fr r => s0 r h8 fun fr r => s0 r h8 fun fr r => za0 (.bool false) r (fun R => zar r (b := false) (congrArg Value.bool h8) rfl) rfl fun fr r => za0 (.bool false) r (fun R => za7 r rfl) rfl fun fr r => wn (wp_ret ?_)
  have hd : D.zaP a0 = false := (zak h8).trans (rfl)
  refine zaz r rfl rfl ?_
  rw [hd]
  exact ⟨rfl, hB⟩
def D.zal (a0 : Plan) : Int := (maxI 2 a0.buckets)
theorem zee (w0 : World) 
    (a0 : Plan) :
    Calls Tryz.prog 166 #[.agg (znu a0).toArray] w0 (znL (.int .i64 (D.zal a0)) w0) := by
 refine enter Tryz.func166 rfl 6 rfl rfl fun fr r => ?_
 have hB := Below.refl w0.heap.size w0
 refine wsr ?_
 refine za5 (.cells ((znu a0)).toArray 25 (0, 0)) r (fun R => znF r (v := (.agg (znu a0).toArray)) rfl) rfl fun fr b1 w2 n3 r => ?_
 obtain ⟨e_b1, z_w2, h_b1, hB, zB⟩ := n3.all hB
 refine za0 (I 0) r (fun R => za7 r rfl) rfl fun fr r => wn (wsr (za0 _ r (fun R => za4 r (o := 0) rfl zkk) rfl fun fr r => za0 (I a0.buckets) r (fun R => za3 r rfl h_b1 to3 rfl) rfl fun fr r => za0 (I (maxI 2 a0.buckets)) r (fun R => zpD r (m := 2) (n := a0.buckets) rfl rfl) rfl fun fr r => za0 (I (maxI 2 a0.buckets)) r (fun R => za7 r rfl) rfl fun fr r => wn (wp_ret ?_)))
 refine zaz r rfl rfl ?_
 exact ⟨rfl, hB⟩
def D.zab (a0 : Plan) : Int := (IntKind.i64.wrap (1 + (IntKind.i64.wrap (a0.domains * (IntKind.i64.wrap (1 + (D.zal a0)))))))
theorem zeN (w0 : World) 
    (a0 : Plan) :
    Calls Tryz.prog 143 #[.agg (znu a0).toArray] w0 (znL (.int .i64 (D.zab a0)) w0) := by
 refine enter Tryz.func143 rfl 10 rfl rfl fun fr r => ?_
 have hB := Below.refl w0.heap.size w0
 refine wsr ?_
 refine za5 (.cells ((znu a0)).toArray 25 (0, 0)) r (fun R => znF r (v := (.agg (znu a0).toArray)) rfl) rfl fun fr b1 w2 n3 r => ?_
 obtain ⟨e_b1, z_w2, h_b1, hB, zB⟩ := n3.all hB
 refine za0 (I 0) r (fun R => za7 r rfl) rfl fun fr r => wn (wp_seq ?_)
 refine zaI 7 [.val (.pointer (some ⟨b1, 3, none⟩)), .val (I a0.domains), .val (.agg (znu a0).toArray), .val (I (D.zal a0)), .val (I (W (1 + (D.zal a0)))), .val (I (W (a0.domains * (W (1 + (D.zal a0)))))), .val (I (W (1 + (W (a0.domains * (W (1 + (D.zal a0))))))))] mixed r (by kernel_rfl) (za2 (by exact trivial) (za2 (by exact trivial) (za2 (by exact trivial) (za2 (by exact trivial) (za2 (by exact trivial) (za2 (by exact trivial) (za2 (by exact trivial) zaC))))))) ?_ ?_
 ·
  refine ec r (fun _ u _ b d s => za4 s (b := b1) (o := 0) rfl zj1 bz) (ec r (fun _ u _ b d s => za3 s d.1 (keep b h_b1) to3 rfl bz) (ec r (fun _ u _ b d s => za6 s (cs := (znu a0)) (n := 6) rfl (keep b h_b1) ta25 rfl bz) (ec r (fun fr1 u w' hb' hd r' => zac r' (args := [(.agg (znu a0).toArray)]) (lc hd.1 l0) zp4 ((zee _ a0).mono (by rintro _ w2 ⟨rfl, hb2⟩; exact ⟨_, rfl, hb2, rfl⟩))) (ec r (fun _ u _ b d s => znA s rfl d.1 rfl rfl bz) (ec r (fun _ u _ b d s => znA s d.1 d.2.1 rfl rfl bz) (ec r (fun _ u _ b d s => znA s rfl d.1 rfl rfl bz) ?_))))))
  exact zaV
 ·
  intro fr u w4 hb hΦ hne r
  have r := r.congr (sc (hΦ 6 (by decide)) (sc (hΦ 5 (by decide)) (sc (hΦ 4 (by decide)) (sc (hΦ 3 (by decide)) (sc (hΦ 2 (by decide)) (sc (hΦ 1 (by decide)) (sc (hΦ 0 (by decide)) rfl)))))))
  have z_w4 := hb.size
  have h_b1 := keep hb h_b1
  obtain ⟨hB, zB⟩ := bon hb hB
  refine za0 (I (W (1 + (W (a0.domains * (W (1 + (D.zal a0)))))))) r (fun R => za7 r rfl) rfl fun fr r => wn (wp_ret ?_)
  refine zaz r rfl rfl ?_
  exact ⟨rfl, hB⟩
def D.zax (a0 : Plan) : Int := (IntKind.i64.wrap ((D.zab a0) + (IntKind.i64.wrap (a0.threads * 3))))
theorem ze1 (w0 : World) 
    (a0 : Plan) :
    Calls Tryz.prog 261 #[.agg (znu a0).toArray] w0 (znL (.int .i64 (D.zax a0)) w0) := by
 refine enter Tryz.func261 rfl 9 rfl rfl fun fr r => ?_
 have hB := Below.refl w0.heap.size w0
 refine wsr ?_
 refine za5 (.cells ((znu a0)).toArray 25 (0, 0)) r (fun R => znF r (v := (.agg (znu a0).toArray)) rfl) rfl fun fr b1 w2 n3 r => ?_
 obtain ⟨e_b1, z_w2, h_b1, hB, zB⟩ := n3.all hB
 refine za0 (I 0) r (fun R => za7 r rfl) rfl fun fr r => wn (wp_seq ?_)
 refine zaI 6 [.val (.agg (znu a0).toArray), .val (I (D.zab a0)), .val (.pointer (some ⟨b1, 1, none⟩)), .val (I a0.threads), .val (I (W (a0.threads * 3))), .val (I (W ((D.zab a0) + (W (a0.threads * 3)))))] mixed r (by kernel_rfl) (za2 (by exact trivial) (za2 (by exact trivial) (za2 (by exact trivial) (za2 (by exact trivial) (za2 (by exact trivial) (za2 (by exact trivial) zaC)))))) ?_ ?_
 ·
  refine ec r (fun _ u _ b d s => za6 s (cs := (znu a0)) (n := 6) rfl (keep b h_b1) ta25 rfl bz) (ec r (fun fr1 u w' hb' hd r' => zac r' (args := [(.agg (znu a0).toArray)]) (lc hd.1 l0) zq5 ((zeN _ a0).mono (by rintro _ w2 ⟨rfl, hb2⟩; exact ⟨_, rfl, hb2, rfl⟩))) (ec r (fun _ u _ b d s => za4 s (b := b1) (o := 0) rfl zhD bz) (ec r (fun _ u _ b d s => za3 s d.1 (keep b h_b1) to3 rfl bz) (ec r (fun _ u _ b d s => znA s d.1 rfl rfl rfl bz) (ec r (fun _ u _ b d s => znA s d.1 d.2.1 rfl rfl bz) ?_)))))
  exact zaV
 ·
  intro fr u w4 hb hΦ hne r
  have r := r.congr (sc (hΦ 5 (by decide)) (sc (hΦ 4 (by decide)) (sc (hΦ 3 (by decide)) (sc (hΦ 2 (by decide)) (sc (hΦ 1 (by decide)) (sc (hΦ 0 (by decide)) rfl))))))
  have z_w4 := hb.size
  have h_b1 := keep hb h_b1
  obtain ⟨hB, zB⟩ := bon hb hB
  refine za0 (I (W ((D.zab a0) + (W (a0.threads * 3))))) r (fun R => za7 r rfl) rfl fun fr r => wn (wp_ret ?_)
  refine zaz r rfl rfl ?_
  exact ⟨rfl, hB⟩
def D.zaa (a0 : Plan) : Int := (IntKind.i64.wrap ((D.zax a0) + (IntKind.i64.wrap (a0.threads * (IntKind.i64.wrap (1 + a0.retire))))))
theorem zdj (w0 : World) 
    (a0 : Plan) :
    Calls Tryz.prog 158 #[.agg (znu a0).toArray] w0 (znL (.int .i64 (D.zaa a0)) w0) := by
 refine enter Tryz.func158 rfl 12 rfl rfl fun fr r => ?_
 have hB := Below.refl w0.heap.size w0
 refine wsr ?_
 refine za5 (.cells ((znu a0)).toArray 25 (0, 0)) r (fun R => znF r (v := (.agg (znu a0).toArray)) rfl) rfl fun fr b1 w2 n3 r => ?_
 obtain ⟨e_b1, z_w2, h_b1, hB, zB⟩ := n3.all hB
 refine za0 (I 0) r (fun R => za7 r rfl) rfl fun fr r => wn (wp_seq ?_)
 refine zaI 9 [.val (.agg (znu a0).toArray), .val (I (D.zax a0)), .val (.pointer (some ⟨b1, 1, none⟩)), .val (I a0.threads), .val (.pointer (some ⟨b1, 2, none⟩)), .val (I a0.retire), .val (I (W (1 + a0.retire))), .val (I (W (a0.threads * (W (1 + a0.retire))))), .val (I (W ((D.zax a0) + (W (a0.threads * (W (1 + a0.retire)))))))] mixed r (by kernel_rfl) (za2 (by exact trivial) (za2 (by exact trivial) (za2 (by exact trivial) (za2 (by exact trivial) (za2 (by exact trivial) (za2 (by exact trivial) (za2 (by exact trivial) (za2 (by exact trivial) (za2 (by exact trivial) zaC))))))))) ?_ ?_
 ·
  refine ec r (fun _ u _ b d s => za6 s (cs := (znu a0)) (n := 6) rfl (keep b h_b1) ta25 rfl bz) (ec r (fun fr1 u w' hb' hd r' => zac r' (args := [(.agg (znu a0).toArray)]) (lc hd.1 l0) zpk ((ze1 _ a0).mono (by rintro _ w2 ⟨rfl, hb2⟩; exact ⟨_, rfl, hb2, rfl⟩))) (ec r (fun _ u _ b d s => za4 s (b := b1) (o := 0) rfl zhD bz) (ec r (fun _ u _ b d s => za3 s d.1 (keep b h_b1) to3 rfl bz) (ec r (fun _ u _ b d s => za4 s (b := b1) (o := 0) rfl zgl bz) (ec r (fun _ u _ b d s => za3 s d.1 (keep b h_b1) to3 rfl bz) (ec r (fun _ u _ b d s => znA s rfl d.1 rfl rfl bz) (ec r (fun _ u _ b d s => znA s d.1 d.2.1 rfl rfl bz) (ec r (fun _ u _ b d s => znA s d.1 d.2.1 rfl rfl bz) ?_))))))))
  exact zaV
 ·
  intro fr u w4 hb hΦ hne r
  have r := r.congr (sc (hΦ 8 (by decide)) (sc (hΦ 7 (by decide)) (sc (hΦ 6 (by decide)) (sc (hΦ 5 (by decide)) (sc (hΦ 4 (by decide)) (sc (hΦ 3 (by decide)) (sc (hΦ 2 (by decide)) (sc (hΦ 1 (by decide)) (sc (hΦ 0 (by decide)) rfl)))))))))
  have z_w4 := hb.size
  have h_b1 := keep hb h_b1
  obtain ⟨hB, zB⟩ := bon hb hB
  refine za0 (I (W ((D.zax a0) + (W (a0.threads * (W (1 + a0.retire))))))) r (fun R => za7 r rfl) rfl fun fr r => wn (wp_ret ?_)
  refine zaz r rfl rfl ?_
  exact ⟨rfl, hB⟩
def D.zaA (a0 : Plan) : Int := (bif (!(D.zaP a0)) then 0 else (IntKind.i64.wrap ((D.zaa a0) + (IntKind.i64.wrap (a0.nodes * 5)))))
theorem zil (w0 : World) 
    (a0 : Plan) :
    Calls Tryz.prog 109 #[.agg (znu a0).toArray] w0 (znL (.int .i64 (D.zaA a0)) w0) := by
 refine enter Tryz.func109 rfl 12 rfl rfl fun fr r => ?_
 have hB := Below.refl w0.heap.size w0
 refine wsr ?_
 refine za5 (.cells ((znu a0)).toArray 25 (0, 0)) r (fun R => znF r (v := (.agg (znu a0).toArray)) rfl) rfl fun fr b1 w2 n3 r => ?_
 obtain ⟨e_b1, z_w2, h_b1, hB, zB⟩ := n3.all hB
 refine za0 (I 0) r (fun R => za7 r rfl) rfl fun fr r => wn (wp_seq (wsr (za0 (.agg (znu a0).toArray) r (fun R => za6 r (cs := (znu a0)) (n := 6) rfl h_b1 ta25 rfl) rfl fun fr r => ?_)))
 refine za8 r (zdR w2 a0) (fun R hc => zac r rfl zp2 hc) rfl ?_
 rintro _ w4 ⟨rfl, hb⟩
 refine ⟨_, rfl, fun fr r => ?_⟩
 have z_w4 := hb.size
 have h_b1 := keep hb h_b1
 obtain ⟨hB, zB⟩ := bon hb hB
 refine za0 (.bool (!(D.zaP a0))) r (fun R => y_un r (u := (.bool (D.zaP a0))) rfl rfl) rfl fun fr r => wn ?_
 refine wp_cond_split (t := (!(D.zaP a0))) (r.ev rfl) (fun h5 => ?_) (fun h5 => ?_)
 ·
  refine wsr (za0 (I 0) r (fun R => za7 r rfl) rfl fun fr r => wn (wp_ret ?_))
  have hd : D.zaA a0 = 0 := (zaq h5).trans (rfl)
  refine zaz r rfl rfl ?_
  rw [hd]
  exact ⟨rfl, hB⟩
 ·
  refine wp_skip (wp_seq ?_)
  refine zaI 6 [.val (.agg (znu a0).toArray), .val (I (D.zaa a0)), .val (zp b1), .val (I a0.nodes), .val (I (W (a0.nodes * 5))), .val (I (W ((D.zaa a0) + (W (a0.nodes * 5)))))] mixed r (by kernel_rfl) (za2 (by exact trivial) (za2 (by exact trivial) (za2 (by exact trivial) (za2 (by exact trivial) (za2 (by exact trivial) (za2 (by exact trivial) zaC)))))) ?_ ?_
  ·
   refine ec r (fun _ u _ b d s => za6 s (cs := (znu a0)) (n := 6) rfl (keep b h_b1) ta25 rfl bz) (ec r (fun fr1 u w' hb' hd r' => zac r' (args := [(.agg (znu a0).toArray)]) (lc hd.1 l0) zp0 ((zdj _ a0).mono (by rintro _ w2 ⟨rfl, hb2⟩; exact ⟨_, rfl, hb2, rfl⟩))) (ec r (fun _ u _ b d s => za4 s (b := b1) (o := 0) rfl zeD bz) (ec r (fun _ u _ b d s => za3 s d.1 (keep b h_b1) to3 rfl bz) (ec r (fun _ u _ b d s => znA s d.1 rfl rfl rfl bz) (ec r (fun _ u _ b d s => znA s d.1 d.2.1 rfl rfl bz) ?_)))))
   exact zaV
  ·
   intro fr u w6 hb hΦ hne r
   have r := r.congr (sc (hΦ 5 (by decide)) (sc (hΦ 4 (by decide)) (sc (hΦ 3 (by decide)) (sc (hΦ 2 (by decide)) (sc (hΦ 1 (by decide)) (sc (hΦ 0 (by decide)) rfl))))))
   have z_w6 := hb.size
   have h_b1 := keep hb h_b1
   obtain ⟨hB, zB⟩ := bon hb hB
   refine za0 (I (W ((D.zaa a0) + (W (a0.nodes * 5))))) r (fun R => za7 r rfl) rfl fun fr r => wn (wp_ret ?_)
   have hd : D.zaA a0 = (W ((D.zaa a0) + (W (a0.nodes * 5)))) := (zak h5).trans (rfl)
   refine zaz r rfl rfl ?_
   rw [hd]
   exact ⟨rfl, hB⟩
def D.zau (a0 : Plan) (a1 : Int) (a2 : List Bound) : Int := (bif (!(D.zaP a0)) then (-1) else (bif (!(D.zaR a2)) then (-1) else a1))
theorem zbS (w0 : World) 
    (a0 : Plan) (a1 : Int) (a2 : List Bound) {a2b : Nat} (a2h : w0.heap[a2b]? = some (.cells ((boundsC a2)).toArray 216 (0, 0))) (pre0 : a2.length ≤ 8) :
    Calls Tryz.prog 142 #[.agg (znu a0).toArray, .int .i64 a1, .slice (some ⟨a2b, 0, none⟩) a2.length a2.length] w0 (znL (.int .i64 (D.zau a0 a1 a2)) w0) := by
 refine enter Tryz.func142 rfl 16 rfl rfl fun fr r => ?_
 have hB := Below.refl w0.heap.size w0
 have la2b := lt_of_block a2h
 refine wsr ?_
 refine za5 (.cells ((znu a0)).toArray 25 (0, 0)) r (fun R => znF r (v := (.agg (znu a0).toArray)) rfl) rfl fun fr b1 w2 n3 r => ?_
 have a2h := keep n3.below a2h
 obtain ⟨e_b1, z_w2, h_b1, hB, zB⟩ := n3.all hB
 refine za0 (I 0) r (fun R => za7 r rfl) rfl fun fr r => wn (wp_seq (wsr (za0 (.agg (znu a0).toArray) r (fun R => za6 r (cs := (znu a0)) (n := 6) rfl h_b1 ta25 rfl) rfl fun fr r => ?_)))
 refine za8 r (zdR w2 a0) (fun R hc => zac r rfl zp2 hc) rfl ?_
 rintro _ w4 ⟨rfl, hb⟩
 refine ⟨_, rfl, fun fr r => ?_⟩
 have z_w4 := hb.size
 have a2h := keep hb a2h
 have h_b1 := keep hb h_b1
 obtain ⟨hB, zB⟩ := bon hb hB
 refine za0 (.bool (!(D.zaP a0))) r (fun R => y_un r (u := (.bool (D.zaP a0))) rfl rfl) rfl fun fr r => za0 (.bool (!(D.zaP a0))) r (fun R => za9 r rfl) rfl fun fr r => ?_
 refine zaF (!(D.zaP a0)) (fun h5 => ?_) (fun h5 => ?_)
 ·
  refine s0 r h5 fun fr r => s0 r h5 fun fr r => s0 r h5 fun fr r => za0 (.bool true) r (fun R => zar r (b := true) (congrArg Value.bool h5) rfl) rfl fun fr r => wn ?_
  refine wp_cond_split (t := true) (r.ev rfl) (fun _ => ?_) (fun h => absurd ((rfl : true = _).symm.trans h) (by decide))
  refine wsr (za0 (I (-1)) r (fun R => za7 r rfl) rfl fun fr r => wn (wp_ret ?_))
  have hd : D.zau a0 a1 a2 = (-1) := (zaq h5).trans (rfl)
  refine zaz r rfl rfl ?_
  rw [hd]
  exact ⟨rfl, hB⟩
 ·
  refine s1 r h5 (za0 (.slice (some ⟨a2b, 0, none⟩) a2.length a2.length) r (fun R => za9 r rfl) rfl fun fr r => s1 r h5 ?_)
  refine za8 r (zfR w4 a2 a2h (by first | assumption | decide | (simp; done))) (fun R hc => zac r rfl zoX hc) rfl ?_
  rintro _ w6 ⟨rfl, hb⟩
  refine ⟨_, rfl, fun fr r => ?_⟩
  have z_w6 := hb.size
  have a2h := keep hb a2h
  have h_b1 := keep hb h_b1
  obtain ⟨hB, zB⟩ := bon hb hB
  refine s1 r h5 (za0 (.bool (!(D.zaR a2))) r (fun R => y_un r (u := (.bool (D.zaR a2))) rfl rfl) rfl fun fr r => za0 (.bool (!(D.zaR a2))) r (fun R => zar r (b := false) (congrArg Value.bool h5) rfl) rfl fun fr r => wn ?_)
  refine wp_cond_split (t := (!(D.zaR a2))) (r.ev rfl) (fun h7 => ?_) (fun h7 => ?_)
  ·
   refine wsr (za0 (I (-1)) r (fun R => za7 r rfl) rfl fun fr r => wn (wp_ret ?_))
   have hd : D.zau a0 a1 a2 = (-1) := (zak h5).trans ((zaq h7).trans (rfl))
   refine zaz r rfl rfl ?_
   rw [hd]
   exact ⟨rfl, hB⟩
  ·
   refine wp_skip (wsr (za0 (I a1) r (fun R => za9 r rfl) rfl fun fr r => za0 (I a1) r (fun R => za7 r rfl) rfl fun fr r => wn (wp_ret ?_)))
   have hd : D.zau a0 a1 a2 = a1 := (zak h5).trans ((zak h7).trans (rfl))
   refine zaz r rfl rfl ?_
   rw [hd]
   exact ⟨rfl, hB⟩
theorem zgq (w0 : World) 
    (a0 : Plan) (a1 : Int) :
    Calls Tryz.prog 142 #[.agg (znu a0).toArray, .int .i64 a1, .slice none 0 0] w0 (znL (.int .i64 (D.zau a0 a1 ([]))) w0) := by
 refine enter Tryz.func142 rfl 16 rfl rfl fun fr r => ?_
 have hB := Below.refl w0.heap.size w0
 refine wsr ?_
 refine za5 (.cells ((znu a0)).toArray 25 (0, 0)) r (fun R => znF r (v := (.agg (znu a0).toArray)) rfl) rfl fun fr b1 w2 n3 r => ?_
 obtain ⟨e_b1, z_w2, h_b1, hB, zB⟩ := n3.all hB
 refine za0 (I 0) r (fun R => za7 r rfl) rfl fun fr r => wn (wp_seq (wsr (za0 (.agg (znu a0).toArray) r (fun R => za6 r (cs := (znu a0)) (n := 6) rfl h_b1 ta25 rfl) rfl fun fr r => ?_)))
 refine za8 r (zdR w2 a0) (fun R hc => zac r rfl zp2 hc) rfl ?_
 rintro _ w4 ⟨rfl, hb⟩
 refine ⟨_, rfl, fun fr r => ?_⟩
 have z_w4 := hb.size
 have h_b1 := keep hb h_b1
 obtain ⟨hB, zB⟩ := bon hb hB
 refine za0 (.bool (!(D.zaP a0))) r (fun R => y_un r (u := (.bool (D.zaP a0))) rfl rfl) rfl fun fr r => za0 (.bool (!(D.zaP a0))) r (fun R => za9 r rfl) rfl fun fr r => ?_
 refine zaF (!(D.zaP a0)) (fun h5 => ?_) (fun h5 => ?_)
 ·
  refine s0 r h5 fun fr r => s0 r h5 fun fr r => s0 r h5 fun fr r => za0 (.bool true) r (fun R => zar r (b := true) (congrArg Value.bool h5) rfl) rfl fun fr r => wn ?_
  refine wp_cond_split (t := true) (r.ev rfl) (fun _ => ?_) (fun h => absurd ((rfl : true = _).symm.trans h) (by decide))
  refine wsr (za0 (I (-1)) r (fun R => za7 r rfl) rfl fun fr r => wn (wp_ret ?_))
  have hd : D.zau a0 a1 [] = (-1) := (zaq h5).trans (rfl)
  refine zaz r rfl rfl ?_
  rw [hd]
  exact ⟨rfl, hB⟩
 ·
  refine s1 r h5 (za0 (.slice none 0 0) r (fun R => za9 r rfl) rfl fun fr r => s1 r h5 ?_)
  refine za8 r (zhN w4 ) (fun R hc => zac r rfl zoX hc) rfl ?_
  rintro _ w6 ⟨rfl, hb⟩
  refine ⟨_, rfl, fun fr r => ?_⟩
  have z_w6 := hb.size
  have h_b1 := keep hb h_b1
  obtain ⟨hB, zB⟩ := bon hb hB
  refine s1 r h5 (za0 (.bool (!(D.zaR ([])))) r (fun R => y_un r (u := (.bool (D.zaR ([])))) rfl rfl) rfl fun fr r => za0 (.bool (!(D.zaR ([])))) r (fun R => zar r (b := false) (congrArg Value.bool h5) rfl) rfl fun fr r => wn ?_)
  refine wp_cond_split (t := (!(D.zaR ([])))) (r.ev rfl) (fun h7 => ?_) (fun h7 => ?_)
  ·
   refine wsr (za0 (I (-1)) r (fun R => za7 r rfl) rfl fun fr r => wn (wp_ret ?_))
   have hd : D.zau a0 a1 [] = (-1) := (zak h5).trans ((zaq h7).trans (rfl))
   refine zaz r rfl rfl ?_
   rw [hd]
   exact ⟨rfl, hB⟩
  ·
   refine wp_skip (wsr (za0 (I a1) r (fun R => za9 r rfl) rfl fun fr r => za0 (I a1) r (fun R => za7 r rfl) rfl fun fr r => wn (wp_ret ?_)))
   have hd : D.zau a0 a1 [] = a1 := (zak h5).trans ((zak h7).trans (rfl))
   refine zaz r rfl rfl ?_
   rw [hd]
   exact ⟨rfl, hB⟩
def D.zaW (a0 : Plan) : Int := (D.zau a0 0 ([]))
theorem zcg (w0 : World) 
    (a0 : Plan) :
    Calls Tryz.prog 162 #[.agg (znu a0).toArray] w0 (znL (.int .i64 (D.zaW a0)) w0) := by
 refine enter Tryz.func162 rfl 5 rfl rfl fun fr r => ?_
 have hB := Below.refl w0.heap.size w0
 refine wsr ?_
 refine za5 (.cells ((znu a0)).toArray 25 (0, 0)) r (fun R => znF r (v := (.agg (znu a0).toArray)) rfl) rfl fun fr b1 w2 n3 r => ?_
 obtain ⟨e_b1, z_w2, h_b1, hB, zB⟩ := n3.all hB
 refine za0 (I 0) r (fun R => za7 r rfl) rfl fun fr r => wn (wsr (za0 (.agg (znu a0).toArray) r (fun R => za6 r (cs := (znu a0)) (n := 6) rfl h_b1 ta25 rfl) rfl fun fr r => ?_))
 refine za8 r (zgq w2 a0 0) (fun R hc => zac r rfl zok hc) rfl ?_
 rintro _ w4 ⟨rfl, hb⟩
 refine ⟨_, rfl, fun fr r => ?_⟩
 have z_w4 := hb.size
 have h_b1 := keep hb h_b1
 obtain ⟨hB, zB⟩ := bon hb hB
 refine za0 (I (D.zau a0 0 ([]))) r (fun R => za7 r rfl) rfl fun fr r => wn (wp_ret ?_)
 refine zaz r rfl rfl ?_
 exact ⟨rfl, hB⟩
def D.zaK (a0 : Plan) (a1 : Int) : Bound := (⟨a1, 0, (IntKind.i64.wrap (a0.nodes - 1))⟩ : Bound)
theorem zew (w0 : World) 
    (a0 : Plan) (a1 : Int) :
    Calls Tryz.prog 159 #[.agg (znu a0).toArray, .int .i64 a1] w0 (znL (.agg (znQ (D.zaK a0 a1)).toArray) w0) := by
 refine enter Tryz.func159 rfl 10 rfl rfl fun fr r => ?_
 have hB := Below.refl w0.heap.size w0
 refine wsr ?_
 refine za5 (.cells ((znu a0)).toArray 25 (0, 0)) r (fun R => znF r (v := (.agg (znu a0).toArray)) rfl) rfl fun fr b1 w2 n3 r => ?_
 obtain ⟨e_b1, z_w2, h_b1, hB, zB⟩ := n3.all hB
 refine za5 (.cells ((znQ (⟨0, 0, 0⟩ : Bound))).toArray 216 (0, 0)) r (fun R => zag zp7) rfl fun fr b4 w5 n6 r => ?_
 have h_b1 := keep n6.below h_b1
 obtain ⟨e_b4, z_w5, h_b4, hB, zB⟩ := n6.all hB
 refine wn (wsr (za0 (I a1) r (fun R => za9 r rfl) rfl fun fr r => za0 _ r (fun R => za4 r (o := 0) rfl zeD) rfl fun fr r => za0 (I a0.nodes) r (fun R => za3 r rfl h_b1 to3 rfl) rfl fun fr r => za0 _ r (fun R => znA r rfl rfl rfl rfl) rfl fun fr r => za0 (.agg (znQ (⟨a1, 0, (W (a0.nodes - 1))⟩ : Bound)).toArray) r (fun R => zaQ r (by kernel_rfl)) rfl fun fr r => ?_))
 refine zae (.cells ((znQ (⟨a1, 0, (W (a0.nodes - 1))⟩ : Bound))).toArray 216 (0, 0)) r (fun R => zaS r (o := 0) (v := (.agg (znQ (⟨a1, 0, (W (a0.nodes - 1))⟩ : Bound)).toArray)) rfl rfl h_b4 zph (Nat.le_of_ble_eq_true rfl) rfl rfl) rfl fun fr w7 u8 r => ?_
 have z_w7 := u8.size
 have h_b1 := u8.keep h_b1 (by omega)
 have h_b4 := u8.at_
 obtain ⟨hB, zB⟩ := u8.on hB (by omega)
 refine wn (wp_ret ?_)
 refine zad r rfl rfl h_b4 (k := 3) rfl zpw ?_
 exact ⟨rfl, hB⟩
def D.zb2 (a0 : Plan) (a1 : Int) : Int := (D.zau a0 (IntKind.i64.wrap ((IntKind.i64.wrap ((D.zaa a0) + (IntKind.i64.wrap (a1 * 5)))) + 1)) ([(D.zaK a0 a1)]))
theorem zcP (w0 : World) 
    (a0 : Plan) (a1 : Int) :
    Calls Tryz.prog 163 #[.agg (znu a0).toArray, .int .i64 a1] w0 (znL (.int .i64 (D.zb2 a0 a1)) w0) := by
 refine enter Tryz.func163 rfl 17 rfl rfl fun fr r => ?_
 have hB := Below.refl w0.heap.size w0
 refine wsr ?_
 refine za5 (.cells ((znu a0)).toArray 25 (0, 0)) r (fun R => znF r (v := (.agg (znu a0).toArray)) rfl) rfl fun fr b1 w2 n3 r => ?_
 obtain ⟨e_b1, z_w2, h_b1, hB, zB⟩ := n3.all hB
 refine za0 (I 0) r (fun R => za7 r rfl) rfl fun fr r => wn (wp_seq ?_)
 refine zaI 12 [.val (.agg (znu a0).toArray), .val (.agg (znu a0).toArray), .val (I (D.zaa a0)), .val (I a1), .val (I (W (a1 * 5))), .val (I (W ((D.zaa a0) + (W (a1 * 5))))), .val (I (W ((W ((D.zaa a0) + (W (a1 * 5)))) + 1))), .val (.agg (znu a0).toArray), .val (I a1), .val (.agg (znQ (D.zaK a0 a1)).toArray), .slice w2.heap.size (.cells ((boundsC [(D.zaK a0 a1)])).toArray 216 (0, 0)) 1, .val (I (D.zau a0 (W ((W ((D.zaa a0) + (W (a1 * 5)))) + 1)) ([(D.zaK a0 a1)])))] mixed r (by kernel_rfl) (za2 (by exact trivial) (za2 (by exact trivial) (za2 (by exact trivial) (za2 (by exact trivial) (za2 (by exact trivial) (za2 (by exact trivial) (za2 (by exact trivial) (za2 (by exact trivial) (za2 (by exact trivial) (za2 (by exact trivial) (za2 (Nat.le_refl _) (za2 (by exact trivial) zaC)))))))))))) ?_ ?_
 ·
  refine ec r (fun _ u _ b d s => za6 s (cs := (znu a0)) (n := 6) rfl (keep b h_b1) ta25 rfl bz) (ec r (fun _ u _ b d s => za6 s (cs := (znu a0)) (n := 6) rfl (keep b h_b1) ta25 rfl bz) (ec r (fun fr1 u w' hb' hd r' => zac r' (args := [(.agg (znu a0).toArray)]) (lc hd.1 l0) zp0 ((zdj _ a0).mono (by rintro _ w2 ⟨rfl, hb2⟩; exact ⟨_, rfl, hb2, rfl⟩))) (ec r (fun _ u _ b d s => za9 s rfl bz) (ec r (fun _ u _ b d s => znA s d.1 rfl rfl rfl bz) (ec r (fun _ u _ b d s => znA s d.1 d.2.1 rfl rfl bz) (ec r (fun _ u _ b d s => znA s d.1 rfl rfl rfl bz) (ec r (fun _ u _ b d s => za6 s (cs := (znu a0)) (n := 6) rfl (keep b h_b1) ta25 rfl bz) (ec r (fun _ u _ b d s => za9 s rfl bz) (ec r (fun fr1 u w' hb' hd r' => zac r' (args := [(.agg (znu a0).toArray), (I a1)]) (lc hd.1 (lc hd.2.1 l0)) zpo ((zew _ a0 a1).mono (by rintro _ w2 ⟨rfl, hb2⟩; exact ⟨_, rfl, hb2, rfl⟩))) (ec r (fun fr1 u w' hb' hd r' => zcv r' (c := ((boundsC [(D.zaK a0 a1)])).toArray) (E := 216) (bs1 (congrArg (fun z => (0, z)) hd.1) (by kernel_rfl)) (fun b w2 n2 => ⟨n2.below, b, rfl, Nat.le_of_eq n2.eq.symm, n2.at_⟩)) ?_))))))))))
  refine zba r rfl (fun fr1 u w' hb' hd r' => ?_) ?_
  · obtain ⟨d0, d1, d2, d3, _⟩ := hd; obtain ⟨q2, hq2, _, hr2⟩ := d2; exact zac r' (args := [(.agg (znu a0).toArray), (I (W ((W ((D.zaa a0) + (W (a1 * 5)))) + 1))), (.slice (some ⟨q2, 0, none⟩) 1 1)]) (lc d0 (lc d1 (lc hq2 l0))) zok ((zbS _ a0 (W ((W ((D.zaa a0) + (W (a1 * 5)))) + 1)) ([(D.zaK a0 a1)]) hr2 (by first | assumption | decide | (simp; done))).mono (by rintro _ w2 ⟨rfl, hb2⟩; exact ⟨_, rfl, hb2, rfl⟩))
  exact zaV
 ·
  intro fr u w4 hb hΦ hne r
  obtain ⟨b5, g10, e_b5, h_b5⟩ := hΦ 10 (by decide)
  have l_b5 := lt_of_block h_b5
  have r := r.congr (sc (hΦ 11 (by decide)) (sc g10 (sc (hΦ 9 (by decide)) (sc (hΦ 8 (by decide)) (sc (hΦ 7 (by decide)) (sc (hΦ 6 (by decide)) (sc (hΦ 5 (by decide)) (sc (hΦ 4 (by decide)) (sc (hΦ 3 (by decide)) (sc (hΦ 2 (by decide)) (sc (hΦ 1 (by decide)) (sc (hΦ 0 (by decide)) rfl))))))))))))
  have z_w4 := hb.size
  have h_b1 := keep hb h_b1
  obtain ⟨hB, zB⟩ := bon hb hB
  refine za0 (I (D.zau a0 (W ((W ((D.zaa a0) + (W (a1 * 5)))) + 1)) ([(D.zaK a0 a1)]))) r (fun R => za7 r rfl) rfl fun fr r => wn (wp_ret ?_)
  refine zaz r rfl rfl ?_
  exact ⟨rfl, hB⟩
def D.zaH (a0 : Plan) (a1 : Int) : Int := (D.zau a0 (IntKind.i64.wrap ((D.zaa a0) + (IntKind.i64.wrap (a1 * 5)))) ([(D.zaK a0 a1)]))
theorem zbO (w0 : World) 
    (a0 : Plan) (a1 : Int) :
    Calls Tryz.prog 68 #[.agg (znu a0).toArray, .int .i64 a1] w0 (znL (.int .i64 (D.zaH a0 a1)) w0) := by
 refine enter Tryz.func68 rfl 16 rfl rfl fun fr r => ?_
 have hB := Below.refl w0.heap.size w0
 refine wsr ?_
 refine za5 (.cells ((znu a0)).toArray 25 (0, 0)) r (fun R => znF r (v := (.agg (znu a0).toArray)) rfl) rfl fun fr b1 w2 n3 r => ?_
 obtain ⟨e_b1, z_w2, h_b1, hB, zB⟩ := n3.all hB
 refine za0 (I 0) r (fun R => za7 r rfl) rfl fun fr r => wn (wp_seq ?_)
 refine zaI 11 [.val (.agg (znu a0).toArray), .val (.agg (znu a0).toArray), .val (I (D.zaa a0)), .val (I a1), .val (I (W (a1 * 5))), .val (I (W ((D.zaa a0) + (W (a1 * 5))))), .val (.agg (znu a0).toArray), .val (I a1), .val (.agg (znQ (D.zaK a0 a1)).toArray), .slice w2.heap.size (.cells ((boundsC [(D.zaK a0 a1)])).toArray 216 (0, 0)) 1, .val (I (D.zau a0 (W ((D.zaa a0) + (W (a1 * 5)))) ([(D.zaK a0 a1)])))] mixed r (by kernel_rfl) (za2 (by exact trivial) (za2 (by exact trivial) (za2 (by exact trivial) (za2 (by exact trivial) (za2 (by exact trivial) (za2 (by exact trivial) (za2 (by exact trivial) (za2 (by exact trivial) (za2 (by exact trivial) (za2 (Nat.le_refl _) (za2 (by exact trivial) zaC))))))))))) ?_ ?_
 ·
  refine ec r (fun _ u _ b d s => za6 s (cs := (znu a0)) (n := 6) rfl (keep b h_b1) ta25 rfl bz) (ec r (fun _ u _ b d s => za6 s (cs := (znu a0)) (n := 6) rfl (keep b h_b1) ta25 rfl bz) (ec r (fun fr1 u w' hb' hd r' => zac r' (args := [(.agg (znu a0).toArray)]) (lc hd.1 l0) zp0 ((zdj _ a0).mono (by rintro _ w2 ⟨rfl, hb2⟩; exact ⟨_, rfl, hb2, rfl⟩))) (ec r (fun _ u _ b d s => za9 s rfl bz) (ec r (fun _ u _ b d s => znA s d.1 rfl rfl rfl bz) (ec r (fun _ u _ b d s => znA s d.1 d.2.1 rfl rfl bz) (ec r (fun _ u _ b d s => za6 s (cs := (znu a0)) (n := 6) rfl (keep b h_b1) ta25 rfl bz) (ec r (fun _ u _ b d s => za9 s rfl bz) (ec r (fun fr1 u w' hb' hd r' => zac r' (args := [(.agg (znu a0).toArray), (I a1)]) (lc hd.1 (lc hd.2.1 l0)) zpo ((zew _ a0 a1).mono (by rintro _ w2 ⟨rfl, hb2⟩; exact ⟨_, rfl, hb2, rfl⟩))) (ec r (fun fr1 u w' hb' hd r' => zcv r' (c := ((boundsC [(D.zaK a0 a1)])).toArray) (E := 216) (bs1 (congrArg (fun z => (0, z)) hd.1) (by kernel_rfl)) (fun b w2 n2 => ⟨n2.below, b, rfl, Nat.le_of_eq n2.eq.symm, n2.at_⟩)) ?_)))))))))
  refine zba r rfl (fun fr1 u w' hb' hd r' => ?_) ?_
  · obtain ⟨d0, d1, d2, d3, _⟩ := hd; obtain ⟨q2, hq2, _, hr2⟩ := d2; exact zac r' (args := [(.agg (znu a0).toArray), (I (W ((D.zaa a0) + (W (a1 * 5))))), (.slice (some ⟨q2, 0, none⟩) 1 1)]) (lc d0 (lc d1 (lc hq2 l0))) zok ((zbS _ a0 (W ((D.zaa a0) + (W (a1 * 5)))) ([(D.zaK a0 a1)]) hr2 (by first | assumption | decide | (simp; done))).mono (by rintro _ w2 ⟨rfl, hb2⟩; exact ⟨_, rfl, hb2, rfl⟩))
  exact zaV
 ·
  intro fr u w4 hb hΦ hne r
  obtain ⟨b5, g9, e_b5, h_b5⟩ := hΦ 9 (by decide)
  have l_b5 := lt_of_block h_b5
  have r := r.congr (sc (hΦ 10 (by decide)) (sc g9 (sc (hΦ 8 (by decide)) (sc (hΦ 7 (by decide)) (sc (hΦ 6 (by decide)) (sc (hΦ 5 (by decide)) (sc (hΦ 4 (by decide)) (sc (hΦ 3 (by decide)) (sc (hΦ 2 (by decide)) (sc (hΦ 1 (by decide)) (sc (hΦ 0 (by decide)) rfl)))))))))))
  have z_w4 := hb.size
  have h_b1 := keep hb h_b1
  obtain ⟨hB, zB⟩ := bon hb hB
  refine za0 (I (D.zau a0 (W ((D.zaa a0) + (W (a1 * 5)))) ([(D.zaK a0 a1)]))) r (fun R => za7 r rfl) rfl fun fr r => wn (wp_ret ?_)
  refine zaz r rfl rfl ?_
  exact ⟨rfl, hB⟩
def D.zaD (a0 : Plan) (a1 : Int) : Bound := (⟨a1, 0, (IntKind.i64.wrap (a0.threads - 1))⟩ : Bound)
theorem zdY (w0 : World) 
    (a0 : Plan) (a1 : Int) :
    Calls Tryz.prog 144 #[.agg (znu a0).toArray, .int .i64 a1] w0 (znL (.agg (znQ (D.zaD a0 a1)).toArray) w0) := by
 refine enter Tryz.func144 rfl 10 rfl rfl fun fr r => ?_
 have hB := Below.refl w0.heap.size w0
 refine wsr ?_
 refine za5 (.cells ((znu a0)).toArray 25 (0, 0)) r (fun R => znF r (v := (.agg (znu a0).toArray)) rfl) rfl fun fr b1 w2 n3 r => ?_
 obtain ⟨e_b1, z_w2, h_b1, hB, zB⟩ := n3.all hB
 refine za5 (.cells ((znQ (⟨0, 0, 0⟩ : Bound))).toArray 216 (0, 0)) r (fun R => zag zp7) rfl fun fr b4 w5 n6 r => ?_
 have h_b1 := keep n6.below h_b1
 obtain ⟨e_b4, z_w5, h_b4, hB, zB⟩ := n6.all hB
 refine wn (wsr (za0 (I a1) r (fun R => za9 r rfl) rfl fun fr r => za0 _ r (fun R => za4 r (o := 0) rfl zhD) rfl fun fr r => za0 (I a0.threads) r (fun R => za3 r rfl h_b1 to3 rfl) rfl fun fr r => za0 _ r (fun R => znA r rfl rfl rfl rfl) rfl fun fr r => za0 (.agg (znQ (⟨a1, 0, (W (a0.threads - 1))⟩ : Bound)).toArray) r (fun R => zaQ r (by kernel_rfl)) rfl fun fr r => ?_))
 refine zae (.cells ((znQ (⟨a1, 0, (W (a0.threads - 1))⟩ : Bound))).toArray 216 (0, 0)) r (fun R => zaS r (o := 0) (v := (.agg (znQ (⟨a1, 0, (W (a0.threads - 1))⟩ : Bound)).toArray)) rfl rfl h_b4 zph (Nat.le_of_ble_eq_true rfl) rfl rfl) rfl fun fr w7 u8 r => ?_
 have z_w7 := u8.size
 have h_b1 := u8.keep h_b1 (by omega)
 have h_b4 := u8.at_
 obtain ⟨hB, zB⟩ := u8.on hB (by omega)
 refine wn (wp_ret ?_)
 refine zad r rfl rfl h_b4 (k := 3) rfl zpw ?_
 exact ⟨rfl, hB⟩
def D.zaZ (a0 : Plan) (a1 : Int) : Int := (D.zau a0 (IntKind.i64.wrap ((D.zax a0) + (IntKind.i64.wrap (a1 * (IntKind.i64.wrap (1 + a0.retire)))))) ([(D.zaD a0 a1)]))
theorem zcE (w0 : World) 
    (a0 : Plan) (a1 : Int) :
    Calls Tryz.prog 164 #[.agg (znu a0).toArray, .int .i64 a1] w0 (znL (.int .i64 (D.zaZ a0 a1)) w0) := by
 refine enter Tryz.func164 rfl 19 rfl rfl fun fr r => ?_
 have hB := Below.refl w0.heap.size w0
 refine wsr ?_
 refine za5 (.cells ((znu a0)).toArray 25 (0, 0)) r (fun R => znF r (v := (.agg (znu a0).toArray)) rfl) rfl fun fr b1 w2 n3 r => ?_
 obtain ⟨e_b1, z_w2, h_b1, hB, zB⟩ := n3.all hB
 refine za0 (I 0) r (fun R => za7 r rfl) rfl fun fr r => wn (wp_seq ?_)
 refine zaI 14 [.val (.agg (znu a0).toArray), .val (.agg (znu a0).toArray), .val (I (D.zax a0)), .val (I a1), .val (.pointer (some ⟨b1, 2, none⟩)), .val (I a0.retire), .val (I (W (1 + a0.retire))), .val (I (W (a1 * (W (1 + a0.retire))))), .val (I (W ((D.zax a0) + (W (a1 * (W (1 + a0.retire))))))), .val (.agg (znu a0).toArray), .val (I a1), .val (.agg (znQ (D.zaD a0 a1)).toArray), .slice w2.heap.size (.cells ((boundsC [(D.zaD a0 a1)])).toArray 216 (0, 0)) 1, .val (I (D.zau a0 (W ((D.zax a0) + (W (a1 * (W (1 + a0.retire)))))) ([(D.zaD a0 a1)])))] mixed r (by kernel_rfl) (za2 (by exact trivial) (za2 (by exact trivial) (za2 (by exact trivial) (za2 (by exact trivial) (za2 (by exact trivial) (za2 (by exact trivial) (za2 (by exact trivial) (za2 (by exact trivial) (za2 (by exact trivial) (za2 (by exact trivial) (za2 (by exact trivial) (za2 (by exact trivial) (za2 (Nat.le_refl _) (za2 (by exact trivial) zaC)))))))))))))) ?_ ?_
 ·
  refine ec r (fun _ u _ b d s => za6 s (cs := (znu a0)) (n := 6) rfl (keep b h_b1) ta25 rfl bz) (ec r (fun _ u _ b d s => za6 s (cs := (znu a0)) (n := 6) rfl (keep b h_b1) ta25 rfl bz) (ec r (fun fr1 u w' hb' hd r' => zac r' (args := [(.agg (znu a0).toArray)]) (lc hd.1 l0) zpk ((ze1 _ a0).mono (by rintro _ w2 ⟨rfl, hb2⟩; exact ⟨_, rfl, hb2, rfl⟩))) (ec r (fun _ u _ b d s => za9 s rfl bz) (ec r (fun _ u _ b d s => za4 s (b := b1) (o := 0) rfl zgl bz) (ec r (fun _ u _ b d s => za3 s d.1 (keep b h_b1) to3 rfl bz) (ec r (fun _ u _ b d s => znA s rfl d.1 rfl rfl bz) (ec r (fun _ u _ b d s => znA s d.1 d.2.1 rfl rfl bz) (ec r (fun _ u _ b d s => znA s d.1 d.2.1 rfl rfl bz) (ec r (fun _ u _ b d s => za6 s (cs := (znu a0)) (n := 6) rfl (keep b h_b1) ta25 rfl bz) (ec r (fun _ u _ b d s => za9 s rfl bz) (ec r (fun fr1 u w' hb' hd r' => zac r' (args := [(.agg (znu a0).toArray), (I a1)]) (lc hd.1 (lc hd.2.1 l0)) zp6 ((zdY _ a0 a1).mono (by rintro _ w2 ⟨rfl, hb2⟩; exact ⟨_, rfl, hb2, rfl⟩))) (ec r (fun fr1 u w' hb' hd r' => zcv r' (c := ((boundsC [(D.zaD a0 a1)])).toArray) (E := 216) (bs1 (congrArg (fun z => (0, z)) hd.1) (by kernel_rfl)) (fun b w2 n2 => ⟨n2.below, b, rfl, Nat.le_of_eq n2.eq.symm, n2.at_⟩)) ?_))))))))))))
  refine zba r rfl (fun fr1 u w' hb' hd r' => ?_) ?_
  · obtain ⟨d0, d1, d2, d3, _⟩ := hd; obtain ⟨q2, hq2, _, hr2⟩ := d2; exact zac r' (args := [(.agg (znu a0).toArray), (I (W ((D.zax a0) + (W (a1 * (W (1 + a0.retire))))))), (.slice (some ⟨q2, 0, none⟩) 1 1)]) (lc d0 (lc d1 (lc hq2 l0))) zok ((zbS _ a0 (W ((D.zax a0) + (W (a1 * (W (1 + a0.retire)))))) ([(D.zaD a0 a1)]) hr2 (by first | assumption | decide | (simp; done))).mono (by rintro _ w2 ⟨rfl, hb2⟩; exact ⟨_, rfl, hb2, rfl⟩))
  exact zaV
 ·
  intro fr u w4 hb hΦ hne r
  obtain ⟨b5, g12, e_b5, h_b5⟩ := hΦ 12 (by decide)
  have l_b5 := lt_of_block h_b5
  have r := r.congr (sc (hΦ 13 (by decide)) (sc g12 (sc (hΦ 11 (by decide)) (sc (hΦ 10 (by decide)) (sc (hΦ 9 (by decide)) (sc (hΦ 8 (by decide)) (sc (hΦ 7 (by decide)) (sc (hΦ 6 (by decide)) (sc (hΦ 5 (by decide)) (sc (hΦ 4 (by decide)) (sc (hΦ 3 (by decide)) (sc (hΦ 2 (by decide)) (sc (hΦ 1 (by decide)) (sc (hΦ 0 (by decide)) rfl))))))))))))))
  have z_w4 := hb.size
  have h_b1 := keep hb h_b1
  obtain ⟨hB, zB⟩ := bon hb hB
  refine za0 (I (D.zau a0 (W ((D.zax a0) + (W (a1 * (W (1 + a0.retire)))))) ([(D.zaD a0 a1)]))) r (fun R => za7 r rfl) rfl fun fr r => wn (wp_ret ?_)
  refine zaz r rfl rfl ?_
  exact ⟨rfl, hB⟩
def D.zaL (a0 : Plan) (a1 : Int) (a2 : Int) : Int := (D.zau a0 (IntKind.i64.wrap ((IntKind.i64.wrap ((IntKind.i64.wrap ((D.zax a0) + (IntKind.i64.wrap (a1 * (IntKind.i64.wrap (1 + a0.retire)))))) + 1)) + a2)) ([(D.zaD a0 a1), (⟨a2, 0, (IntKind.i64.wrap (a0.retire - 1))⟩ : Bound)]))
theorem zcd (w0 : World) 
    (a0 : Plan) (a1 : Int) (a2 : Int) :
    Calls Tryz.prog 165 #[.agg (znu a0).toArray, .int .i64 a1, .int .i64 a2] w0 (znL (.int .i64 (D.zaL a0 a1 a2)) w0) := by
 refine enter Tryz.func165 rfl 29 rfl rfl fun fr r => ?_
 have hB := Below.refl w0.heap.size w0
 refine wsr ?_
 refine za5 (.cells ((znu a0)).toArray 25 (0, 0)) r (fun R => znF r (v := (.agg (znu a0).toArray)) rfl) rfl fun fr b1 w2 n3 r => ?_
 obtain ⟨e_b1, z_w2, h_b1, hB, zB⟩ := n3.all hB
 refine za0 (I 0) r (fun R => za7 r rfl) rfl fun fr r => wn (wp_seq ?_)
 refine zaI 22 [.val (.agg (znu a0).toArray), .val (.agg (znu a0).toArray), .val (I (D.zax a0)), .val (I a1), .val (.pointer (some ⟨b1, 2, none⟩)), .val (I a0.retire), .val (I (W (1 + a0.retire))), .val (I (W (a1 * (W (1 + a0.retire))))), .val (I (W ((D.zax a0) + (W (a1 * (W (1 + a0.retire))))))), .val (I (W ((W ((D.zax a0) + (W (a1 * (W (1 + a0.retire)))))) + 1))), .val (I a2), .val (I (W ((W ((W ((D.zax a0) + (W (a1 * (W (1 + a0.retire)))))) + 1)) + a2))), .val (.agg (znu a0).toArray), .val (I a1), .val (.agg (znQ (D.zaD a0 a1)).toArray), .val (I a2), .val (.pointer (some ⟨b1, 2, none⟩)), .val (I a0.retire), .val (I (W (a0.retire - 1))), .val (.agg (znQ (⟨a2, 0, (W (a0.retire - 1))⟩ : Bound)).toArray), .slice w2.heap.size (.cells ((boundsC [(D.zaD a0 a1), (⟨a2, 0, (W (a0.retire - 1))⟩ : Bound)])).toArray 216 (0, 0)) 2, .val (I (D.zau a0 (W ((W ((W ((D.zax a0) + (W (a1 * (W (1 + a0.retire)))))) + 1)) + a2)) ([(D.zaD a0 a1), (⟨a2, 0, (W (a0.retire - 1))⟩ : Bound)])))] mixed r (by kernel_rfl) (za2 (by exact trivial) (za2 (by exact trivial) (za2 (by exact trivial) (za2 (by exact trivial) (za2 (by exact trivial) (za2 (by exact trivial) (za2 (by exact trivial) (za2 (by exact trivial) (za2 (by exact trivial) (za2 (by exact trivial) (za2 (by exact trivial) (za2 (by exact trivial) (za2 (by exact trivial) (za2 (by exact trivial) (za2 (by exact trivial) (za2 (by exact trivial) (za2 (by exact trivial) (za2 (by exact trivial) (za2 (by exact trivial) (za2 (by exact trivial) (za2 (Nat.le_refl _) (za2 (by exact trivial) zaC)))))))))))))))))))))) ?_ ?_
 ·
  refine ec r (fun _ u _ b d s => za6 s (cs := (znu a0)) (n := 6) rfl (keep b h_b1) ta25 rfl bz) (ec r (fun _ u _ b d s => za6 s (cs := (znu a0)) (n := 6) rfl (keep b h_b1) ta25 rfl bz) (ec r (fun fr1 u w' hb' hd r' => zac r' (args := [(.agg (znu a0).toArray)]) (lc hd.1 l0) zpk ((ze1 _ a0).mono (by rintro _ w2 ⟨rfl, hb2⟩; exact ⟨_, rfl, hb2, rfl⟩))) (ec r (fun _ u _ b d s => za9 s rfl bz) (ec r (fun _ u _ b d s => za4 s (b := b1) (o := 0) rfl zgl bz) (ec r (fun _ u _ b d s => za3 s d.1 (keep b h_b1) to3 rfl bz) (ec r (fun _ u _ b d s => znA s rfl d.1 rfl rfl bz) (ec r (fun _ u _ b d s => znA s d.1 d.2.1 rfl rfl bz) (ec r (fun _ u _ b d s => znA s d.1 d.2.1 rfl rfl bz) (ec r (fun _ u _ b d s => znA s d.1 rfl rfl rfl bz) (ec r (fun _ u _ b d s => za9 s rfl bz) (ec r (fun _ u _ b d s => znA s d.1 d.2.1 rfl rfl bz) (ec r (fun _ u _ b d s => za6 s (cs := (znu a0)) (n := 6) rfl (keep b h_b1) ta25 rfl bz) (ec r (fun _ u _ b d s => za9 s rfl bz) (ec r (fun fr1 u w' hb' hd r' => zac r' (args := [(.agg (znu a0).toArray), (I a1)]) (lc hd.1 (lc hd.2.1 l0)) zp6 ((zdY _ a0 a1).mono (by rintro _ w2 ⟨rfl, hb2⟩; exact ⟨_, rfl, hb2, rfl⟩))) (ec r (fun _ u _ b d s => za9 s rfl bz) (ec r (fun _ u _ b d s => za4 s (b := b1) (o := 0) rfl zgl bz) (ec r (fun _ u _ b d s => za3 s d.1 (keep b h_b1) to3 rfl bz) (ec r (fun _ u _ b d s => znA s d.1 rfl rfl rfl bz) (ec r (fun fr1 u w' hb' hd r' => zaQ r' (v := (.agg (znQ (⟨a2, 0, (W (a0.retire - 1))⟩ : Bound)).toArray)) (bs3 (congrArg (fun z => (0, z)) hd.1) (rfl) (congrArg (fun z => (2, z)) hd.2.1) (by kernel_rfl)) bz) (ec r (fun fr1 u w' hb' hd r' => zcv r' (c := ((boundsC [(D.zaD a0 a1), (⟨a2, 0, (W (a0.retire - 1))⟩ : Bound)])).toArray) (E := 216) (bs2 (congrArg (fun z => (0, z)) hd.1) (congrArg (fun z => (1, z)) hd.2.1) (by kernel_rfl)) (fun b w2 n2 => ⟨n2.below, b, rfl, Nat.le_of_eq n2.eq.symm, n2.at_⟩)) ?_))))))))))))))))))))
  refine zba r rfl (fun fr1 u w' hb' hd r' => ?_) ?_
  · obtain ⟨d0, d1, d2, d3, _⟩ := hd; obtain ⟨q2, hq2, _, hr2⟩ := d2; exact zac r' (args := [(.agg (znu a0).toArray), (I (W ((W ((W ((D.zax a0) + (W (a1 * (W (1 + a0.retire)))))) + 1)) + a2))), (.slice (some ⟨q2, 0, none⟩) 2 2)]) (lc d0 (lc d1 (lc hq2 l0))) zok ((zbS _ a0 (W ((W ((W ((D.zax a0) + (W (a1 * (W (1 + a0.retire)))))) + 1)) + a2)) ([(D.zaD a0 a1), (⟨a2, 0, (W (a0.retire - 1))⟩ : Bound)]) hr2 (by first | assumption | decide | (simp; done))).mono (by rintro _ w2 ⟨rfl, hb2⟩; exact ⟨_, rfl, hb2, rfl⟩))
  exact zaV
 ·
  intro fr u w4 hb hΦ hne r
  obtain ⟨b5, g20, e_b5, h_b5⟩ := hΦ 20 (by decide)
  have l_b5 := lt_of_block h_b5
  have r := r.congr (sc (hΦ 21 (by decide)) (sc g20 (sc (hΦ 19 (by decide)) (sc (hΦ 18 (by decide)) (sc (hΦ 17 (by decide)) (sc (hΦ 16 (by decide)) (sc (hΦ 15 (by decide)) (sc (hΦ 14 (by decide)) (sc (hΦ 13 (by decide)) (sc (hΦ 12 (by decide)) (sc (hΦ 11 (by decide)) (sc (hΦ 10 (by decide)) (sc (hΦ 9 (by decide)) (sc (hΦ 8 (by decide)) (sc (hΦ 7 (by decide)) (sc (hΦ 6 (by decide)) (sc (hΦ 5 (by decide)) (sc (hΦ 4 (by decide)) (sc (hΦ 3 (by decide)) (sc (hΦ 2 (by decide)) (sc (hΦ 1 (by decide)) (sc (hΦ 0 (by decide)) rfl))))))))))))))))))))))
  have z_w4 := hb.size
  have h_b1 := keep hb h_b1
  obtain ⟨hB, zB⟩ := bon hb hB
  refine za0 (I (D.zau a0 (W ((W ((W ((D.zax a0) + (W (a1 * (W (1 + a0.retire)))))) + 1)) + a2)) ([(D.zaD a0 a1), (⟨a2, 0, (W (a0.retire - 1))⟩ : Bound)]))) r (fun R => za7 r rfl) rfl fun fr r => wn (wp_ret ?_)
  refine zaz r rfl rfl ?_
  exact ⟨rfl, hB⟩
def D.zbc (a0 : Plan) (a1 : Int) (a2 : Int) : Int := (D.zau a0 (IntKind.i64.wrap ((IntKind.i64.wrap ((D.zab a0) + (IntKind.i64.wrap (a1 * 3)))) + a2)) ([(D.zaD a0 a1), (⟨a2, 0, 2⟩ : Bound)]))
theorem zdP (w0 : World) 
    (a0 : Plan) (a1 : Int) (a2 : Int) :
    Calls Tryz.prog 52 #[.agg (znu a0).toArray, .int .i64 a1, .int .i64 a2] w0 (znL (.int .i64 (D.zbc a0 a1 a2)) w0) := by
 refine enter Tryz.func52 rfl 22 rfl rfl fun fr r => ?_
 have hB := Below.refl w0.heap.size w0
 refine wsr ?_
 refine za5 (.cells ((znu a0)).toArray 25 (0, 0)) r (fun R => znF r (v := (.agg (znu a0).toArray)) rfl) rfl fun fr b1 w2 n3 r => ?_
 obtain ⟨e_b1, z_w2, h_b1, hB, zB⟩ := n3.all hB
 refine za0 (I 0) r (fun R => za7 r rfl) rfl fun fr r => wn (wp_seq ?_)
 refine zaI 15 [.val (.agg (znu a0).toArray), .val (.agg (znu a0).toArray), .val (I (D.zab a0)), .val (I a1), .val (I (W (a1 * 3))), .val (I (W ((D.zab a0) + (W (a1 * 3))))), .val (I a2), .val (I (W ((W ((D.zab a0) + (W (a1 * 3)))) + a2))), .val (.agg (znu a0).toArray), .val (I a1), .val (.agg (znQ (D.zaD a0 a1)).toArray), .val (I a2), .val (.agg (znQ (⟨a2, 0, 2⟩ : Bound)).toArray), .slice w2.heap.size (.cells ((boundsC [(D.zaD a0 a1), (⟨a2, 0, 2⟩ : Bound)])).toArray 216 (0, 0)) 2, .val (I (D.zau a0 (W ((W ((D.zab a0) + (W (a1 * 3)))) + a2)) ([(D.zaD a0 a1), (⟨a2, 0, 2⟩ : Bound)])))] mixed r (by kernel_rfl) (za2 (by exact trivial) (za2 (by exact trivial) (za2 (by exact trivial) (za2 (by exact trivial) (za2 (by exact trivial) (za2 (by exact trivial) (za2 (by exact trivial) (za2 (by exact trivial) (za2 (by exact trivial) (za2 (by exact trivial) (za2 (by exact trivial) (za2 (by exact trivial) (za2 (by exact trivial) (za2 (Nat.le_refl _) (za2 (by exact trivial) zaC))))))))))))))) ?_ ?_
 ·
  refine ec r (fun _ u _ b d s => za6 s (cs := (znu a0)) (n := 6) rfl (keep b h_b1) ta25 rfl bz) (ec r (fun _ u _ b d s => za6 s (cs := (znu a0)) (n := 6) rfl (keep b h_b1) ta25 rfl bz) (ec r (fun fr1 u w' hb' hd r' => zac r' (args := [(.agg (znu a0).toArray)]) (lc hd.1 l0) zq5 ((zeN _ a0).mono (by rintro _ w2 ⟨rfl, hb2⟩; exact ⟨_, rfl, hb2, rfl⟩))) (ec r (fun _ u _ b d s => za9 s rfl bz) (ec r (fun _ u _ b d s => znA s d.1 rfl rfl rfl bz) (ec r (fun _ u _ b d s => znA s d.1 d.2.1 rfl rfl bz) (ec r (fun _ u _ b d s => za9 s rfl bz) (ec r (fun _ u _ b d s => znA s d.1 d.2.1 rfl rfl bz) (ec r (fun _ u _ b d s => za6 s (cs := (znu a0)) (n := 6) rfl (keep b h_b1) ta25 rfl bz) (ec r (fun _ u _ b d s => za9 s rfl bz) (ec r (fun fr1 u w' hb' hd r' => zac r' (args := [(.agg (znu a0).toArray), (I a1)]) (lc hd.1 (lc hd.2.1 l0)) zp6 ((zdY _ a0 a1).mono (by rintro _ w2 ⟨rfl, hb2⟩; exact ⟨_, rfl, hb2, rfl⟩))) (ec r (fun _ u _ b d s => za9 s rfl bz) (ec r (fun fr1 u w' hb' hd r' => zaQ r' (v := (.agg (znQ (⟨a2, 0, 2⟩ : Bound)).toArray)) (bs3 (congrArg (fun z => (0, z)) hd.1) (rfl) (rfl) (by kernel_rfl)) bz) (ec r (fun fr1 u w' hb' hd r' => zcv r' (c := ((boundsC [(D.zaD a0 a1), (⟨a2, 0, 2⟩ : Bound)])).toArray) (E := 216) (bs2 (congrArg (fun z => (0, z)) hd.1) (congrArg (fun z => (1, z)) hd.2.1) (by kernel_rfl)) (fun b w2 n2 => ⟨n2.below, b, rfl, Nat.le_of_eq n2.eq.symm, n2.at_⟩)) ?_)))))))))))))
  refine zba r rfl (fun fr1 u w' hb' hd r' => ?_) ?_
  · obtain ⟨d0, d1, d2, d3, _⟩ := hd; obtain ⟨q2, hq2, _, hr2⟩ := d2; exact zac r' (args := [(.agg (znu a0).toArray), (I (W ((W ((D.zab a0) + (W (a1 * 3)))) + a2))), (.slice (some ⟨q2, 0, none⟩) 2 2)]) (lc d0 (lc d1 (lc hq2 l0))) zok ((zbS _ a0 (W ((W ((D.zab a0) + (W (a1 * 3)))) + a2)) ([(D.zaD a0 a1), (⟨a2, 0, 2⟩ : Bound)]) hr2 (by first | assumption | decide | (simp; done))).mono (by rintro _ w2 ⟨rfl, hb2⟩; exact ⟨_, rfl, hb2, rfl⟩))
  exact zaV
 ·
  intro fr u w4 hb hΦ hne r
  obtain ⟨b5, g13, e_b5, h_b5⟩ := hΦ 13 (by decide)
  have l_b5 := lt_of_block h_b5
  have r := r.congr (sc (hΦ 14 (by decide)) (sc g13 (sc (hΦ 12 (by decide)) (sc (hΦ 11 (by decide)) (sc (hΦ 10 (by decide)) (sc (hΦ 9 (by decide)) (sc (hΦ 8 (by decide)) (sc (hΦ 7 (by decide)) (sc (hΦ 6 (by decide)) (sc (hΦ 5 (by decide)) (sc (hΦ 4 (by decide)) (sc (hΦ 3 (by decide)) (sc (hΦ 2 (by decide)) (sc (hΦ 1 (by decide)) (sc (hΦ 0 (by decide)) rfl)))))))))))))))
  have z_w4 := hb.size
  have h_b1 := keep hb h_b1
  obtain ⟨hB, zB⟩ := bon hb hB
  refine za0 (I (D.zau a0 (W ((W ((D.zab a0) + (W (a1 * 3)))) + a2)) ([(D.zaD a0 a1), (⟨a2, 0, 2⟩ : Bound)]))) r (fun R => za7 r rfl) rfl fun fr r => wn (wp_ret ?_)
  refine zaz r rfl rfl ?_
  exact ⟨rfl, hB⟩
def D.zaw (a0 : Plan) (a1 : Int) (a2 : Int) : Int := (D.zau a0 (IntKind.i64.wrap ((IntKind.i64.wrap ((IntKind.i64.wrap ((D.zaa a0) + (IntKind.i64.wrap (a1 * 5)))) + 2)) + a2)) ([(D.zaK a0 a1), (⟨a2, 0, 2⟩ : Bound)]))
theorem zbP (w0 : World) 
    (a0 : Plan) (a1 : Int) (a2 : Int) :
    Calls Tryz.prog 150 #[.agg (znu a0).toArray, .int .i64 a1, .int .i64 a2] w0 (znL (.int .i64 (D.zaw a0 a1 a2)) w0) := by
 refine enter Tryz.func150 rfl 23 rfl rfl fun fr r => ?_
 have hB := Below.refl w0.heap.size w0
 refine wsr ?_
 refine za5 (.cells ((znu a0)).toArray 25 (0, 0)) r (fun R => znF r (v := (.agg (znu a0).toArray)) rfl) rfl fun fr b1 w2 n3 r => ?_
 obtain ⟨e_b1, z_w2, h_b1, hB, zB⟩ := n3.all hB
 refine za0 (I 0) r (fun R => za7 r rfl) rfl fun fr r => wn (wp_seq ?_)
 refine zaI 16 [.val (.agg (znu a0).toArray), .val (.agg (znu a0).toArray), .val (I (D.zaa a0)), .val (I a1), .val (I (W (a1 * 5))), .val (I (W ((D.zaa a0) + (W (a1 * 5))))), .val (I (W ((W ((D.zaa a0) + (W (a1 * 5)))) + 2))), .val (I a2), .val (I (W ((W ((W ((D.zaa a0) + (W (a1 * 5)))) + 2)) + a2))), .val (.agg (znu a0).toArray), .val (I a1), .val (.agg (znQ (D.zaK a0 a1)).toArray), .val (I a2), .val (.agg (znQ (⟨a2, 0, 2⟩ : Bound)).toArray), .slice w2.heap.size (.cells ((boundsC [(D.zaK a0 a1), (⟨a2, 0, 2⟩ : Bound)])).toArray 216 (0, 0)) 2, .val (I (D.zau a0 (W ((W ((W ((D.zaa a0) + (W (a1 * 5)))) + 2)) + a2)) ([(D.zaK a0 a1), (⟨a2, 0, 2⟩ : Bound)])))] mixed r (by kernel_rfl) (za2 (by exact trivial) (za2 (by exact trivial) (za2 (by exact trivial) (za2 (by exact trivial) (za2 (by exact trivial) (za2 (by exact trivial) (za2 (by exact trivial) (za2 (by exact trivial) (za2 (by exact trivial) (za2 (by exact trivial) (za2 (by exact trivial) (za2 (by exact trivial) (za2 (by exact trivial) (za2 (by exact trivial) (za2 (Nat.le_refl _) (za2 (by exact trivial) zaC)))))))))))))))) ?_ ?_
 ·
  refine ec r (fun _ u _ b d s => za6 s (cs := (znu a0)) (n := 6) rfl (keep b h_b1) ta25 rfl bz) (ec r (fun _ u _ b d s => za6 s (cs := (znu a0)) (n := 6) rfl (keep b h_b1) ta25 rfl bz) (ec r (fun fr1 u w' hb' hd r' => zac r' (args := [(.agg (znu a0).toArray)]) (lc hd.1 l0) zp0 ((zdj _ a0).mono (by rintro _ w2 ⟨rfl, hb2⟩; exact ⟨_, rfl, hb2, rfl⟩))) (ec r (fun _ u _ b d s => za9 s rfl bz) (ec r (fun _ u _ b d s => znA s d.1 rfl rfl rfl bz) (ec r (fun _ u _ b d s => znA s d.1 d.2.1 rfl rfl bz) (ec r (fun _ u _ b d s => znA s d.1 rfl rfl rfl bz) (ec r (fun _ u _ b d s => za9 s rfl bz) (ec r (fun _ u _ b d s => znA s d.1 d.2.1 rfl rfl bz) (ec r (fun _ u _ b d s => za6 s (cs := (znu a0)) (n := 6) rfl (keep b h_b1) ta25 rfl bz) (ec r (fun _ u _ b d s => za9 s rfl bz) (ec r (fun fr1 u w' hb' hd r' => zac r' (args := [(.agg (znu a0).toArray), (I a1)]) (lc hd.1 (lc hd.2.1 l0)) zpo ((zew _ a0 a1).mono (by rintro _ w2 ⟨rfl, hb2⟩; exact ⟨_, rfl, hb2, rfl⟩))) (ec r (fun _ u _ b d s => za9 s rfl bz) (ec r (fun fr1 u w' hb' hd r' => zaQ r' (v := (.agg (znQ (⟨a2, 0, 2⟩ : Bound)).toArray)) (bs3 (congrArg (fun z => (0, z)) hd.1) (rfl) (rfl) (by kernel_rfl)) bz) (ec r (fun fr1 u w' hb' hd r' => zcv r' (c := ((boundsC [(D.zaK a0 a1), (⟨a2, 0, 2⟩ : Bound)])).toArray) (E := 216) (bs2 (congrArg (fun z => (0, z)) hd.1) (congrArg (fun z => (1, z)) hd.2.1) (by kernel_rfl)) (fun b w2 n2 => ⟨n2.below, b, rfl, Nat.le_of_eq n2.eq.symm, n2.at_⟩)) ?_))))))))))))))
  refine zba r rfl (fun fr1 u w' hb' hd r' => ?_) ?_
  · obtain ⟨d0, d1, d2, d3, _⟩ := hd; obtain ⟨q2, hq2, _, hr2⟩ := d2; exact zac r' (args := [(.agg (znu a0).toArray), (I (W ((W ((W ((D.zaa a0) + (W (a1 * 5)))) + 2)) + a2))), (.slice (some ⟨q2, 0, none⟩) 2 2)]) (lc d0 (lc d1 (lc hq2 l0))) zok ((zbS _ a0 (W ((W ((W ((D.zaa a0) + (W (a1 * 5)))) + 2)) + a2)) ([(D.zaK a0 a1), (⟨a2, 0, 2⟩ : Bound)]) hr2 (by first | assumption | decide | (simp; done))).mono (by rintro _ w2 ⟨rfl, hb2⟩; exact ⟨_, rfl, hb2, rfl⟩))
  exact zaV
 ·
  intro fr u w4 hb hΦ hne r
  obtain ⟨b5, g14, e_b5, h_b5⟩ := hΦ 14 (by decide)
  have l_b5 := lt_of_block h_b5
  have r := r.congr (sc (hΦ 15 (by decide)) (sc g14 (sc (hΦ 13 (by decide)) (sc (hΦ 12 (by decide)) (sc (hΦ 11 (by decide)) (sc (hΦ 10 (by decide)) (sc (hΦ 9 (by decide)) (sc (hΦ 8 (by decide)) (sc (hΦ 7 (by decide)) (sc (hΦ 6 (by decide)) (sc (hΦ 5 (by decide)) (sc (hΦ 4 (by decide)) (sc (hΦ 3 (by decide)) (sc (hΦ 2 (by decide)) (sc (hΦ 1 (by decide)) (sc (hΦ 0 (by decide)) rfl))))))))))))))))
  have z_w4 := hb.size
  have h_b1 := keep hb h_b1
  obtain ⟨hB, zB⟩ := bon hb hB
  refine za0 (I (D.zau a0 (W ((W ((W ((D.zaa a0) + (W (a1 * 5)))) + 2)) + a2)) ([(D.zaK a0 a1), (⟨a2, 0, 2⟩ : Bound)]))) r (fun R => za7 r rfl) rfl fun fr r => wn (wp_ret ?_)
  refine zaz r rfl rfl ?_
  exact ⟨rfl, hB⟩
def D.zat (a0 : Plan) : Bool := (bif (decide (a0.nodes < 1)) then false else (bif (decide (a0.nodes > 1048576)) then false else (bif (decide (a0.threads < 1)) then false else (bif (decide (a0.threads > 16)) then false else (bif (decide (a0.domains < 0)) then false else (bif (decide (a0.domains > 64)) then false else (bif (decide (a0.buckets ≥ 1)) then (bif (decide (a0.buckets ≤ 256)) then (bif (decide (a0.gen ≥ 1)) then (bif (decide (a0.gen ≤ 1073741823)) then (bif (decide (a0.retire > (IntKind.i64.wrap (3 * a0.threads)))) then (decide (a0.retire ≤ 1024)) else false) else false) else false) else false) else false)))))))
theorem zel (w0 : World) 
    (a0 : Plan) :
    Calls Tryz.prog 45 #[.agg (znu a0).toArray] w0 (znL (.bool (D.zat a0)) w0) := by
 refine enter Tryz.func45 rfl 62 rfl rfl fun fr r => ?_
 have hB := Below.refl w0.heap.size w0
 refine wsr ?_
 refine za5 (.cells ((znu a0)).toArray 25 (0, 0)) r (fun R => znF r (v := (.agg (znu a0).toArray)) rfl) rfl fun fr b1 w2 n3 r => ?_
 obtain ⟨e_b1, z_w2, h_b1, hB, zB⟩ := n3.all hB
 refine za0 (.bool false) r (fun R => za7 r rfl) rfl fun fr r => wn (wp_seq (wsr (za0 _ r (fun R => za4 r (o := 0) rfl zeD) rfl fun fr r => za0 (I a0.nodes) r (fun R => za3 r rfl h_b1 to3 rfl) rfl fun fr r => za0 _ r (fun R => znA r rfl rfl rfl rfl) rfl fun fr r => za0 (.bool (decide (a0.nodes < 1))) r (fun R => za9 r rfl) rfl fun fr r => ?_)))
 refine zaF (decide (a0.nodes < 1)) (fun h4 => ?_) (fun h4 => ?_)
 ·
  refine s0 r h4 fun fr r => s0 r h4 fun fr r => s0 r h4 fun fr r => za0 (.bool true) r (fun R => zar r (b := true) (congrArg Value.bool h4) rfl) rfl fun fr r => za0 (.bool true) r (fun R => za9 r rfl) rfl fun fr r => s0 r (rfl : true = _) fun fr r => s0 r (rfl : true = _) fun fr r => s0 r (rfl : true = _) fun fr r => za0 (.bool true) r (fun R => zar r (b := true) (congrArg Value.bool (rfl : true = _)) rfl) rfl fun fr r => za0 (.bool true) r (fun R => za9 r rfl) rfl fun fr r => s0 r (rfl : true = _) fun fr r => s0 r (rfl : true = _) fun fr r => s0 r (rfl : true = _) fun fr r => za0 (.bool true) r (fun R => zar r (b := true) (congrArg Value.bool (rfl : true = _)) rfl) rfl fun fr r => za0 (.bool true) r (fun R => za9 r rfl) rfl fun fr r => s0 r (rfl : true = _) fun fr r => s0 r (rfl : true = _) fun fr r => s0 r (rfl : true = _) fun fr r => za0 (.bool true) r (fun R => zar r (b := true) (congrArg Value.bool (rfl : true = _)) rfl) rfl fun fr r => za0 (.bool true) r (fun R => za9 r rfl) rfl fun fr r => s0 r (rfl : true = _) fun fr r => s0 r (rfl : true = _) fun fr r => s0 r (rfl : true = _) fun fr r => za0 (.bool true) r (fun R => zar r (b := true) (congrArg Value.bool (rfl : true = _)) rfl) rfl fun fr r => wn ?_
  refine wp_cond_split (t := true) (r.ev rfl) (fun _ => ?_) (fun h => absurd ((rfl : true = _).symm.trans h) (by decide))
  refine wsr (za0 (.bool false) r (fun R => za7 r rfl) rfl fun fr r => wn (wp_ret ?_))
  have hd : D.zat a0 = false := (zaq h4).trans (rfl)
  refine zaz r rfl rfl ?_
  rw [hd]
  exact ⟨rfl, hB⟩
 ·
  refine s1 r h4 (za0 _ r (fun R => za4 r (o := 0) rfl zeD) rfl fun fr r => s1 r h4 (za0 (I a0.nodes) r (fun R => za3 r rfl h_b1 to3 rfl) rfl fun fr r => s1 r h4 (za0 _ r (fun R => znA r rfl rfl rfl rfl) rfl fun fr r => za0 (.bool (decide (a0.nodes > 1048576))) r (fun R => zar r (b := false) (congrArg Value.bool h4) rfl) rfl fun fr r => za0 (.bool (decide (a0.nodes > 1048576))) r (fun R => za9 r rfl) rfl fun fr r => ?_)))
  refine zaF (decide (a0.nodes > 1048576)) (fun h5 => ?_) (fun h5 => ?_)
  ·
   refine s0 r h5 fun fr r => s0 r h5 fun fr r => s0 r h5 fun fr r => za0 (.bool true) r (fun R => zar r (b := true) (congrArg Value.bool h5) rfl) rfl fun fr r => za0 (.bool true) r (fun R => za9 r rfl) rfl fun fr r => s0 r (rfl : true = _) fun fr r => s0 r (rfl : true = _) fun fr r => s0 r (rfl : true = _) fun fr r => za0 (.bool true) r (fun R => zar r (b := true) (congrArg Value.bool (rfl : true = _)) rfl) rfl fun fr r => za0 (.bool true) r (fun R => za9 r rfl) rfl fun fr r => s0 r (rfl : true = _) fun fr r => s0 r (rfl : true = _) fun fr r => s0 r (rfl : true = _) fun fr r => za0 (.bool true) r (fun R => zar r (b := true) (congrArg Value.bool (rfl : true = _)) rfl) rfl fun fr r => za0 (.bool true) r (fun R => za9 r rfl) rfl fun fr r => s0 r (rfl : true = _) fun fr r => s0 r (rfl : true = _) fun fr r => s0 r (rfl : true = _) fun fr r => za0 (.bool true) r (fun R => zar r (b := true) (congrArg Value.bool (rfl : true = _)) rfl) rfl fun fr r => wn ?_
   refine wp_cond_split (t := true) (r.ev rfl) (fun _ => ?_) (fun h => absurd ((rfl : true = _).symm.trans h) (by decide))
   refine wsr (za0 (.bool false) r (fun R => za7 r rfl) rfl fun fr r => wn (wp_ret ?_))
   have hd : D.zat a0 = false := (zak h4).trans ((zaq h5).trans (rfl))
   refine zaz r rfl rfl ?_
   rw [hd]
   exact ⟨rfl, hB⟩
  ·
   refine s1 r h5 (za0 _ r (fun R => za4 r (o := 0) rfl zhD) rfl fun fr r => s1 r h5 (za0 (I a0.threads) r (fun R => za3 r rfl h_b1 to3 rfl) rfl fun fr r => s1 r h5 (za0 _ r (fun R => znA r rfl rfl rfl rfl) rfl fun fr r => za0 (.bool (decide (a0.threads < 1))) r (fun R => zar r (b := false) (congrArg Value.bool h5) rfl) rfl fun fr r => za0 (.bool (decide (a0.threads < 1))) r (fun R => za9 r rfl) rfl fun fr r => ?_)))
   refine zaF (decide (a0.threads < 1)) (fun h6 => ?_) (fun h6 => ?_)
   ·
    refine s0 r h6 fun fr r => s0 r h6 fun fr r => s0 r h6 fun fr r => za0 (.bool true) r (fun R => zar r (b := true) (congrArg Value.bool h6) rfl) rfl fun fr r => za0 (.bool true) r (fun R => za9 r rfl) rfl fun fr r => s0 r (rfl : true = _) fun fr r => s0 r (rfl : true = _) fun fr r => s0 r (rfl : true = _) fun fr r => za0 (.bool true) r (fun R => zar r (b := true) (congrArg Value.bool (rfl : true = _)) rfl) rfl fun fr r => za0 (.bool true) r (fun R => za9 r rfl) rfl fun fr r => s0 r (rfl : true = _) fun fr r => s0 r (rfl : true = _) fun fr r => s0 r (rfl : true = _) fun fr r => za0 (.bool true) r (fun R => zar r (b := true) (congrArg Value.bool (rfl : true = _)) rfl) rfl fun fr r => wn ?_
    refine wp_cond_split (t := true) (r.ev rfl) (fun _ => ?_) (fun h => absurd ((rfl : true = _).symm.trans h) (by decide))
    refine wsr (za0 (.bool false) r (fun R => za7 r rfl) rfl fun fr r => wn (wp_ret ?_))
    have hd : D.zat a0 = false := (zak h4).trans ((zak h5).trans ((zaq h6).trans (rfl)))
    refine zaz r rfl rfl ?_
    rw [hd]
    exact ⟨rfl, hB⟩
   ·
    refine s1 r h6 (za0 _ r (fun R => za4 r (o := 0) rfl zhD) rfl fun fr r => s1 r h6 (za0 (I a0.threads) r (fun R => za3 r rfl h_b1 to3 rfl) rfl fun fr r => s1 r h6 (za0 _ r (fun R => znA r rfl rfl rfl rfl) rfl fun fr r => za0 (.bool (decide (a0.threads > 16))) r (fun R => zar r (b := false) (congrArg Value.bool h6) rfl) rfl fun fr r => za0 (.bool (decide (a0.threads > 16))) r (fun R => za9 r rfl) rfl fun fr r => ?_)))
    refine zaF (decide (a0.threads > 16)) (fun h7 => ?_) (fun h7 => ?_)
    ·
     refine s0 r h7 fun fr r => s0 r h7 fun fr r => s0 r h7 fun fr r => za0 (.bool true) r (fun R => zar r (b := true) (congrArg Value.bool h7) rfl) rfl fun fr r => za0 (.bool true) r (fun R => za9 r rfl) rfl fun fr r => s0 r (rfl : true = _) fun fr r => s0 r (rfl : true = _) fun fr r => s0 r (rfl : true = _) fun fr r => za0 (.bool true) r (fun R => zar r (b := true) (congrArg Value.bool (rfl : true = _)) rfl) rfl fun fr r => wn ?_
     refine wp_cond_split (t := true) (r.ev rfl) (fun _ => ?_) (fun h => absurd ((rfl : true = _).symm.trans h) (by decide))
     refine wsr (za0 (.bool false) r (fun R => za7 r rfl) rfl fun fr r => wn (wp_ret ?_))
     have hd : D.zat a0 = false := (zak h4).trans ((zak h5).trans ((zak h6).trans ((zaq h7).trans (rfl))))
     refine zaz r rfl rfl ?_
     rw [hd]
     exact ⟨rfl, hB⟩
    ·
     refine s1 r h7 (za0 _ r (fun R => za4 r (o := 0) rfl zj1) rfl fun fr r => s1 r h7 (za0 (I a0.domains) r (fun R => za3 r rfl h_b1 to3 rfl) rfl fun fr r => s1 r h7 (za0 _ r (fun R => znA r rfl rfl rfl rfl) rfl fun fr r => za0 (.bool (decide (a0.domains < 0))) r (fun R => zar r (b := false) (congrArg Value.bool h7) rfl) rfl fun fr r => za0 (.bool (decide (a0.domains < 0))) r (fun R => za9 r rfl) rfl fun fr r => ?_)))
     refine zaF (decide (a0.domains < 0)) (fun h8 => ?_) (fun h8 => ?_)
     ·
      refine s0 r h8 fun fr r => s0 r h8 fun fr r => s0 r h8 fun fr r => za0 (.bool true) r (fun R => zar r (b := true) (congrArg Value.bool h8) rfl) rfl fun fr r => wn ?_
      refine wp_cond_split (t := true) (r.ev rfl) (fun _ => ?_) (fun h => absurd ((rfl : true = _).symm.trans h) (by decide))
      refine wsr (za0 (.bool false) r (fun R => za7 r rfl) rfl fun fr r => wn (wp_ret ?_))
      have hd : D.zat a0 = false := (zak h4).trans ((zak h5).trans ((zak h6).trans ((zak h7).trans ((zaq h8).trans (rfl)))))
      refine zaz r rfl rfl ?_
      rw [hd]
      exact ⟨rfl, hB⟩
     ·
      refine s1 r h8 (za0 _ r (fun R => za4 r (o := 0) rfl zj1) rfl fun fr r => s1 r h8 (za0 (I a0.domains) r (fun R => za3 r rfl h_b1 to3 rfl) rfl fun fr r => s1 r h8 (za0 _ r (fun R => znA r rfl rfl rfl rfl) rfl fun fr r => za0 (.bool (decide (a0.domains > 64))) r (fun R => zar r (b := false) (congrArg Value.bool h8) rfl) rfl fun fr r => wn ?_)))
      refine wp_cond_split (t := (decide (a0.domains > 64))) (r.ev rfl) (fun h9 => ?_) (fun h9 => ?_)
      ·
       refine wsr (za0 (.bool false) r (fun R => za7 r rfl) rfl fun fr r => wn (wp_ret ?_))
       have hd : D.zat a0 = false := (zak h4).trans ((zak h5).trans ((zak h6).trans ((zak h7).trans ((zak h8).trans ((zaq h9).trans (rfl))))))
       refine zaz r rfl rfl ?_
       rw [hd]
       exact ⟨rfl, hB⟩
      ·
       refine wp_skip (wsr (za0 _ r (fun R => za4 r (o := 0) rfl zkk) rfl fun fr r => za0 (I a0.buckets) r (fun R => za3 r rfl h_b1 to3 rfl) rfl fun fr r => za0 _ r (fun R => znA r rfl rfl rfl rfl) rfl fun fr r => za0 (.bool (decide (a0.buckets ≥ 1))) r (fun R => za9 r rfl) rfl fun fr r => ?_))
       refine zaF (decide (a0.buckets ≥ 1)) (fun h10 => ?_) (fun h10 => ?_)
       ·
        refine s1 r h10 (za0 _ r (fun R => za4 r (o := 0) rfl zkk) rfl fun fr r => s1 r h10 (za0 (I a0.buckets) r (fun R => za3 r rfl h_b1 to3 rfl) rfl fun fr r => s1 r h10 (za0 _ r (fun R => znA r rfl rfl rfl rfl) rfl fun fr r => za0 (.bool (decide (a0.buckets ≤ 256))) r (fun R => zar r (b := true) (congrArg Value.bool h10) rfl) rfl fun fr r => za0 (.bool (decide (a0.buckets ≤ 256))) r (fun R => za9 r rfl) rfl fun fr r => ?_)))
        refine zaF (decide (a0.buckets ≤ 256)) (fun h11 => ?_) (fun h11 => ?_)
        ·
         refine s1 r h11 (za0 _ r (fun R => za4 r (o := 0) rfl zlf) rfl fun fr r => s1 r h11 (za0 (I a0.gen) r (fun R => za3 r rfl h_b1 to3 rfl) rfl fun fr r => s1 r h11 (za0 _ r (fun R => znA r rfl rfl rfl rfl) rfl fun fr r => za0 (.bool (decide (a0.gen ≥ 1))) r (fun R => zar r (b := true) (congrArg Value.bool h11) rfl) rfl fun fr r => za0 (.bool (decide (a0.gen ≥ 1))) r (fun R => za9 r rfl) rfl fun fr r => ?_)))
         refine zaF (decide (a0.gen ≥ 1)) (fun h12 => ?_) (fun h12 => ?_)
         ·
          refine s1 r h12 (za0 _ r (fun R => za4 r (o := 0) rfl zlf) rfl fun fr r => s1 r h12 (za0 (I a0.gen) r (fun R => za3 r rfl h_b1 to3 rfl) rfl fun fr r => s1 r h12 (za0 _ r (fun R => znA r rfl rfl rfl rfl) rfl fun fr r => za0 (.bool (decide (a0.gen ≤ 1073741823))) r (fun R => zar r (b := true) (congrArg Value.bool h12) rfl) rfl fun fr r => za0 (.bool (decide (a0.gen ≤ 1073741823))) r (fun R => za9 r rfl) rfl fun fr r => ?_)))
          refine zaF (decide (a0.gen ≤ 1073741823)) (fun h13 => ?_) (fun h13 => ?_)
          ·
           refine s1 r h13 (za0 _ r (fun R => za4 r (o := 0) rfl zgl) rfl fun fr r => s1 r h13 (za0 (I a0.retire) r (fun R => za3 r rfl h_b1 to3 rfl) rfl fun fr r => s1 r h13 (za0 _ r (fun R => za4 r (o := 0) rfl zhD) rfl fun fr r => s1 r h13 (za0 (I a0.threads) r (fun R => za3 r rfl h_b1 to3 rfl) rfl fun fr r => s1 r h13 (za0 _ r (fun R => znA r rfl rfl rfl rfl) rfl fun fr r => s1 r h13 (za0 _ r (fun R => znA r rfl rfl rfl rfl) rfl fun fr r => za0 (.bool (decide (a0.retire > (W (3 * a0.threads))))) r (fun R => zar r (b := true) (congrArg Value.bool h13) rfl) rfl fun fr r => za0 (.bool (decide (a0.retire > (W (3 * a0.threads))))) r (fun R => za9 r rfl) rfl fun fr r => ?_))))))
           refine zaF (decide (a0.retire > (W (3 * a0.threads)))) (fun h14 => ?_) (fun h14 => ?_)
           ·
            refine s1 r h14 (za0 _ r (fun R => za4 r (o := 0) rfl zgl) rfl fun fr r => s1 r h14 (za0 (I a0.retire) r (fun R => za3 r rfl h_b1 to3 rfl) rfl fun fr r => s1 r h14 (za0 _ r (fun R => znA r rfl rfl rfl rfl) rfl fun fr r => za0 (.bool (decide (a0.retire ≤ 1024))) r (fun R => zar r (b := true) (congrArg Value.bool h14) rfl) rfl fun fr r => za0 (.bool (decide (a0.retire ≤ 1024))) r (fun R => za7 r rfl) rfl fun fr r => wn (wp_ret ?_))))
            have hd : D.zat a0 = (decide (a0.retire ≤ 1024)) := (zak h4).trans ((zak h5).trans ((zak h6).trans ((zak h7).trans ((zak h8).trans ((zak h9).trans ((zaq h10).trans ((zaq h11).trans ((zaq h12).trans ((zaq h13).trans ((zaq h14).trans (rfl)))))))))))
            refine zaz r rfl rfl ?_
            rw [hd]
            exact ⟨rfl, hB⟩
           ·
            refine s0 r h14 fun fr r => s0 r h14 fun fr r => s0 r h14 fun fr r => za0 (.bool false) r (fun R => zar r (b := false) (congrArg Value.bool h14) rfl) rfl fun fr r => za0 (.bool false) r (fun R => za7 r rfl) rfl fun fr r => wn (wp_ret ?_)
            have hd : D.zat a0 = false := (zak h4).trans ((zak h5).trans ((zak h6).trans ((zak h7).trans ((zak h8).trans ((zak h9).trans ((zaq h10).trans ((zaq h11).trans ((zaq h12).trans ((zaq h13).trans ((zak h14).trans (rfl)))))))))))
            refine zaz r rfl rfl ?_
            rw [hd]
            exact ⟨rfl, hB⟩
          ·
           refine s0 r h13 fun fr r => s0 r h13 fun fr r => s0 r h13 fun fr r => s0 r h13 fun fr r => s0 r h13 fun fr r => s0 r h13 fun fr r => za0 (.bool false) r (fun R => zar r (b := false) (congrArg Value.bool h13) rfl) rfl fun fr r => za0 (.bool false) r (fun R => za9 r rfl) rfl fun fr r => s0 r (rfl : false = _) fun fr r => s0 r (rfl : false = _) fun fr r => s0 r (rfl : false = _) fun fr r => za0 (.bool false) r (fun R => zar r (b := false) (congrArg Value.bool (rfl : false = _)) rfl) rfl fun fr r => za0 (.bool false) r (fun R => za7 r rfl) rfl fun fr r => wn (wp_ret ?_)
           have hd : D.zat a0 = false := (zak h4).trans ((zak h5).trans ((zak h6).trans ((zak h7).trans ((zak h8).trans ((zak h9).trans ((zaq h10).trans ((zaq h11).trans ((zaq h12).trans ((zak h13).trans (rfl))))))))))
           refine zaz r rfl rfl ?_
           rw [hd]
           exact ⟨rfl, hB⟩
         ·
          refine s0 r h12 fun fr r => s0 r h12 fun fr r => s0 r h12 fun fr r => za0 (.bool false) r (fun R => zar r (b := false) (congrArg Value.bool h12) rfl) rfl fun fr r => za0 (.bool false) r (fun R => za9 r rfl) rfl fun fr r => s0 r (rfl : false = _) fun fr r => s0 r (rfl : false = _) fun fr r => s0 r (rfl : false = _) fun fr r => s0 r (rfl : false = _) fun fr r => s0 r (rfl : false = _) fun fr r => s0 r (rfl : false = _) fun fr r => za0 (.bool false) r (fun R => zar r (b := false) (congrArg Value.bool (rfl : false = _)) rfl) rfl fun fr r => za0 (.bool false) r (fun R => za9 r rfl) rfl fun fr r => s0 r (rfl : false = _) fun fr r => s0 r (rfl : false = _) fun fr r => s0 r (rfl : false = _) fun fr r => za0 (.bool false) r (fun R => zar r (b := false) (congrArg Value.bool (rfl : false = _)) rfl) rfl fun fr r => za0 (.bool false) r (fun R => za7 r rfl) rfl fun fr r => wn (wp_ret ?_)
          have hd : D.zat a0 = false := (zak h4).trans ((zak h5).trans ((zak h6).trans ((zak h7).trans ((zak h8).trans ((zak h9).trans ((zaq h10).trans ((zaq h11).trans ((zak h12).trans (rfl)))))))))
          refine zaz r rfl rfl ?_
          rw [hd]
          exact ⟨rfl, hB⟩
        ·
         refine s0 r h11 fun fr r => s0 r h11 fun fr r => s0 r h11 fun fr r => za0 (.bool false) r (fun R => zar r (b := false) (congrArg Value.bool h11) rfl) rfl fun fr r => za0 (.bool false) r (fun R => za9 r rfl) rfl fun fr r => s0 r (rfl : false = _) fun fr r => s0 r (rfl : false = _) fun fr r => s0 r (rfl : false = _) fun fr r => za0 (.bool false) r (fun R => zar r (b := false) (congrArg Value.bool (rfl : false = _)) rfl) rfl fun fr r => za0 (.bool false) r (fun R => za9 r rfl) rfl fun fr r => s0 r (rfl : false = _) fun fr r => s0 r (rfl : false = _) fun fr r => s0 r (rfl : false = _) fun fr r => s0 r (rfl : false = _) fun fr r => s0 r (rfl : false = _) fun fr r => s0 r (rfl : false = _) fun fr r => za0 (.bool false) r (fun R => zar r (b := false) (congrArg Value.bool (rfl : false = _)) rfl) rfl fun fr r => za0 (.bool false) r (fun R => za9 r rfl) rfl fun fr r => s0 r (rfl : false = _) fun fr r => s0 r (rfl : false = _) fun fr r => s0 r (rfl : false = _) fun fr r => za0 (.bool false) r (fun R => zar r (b := false) (congrArg Value.bool (rfl : false = _)) rfl) rfl fun fr r => za0 (.bool false) r (fun R => za7 r rfl) rfl fun fr r => wn (wp_ret ?_)
         have hd : D.zat a0 = false := (zak h4).trans ((zak h5).trans ((zak h6).trans ((zak h7).trans ((zak h8).trans ((zak h9).trans ((zaq h10).trans ((zak h11).trans (rfl))))))))
         refine zaz r rfl rfl ?_
         rw [hd]
         exact ⟨rfl, hB⟩
       ·
        refine s0 r h10 fun fr r => s0 r h10 fun fr r => s0 r h10 fun fr r => za0 (.bool false) r (fun R => zar r (b := false) (congrArg Value.bool h10) rfl) rfl fun fr r => za0 (.bool false) r (fun R => za9 r rfl) rfl fun fr r => s0 r (rfl : false = _) fun fr r => s0 r (rfl : false = _) fun fr r => s0 r (rfl : false = _) fun fr r => za0 (.bool false) r (fun R => zar r (b := false) (congrArg Value.bool (rfl : false = _)) rfl) rfl fun fr r => za0 (.bool false) r (fun R => za9 r rfl) rfl fun fr r => s0 r (rfl : false = _) fun fr r => s0 r (rfl : false = _) fun fr r => s0 r (rfl : false = _) fun fr r => za0 (.bool false) r (fun R => zar r (b := false) (congrArg Value.bool (rfl : false = _)) rfl) rfl fun fr r => za0 (.bool false) r (fun R => za9 r rfl) rfl fun fr r => s0 r (rfl : false = _) fun fr r => s0 r (rfl : false = _) fun fr r => s0 r (rfl : false = _) fun fr r => s0 r (rfl : false = _) fun fr r => s0 r (rfl : false = _) fun fr r => s0 r (rfl : false = _) fun fr r => za0 (.bool false) r (fun R => zar r (b := false) (congrArg Value.bool (rfl : false = _)) rfl) rfl fun fr r => za0 (.bool false) r (fun R => za9 r rfl) rfl fun fr r => s0 r (rfl : false = _) fun fr r => s0 r (rfl : false = _) fun fr r => s0 r (rfl : false = _) fun fr r => za0 (.bool false) r (fun R => zar r (b := false) (congrArg Value.bool (rfl : false = _)) rfl) rfl fun fr r => za0 (.bool false) r (fun R => za7 r rfl) rfl fun fr r => wn (wp_ret ?_)
        have hd : D.zat a0 = false := (zak h4).trans ((zak h5).trans ((zak h6).trans ((zak h7).trans ((zak h8).trans ((zak h9).trans ((zak h10).trans (rfl)))))))
        refine zaz r rfl rfl ?_
        rw [hd]
        exact ⟨rfl, hB⟩
def D.zbb (a0 : Plan) : Bool := (bif (!(D.zat a0)) then true else (bif (decide (a0.nodes ≤ 40)) then (bif (decide (a0.retire ≤ 40)) then (bif (decide (a0.domains ≤ 6)) then (decide (a0.buckets ≤ 10)) else false) else false) else false))
theorem zhp (w0 : World) 
    (a0 : Plan) :
    Calls Tryz.prog 39 #[.agg (znu a0).toArray] w0 (znL (.bool (D.zbb a0)) w0) := by
 refine enter Tryz.func39 rfl 26 rfl rfl fun fr r => ?_
 have hB := Below.refl w0.heap.size w0
 refine wsr ?_
 refine za5 (.cells ((znu a0)).toArray 25 (0, 0)) r (fun R => znF r (v := (.agg (znu a0).toArray)) rfl) rfl fun fr b1 w2 n3 r => ?_
 obtain ⟨e_b1, z_w2, h_b1, hB, zB⟩ := n3.all hB
 refine za0 (.bool false) r (fun R => za7 r rfl) rfl fun fr r => wn (wsr (za0 (.agg (znu a0).toArray) r (fun R => za6 r (cs := (znu a0)) (n := 6) rfl h_b1 ta25 rfl) rfl fun fr r => ?_))
 refine za8 r (zel w2 a0) (fun R hc => zac r rfl cl45 hc) rfl ?_
 rintro _ w4 ⟨rfl, hb⟩
 refine ⟨_, rfl, fun fr r => ?_⟩
 have z_w4 := hb.size
 have h_b1 := keep hb h_b1
 obtain ⟨hB, zB⟩ := bon hb hB
 refine za0 (.bool (!(D.zat a0))) r (fun R => y_un r (u := (.bool (D.zat a0))) rfl rfl) rfl fun fr r => za0 (.bool (!(D.zat a0))) r (fun R => za9 r rfl) rfl fun fr r => ?_
 refine zaF (!(D.zat a0)) (fun h5 => ?_) (fun h5 => ?_)
 ·
  refine s0 r h5 fun fr r => s0 r h5 fun fr r => s0 r h5 fun fr r => s0 r h5 fun fr r => ?_
  refine zcN r rfl rfl rfl (v := undef) rfl (by simp [znN, undef]) fun fr r => ?_
  refine zcN r rfl rfl rfl (v := undef) rfl (by simp [znN, undef]) fun fr r => ?_
  refine zcN r rfl rfl rfl (v := undef) rfl (by simp [znN, undef]) fun fr r => s0 r h5 fun fr r => s0 r h5 fun fr r => ?_
  refine zcN r rfl rfl rfl (v := undef) rfl (by simp [znN, undef]) fun fr r => ?_
  refine zcN r rfl rfl rfl (v := undef) rfl (by simp [znN, undef]) fun fr r => ?_
  refine zcN r rfl rfl rfl (v := undef) rfl (by simp [znN, undef]) fun fr r => s0 r h5 fun fr r => s0 r h5 fun fr r => ?_
  refine zcN r rfl rfl rfl (v := undef) rfl (by simp [znN, undef]) fun fr r => ?_
  refine zcN r rfl rfl rfl (v := undef) rfl (by simp [znN, undef]) fun fr r => ?_
  refine zcN r rfl rfl rfl (v := undef) rfl (by simp [znN, undef]) fun fr r => s0 r h5 fun fr r => za0 (.bool true) r (fun R => zar r (b := true) (congrArg Value.bool h5) rfl) rfl fun fr r => za0 (.bool true) r (fun R => za7 r rfl) rfl fun fr r => wn (wp_ret ?_)
  have hd : D.zbb a0 = true := (zaq h5).trans (rfl)
  refine zaz r rfl rfl ?_
  rw [hd]
  exact ⟨rfl, hB⟩
 ·
  refine s1 r h5 (za0 _ r (fun R => za4 r (o := 0) rfl zeD) rfl fun fr r => s1 r h5 (za0 (I a0.nodes) r (fun R => za3 r rfl h_b1 to3 rfl) rfl fun fr r => s1 r h5 (za0 _ r (fun R => znA r rfl rfl rfl rfl) rfl fun fr r => s1 r h5 (za0 (.bool (decide (a0.nodes ≤ 40))) r (fun R => za9 r rfl) rfl fun fr r => ?_))))
  refine zaF (decide (a0.nodes ≤ 40)) (fun h6 => ?_) (fun h6 => ?_)
  ·
   refine s1 r h6 (za0 _ r (fun R => za4 r (o := 0) rfl zgl) rfl fun fr r => s1 r h6 (za0 (I a0.retire) r (fun R => za3 r rfl h_b1 to3 rfl) rfl fun fr r => s1 r h6 (za0 _ r (fun R => znA r rfl rfl rfl rfl) rfl fun fr r => s1 r h5 (za0 (.bool (decide (a0.retire ≤ 40))) r (fun R => zar r (b := true) (congrArg Value.bool h6) rfl) rfl fun fr r => s1 r h5 (za0 (.bool (decide (a0.retire ≤ 40))) r (fun R => za9 r rfl) rfl fun fr r => ?_)))))
   refine zaF (decide (a0.retire ≤ 40)) (fun h7 => ?_) (fun h7 => ?_)
   ·
    refine s1 r h7 (za0 _ r (fun R => za4 r (o := 0) rfl zj1) rfl fun fr r => s1 r h7 (za0 (I a0.domains) r (fun R => za3 r rfl h_b1 to3 rfl) rfl fun fr r => s1 r h7 (za0 _ r (fun R => znA r rfl rfl rfl rfl) rfl fun fr r => s1 r h5 (za0 (.bool (decide (a0.domains ≤ 6))) r (fun R => zar r (b := true) (congrArg Value.bool h7) rfl) rfl fun fr r => s1 r h5 (za0 (.bool (decide (a0.domains ≤ 6))) r (fun R => za9 r rfl) rfl fun fr r => ?_)))))
    refine zaF (decide (a0.domains ≤ 6)) (fun h8 => ?_) (fun h8 => ?_)
    ·
     refine s1 r h8 (za0 _ r (fun R => za4 r (o := 0) rfl zkk) rfl fun fr r => s1 r h8 (za0 (I a0.buckets) r (fun R => za3 r rfl h_b1 to3 rfl) rfl fun fr r => s1 r h8 (za0 _ r (fun R => znA r rfl rfl rfl rfl) rfl fun fr r => s1 r h5 (za0 (.bool (decide (a0.buckets ≤ 10))) r (fun R => zar r (b := true) (congrArg Value.bool h8) rfl) rfl fun fr r => za0 (.bool (decide (a0.buckets ≤ 10))) r (fun R => zar r (b := false) (congrArg Value.bool h5) rfl) rfl fun fr r => za0 (.bool (decide (a0.buckets ≤ 10))) r (fun R => za7 r rfl) rfl fun fr r => wn (wp_ret ?_)))))
     have hd : D.zbb a0 = (decide (a0.buckets ≤ 10)) := (zak h5).trans ((zaq h6).trans ((zaq h7).trans ((zaq h8).trans (rfl))))
     refine zaz r rfl rfl ?_
     rw [hd]
     exact ⟨rfl, hB⟩
    ·
     refine s0 r h8 fun fr r => s0 r h8 fun fr r => s0 r h8 fun fr r => s1 r h5 (za0 (.bool false) r (fun R => zar r (b := false) (congrArg Value.bool h8) rfl) rfl fun fr r => za0 (.bool false) r (fun R => zar r (b := false) (congrArg Value.bool h5) rfl) rfl fun fr r => za0 (.bool false) r (fun R => za7 r rfl) rfl fun fr r => wn (wp_ret ?_))
     have hd : D.zbb a0 = false := (zak h5).trans ((zaq h6).trans ((zaq h7).trans ((zak h8).trans (rfl))))
     refine zaz r rfl rfl ?_
     rw [hd]
     exact ⟨rfl, hB⟩
   ·
    refine s0 r h7 fun fr r => s0 r h7 fun fr r => s0 r h7 fun fr r => s1 r h5 (za0 (.bool false) r (fun R => zar r (b := false) (congrArg Value.bool h7) rfl) rfl fun fr r => s1 r h5 (za0 (.bool false) r (fun R => za9 r rfl) rfl fun fr r => s0 r (rfl : false = _) fun fr r => s0 r (rfl : false = _) fun fr r => s0 r (rfl : false = _) fun fr r => s1 r h5 (za0 (.bool false) r (fun R => zar r (b := false) (congrArg Value.bool (rfl : false = _)) rfl) rfl fun fr r => za0 (.bool false) r (fun R => zar r (b := false) (congrArg Value.bool h5) rfl) rfl fun fr r => za0 (.bool false) r (fun R => za7 r rfl) rfl fun fr r => wn (wp_ret ?_))))
    have hd : D.zbb a0 = false := (zak h5).trans ((zaq h6).trans ((zak h7).trans (rfl)))
    refine zaz r rfl rfl ?_
    rw [hd]
    exact ⟨rfl, hB⟩
  ·
   refine s0 r h6 fun fr r => s0 r h6 fun fr r => s0 r h6 fun fr r => s1 r h5 (za0 (.bool false) r (fun R => zar r (b := false) (congrArg Value.bool h6) rfl) rfl fun fr r => s1 r h5 (za0 (.bool false) r (fun R => za9 r rfl) rfl fun fr r => s0 r (rfl : false = _) fun fr r => s0 r (rfl : false = _) fun fr r => s0 r (rfl : false = _) fun fr r => s1 r h5 (za0 (.bool false) r (fun R => zar r (b := false) (congrArg Value.bool (rfl : false = _)) rfl) rfl fun fr r => s1 r h5 (za0 (.bool false) r (fun R => za9 r rfl) rfl fun fr r => s0 r (rfl : false = _) fun fr r => s0 r (rfl : false = _) fun fr r => s0 r (rfl : false = _) fun fr r => s1 r h5 (za0 (.bool false) r (fun R => zar r (b := false) (congrArg Value.bool (rfl : false = _)) rfl) rfl fun fr r => za0 (.bool false) r (fun R => zar r (b := false) (congrArg Value.bool h5) rfl) rfl fun fr r => za0 (.bool false) r (fun R => za7 r rfl) rfl fun fr r => wn (wp_ret ?_))))))
   have hd : D.zbb a0 = false := (zak h5).trans ((zak h6).trans (rfl))
   refine zaz r rfl rfl ?_
   rw [hd]
   exact ⟨rfl, hB⟩
def D.zby (a0 : Plan) (a1 : Int) : Bound := (⟨a1, 0, (IntKind.i64.wrap (a0.domains - 1))⟩ : Bound)
theorem zhn (w0 : World) 
    (a0 : Plan) (a1 : Int) :
    Calls Tryz.prog 167 #[.agg (znu a0).toArray, .int .i64 a1] w0 (znL (.agg (znQ (D.zby a0 a1)).toArray) w0) := by
 refine enter Tryz.func167 rfl 10 rfl rfl fun fr r => ?_
 have hB := Below.refl w0.heap.size w0
 refine wsr ?_
 refine za5 (.cells ((znu a0)).toArray 25 (0, 0)) r (fun R => znF r (v := (.agg (znu a0).toArray)) rfl) rfl fun fr b1 w2 n3 r => ?_
 obtain ⟨e_b1, z_w2, h_b1, hB, zB⟩ := n3.all hB
 refine za5 (.cells ((znQ (⟨0, 0, 0⟩ : Bound))).toArray 216 (0, 0)) r (fun R => zag zp7) rfl fun fr b4 w5 n6 r => ?_
 have h_b1 := keep n6.below h_b1
 obtain ⟨e_b4, z_w5, h_b4, hB, zB⟩ := n6.all hB
 refine wn (wsr (za0 (I a1) r (fun R => za9 r rfl) rfl fun fr r => za0 _ r (fun R => za4 r (o := 0) rfl zj1) rfl fun fr r => za0 (I a0.domains) r (fun R => za3 r rfl h_b1 to3 rfl) rfl fun fr r => za0 _ r (fun R => znA r rfl rfl rfl rfl) rfl fun fr r => za0 (.agg (znQ (⟨a1, 0, (W (a0.domains - 1))⟩ : Bound)).toArray) r (fun R => zaQ r (by kernel_rfl)) rfl fun fr r => ?_))
 refine zae (.cells ((znQ (⟨a1, 0, (W (a0.domains - 1))⟩ : Bound))).toArray 216 (0, 0)) r (fun R => zaS r (o := 0) (v := (.agg (znQ (⟨a1, 0, (W (a0.domains - 1))⟩ : Bound)).toArray)) rfl rfl h_b4 zph (Nat.le_of_ble_eq_true rfl) rfl rfl) rfl fun fr w7 u8 r => ?_
 have z_w7 := u8.size
 have h_b1 := u8.keep h_b1 (by omega)
 have h_b4 := u8.at_
 obtain ⟨hB, zB⟩ := u8.on hB (by omega)
 refine wn (wp_ret ?_)
 refine zad r rfl rfl h_b4 (k := 3) rfl zpw ?_
 exact ⟨rfl, hB⟩
def D.zb4 (a0 : Plan) (a1 : Int) (a2 : Int) : Int := (D.zau a0 (IntKind.i64.wrap ((IntKind.i64.wrap (2 + (IntKind.i64.wrap (a1 * (IntKind.i64.wrap (1 + (D.zal a0))))))) + a2)) ([(D.zby a0 a1), (⟨a2, 0, (IntKind.i64.wrap ((D.zal a0) - 1))⟩ : Bound)]))
theorem zeu (w0 : World) 
    (a0 : Plan) (a1 : Int) (a2 : Int) :
    Calls Tryz.prog 72 #[.agg (znu a0).toArray, .int .i64 a1, .int .i64 a2] w0 (znL (.int .i64 (D.zb4 a0 a1 a2)) w0) := by
 refine enter Tryz.func72 rfl 26 rfl rfl fun fr r => ?_
 have hB := Below.refl w0.heap.size w0
 refine wsr ?_
 refine za5 (.cells ((znu a0)).toArray 25 (0, 0)) r (fun R => znF r (v := (.agg (znu a0).toArray)) rfl) rfl fun fr b1 w2 n3 r => ?_
 obtain ⟨e_b1, z_w2, h_b1, hB, zB⟩ := n3.all hB
 refine za0 (I 0) r (fun R => za7 r rfl) rfl fun fr r => wn (wp_seq ?_)
 refine zaI 19 [.val (.agg (znu a0).toArray), .val (I a1), .val (.agg (znu a0).toArray), .val (I (D.zal a0)), .val (I (W (1 + (D.zal a0)))), .val (I (W (a1 * (W (1 + (D.zal a0)))))), .val (I (W (2 + (W (a1 * (W (1 + (D.zal a0)))))))), .val (I a2), .val (I (W ((W (2 + (W (a1 * (W (1 + (D.zal a0))))))) + a2))), .val (.agg (znu a0).toArray), .val (I a1), .val (.agg (znQ (D.zby a0 a1)).toArray), .val (I a2), .val (.agg (znu a0).toArray), .val (I (D.zal a0)), .val (I (W ((D.zal a0) - 1))), .val (.agg (znQ (⟨a2, 0, (W ((D.zal a0) - 1))⟩ : Bound)).toArray), .slice w2.heap.size (.cells ((boundsC [(D.zby a0 a1), (⟨a2, 0, (W ((D.zal a0) - 1))⟩ : Bound)])).toArray 216 (0, 0)) 2, .val (I (D.zau a0 (W ((W (2 + (W (a1 * (W (1 + (D.zal a0))))))) + a2)) ([(D.zby a0 a1), (⟨a2, 0, (W ((D.zal a0) - 1))⟩ : Bound)])))] mixed r (by kernel_rfl) (za2 (by exact trivial) (za2 (by exact trivial) (za2 (by exact trivial) (za2 (by exact trivial) (za2 (by exact trivial) (za2 (by exact trivial) (za2 (by exact trivial) (za2 (by exact trivial) (za2 (by exact trivial) (za2 (by exact trivial) (za2 (by exact trivial) (za2 (by exact trivial) (za2 (by exact trivial) (za2 (by exact trivial) (za2 (by exact trivial) (za2 (by exact trivial) (za2 (by exact trivial) (za2 (Nat.le_refl _) (za2 (by exact trivial) zaC))))))))))))))))))) ?_ ?_
 ·
  refine ec r (fun _ u _ b d s => za6 s (cs := (znu a0)) (n := 6) rfl (keep b h_b1) ta25 rfl bz) (ec r (fun _ u _ b d s => za9 s rfl bz) (ec r (fun _ u _ b d s => za6 s (cs := (znu a0)) (n := 6) rfl (keep b h_b1) ta25 rfl bz) (ec r (fun fr1 u w' hb' hd r' => zac r' (args := [(.agg (znu a0).toArray)]) (lc hd.1 l0) zp4 ((zee _ a0).mono (by rintro _ w2 ⟨rfl, hb2⟩; exact ⟨_, rfl, hb2, rfl⟩))) (ec r (fun _ u _ b d s => znA s rfl d.1 rfl rfl bz) (ec r (fun _ u _ b d s => znA s d.1 d.2.1 rfl rfl bz) (ec r (fun _ u _ b d s => znA s rfl d.1 rfl rfl bz) (ec r (fun _ u _ b d s => za9 s rfl bz) (ec r (fun _ u _ b d s => znA s d.1 d.2.1 rfl rfl bz) (ec r (fun _ u _ b d s => za6 s (cs := (znu a0)) (n := 6) rfl (keep b h_b1) ta25 rfl bz) (ec r (fun _ u _ b d s => za9 s rfl bz) (ec r (fun fr1 u w' hb' hd r' => zac r' (args := [(.agg (znu a0).toArray), (I a1)]) (lc hd.1 (lc hd.2.1 l0)) zsi ((zhn _ a0 a1).mono (by rintro _ w2 ⟨rfl, hb2⟩; exact ⟨_, rfl, hb2, rfl⟩))) (ec r (fun _ u _ b d s => za9 s rfl bz) (ec r (fun _ u _ b d s => za6 s (cs := (znu a0)) (n := 6) rfl (keep b h_b1) ta25 rfl bz) (ec r (fun fr1 u w' hb' hd r' => zac r' (args := [(.agg (znu a0).toArray)]) (lc hd.1 l0) zp4 ((zee _ a0).mono (by rintro _ w2 ⟨rfl, hb2⟩; exact ⟨_, rfl, hb2, rfl⟩))) (ec r (fun _ u _ b d s => znA s d.1 rfl rfl rfl bz) (ec r (fun fr1 u w' hb' hd r' => zaQ r' (v := (.agg (znQ (⟨a2, 0, (W ((D.zal a0) - 1))⟩ : Bound)).toArray)) (bs3 (congrArg (fun z => (0, z)) hd.1) (rfl) (congrArg (fun z => (2, z)) hd.2.1) (by kernel_rfl)) bz) (ec r (fun fr1 u w' hb' hd r' => zcv r' (c := ((boundsC [(D.zby a0 a1), (⟨a2, 0, (W ((D.zal a0) - 1))⟩ : Bound)])).toArray) (E := 216) (bs2 (congrArg (fun z => (0, z)) hd.1) (congrArg (fun z => (1, z)) hd.2.1) (by kernel_rfl)) (fun b w2 n2 => ⟨n2.below, b, rfl, Nat.le_of_eq n2.eq.symm, n2.at_⟩)) ?_)))))))))))))))))
  refine zba r rfl (fun fr1 u w' hb' hd r' => ?_) ?_
  · obtain ⟨d0, d1, d2, d3, _⟩ := hd; obtain ⟨q2, hq2, _, hr2⟩ := d2; exact zac r' (args := [(.agg (znu a0).toArray), (I (W ((W (2 + (W (a1 * (W (1 + (D.zal a0))))))) + a2))), (.slice (some ⟨q2, 0, none⟩) 2 2)]) (lc d0 (lc d1 (lc hq2 l0))) zok ((zbS _ a0 (W ((W (2 + (W (a1 * (W (1 + (D.zal a0))))))) + a2)) ([(D.zby a0 a1), (⟨a2, 0, (W ((D.zal a0) - 1))⟩ : Bound)]) hr2 (by first | assumption | decide | (simp; done))).mono (by rintro _ w2 ⟨rfl, hb2⟩; exact ⟨_, rfl, hb2, rfl⟩))
  exact zaV
 ·
  intro fr u w4 hb hΦ hne r
  obtain ⟨b5, g17, e_b5, h_b5⟩ := hΦ 17 (by decide)
  have l_b5 := lt_of_block h_b5
  have r := r.congr (sc (hΦ 18 (by decide)) (sc g17 (sc (hΦ 16 (by decide)) (sc (hΦ 15 (by decide)) (sc (hΦ 14 (by decide)) (sc (hΦ 13 (by decide)) (sc (hΦ 12 (by decide)) (sc (hΦ 11 (by decide)) (sc (hΦ 10 (by decide)) (sc (hΦ 9 (by decide)) (sc (hΦ 8 (by decide)) (sc (hΦ 7 (by decide)) (sc (hΦ 6 (by decide)) (sc (hΦ 5 (by decide)) (sc (hΦ 4 (by decide)) (sc (hΦ 3 (by decide)) (sc (hΦ 2 (by decide)) (sc (hΦ 1 (by decide)) (sc (hΦ 0 (by decide)) rfl)))))))))))))))))))
  have z_w4 := hb.size
  have h_b1 := keep hb h_b1
  obtain ⟨hB, zB⟩ := bon hb hB
  refine za0 (I (D.zau a0 (W ((W (2 + (W (a1 * (W (1 + (D.zal a0))))))) + a2)) ([(D.zby a0 a1), (⟨a2, 0, (W ((D.zal a0) - 1))⟩ : Bound)]))) r (fun R => za7 r rfl) rfl fun fr r => wn (wp_ret ?_)
  refine zaz r rfl rfl ?_
  exact ⟨rfl, hB⟩
end Go.Proofs.YtjkinpbfmihhdaaGreat

/- Ours. -/
set_option maxRecDepth 20000
set_option maxHeartbeats 2000000
namespace Go.Proofs.YtjkinpbfmihhdaaGreat
open Go.RowKit
theorem zi0 : znH Tryz.prog 223 0 0 = true := by kernel_rfl
theorem zk6 : znH Tryz.prog 223 1 1 = true := by kernel_rfl
def D.zaj (a0 : Field) : Bool := (bif (decide (a0.at_ ≥ 0)) then (bif (decide (a0.at_ < 64)) then (bif (decide (a0.bits ≥ 1)) then (decide (a0.bits ≤ (IntKind.i64.wrap (64 - a0.at_)))) else false) else false) else false)
theorem zc7 (w0 : World) 
    (a0 : Field) :
    Calls Tryz.prog 262 #[.agg (znB a0).toArray] w0 (znL (.bool (D.zaj a0)) w0) := by
 refine enter Tryz.func262 rfl 24 rfl rfl fun fr r => ?_
 have hB := Below.refl w0.heap.size w0
 refine wsr ?_
 refine za5 (.cells ((znB a0)).toArray 223 (0, 0)) r (fun R => znF r (v := (.agg (znB a0).toArray)) rfl) rfl fun fr b1 w2 n3 r => ?_
 obtain ⟨eb1, zw2, hb1, hB, zB⟩ := n3.all hB
 refine za0 (.bool false) r (fun R => za7 r rfl) rfl fun fr r => wn (wsr (za0 _ r (fun R => za4 r (o := 0) rfl zi0) rfl fun fr r => za0 (I a0.at_) r (fun R => za3 r rfl hb1 to3 rfl) rfl fun fr r => za0 _ r (fun R => znA r rfl rfl rfl rfl) rfl fun fr r => za0 (.bool (decide (a0.at_ ≥ 0))) r (fun R => za9 r rfl) rfl fun fr r => ?_))
 refine zaF (decide (a0.at_ ≥ 0)) (fun h4 => ?_) (fun h4 => ?_)
 ·
  refine s1 r h4 (za0 _ r (fun R => za4 r (o := 0) rfl zi0) rfl fun fr r => s1 r h4 (za0 (I a0.at_) r (fun R => za3 r rfl hb1 to3 rfl) rfl fun fr r => s1 r h4 (za0 _ r (fun R => znA r rfl rfl rfl rfl) rfl fun fr r => za0 (.bool (decide (a0.at_ < 64))) r (fun R => zar r (b := true) (congrArg Value.bool h4) rfl) rfl fun fr r => za0 (.bool (decide (a0.at_ < 64))) r (fun R => za9 r rfl) rfl fun fr r => ?_)))
  refine zaF (decide (a0.at_ < 64)) (fun h5 => ?_) (fun h5 => ?_)
  ·
   refine s1 r h5 (za0 _ r (fun R => za4 r (o := 0) rfl zk6) rfl fun fr r => s1 r h5 (za0 (I a0.bits) r (fun R => za3 r rfl hb1 to3 rfl) rfl fun fr r => s1 r h5 (za0 _ r (fun R => znA r rfl rfl rfl rfl) rfl fun fr r => za0 (.bool (decide (a0.bits ≥ 1))) r (fun R => zar r (b := true) (congrArg Value.bool h5) rfl) rfl fun fr r => za0 (.bool (decide (a0.bits ≥ 1))) r (fun R => za9 r rfl) rfl fun fr r => ?_)))
   refine zaF (decide (a0.bits ≥ 1)) (fun h6 => ?_) (fun h6 => ?_)
   ·
    refine s1 r h6 (za0 _ r (fun R => za4 r (o := 0) rfl zk6) rfl fun fr r => s1 r h6 (za0 (I a0.bits) r (fun R => za3 r rfl hb1 to3 rfl) rfl fun fr r => s1 r h6 (za0 _ r (fun R => za4 r (o := 0) rfl zi0) rfl fun fr r => s1 r h6 (za0 (I a0.at_) r (fun R => za3 r rfl hb1 to3 rfl) rfl fun fr r => s1 r h6 (za0 _ r (fun R => znA r rfl rfl rfl rfl) rfl fun fr r => s1 r h6 (za0 _ r (fun R => znA r rfl rfl rfl rfl) rfl fun fr r => za0 (.bool (decide (a0.bits ≤ (W (64 - a0.at_))))) r (fun R => zar r (b := true) (congrArg Value.bool h6) rfl) rfl fun fr r => za0 (.bool (decide (a0.bits ≤ (W (64 - a0.at_))))) r (fun R => za7 r rfl) rfl fun fr r => wn (wp_ret ?_)))))))
    have hd : D.zaj a0 = (decide (a0.bits ≤ (W (64 - a0.at_)))) := (zaq h4).trans ((zaq h5).trans ((zaq h6).trans (rfl)))
    refine zaz r rfl rfl ?_
    rw [hd]
    exact ⟨rfl, hB⟩
   ·
    refine s0 r h6 fun fr r => s0 r h6 fun fr r => s0 r h6 fun fr r => s0 r h6 fun fr r => s0 r h6 fun fr r => s0 r h6 fun fr r => za0 (.bool false) r (fun R => zar r (b := false) (congrArg Value.bool h6) rfl) rfl fun fr r => za0 (.bool false) r (fun R => za7 r rfl) rfl fun fr r => wn (wp_ret ?_)
    have hd : D.zaj a0 = false := (zaq h4).trans ((zaq h5).trans ((zak h6).trans (rfl)))
    refine zaz r rfl rfl ?_
    rw [hd]
    exact ⟨rfl, hB⟩
  ·
   refine s0 r h5 fun fr r => s0 r h5 fun fr r => s0 r h5 fun fr r => za0 (.bool false) r (fun R => zar r (b := false) (congrArg Value.bool h5) rfl) rfl fun fr r => za0 (.bool false) r (fun R => za9 r rfl) rfl fun fr r => s0 r (rfl : false = _) fun fr r => s0 r (rfl : false = _) fun fr r => s0 r (rfl : false = _) fun fr r => s0 r (rfl : false = _) fun fr r => s0 r (rfl : false = _) fun fr r => s0 r (rfl : false = _) fun fr r => za0 (.bool false) r (fun R => zar r (b := false) (congrArg Value.bool (rfl : false = _)) rfl) rfl fun fr r => za0 (.bool false) r (fun R => za7 r rfl) rfl fun fr r => wn (wp_ret ?_)
   have hd : D.zaj a0 = false := (zaq h4).trans ((zak h5).trans (rfl))
   refine zaz r rfl rfl ?_
   rw [hd]
   exact ⟨rfl, hB⟩
 ·
  refine s0 r h4 fun fr r => s0 r h4 fun fr r => s0 r h4 fun fr r => za0 (.bool false) r (fun R => zar r (b := false) (congrArg Value.bool h4) rfl) rfl fun fr r => za0 (.bool false) r (fun R => za9 r rfl) rfl fun fr r => s0 r (rfl : false = _) fun fr r => s0 r (rfl : false = _) fun fr r => s0 r (rfl : false = _) fun fr r => za0 (.bool false) r (fun R => zar r (b := false) (congrArg Value.bool (rfl : false = _)) rfl) rfl fun fr r => za0 (.bool false) r (fun R => za9 r rfl) rfl fun fr r => s0 r (rfl : false = _) fun fr r => s0 r (rfl : false = _) fun fr r => s0 r (rfl : false = _) fun fr r => s0 r (rfl : false = _) fun fr r => s0 r (rfl : false = _) fun fr r => s0 r (rfl : false = _) fun fr r => za0 (.bool false) r (fun R => zar r (b := false) (congrArg Value.bool (rfl : false = _)) rfl) rfl fun fr r => za0 (.bool false) r (fun R => za7 r rfl) rfl fun fr r => wn (wp_ret ?_)
  have hd : D.zaj a0 = false := (zak h4).trans (rfl)
  refine zaz r rfl rfl ?_
  rw [hd]
  exact ⟨rfl, hB⟩
end Go.Proofs.YtjkinpbfmihhdaaGreat

/- Ours. -/
namespace Go.Proofs.YtjkinpbfmihhdaaGreat
theorem zf9 {f : Field} (h : D.zaj f = true) : 0 ≤ f.at_ ∧ f.at_ < 64 ∧ 1 ≤ f.bits ∧ f.bits ≤ 64 - f.at_ := by
  unfold D.zaj at h
  have hw : ∀ x : Int, 0 ≤ x → x < 64 → IntKind.i64.wrap (64 - x) = 64 - x := by
    intro x h0 h1
    simp only [IntKind.wrap]
    simp [IntKind.signed, IntKind.bits]
    omega
  cases h1 : decide (f.at_ ≥ 0) <;> rw [h1] at h
  · cases h
  cases h2 : decide (f.at_ < 64) <;> rw [h2] at h
  · cases h
  cases h3 : decide (f.bits ≥ 1) <;> rw [h3] at h
  · cases h
  simp only [decide_eq_true_eq] at h1 h2 h3
  simp only [cond_true, decide_eq_true_eq] at h
  rw [hw _ h1 h2] at h
  omega
end Go.Proofs.YtjkinpbfmihhdaaGreat

/- Ours. -/
set_option maxRecDepth 20000
set_option maxHeartbeats 2000000
namespace Go.Proofs.YtjkinpbfmihhdaaGreat
open Go.RowKit
theorem zoS : znv Tryz.prog 260 = true := by kernel_rfl
theorem zoD : znv Tryz.prog 262 = true := by kernel_rfl
theorem zoY : znv Tryz.prog 263 = true := by kernel_rfl
theorem zo1 : tyA Tryz.prog 223 2 = true := by kernel_rfl
def D.zam (a0 : Field) : Int := (bif (!(D.zaj a0)) then 0 else (bif (a0.bits == 64) then 18446744073709551615 else (IntKind.u64.wrap ((shlI .u64 1 a0.bits) - 1))))
theorem zd0 (w0 : World) 
    (a0 : Field) :
    Calls Tryz.prog 263 #[.agg (znB a0).toArray] w0 (znL (.int .u64 (D.zam a0)) w0) := by
 refine enter Tryz.func263 rfl 15 rfl rfl fun fr r => ?_
 have hB := Below.refl w0.heap.size w0
 refine wsr ?_
 refine za5 (.cells ((znB a0)).toArray 223 (0, 0)) r (fun R => znF r (v := (.agg (znB a0).toArray)) rfl) rfl fun fr b1 w2 n3 r => ?_
 obtain ⟨e_b1, z_w2, h_b1, hB, zB⟩ := n3.all hB
 refine za0 (U 0) r (fun R => za7 r rfl) rfl fun fr r => wn (wp_seq (wp_block (wsr (za0 (.agg (znB a0).toArray) r (fun R => za6 r (cs := (znB a0)) (n := 2) rfl h_b1 zo1 rfl) rfl fun fr r => ?_))))
 refine za8 r (zc7 w2 a0) (fun R hc => zac r rfl zoD hc) rfl ?_
 rintro _ w4 ⟨rfl, hb⟩
 refine ⟨_, rfl, fun fr r => ?_⟩
 have z_w4 := hb.size
 have h_b1 := keep hb h_b1
 obtain ⟨hB, zB⟩ := bon hb hB
 refine za0 (.bool (!(D.zaj a0))) r (fun R => y_un r (u := (.bool (D.zaj a0))) rfl rfl) rfl fun fr r => za0 (.bool (!(D.zaj a0))) r (fun R => za7 r rfl) rfl fun fr r => wn ?_
 refine wp_cond_split (t := (!(D.zaj a0))) (r.ev rfl) (fun h5 => ?_) (fun h5 => ?_)
 ·
  refine wsr (za0 (U 0) r (fun R => za7 r rfl) rfl fun fr r => wn (wp_ret ?_))
  have hd : D.zam a0 = 0 := (zaq h5).trans (rfl)
  refine zaz r rfl rfl ?_
  rw [hd]
  exact ⟨rfl, hB⟩
 ·
  refine wsr (za0 _ r (fun R => za4 r (o := 0) rfl zk6) rfl fun fr r => za0 (I a0.bits) r (fun R => za3 r rfl h_b1 to3 rfl) rfl fun fr r => za0 _ r (fun R => znA r rfl rfl rfl rfl) rfl fun fr r => za0 (.bool (a0.bits == 64)) r (fun R => za7 r rfl) rfl fun fr r => wn ?_)
  refine wp_cond_split (t := (a0.bits == 64)) (r.ev rfl) (fun h6 => ?_) (fun h6 => ?_)
  ·
   refine wsr (za0 (U 18446744073709551615) r (fun R => za7 r rfl) rfl fun fr r => wn (wp_ret ?_))
   have hd : D.zam a0 = 18446744073709551615 := (zak h5).trans ((zaq h6).trans (rfl))
   refine zaz r rfl rfl ?_
   rw [hd]
   exact ⟨rfl, hB⟩
  ·
   refine wp_skip (wsr (za0 _ r (fun R => za4 r (o := 0) rfl zk6) rfl fun fr r => za0 (I a0.bits) r (fun R => za3 r rfl h_b1 to3 rfl) rfl fun fr r => za0 _ r (fun R => znA r rfl rfl rfl (zkU (by first | assumption | decide | (have hq := zf9 (by simpa using ‹(!D.zaj _) = false›); omega)))) rfl fun fr r => za0 _ r (fun R => znA r rfl rfl rfl rfl) rfl fun fr r => za0 (U (V ((shlI .u64 1 a0.bits) - 1))) r (fun R => za7 r rfl) rfl fun fr r => wn (wp_ret ?_)))
   have hd : D.zam a0 = (V ((shlI .u64 1 a0.bits) - 1)) := (zak h5).trans ((zak h6).trans (rfl))
   refine zaz r rfl rfl ?_
   rw [hd]
   exact ⟨rfl, hB⟩
def D.zah (a0 : Field) (a1 : Int) : Int := (bif (!(D.zaj a0)) then 0 else (zc3 .u64 (shrI .u64 a1 a0.at_) (D.zam a0)))
theorem zcA (w0 : World) 
    (a0 : Field) (a1 : Int) :
    Calls Tryz.prog 161 #[.agg (znB a0).toArray, .int .u64 a1] w0 (znL (.int .u64 (D.zah a0 a1)) w0) := by
 refine enter Tryz.func161 rfl 15 rfl rfl fun fr r => ?_
 have hB := Below.refl w0.heap.size w0
 refine wsr ?_
 refine za5 (.cells ((znB a0)).toArray 223 (0, 0)) r (fun R => znF r (v := (.agg (znB a0).toArray)) rfl) rfl fun fr b1 w2 n3 r => ?_
 obtain ⟨e_b1, z_w2, h_b1, hB, zB⟩ := n3.all hB
 refine za0 (U 0) r (fun R => za7 r rfl) rfl fun fr r => wn (wp_seq (wsr (za0 (.agg (znB a0).toArray) r (fun R => za6 r (cs := (znB a0)) (n := 2) rfl h_b1 zo1 rfl) rfl fun fr r => ?_)))
 refine za8 r (zc7 w2 a0) (fun R hc => zac r rfl zoD hc) rfl ?_
 rintro _ w4 ⟨rfl, hb⟩
 refine ⟨_, rfl, fun fr r => ?_⟩
 have z_w4 := hb.size
 have h_b1 := keep hb h_b1
 obtain ⟨hB, zB⟩ := bon hb hB
 refine za0 (.bool (!(D.zaj a0))) r (fun R => y_un r (u := (.bool (D.zaj a0))) rfl rfl) rfl fun fr r => wn ?_
 refine wp_cond_split (t := (!(D.zaj a0))) (r.ev rfl) (fun h5 => ?_) (fun h5 => ?_)
 ·
  refine wsr (za0 (U 0) r (fun R => za7 r rfl) rfl fun fr r => wn (wp_ret ?_))
  have hd : D.zah a0 a1 = 0 := (zaq h5).trans (rfl)
  refine zaz r rfl rfl ?_
  rw [hd]
  exact ⟨rfl, hB⟩
 ·
  refine wp_skip (wp_seq ?_)
  refine zaI 7 [.val (U a1), .val (zp b1), .val (I a0.at_), .val (U (shrI .u64 a1 a0.at_)), .val (.agg (znB a0).toArray), .val (U (D.zam a0)), .val (U (zc3 .u64 (shrI .u64 a1 a0.at_) (D.zam a0)))] mixed r (by kernel_rfl) (za2 (by exact trivial) (za2 (by exact trivial) (za2 (by exact trivial) (za2 (by exact trivial) (za2 (by exact trivial) (za2 (by exact trivial) (za2 (by exact trivial) zaC))))))) ?_ ?_
  ·
   refine ec r (fun _ u _ b d s => za9 s rfl bz) (ec r (fun _ u _ b d s => za4 s (b := b1) (o := 0) rfl zi0 bz) (ec r (fun _ u _ b d s => za3 s d.1 (keep b h_b1) to3 rfl bz) (ec r (fun _ u _ b d s => znA s d.1 d.2.1 rfl (zm4 (by first | assumption | decide | (have hq := zf9 (by simpa using ‹(!D.zaj _) = false›); omega))) bz) (ec r (fun _ u _ b d s => za6 s (cs := (znB a0)) (n := 2) rfl (keep b h_b1) zo1 rfl bz) (ec r (fun fr1 u w' hb' hd r' => zac r' (args := [(.agg (znB a0).toArray)]) (lc hd.1 l0) zoY ((zd0 _ a0).mono (by rintro _ w2 ⟨rfl, hb2⟩; exact ⟨_, rfl, hb2, rfl⟩))) (ec r (fun _ u _ b d s => znA s d.1 d.2.1 rfl rfl bz) ?_))))))
   exact zaV
  ·
   intro fr u w6 hb hΦ hne r
   have r := r.congr (sc (hΦ 6 (by decide)) (sc (hΦ 5 (by decide)) (sc (hΦ 4 (by decide)) (sc (hΦ 3 (by decide)) (sc (hΦ 2 (by decide)) (sc (hΦ 1 (by decide)) (sc (hΦ 0 (by decide)) rfl)))))))
   have z_w6 := hb.size
   have h_b1 := keep hb h_b1
   obtain ⟨hB, zB⟩ := bon hb hB
   refine za0 (U (zc3 .u64 (shrI .u64 a1 a0.at_) (D.zam a0))) r (fun R => za7 r rfl) rfl fun fr r => wn (wp_ret ?_)
   have hd : D.zah a0 a1 = (zc3 .u64 (shrI .u64 a1 a0.at_) (D.zam a0)) := (zak h5).trans (rfl)
   refine zaz r rfl rfl ?_
   rw [hd]
   exact ⟨rfl, hB⟩
def D.zav (a0 : Field) : Int := (bif (!(D.zaj a0)) then 0 else (shlI .u64 (D.zam a0) a0.at_))
theorem zcZ (w0 : World) 
    (a0 : Field) :
    Calls Tryz.prog 260 #[.agg (znB a0).toArray] w0 (znL (.int .u64 (D.zav a0)) w0) := by
 refine enter Tryz.func260 rfl 11 rfl rfl fun fr r => ?_
 have hB := Below.refl w0.heap.size w0
 refine wsr ?_
 refine za5 (.cells ((znB a0)).toArray 223 (0, 0)) r (fun R => znF r (v := (.agg (znB a0).toArray)) rfl) rfl fun fr b1 w2 n3 r => ?_
 obtain ⟨e_b1, z_w2, h_b1, hB, zB⟩ := n3.all hB
 refine za0 (U 0) r (fun R => za7 r rfl) rfl fun fr r => wn (wp_seq (wsr (za0 (.agg (znB a0).toArray) r (fun R => za6 r (cs := (znB a0)) (n := 2) rfl h_b1 zo1 rfl) rfl fun fr r => ?_)))
 refine za8 r (zc7 w2 a0) (fun R hc => zac r rfl zoD hc) rfl ?_
 rintro _ w4 ⟨rfl, hb⟩
 refine ⟨_, rfl, fun fr r => ?_⟩
 have z_w4 := hb.size
 have h_b1 := keep hb h_b1
 obtain ⟨hB, zB⟩ := bon hb hB
 refine za0 (.bool (!(D.zaj a0))) r (fun R => y_un r (u := (.bool (D.zaj a0))) rfl rfl) rfl fun fr r => wn ?_
 refine wp_cond_split (t := (!(D.zaj a0))) (r.ev rfl) (fun h5 => ?_) (fun h5 => ?_)
 ·
  refine wsr (za0 (U 0) r (fun R => za7 r rfl) rfl fun fr r => wn (wp_ret ?_))
  have hd : D.zav a0 = 0 := (zaq h5).trans (rfl)
  refine zaz r rfl rfl ?_
  rw [hd]
  exact ⟨rfl, hB⟩
 ·
  refine wp_skip (wp_seq ?_)
  refine zaI 5 [.val (.agg (znB a0).toArray), .val (U (D.zam a0)), .val (zp b1), .val (I a0.at_), .val (U (shlI .u64 (D.zam a0) a0.at_))] mixed r (by kernel_rfl) (za2 (by exact trivial) (za2 (by exact trivial) (za2 (by exact trivial) (za2 (by exact trivial) (za2 (by exact trivial) zaC))))) ?_ ?_
  ·
   refine ec r (fun _ u _ b d s => za6 s (cs := (znB a0)) (n := 2) rfl (keep b h_b1) zo1 rfl bz) (ec r (fun fr1 u w' hb' hd r' => zac r' (args := [(.agg (znB a0).toArray)]) (lc hd.1 l0) zoY ((zd0 _ a0).mono (by rintro _ w2 ⟨rfl, hb2⟩; exact ⟨_, rfl, hb2, rfl⟩))) (ec r (fun _ u _ b d s => za4 s (b := b1) (o := 0) rfl zi0 bz) (ec r (fun _ u _ b d s => za3 s d.1 (keep b h_b1) to3 rfl bz) (ec r (fun _ u _ b d s => znA s d.1 d.2.1 rfl (zkU (by first | assumption | decide | (have hq := zf9 (by simpa using ‹(!D.zaj _) = false›); omega))) bz) ?_))))
   exact zaV
  ·
   intro fr u w6 hb hΦ hne r
   have r := r.congr (sc (hΦ 4 (by decide)) (sc (hΦ 3 (by decide)) (sc (hΦ 2 (by decide)) (sc (hΦ 1 (by decide)) (sc (hΦ 0 (by decide)) rfl)))))
   have z_w6 := hb.size
   have h_b1 := keep hb h_b1
   obtain ⟨hB, zB⟩ := bon hb hB
   refine za0 (U (shlI .u64 (D.zam a0) a0.at_)) r (fun R => za7 r rfl) rfl fun fr r => wn (wp_ret ?_)
   have hd : D.zav a0 = (shlI .u64 (D.zam a0) a0.at_) := (zak h5).trans (rfl)
   refine zaz r rfl rfl ?_
   rw [hd]
   exact ⟨rfl, hB⟩
def D.zaG (a0 : Field) (a1 : Int) (a2 : Int) : Int := (bif (!(D.zaj a0)) then a1 else (zf1 .u64 (zb6 .u64 a1 (D.zav a0)) (shlI .u64 (zc3 .u64 a2 (D.zam a0)) a0.at_)))
theorem zec (w0 : World) 
    (a0 : Field) (a1 : Int) (a2 : Int) :
    Calls Tryz.prog 296 #[.agg (znB a0).toArray, .int .u64 a1, .int .u64 a2] w0 (znL (.int .u64 (D.zaG a0 a1 a2)) w0) := by
 refine enter Tryz.func296 rfl 23 rfl rfl fun fr r => ?_
 have hB := Below.refl w0.heap.size w0
 refine wsr ?_
 refine za5 (.cells ((znB a0)).toArray 223 (0, 0)) r (fun R => znF r (v := (.agg (znB a0).toArray)) rfl) rfl fun fr b1 w2 n3 r => ?_
 obtain ⟨e_b1, z_w2, h_b1, hB, zB⟩ := n3.all hB
 refine za0 (U 0) r (fun R => za7 r rfl) rfl fun fr r => wn (wp_seq (wsr (za0 (.agg (znB a0).toArray) r (fun R => za6 r (cs := (znB a0)) (n := 2) rfl h_b1 zo1 rfl) rfl fun fr r => ?_)))
 refine za8 r (zc7 w2 a0) (fun R hc => zac r rfl zoD hc) rfl ?_
 rintro _ w4 ⟨rfl, hb⟩
 refine ⟨_, rfl, fun fr r => ?_⟩
 have z_w4 := hb.size
 have h_b1 := keep hb h_b1
 obtain ⟨hB, zB⟩ := bon hb hB
 refine za0 (.bool (!(D.zaj a0))) r (fun R => y_un r (u := (.bool (D.zaj a0))) rfl rfl) rfl fun fr r => wn ?_
 refine wp_cond_split (t := (!(D.zaj a0))) (r.ev rfl) (fun h5 => ?_) (fun h5 => ?_)
 ·
  refine wsr (za0 (U a1) r (fun R => za9 r rfl) rfl fun fr r => za0 (U a1) r (fun R => za7 r rfl) rfl fun fr r => wn (wp_ret ?_))
  have hd : D.zaG a0 a1 a2 = a1 := (zaq h5).trans (rfl)
  refine zaz r rfl rfl ?_
  rw [hd]
  exact ⟨rfl, hB⟩
 ·
  refine wp_skip (wp_seq ?_)
  refine zaI 12 [.val (U a1), .val (.agg (znB a0).toArray), .val (U (D.zav a0)), .val (U (zb6 .u64 a1 (D.zav a0))), .val (U a2), .val (.agg (znB a0).toArray), .val (U (D.zam a0)), .val (U (zc3 .u64 a2 (D.zam a0))), .val (zp b1), .val (I a0.at_), .val (U (shlI .u64 (zc3 .u64 a2 (D.zam a0)) a0.at_)), .val (U (zf1 .u64 (zb6 .u64 a1 (D.zav a0)) (shlI .u64 (zc3 .u64 a2 (D.zam a0)) a0.at_)))] mixed r (by kernel_rfl) (za2 (by exact trivial) (za2 (by exact trivial) (za2 (by exact trivial) (za2 (by exact trivial) (za2 (by exact trivial) (za2 (by exact trivial) (za2 (by exact trivial) (za2 (by exact trivial) (za2 (by exact trivial) (za2 (by exact trivial) (za2 (by exact trivial) (za2 (by exact trivial) zaC)))))))))))) ?_ ?_
  ·
   refine ec r (fun _ u _ b d s => za9 s rfl bz) (ec r (fun _ u _ b d s => za6 s (cs := (znB a0)) (n := 2) rfl (keep b h_b1) zo1 rfl bz) (ec r (fun fr1 u w' hb' hd r' => zac r' (args := [(.agg (znB a0).toArray)]) (lc hd.1 l0) zoS ((zcZ _ a0).mono (by rintro _ w2 ⟨rfl, hb2⟩; exact ⟨_, rfl, hb2, rfl⟩))) (ec r (fun _ u _ b d s => znA s d.1 d.2.1 rfl rfl bz) (ec r (fun _ u _ b d s => za9 s rfl bz) (ec r (fun _ u _ b d s => za6 s (cs := (znB a0)) (n := 2) rfl (keep b h_b1) zo1 rfl bz) (ec r (fun fr1 u w' hb' hd r' => zac r' (args := [(.agg (znB a0).toArray)]) (lc hd.1 l0) zoY ((zd0 _ a0).mono (by rintro _ w2 ⟨rfl, hb2⟩; exact ⟨_, rfl, hb2, rfl⟩))) (ec r (fun _ u _ b d s => znA s d.1 d.2.1 rfl rfl bz) (ec r (fun _ u _ b d s => za4 s (b := b1) (o := 0) rfl zi0 bz) (ec r (fun _ u _ b d s => za3 s d.1 (keep b h_b1) to3 rfl bz) (ec r (fun _ u _ b d s => znA s d.1 d.2.1 rfl (zkU (by first | assumption | decide | (have hq := zf9 (by simpa using ‹(!D.zaj _) = false›); omega))) bz) (ec r (fun _ u _ b d s => znA s d.1 d.2.1 rfl rfl bz) ?_)))))))))))
   exact zaV
  ·
   intro fr u w6 hb hΦ hne r
   have r := r.congr (sc (hΦ 11 (by decide)) (sc (hΦ 10 (by decide)) (sc (hΦ 9 (by decide)) (sc (hΦ 8 (by decide)) (sc (hΦ 7 (by decide)) (sc (hΦ 6 (by decide)) (sc (hΦ 5 (by decide)) (sc (hΦ 4 (by decide)) (sc (hΦ 3 (by decide)) (sc (hΦ 2 (by decide)) (sc (hΦ 1 (by decide)) (sc (hΦ 0 (by decide)) rfl))))))))))))
   have z_w6 := hb.size
   have h_b1 := keep hb h_b1
   obtain ⟨hB, zB⟩ := bon hb hB
   refine za0 (U (zf1 .u64 (zb6 .u64 a1 (D.zav a0)) (shlI .u64 (zc3 .u64 a2 (D.zam a0)) a0.at_))) r (fun R => za7 r rfl) rfl fun fr r => wn (wp_ret ?_)
   have hd : D.zaG a0 a1 a2 = (zf1 .u64 (zb6 .u64 a1 (D.zav a0)) (shlI .u64 (zc3 .u64 a2 (D.zam a0)) a0.at_)) := (zak h5).trans (rfl)
   refine zaz r rfl rfl ?_
   rw [hd]
   exact ⟨rfl, hB⟩
end Go.Proofs.YtjkinpbfmihhdaaGreat
