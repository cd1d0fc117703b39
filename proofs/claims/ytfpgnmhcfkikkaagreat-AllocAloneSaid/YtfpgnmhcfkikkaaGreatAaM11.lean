/- Some of our texts, one behind the other. -/
import Derived.Test.YtfpgnmhcfkikkaaGreatAaRetires
import Derived.Test.YtfpgnmhcfkikkaaGreatAaM10
set_option linter.all false
/- Ours. -/
set_option maxRecDepth 20000
set_option maxHeartbeats 2000000
namespace Go.Proofs.YtfpgnmhcfkikkaaGreat
open Go.RowKit
theorem zow : zlp Tryz.prog 109 = true := by kernel_rfl
theorem zn1 : zlp Tryz.prog 110 = true := by kernel_rfl
theorem zn9 : zlp Tryz.prog 111 = true := by kernel_rfl
theorem znM : zlp Tryz.prog 114 = true := by kernel_rfl
theorem zmS : zlp Tryz.prog 115 = true := by kernel_rfl
theorem zoU : zlp Tryz.prog 116 = true := by kernel_rfl
theorem znw : zlp Tryz.prog 128 = true := by kernel_rfl
theorem zoA : zlp Tryz.prog 130 = true := by kernel_rfl
theorem zox : zlp Tryz.prog 131 = true := by kernel_rfl
theorem znC : zlp Tryz.prog 132 = true := by kernel_rfl
theorem znA : zlp Tryz.prog 205 = true := by kernel_rfl
theorem zo8 : zlp Tryz.prog 206 = true := by kernel_rfl
theorem zoG : zlp Tryz.prog 207 = true := by kernel_rfl
theorem zoi : zlp Tryz.prog 208 = true := by kernel_rfl
theorem zoO : zlp Tryz.prog 209 = true := by kernel_rfl
theorem zny : zlp Tryz.prog 228 = true := by kernel_rfl
theorem znj : zlp Tryz.prog 230 = true := by kernel_rfl
theorem zob : zlp Tryz.prog 231 = true := by kernel_rfl
theorem zoB : zlp Tryz.prog 232 = true := by kernel_rfl
theorem cl37 : zlp Tryz.prog 37 = true := by kernel_rfl
theorem znv : sized Tryz.prog 200 1 = true := by kernel_rfl
theorem zo9 : sized Tryz.prog 291 1 = true := by kernel_rfl
theorem znF : zeroOf Tryz.prog 200 = some .nilFunc := by kernel_rfl
theorem zoK : zeroOf Tryz.prog 291 = some .nilFunc := by kernel_rfl
def D.zeT (c0 : Int) (c1 : State) : T Grant := (D.zdm (⟨c0, c1.gen, 0⟩ : Grant))
theorem zg1 {n : Nat} {F : Nat → Prop} {w0 : World} (hF : ∀ b, F b → b < w0.heap.size)
    (c0 : Int) {c0b : Nat} (c0F : F c0b) (c0h : w0.heap[c0b]? = some (.cells ([(.int .i64 c0)]).toArray 3 (0, 0))) (c1 : State) {c1b : Nat} (c1F : F c1b) (c1h : w0.heap[c1b]? = some (.cells ((zlw c1)).toArray 55 (0, 0))) :
    Calls Tryz.prog 209 #[zp c0b, zp c1b] w0 (zlx Tryz.prog zls n (D.zeT c0 c1) F w0) := by
 refine enter Tryz.func209 rfl 8 rfl rfl fun fr r => ?_
 have hB := Below.refl w0.heap.size w0
 have lc0b := lt_of_block c0h
 have lc1b := lt_of_block c1h
 refine wsr ?_
 refine zaa (.cells (zlo false zls.zero 0 0 0 0 .nilFunc) 45 (0, 0)) r (fun R => zar tz45) rfl fun fr b1 w2 n3 r => ?_
 obtain ⟨e_b1, z_w2, h_b1, hB, zB⟩ := n3.all hB
 refine wn (wsr (za0 (I c0) r (fun R => za2 r rfl (keep hB c0h) to3 rfl) rfl fun fr r => za0 _ r (fun R => za4 r (o := 0) rfl zgp) rfl fun fr r => za0 (I c1.gen) r (fun R => za2 r rfl (keep hB c1h) to3 rfl) rfl fun fr r => za0 (.agg (zlD (⟨c0, c1.gen, 0⟩ : Grant)).toArray) r (fun R => zb4 r (by kernel_rfl)) rfl fun fr r => ?_))
 have hF1 := zlG hF hB b1
 refine za9 r (zej (F := (fun b => F b ∨ (w0.heap.size ≤ b ∧ b < w2.heap.size ∧ b ≠ b1))) (n := n) hF1 (⟨c0, c1.gen, 0⟩ : Grant)) (fun R hc => zac r rfl zn1 hc) rfl ?_
 rintro _ w4 ⟨v5, rfl, hb, hr6⟩
 refine ⟨_, rfl, fun fr r => ?_⟩
 have z_w4 := hb.size
 have h_b1 := keep hb h_b1
 obtain ⟨hB, zB⟩ := bon hb hB
 refine zaf (.cells v5.cells 45 (0, 0)) r (fun R => zaq r hr6.shape rfl rfl h_b1 ts45 rfl) rfl fun fr w7 u8 r => ?_
 have z_w7 := u8.size
 have h_b1 := u8.at_
 obtain ⟨hB, zB⟩ := u8.on hB (by omega)
 refine wn (wp_ret ?_)
 have hs := hr6.shape.cells
 refine zal r rfl rfl h_b1 (k := 9) hs.1 ta45 ?_
 rw [← hs.2.2]
 exact rfin hF hB hr6 u8 (by omega) (by omega) (by omega)
def D.zev (c0 : Plan) (c1 : Int) (c2 : Int) (a0 : Int) : T Grant := (D.zdL (D.zaI c0 c1) (D.zan (D.zaS ((D.zau a0).1) c2)) (fun _ => (D.zeT c1 ((D.zau a0).1))))
theorem zgR {n : Nat} {F : Nat → Prop} {w0 : World} (hF : ∀ b, F b → b < w0.heap.size)
    (c0 : Plan) {c0b : Nat} (c0F : F c0b) (c0h : w0.heap[c0b]? = some (.cells ((zln c0)).toArray 23 (0, 0))) (c1 : Int) {c1b : Nat} (c1F : F c1b) (c1h : w0.heap[c1b]? = some (.cells ([(.int .i64 c1)]).toArray 3 (0, 0))) (c2 : Int) {c2b : Nat} (c2F : F c2b) (c2h : w0.heap[c2b]? = some (.cells ([(.int .i64 c2)]).toArray 3 (0, 0))) (a0 : Int) :
    Calls Tryz.prog 206 #[.int .u64 a0, zp c0b, zp c1b, zp c2b] w0 (zlx Tryz.prog zls n (D.zev c0 c1 c2 a0) F w0) := by
 refine enter Tryz.func206 rfl 22 rfl rfl fun fr r => ?_
 have hB := Below.refl w0.heap.size w0
 have lc0b := lt_of_block c0h
 have lc1b := lt_of_block c1h
 have lc2b := lt_of_block c2h
 refine wsr ?_
 refine zaa (.cells (zlo false zls.zero 0 0 0 0 .nilFunc) 45 (0, 0)) r (fun R => zar tz45) rfl fun fr b1 w2 n3 r => ?_
 obtain ⟨e_b1, z_w2, h_b1, hB, zB⟩ := n3.all hB
 refine wn (wsr (za0 (U a0) r (fun R => za5 r rfl) rfl fun fr r => ?_))
 refine za9 r (zeo w2 a0) (fun R hc => zac r rfl cl87 hc) rfl ?_
 rintro _ w4 ⟨rfl, hb⟩
 refine ⟨_, rfl, fun fr r => ?_⟩
 have z_w4 := hb.size
 have h_b1 := keep hb h_b1
 obtain ⟨hB, zB⟩ := bon hb hB
 refine za0 (.tuple #[(.agg (zlw (D.zau a0).1).toArray), (.bool (D.zau a0).2)]) r (fun R => za5 r rfl) rfl fun fr r => za0 (.agg (zlw (D.zau a0).1).toArray) r (fun R => zaQ r (vs := #[(.agg (zlw (D.zau a0).1).toArray), (.bool (D.zau a0).2)]) rfl rfl) rfl fun fr r => za0 (.bool (D.zau a0).2) r (fun R => zaQ r (vs := #[(.agg (zlw (D.zau a0).1).toArray), (.bool (D.zau a0).2)]) rfl rfl) rfl fun fr r => ?_
 refine zaa (.cells ((zlw (⟨0, 0, 0⟩ : State))).toArray 55 (0, 0)) r (fun R => zar tz55) rfl fun fr b5 w6 n7 r => ?_
 have h_b1 := keep n7.below h_b1
 obtain ⟨e_b5, z_w6, h_b5, hB, zB⟩ := n7.all hB
 refine zaf (.cells ((zlw ((D.zau a0).1))).toArray 55 (0, 0)) r (fun R => zb0 r (o := 0) (v := (.agg (zlw (D.zau a0).1).toArray)) rfl rfl h_b5 ts55 (Nat.le_of_ble_eq_true rfl) rfl rfl) rfl fun fr w8 u9 r => ?_
 have z_w8 := u9.size
 have h_b1 := u9.keep h_b1 (by omega)
 have h_b5 := u9.at_
 obtain ⟨hB, zB⟩ := u9.on hB (by omega)
 refine za0 (.bool (D.zau a0).2) r (fun R => za6 r rfl) rfl fun fr r => wn (wp_seq ?_)
 refine zb5 8 [.val (.agg (zln c0).toArray), .val (I c1), .val (I (D.zaI c0 c1)), .val (.agg (zlw (D.zau a0).1).toArray), .val (I c2), .val (.agg (zlw (D.zaS ((D.zau a0).1) c2)).toArray), .val (U (D.zan (D.zaS ((D.zau a0).1) c2))), .val (.func (.func 209) #[] #[zp c1b, zp b5])] mixed r (by kernel_rfl) (za3 (by exact trivial) (za3 (by exact trivial) (za3 (by exact trivial) (za3 (by exact trivial) (za3 (by exact trivial) (za3 (by exact trivial) (za3 (by exact trivial) (za3 (by exact trivial) zaV)))))))) ?_ ?_
 ·
  refine ec r (fun _ u _ b d s => za7 s (cs := (zln c0)) (n := 6) rfl (zlK hB b c0h) ta23 rfl bz) (ec r (fun _ u _ b d s => za2 s rfl (zlK hB b c1h) to3 rfl bz) (ec r (fun fr1 u w' hb' hd r' => zac r' (args := [(.agg (zln c0).toArray), (I c1)]) (lc hd.1 (lc hd.2.1 l0)) cl31 ((zbQ _ c0 c1).mono (by rintro _ w2 ⟨rfl, hb2⟩; exact ⟨_, rfl, hb2, rfl⟩))) (ec r (fun _ u _ b d s => za7 s (cs := (zlw ((D.zau a0).1))) (n := 3) rfl (keep b h_b5) ta55 rfl bz) (ec r (fun _ u _ b d s => za2 s rfl (zlK hB b c2h) to3 rfl bz) (ec r (fun fr1 u w' hb' hd r' => zac r' (args := [(.agg (zlw (D.zau a0).1).toArray), (I c2)]) (lc hd.1 (lc hd.2.1 l0)) zoi ((zfX _ ((D.zau a0).1) c2).mono (by rintro _ w2 ⟨rfl, hb2⟩; exact ⟨_, rfl, hb2, rfl⟩))) (ec r (fun fr1 u w' hb' hd r' => zac r' (args := [(.agg (zlw (D.zaS ((D.zau a0).1) c2)).toArray)]) (lc hd.1 l0) cl32 ((zbX _ (D.zaS ((D.zau a0).1) c2)).mono (by rintro _ w2 ⟨rfl, hb2⟩; exact ⟨_, rfl, hb2, rfl⟩))) (ec r (fun _ u _ b d s => zaL s (v := (.func (.func 209) #[] #[zp c1b, zp b5])) rfl bz) ?_)))))))
  exact zbc
 ·
  intro fr u w10 hb hΦ hne r
  have r := r.congr (sc (hΦ 7 (by decide)) (sc (hΦ 6 (by decide)) (sc (hΦ 5 (by decide)) (sc (hΦ 4 (by decide)) (sc (hΦ 3 (by decide)) (sc (hΦ 2 (by decide)) (sc (hΦ 1 (by decide)) (sc (hΦ 0 (by decide)) rfl))))))))
  have z_w10 := hb.size
  have h_b1 := keep hb h_b1
  have h_b5 := keep hb h_b5
  obtain ⟨hB, zB⟩ := bon hb hB
  have hF1 := zlG hF hB b1
  have f11 : ((fun b => F b ∨ (w0.heap.size ≤ b ∧ b < w10.heap.size ∧ b ≠ b1))) c1b := (.inl c1F)
  have f12 : ((fun b => F b ∨ (w0.heap.size ≤ b ∧ b < w10.heap.size ∧ b ≠ b1))) b5 := (.inr ⟨by omega, by omega, by omega⟩)
  refine za9 r (zfP (F := (fun b => F b ∨ (w0.heap.size ≤ b ∧ b < w10.heap.size ∧ b ≠ b1))) (n := n) hF1 (D.zaI c0 c1) (D.zan (D.zaS ((D.zau a0).1) c2)) ⟨209, [], [zp c1b, zp b5], zoO, rfl, fun m hm _ w' hs hz => zg1 (fun b hb => Nat.lt_of_lt_of_le (hF1 b hb) hz) c1 f11 (hs.at_ f11 (keep hB c1h)) ((D.zau a0).1) f12 (hs.at_ f12 h_b5)⟩) (fun R hc => zac r rfl zoG hc) rfl ?_
  rintro _ w13 ⟨v14, rfl, hb, hr15⟩
  refine ⟨_, rfl, fun fr r => ?_⟩
  have z_w13 := hb.size
  have h_b1 := keep hb h_b1
  have h_b5 := keep hb h_b5
  obtain ⟨hB, zB⟩ := bon hb hB
  refine zaf (.cells v14.cells 45 (0, 0)) r (fun R => zaq r hr15.shape rfl rfl h_b1 ts45 rfl) rfl fun fr w16 u17 r => ?_
  have z_w16 := u17.size
  have h_b5 := u17.keep h_b5 (by omega)
  have h_b1 := u17.at_
  obtain ⟨hB, zB⟩ := u17.on hB (by omega)
  refine wn (wp_ret ?_)
  have hs := hr15.shape.cells
  refine zal r rfl rfl h_b1 (k := 9) hs.1 ta45 ?_
  rw [← hs.2.2]
  exact rfin hF hB hr15 u17 (by omega) (by omega) (by omega)
def D.zcK (a0 : Plan) (a1 : Int) (a2 : Int) : T Grant := (D.zdW (D.zaI a0 a1) (fun x => (D.zev a0 a1 a2 x)))
theorem zfO {n : Nat} {F : Nat → Prop} {w0 : World} (hF : ∀ b, F b → b < w0.heap.size)
    (a0 : Plan) (a1 : Int) (a2 : Int) :
    Calls Tryz.prog 111 #[.agg (zln a0).toArray, .int .i64 a1, .int .i64 a2] w0 (zlx Tryz.prog zls n (D.zcK a0 a1 a2) F w0) := by
 refine enter Tryz.func111 rfl 12 rfl rfl fun fr r => ?_
 have hB := Below.refl w0.heap.size w0
 refine wsr ?_
 refine zaa (.cells ((zln a0)).toArray 23 (0, 0)) r (fun R => zlC r (v := (.agg (zln a0).toArray)) rfl) rfl fun fr b1 w2 n3 r => ?_
 obtain ⟨e_b1, z_w2, h_b1, hB, zB⟩ := n3.all hB
 refine zaa (.cells #[(I a1)] 3 (0, 0)) r (fun R => zlC r (v := (I a1)) rfl) rfl fun fr b4 w5 n6 r => ?_
 have h_b1 := keep n6.below h_b1
 obtain ⟨e_b4, z_w5, h_b4, hB, zB⟩ := n6.all hB
 refine zaa (.cells #[(I a2)] 3 (0, 0)) r (fun R => zlC r (v := (I a2)) rfl) rfl fun fr b7 w8 n9 r => ?_
 have h_b1 := keep n9.below h_b1
 have h_b4 := keep n9.below h_b4
 obtain ⟨e_b7, z_w8, h_b7, hB, zB⟩ := n9.all hB
 refine zaa (.cells (zlo false zls.zero 0 0 0 0 .nilFunc) 45 (0, 0)) r (fun R => zar tz45) rfl fun fr b10 w11 n12 r => ?_
 have h_b1 := keep n12.below h_b1
 have h_b4 := keep n12.below h_b4
 have h_b7 := keep n12.below h_b7
 obtain ⟨e_b10, z_w11, h_b10, hB, zB⟩ := n12.all hB
 refine wn (wsr (za0 (.agg (zln a0).toArray) r (fun R => za7 r (cs := (zln a0)) (n := 6) rfl h_b1 ta23 rfl) rfl fun fr r => za0 (I a1) r (fun R => za2 r rfl h_b4 to3 rfl) rfl fun fr r => ?_))
 refine za9 r (zbQ w11 a0 a1) (fun R hc => zac r rfl cl31 hc) rfl ?_
 rintro _ w13 ⟨rfl, hb⟩
 refine ⟨_, rfl, fun fr r => ?_⟩
 have z_w13 := hb.size
 have h_b1 := keep hb h_b1
 have h_b4 := keep hb h_b4
 have h_b7 := keep hb h_b7
 have h_b10 := keep hb h_b10
 obtain ⟨hB, zB⟩ := bon hb hB
 refine za0 (.func (.func 206) #[] #[zp b1, zp b4, zp b7]) r (fun R => zaL r rfl) rfl fun fr r => ?_
 have hF1 := zlG hF hB b10
 have f14 : ((fun b => F b ∨ (w0.heap.size ≤ b ∧ b < w13.heap.size ∧ b ≠ b10))) b1 := (.inr ⟨by omega, by omega, by omega⟩)
 have f15 : ((fun b => F b ∨ (w0.heap.size ≤ b ∧ b < w13.heap.size ∧ b ≠ b10))) b4 := (.inr ⟨by omega, by omega, by omega⟩)
 have f16 : ((fun b => F b ∨ (w0.heap.size ≤ b ∧ b < w13.heap.size ∧ b ≠ b10))) b7 := (.inr ⟨by omega, by omega, by omega⟩)
 refine za9 r (zg6 (F := (fun b => F b ∨ (w0.heap.size ≤ b ∧ b < w13.heap.size ∧ b ≠ b10))) (n := n) hF1 (D.zaI a0 a1) ⟨206, [], [zp b1, zp b4, zp b7], zo8, rfl, fun m hm x w' hs hz => zgR (fun b hb => Nat.lt_of_lt_of_le (hF1 b hb) hz) a0 f14 (hs.at_ f14 h_b1) a1 f15 (hs.at_ f15 h_b4) a2 f16 (hs.at_ f16 h_b7) x⟩) (fun R hc => zac r rfl znA hc) rfl ?_
 rintro _ w17 ⟨v18, rfl, hb, hr19⟩
 refine ⟨_, rfl, fun fr r => ?_⟩
 have z_w17 := hb.size
 have h_b1 := keep hb h_b1
 have h_b4 := keep hb h_b4
 have h_b7 := keep hb h_b7
 have h_b10 := keep hb h_b10
 obtain ⟨hB, zB⟩ := bon hb hB
 refine zaf (.cells v18.cells 45 (0, 0)) r (fun R => zaq r hr19.shape rfl rfl h_b10 ts45 rfl) rfl fun fr w20 u21 r => ?_
 have z_w20 := u21.size
 have h_b1 := u21.keep h_b1 (by omega)
 have h_b4 := u21.keep h_b4 (by omega)
 have h_b7 := u21.keep h_b7 (by omega)
 have h_b10 := u21.at_
 obtain ⟨hB, zB⟩ := u21.on hB (by omega)
 refine wn (wp_ret ?_)
 have hs := hr19.shape.cells
 refine zal r rfl rfl h_b10 (k := 9) hs.1 ta45 ?_
 rw [← hs.2.2]
 exact rfin hF hB hr19 u21 (by omega) (by omega) (by omega)
def D.zbH (c0 : Plan) (c1 : Int) (a0 : Int) : T Grant := (bif (a0 == (-1)) then (D.zdm (⟨(-1), 0, 4⟩ : Grant)) else (D.zcK c0 a0 c1))
theorem zhz {n : Nat} {F : Nat → Prop} {w0 : World} (hF : ∀ b, F b → b < w0.heap.size)
    (c0 : Plan) {c0b : Nat} (c0F : F c0b) (c0h : w0.heap[c0b]? = some (.cells ((zln c0)).toArray 23 (0, 0))) (c1 : Int) {c1b : Nat} (c1F : F c1b) (c1h : w0.heap[c1b]? = some (.cells ([(.int .i64 c1)]).toArray 3 (0, 0))) (a0 : Int) :
    Calls Tryz.prog 109 #[.int .i64 a0, zp c0b, zp c1b] w0 (zlx Tryz.prog zls n (D.zbH c0 c1 a0) F w0) := by
 refine enter Tryz.func109 rfl 13 rfl rfl fun fr r => ?_
 have hB := Below.refl w0.heap.size w0
 have lc0b := lt_of_block c0h
 have lc1b := lt_of_block c1h
 refine wsr ?_
 refine zaa (.cells (zlo false zls.zero 0 0 0 0 .nilFunc) 45 (0, 0)) r (fun R => zar tz45) rfl fun fr b1 w2 n3 r => ?_
 obtain ⟨e_b1, z_w2, h_b1, hB, zB⟩ := n3.all hB
 refine wn (wp_seq (wsr (za0 (I a0) r (fun R => za5 r rfl) rfl fun fr r => za0 _ r (fun R => zlt r rfl rfl rfl rfl) rfl fun fr r => wn ?_)))
 refine wp_cond_split (t := (a0 == (-1))) (r.ev rfl) (fun h4 => ?_) (fun h4 => ?_)
 ·
  refine wsr (za0 (.agg (zlD (⟨(-1), 0, 4⟩ : Grant)).toArray) r (fun R => zb4 r (by kernel_rfl)) rfl fun fr r => ?_)
  have hF1 := zlG hF hB b1
  refine za9 r (zej (F := (fun b => F b ∨ (w0.heap.size ≤ b ∧ b < w2.heap.size ∧ b ≠ b1))) (n := n) hF1 (⟨(-1), 0, 4⟩ : Grant)) (fun R hc => zac r rfl zn1 hc) rfl ?_
  rintro _ w5 ⟨v6, rfl, hb, hr7⟩
  refine ⟨_, rfl, fun fr r => ?_⟩
  have z_w5 := hb.size
  have h_b1 := keep hb h_b1
  obtain ⟨hB, zB⟩ := bon hb hB
  refine zaf (.cells v6.cells 45 (0, 0)) r (fun R => zaq r hr7.shape rfl rfl h_b1 ts45 rfl) rfl fun fr w8 u9 r => ?_
  have z_w8 := u9.size
  have h_b1 := u9.at_
  obtain ⟨hB, zB⟩ := u9.on hB (by omega)
  refine wn (wp_ret ?_)
  have hd : D.zbH c0 c1 a0 = (D.zdm (⟨(-1), 0, 4⟩ : Grant)) := (zao h4).trans (rfl)
  have hs := hr7.shape.cells
  refine zal r rfl rfl h_b1 (k := 9) hs.1 ta45 ?_
  rw [← hs.2.2, hd]
  exact rfin hF hB hr7 u9 (by omega) (by omega) (by omega)
 ·
  refine wp_skip (wsr (za0 (.agg (zln c0).toArray) r (fun R => za7 r (cs := (zln c0)) (n := 6) rfl (keep hB c0h) ta23 rfl) rfl fun fr r => za0 (I a0) r (fun R => za5 r rfl) rfl fun fr r => za0 (I c1) r (fun R => za2 r rfl (keep hB c1h) to3 rfl) rfl fun fr r => ?_))
  have hF1 := zlG hF hB b1
  refine za9 r (zfO (F := (fun b => F b ∨ (w0.heap.size ≤ b ∧ b < w2.heap.size ∧ b ≠ b1))) (n := n) hF1 c0 a0 c1) (fun R hc => zac r rfl zn9 hc) rfl ?_
  rintro _ w10 ⟨v11, rfl, hb, hr12⟩
  refine ⟨_, rfl, fun fr r => ?_⟩
  have z_w10 := hb.size
  have h_b1 := keep hb h_b1
  obtain ⟨hB, zB⟩ := bon hb hB
  refine zaf (.cells v11.cells 45 (0, 0)) r (fun R => zaq r hr12.shape rfl rfl h_b1 ts45 rfl) rfl fun fr w13 u14 r => ?_
  have z_w13 := u14.size
  have h_b1 := u14.at_
  obtain ⟨hB, zB⟩ := u14.on hB (by omega)
  refine wn (wp_ret ?_)
  have hd : D.zbH c0 c1 a0 = (D.zcK c0 a0 c1) := (zah h4).trans (rfl)
  have hs := hr12.shape.cells
  refine zal r rfl rfl h_b1 (k := 9) hs.1 ta45 ?_
  rw [← hs.2.2, hd]
  exact rfin hF hB hr12 u14 (by omega) (by omega) (by omega)
def D.zdO (j : Nat) (c0 : Plan) (c1 : (Int → T Grant)) (a0 : Int) : T Grant := (T.bind (D.zbW j c0) c1)
theorem zgP {n : Nat} {F : Nat → Prop} {j : Nat} {w0 : World} (hF : ∀ b, F b → b < w0.heap.size) (hj : n < j)
    (c0 : Plan) {c0b : Nat} (c0F : F c0b) (c0h : w0.heap[c0b]? = some (.cells ((zln c0)).toArray 23 (0, 0))) {c1f : FuncId} {c1_1 c1_2 : List Value} {c1 : (Int → T Grant)} {c1b : Nat} (c1F : F c1b) (c1h : w0.heap[c1b]? = some (.cells #[.func (.func c1f) c1_1.toArray c1_2.toArray] 200 (0, 0))) (c1n : FnT Tryz.prog zls i64 (n + 1) F w0 (.func (.func c1f) c1_1.toArray c1_2.toArray) c1) (a0 : Int) :
    Calls Tryz.prog 116 #[.int .i64 a0, zp c0b, zp c1b] w0 (zlx Tryz.prog zls n (D.zdO j c0 c1 a0) F w0) := by
 refine enter Tryz.func116 rfl 9 rfl rfl fun fr r => ?_
 have hB := Below.refl w0.heap.size w0
 have lc0b := lt_of_block c0h
 have lc1b := lt_of_block c1h
 refine wsr ?_
 refine zaa (.cells (zlo false zls.zero 0 0 0 0 .nilFunc) 45 (0, 0)) r (fun R => zar tz45) rfl fun fr b1 w2 n3 r => ?_
 obtain ⟨e_b1, z_w2, h_b1, hB, zB⟩ := n3.all hB
 refine wn (wp_seq ?_)
 have hF1 := zlG hF hB b1
 refine zb5 3 [.val (.agg (zln c0).toArray), .pred (PrepP Tryz.prog zlq n (D.zbW j c0) ((fun b => F b ∨ (w0.heap.size ≤ b ∧ b < w2.heap.size ∧ b ≠ b1))) w2) (PrepP.st hF1), .val (.func (.func c1f) c1_1.toArray c1_2.toArray)] mixed r (by kernel_rfl) (za3 (by exact trivial) (za3 (by exact trivial) (za3 (by exact trivial) zaV))) ?_ ?_
 ·
  refine ec r (fun _ u _ b d s => za7 s (cs := (zln c0)) (n := 6) rfl (zlK hB b c0h) ta23 rfl bz) (ec r (fun fr1 u w' hb' hd r' => zac r' (args := [(.agg (zln c0).toArray)]) (lc hd.1 l0) zmM (((zhi (k := j) (n := n) (by omega)) ((fun b => F b ∨ (w0.heap.size ≤ b ∧ b < w2.heap.size ∧ b ≠ b1))) _ (fun b h => Nat.lt_of_lt_of_le (hF1 b h) hb'.size) c0).mono (by rintro _ w2 ⟨y, rfl, hb2, hr2⟩; exact ⟨_, rfl, hb2, PrepP.of (drB hb') hb2 hr2⟩))) (ec r (fun _ u _ b d s => za2 s rfl (zlK hB b c1h) zmI rfl bz) ?_))
  exact zbc
 ·
  intro fr u w4 hb hΦ hne r
  obtain ⟨v5, hv1⟩ : ∃ v, v = u 1 := ⟨_, rfl⟩
  have g1 : u 1 = v5 := hv1.symm
  have hr6 := (hΦ 1 (by decide)).2
  rw [g1] at hr6
  have r := r.congr (sc (hΦ 2 (by decide)) (sc g1 (sc (hΦ 0 (by decide)) rfl)))
  have z_w4 := hb.size
  have h_b1 := keep hb h_b1
  obtain ⟨hB, zB⟩ := bon hb hB
  have hF1 := zlG hF hB b1
  refine za9 r (zcn (F := (fun b => F b ∨ (w0.heap.size ≤ b ∧ b < w4.heap.size ∧ b ≠ b1))) (n := n) hF1 (Rep.mono (by rintro b (h | h); (rcases h with h | ⟨h1, h2, h3⟩; exact .inl h; exact .inr ⟨h1, by omega, h3⟩); exact .inr ⟨by omega, by omega, by omega⟩) (Same.refl _ _) (by omega) n _ _ hr6) (c1n.mono (by omega) (fun b h => .inl h) (Same.below hB hF) hB.size)) (fun R hc => zac r rfl zmr hc) rfl ?_
  rintro _ w7 ⟨v8, rfl, hb, hr9⟩
  refine ⟨_, rfl, fun fr r => ?_⟩
  have z_w7 := hb.size
  have h_b1 := keep hb h_b1
  obtain ⟨hB, zB⟩ := bon hb hB
  refine zaf (.cells v8.cells 45 (0, 0)) r (fun R => zaq r hr9.shape rfl rfl h_b1 ts45 rfl) rfl fun fr w10 u11 r => ?_
  have z_w10 := u11.size
  have h_b1 := u11.at_
  obtain ⟨hB, zB⟩ := u11.on hB (by omega)
  refine wn (wp_ret ?_)
  have hs := hr9.shape.cells
  refine zal r rfl rfl h_b1 (k := 9) hs.1 ta45 ?_
  rw [← hs.2.2]
  exact rfin hF hB hr9 u11 (by omega) (by omega) (by omega)
def D.zcL (j : Nat) (c0 : Plan) (c1 : Int) (c2 : Int) (c3 : (Int → T Grant)) (a0 : Int) : T Grant := (bif (a0 != (-1)) then (D.zcK c0 a0 c1) else (T.bind (D.zcJ j c0 c2) (fun x => (D.zdO j c0 c3 x))))
theorem zht {n : Nat} {F : Nat → Prop} {j : Nat} {w0 : World} (hF : ∀ b, F b → b < w0.heap.size) (hj : n < j)
    (c0 : Plan) {c0b : Nat} (c0F : F c0b) (c0h : w0.heap[c0b]? = some (.cells ((zln c0)).toArray 23 (0, 0))) (c1 : Int) {c1b : Nat} (c1F : F c1b) (c1h : w0.heap[c1b]? = some (.cells ([(.int .i64 c1)]).toArray 3 (0, 0))) (c2 : Int) {c2b : Nat} (c2F : F c2b) (c2h : w0.heap[c2b]? = some (.cells ([(.int .i64 c2)]).toArray 3 (0, 0))) {c3f : FuncId} {c3_1 c3_2 : List Value} {c3 : (Int → T Grant)} {c3b : Nat} (c3F : F c3b) (c3h : w0.heap[c3b]? = some (.cells #[.func (.func c3f) c3_1.toArray c3_2.toArray] 200 (0, 0))) (c3n : FnT Tryz.prog zls i64 (n + 1) F w0 (.func (.func c3f) c3_1.toArray c3_2.toArray) c3) (a0 : Int) :
    Calls Tryz.prog 114 #[.int .i64 a0, zp c0b, zp c1b, zp c2b, zp c3b] w0 (zlx Tryz.prog zls n (D.zcL j c0 c1 c2 c3 a0) F w0) := by
 refine enter Tryz.func114 rfl 18 rfl rfl fun fr r => ?_
 have hB := Below.refl w0.heap.size w0
 have lc0b := lt_of_block c0h
 have lc1b := lt_of_block c1h
 have lc2b := lt_of_block c2h
 have lc3b := lt_of_block c3h
 refine wsr ?_
 refine zaa (.cells (zlo false zls.zero 0 0 0 0 .nilFunc) 45 (0, 0)) r (fun R => zar tz45) rfl fun fr b1 w2 n3 r => ?_
 obtain ⟨e_b1, z_w2, h_b1, hB, zB⟩ := n3.all hB
 refine wn (wp_seq (wsr (za0 (I a0) r (fun R => za5 r rfl) rfl fun fr r => za0 _ r (fun R => zlt r rfl rfl rfl rfl) rfl fun fr r => wn ?_)))
 refine wp_cond_split (t := (a0 != (-1))) (r.ev rfl) (fun h4 => ?_) (fun h4 => ?_)
 ·
  refine wsr (za0 (.agg (zln c0).toArray) r (fun R => za7 r (cs := (zln c0)) (n := 6) rfl (keep hB c0h) ta23 rfl) rfl fun fr r => za0 (I a0) r (fun R => za5 r rfl) rfl fun fr r => za0 (I c1) r (fun R => za2 r rfl (keep hB c1h) to3 rfl) rfl fun fr r => ?_)
  have hF1 := zlG hF hB b1
  refine za9 r (zfO (F := (fun b => F b ∨ (w0.heap.size ≤ b ∧ b < w2.heap.size ∧ b ≠ b1))) (n := n) hF1 c0 a0 c1) (fun R hc => zac r rfl zn9 hc) rfl ?_
  rintro _ w5 ⟨v6, rfl, hb, hr7⟩
  refine ⟨_, rfl, fun fr r => ?_⟩
  have z_w5 := hb.size
  have h_b1 := keep hb h_b1
  obtain ⟨hB, zB⟩ := bon hb hB
  refine zaf (.cells v6.cells 45 (0, 0)) r (fun R => zaq r hr7.shape rfl rfl h_b1 ts45 rfl) rfl fun fr w8 u9 r => ?_
  have z_w8 := u9.size
  have h_b1 := u9.at_
  obtain ⟨hB, zB⟩ := u9.on hB (by omega)
  refine wn (wp_ret ?_)
  have hd : D.zcL j c0 c1 c2 c3 a0 = (D.zcK c0 a0 c1) := (zao h4).trans (rfl)
  have hs := hr7.shape.cells
  refine zal r rfl rfl h_b1 (k := 9) hs.1 ta45 ?_
  rw [← hs.2.2, hd]
  exact rfin hF hB hr7 u9 (by omega) (by omega) (by omega)
 ·
  refine wp_skip (wsr (za0 (.agg (zln c0).toArray) r (fun R => za7 r (cs := (zln c0)) (n := 6) rfl (keep hB c0h) ta23 rfl) rfl fun fr r => za0 (I c2) r (fun R => za2 r rfl (keep hB c2h) to3 rfl) rfl fun fr r => ?_))
  have hF1 := zlG hF hB b1
  refine za9 r (zfF (j := j) (F := (fun b => F b ∨ (w0.heap.size ≤ b ∧ b < w2.heap.size ∧ b ≠ b1))) (n := n) hF1 (by omega) c0 c2) (fun R hc => zac r rfl zmS hc) rfl ?_
  rintro _ w10 ⟨v11, rfl, hb, hr12⟩
  refine ⟨_, rfl, fun fr r => ?_⟩
  have z_w10 := hb.size
  have h_b1 := keep hb h_b1
  obtain ⟨hB, zB⟩ := bon hb hB
  refine za0 (.func (.func 116) #[] #[zp c0b, zp c3b]) r (fun R => zaL r rfl) rfl fun fr r => ?_
  have hF1 := zlG hF hB b1
  have f13 : ((fun b => F b ∨ (w0.heap.size ≤ b ∧ b < w10.heap.size ∧ b ≠ b1))) c0b := (.inl c0F)
  have f14 : ((fun b => F b ∨ (w0.heap.size ≤ b ∧ b < w10.heap.size ∧ b ≠ b1))) c3b := (.inl c3F)
  refine za9 r (zcn (F := (fun b => F b ∨ (w0.heap.size ≤ b ∧ b < w10.heap.size ∧ b ≠ b1))) (n := n) hF1 (Rep.mono (by rintro b (h | h); (rcases h with h | ⟨h1, h2, h3⟩; exact .inl h; exact .inr ⟨h1, by omega, h3⟩); exact .inr ⟨by omega, by omega, by omega⟩) (Same.refl _ _) (by omega) n _ _ hr12) ⟨116, [], [zp c0b, zp c3b], zoU, rfl, fun m hm x w' hs hz => zgP (j := j) (fun b hb => Nat.lt_of_lt_of_le (hF1 b hb) hz) (by omega) c0 f13 (hs.at_ f13 (keep hB c0h)) f14 (hs.at_ f14 (keep hB c3h)) (c3n.mono (by omega) (fun b h => .inl h) ((Same.below hB hF).trans (hs.sub (fun b h => .inl h))) (Nat.le_trans hB.size hz)) x⟩) (fun R hc => zac r rfl zmr hc) rfl ?_
  rintro _ w15 ⟨v16, rfl, hb, hr17⟩
  refine ⟨_, rfl, fun fr r => ?_⟩
  have z_w15 := hb.size
  have h_b1 := keep hb h_b1
  obtain ⟨hB, zB⟩ := bon hb hB
  refine zaf (.cells v16.cells 45 (0, 0)) r (fun R => zaq r hr17.shape rfl rfl h_b1 ts45 rfl) rfl fun fr w18 u19 r => ?_
  have z_w18 := u19.size
  have h_b1 := u19.at_
  obtain ⟨hB, zB⟩ := u19.on hB (by omega)
  refine wn (wp_ret ?_)
  have hd : D.zcL j c0 c1 c2 c3 a0 = (T.bind (D.zcJ j c0 c2) (fun x => (D.zdO j c0 c3 x))) := (zah h4).trans (rfl)
  have hs := hr17.shape.cells
  refine zal r rfl rfl h_b1 (k := 9) hs.1 ta45 ?_
  rw [← hs.2.2, hd]
  exact rfin hF hB hr17 u19 (by omega) (by omega) (by omega)
def D.zbt (j : Nat) (a0 : Plan) (a1 : Int) (a2 : Int) : T Grant := (T.bind (D.zbW j a0) (fun x => (D.zcL j a0 a2 a1 (fun x => (D.zbH a0 a2 x)) x)))
theorem zgY {n : Nat} {F : Nat → Prop} {j : Nat} {w0 : World} (hF : ∀ b, F b → b < w0.heap.size) (hj : n < j)
    (a0 : Plan) (a1 : Int) (a2 : Int) :
    Calls Tryz.prog 27 #[.agg (zln a0).toArray, .int .i64 a1, .int .i64 a2] w0 (zlx Tryz.prog zls n (D.zbt j a0 a1 a2) F w0) := by
 refine enter Tryz.func27 rfl 13 rfl rfl fun fr r => ?_
 have hB := Below.refl w0.heap.size w0
 refine wsr ?_
 refine zaa (.cells ((zln a0)).toArray 23 (0, 0)) r (fun R => zlC r (v := (.agg (zln a0).toArray)) rfl) rfl fun fr b1 w2 n3 r => ?_
 obtain ⟨e_b1, z_w2, h_b1, hB, zB⟩ := n3.all hB
 refine zaa (.cells #[(I a1)] 3 (0, 0)) r (fun R => zlC r (v := (I a1)) rfl) rfl fun fr b4 w5 n6 r => ?_
 have h_b1 := keep n6.below h_b1
 obtain ⟨e_b4, z_w5, h_b4, hB, zB⟩ := n6.all hB
 refine zaa (.cells #[(I a2)] 3 (0, 0)) r (fun R => zlC r (v := (I a2)) rfl) rfl fun fr b7 w8 n9 r => ?_
 have h_b1 := keep n9.below h_b1
 have h_b4 := keep n9.below h_b4
 obtain ⟨e_b7, z_w8, h_b7, hB, zB⟩ := n9.all hB
 refine zaa (.cells (zlo false zls.zero 0 0 0 0 .nilFunc) 45 (0, 0)) r (fun R => zar tz45) rfl fun fr b10 w11 n12 r => ?_
 have h_b1 := keep n12.below h_b1
 have h_b4 := keep n12.below h_b4
 have h_b7 := keep n12.below h_b7
 obtain ⟨e_b10, z_w11, h_b10, hB, zB⟩ := n12.all hB
 refine wn (wsr (za0 (.func (.func 109) #[] #[zp b1, zp b7]) r (fun R => zaL r rfl) rfl fun fr r => ?_))
 refine zaa (.cells #[.nilFunc] 200 (0, 0)) r (fun R => zar znF) rfl fun fr b13 w14 n15 r => ?_
 have h_b1 := keep n15.below h_b1
 have h_b4 := keep n15.below h_b4
 have h_b7 := keep n15.below h_b7
 have h_b10 := keep n15.below h_b10
 obtain ⟨e_b13, z_w14, h_b13, hB, zB⟩ := n15.all hB
 refine zaf (.cells #[.func (.func 109) #[] #[zp b1, zp b7]] 200 (0, 0)) r (fun R => zb0 r (o := 0) (v := (.func (.func 109) #[] #[zp b1, zp b7])) rfl rfl h_b13 znv (Nat.le_of_ble_eq_true rfl) rfl rfl) rfl fun fr w16 u17 r => ?_
 have z_w16 := u17.size
 have h_b1 := u17.keep h_b1 (by omega)
 have h_b4 := u17.keep h_b4 (by omega)
 have h_b7 := u17.keep h_b7 (by omega)
 have h_b10 := u17.keep h_b10 (by omega)
 have h_b13 := u17.at_
 obtain ⟨hB, zB⟩ := u17.on hB (by omega)
 refine wn (wsr (za0 (.agg (zln a0).toArray) r (fun R => za7 r (cs := (zln a0)) (n := 6) rfl h_b1 ta23 rfl) rfl fun fr r => ?_))
 have hF1 := zlG hF hB b10
 refine za9 r ((zhi (k := j) (n := n) (by omega)) (fun b => F b ∨ (w0.heap.size ≤ b ∧ b < w16.heap.size ∧ b ≠ b10)) _ hF1 a0) (fun R hc => zac r rfl zmM hc) rfl ?_
 rintro _ w18 ⟨v19, rfl, hb, hr20⟩
 refine ⟨_, rfl, fun fr r => ?_⟩
 have z_w18 := hb.size
 have h_b1 := keep hb h_b1
 have h_b4 := keep hb h_b4
 have h_b7 := keep hb h_b7
 have h_b10 := keep hb h_b10
 have h_b13 := keep hb h_b13
 obtain ⟨hB, zB⟩ := bon hb hB
 refine za0 (.func (.func 114) #[] #[zp b1, zp b7, zp b4, zp b13]) r (fun R => zaL r rfl) rfl fun fr r => ?_
 have hF1 := zlG hF hB b10
 have f21 : ((fun b => F b ∨ (w0.heap.size ≤ b ∧ b < w18.heap.size ∧ b ≠ b10))) b1 := (.inr ⟨by omega, by omega, by omega⟩)
 have f22 : ((fun b => F b ∨ (w0.heap.size ≤ b ∧ b < w18.heap.size ∧ b ≠ b10))) b7 := (.inr ⟨by omega, by omega, by omega⟩)
 have f23 : ((fun b => F b ∨ (w0.heap.size ≤ b ∧ b < w18.heap.size ∧ b ≠ b10))) b4 := (.inr ⟨by omega, by omega, by omega⟩)
 have f24 : ((fun b => F b ∨ (w0.heap.size ≤ b ∧ b < w18.heap.size ∧ b ≠ b10))) b13 := (.inr ⟨by omega, by omega, by omega⟩)
 have f26 : ((fun b => F b ∨ (w0.heap.size ≤ b ∧ b < w18.heap.size ∧ b ≠ b10))) b1 := (.inr ⟨by omega, by omega, by omega⟩)
 have f27 : ((fun b => F b ∨ (w0.heap.size ≤ b ∧ b < w18.heap.size ∧ b ≠ b10))) b7 := (.inr ⟨by omega, by omega, by omega⟩)
 have q25 : FnT Tryz.prog zls i64 (n + 1) (fun b => F b ∨ (w0.heap.size ≤ b ∧ b < w18.heap.size ∧ b ≠ b10)) w18 (.func (.func 109) #[] #[zp b1, zp b7]) (fun x => (D.zbH a0 a2 x)) := ⟨109, [], [zp b1, zp b7], zow, rfl, fun m hm x w' hs hz => zhz (fun b hb => Nat.lt_of_lt_of_le (hF1 b hb) hz) a0 f26 (hs.at_ f26 h_b1) a2 f27 (hs.at_ f27 h_b7) x⟩
 refine za9 r (zcn (F := (fun b => F b ∨ (w0.heap.size ≤ b ∧ b < w18.heap.size ∧ b ≠ b10))) (n := n) hF1 (Rep.mono (by rintro b (h | h); (rcases h with h | ⟨h1, h2, h3⟩; exact .inl h; exact .inr ⟨h1, by omega, h3⟩); exact .inr ⟨by omega, by omega, by omega⟩) (Same.refl _ _) (by omega) n _ _ hr20) ⟨114, [], [zp b1, zp b7, zp b4, zp b13], znM, rfl, fun m hm x w' hs hz => zht (j := j) (fun b hb => Nat.lt_of_lt_of_le (hF1 b hb) hz) (by omega) a0 f21 (hs.at_ f21 h_b1) a2 f22 (hs.at_ f22 h_b7) a1 f23 (hs.at_ f23 h_b4) f24 (hs.at_ f24 h_b13) (q25.mono (by omega) (fun b h => h) hs hz) x⟩) (fun R hc => zac r rfl zmr hc) rfl ?_
 rintro _ w28 ⟨v29, rfl, hb, hr30⟩
 refine ⟨_, rfl, fun fr r => ?_⟩
 have z_w28 := hb.size
 have h_b1 := keep hb h_b1
 have h_b4 := keep hb h_b4
 have h_b7 := keep hb h_b7
 have h_b10 := keep hb h_b10
 have h_b13 := keep hb h_b13
 obtain ⟨hB, zB⟩ := bon hb hB
 refine zaf (.cells v29.cells 45 (0, 0)) r (fun R => zaq r hr30.shape rfl rfl h_b10 ts45 rfl) rfl fun fr w31 u32 r => ?_
 have z_w31 := u32.size
 have h_b1 := u32.keep h_b1 (by omega)
 have h_b4 := u32.keep h_b4 (by omega)
 have h_b7 := u32.keep h_b7 (by omega)
 have h_b13 := u32.keep h_b13 (by omega)
 have h_b10 := u32.at_
 obtain ⟨hB, zB⟩ := u32.on hB (by omega)
 refine wn (wp_ret ?_)
 have hs := hr30.shape.cells
 refine zal r rfl rfl h_b10 (k := 9) hs.1 ta45 ?_
 rw [← hs.2.2]
 exact rfin hF hB hr30 u32 (by omega) (by omega) (by omega)
def D.zcQ (fu : Nat) (a0 : Plan) (a1 : Mem) (a2 : Int) : Option (Int) := ((D.zcV fu a0 a1 a2).bind (fun (x5 : List Int) => (some (x5.length : Int))))
theorem zdA {fu : Nat} (w0 : World) (a0 : Plan) {a1g : MG} (a1 : Mem) (a1h : MemAt a1g a1 w0) (a2 : Int) {res : Int} (hD : D.zcQ fu a0 a1 a2 = some res) :
    Calls Tryz.prog 39 #[.agg (zln a0).toArray, zp a1g.mb, .int .i64 a2] w0 (zlE (.int .i64 res) w0) := by
 refine enter Tryz.func39 rfl 12 rfl rfl fun fr r => ?_
 have hP : Post No [] w0 w0 := Post.nil w0
 have hP : Post No [memR a1g a1] w0 w0 := hP.addRo zb3 a1h rfl a1h.lt
 unfold D.zcQ at hD
 refine wsr ?_
 refine zaa (.cells ((zln a0)).toArray 23 (0, 0)) r (fun R => zlC r (v := (.agg (zln a0).toArray)) rfl) rfl fun fr b1 w2 n3 r => ?_
 have hP : Post No [memR a1g a1, zlm b1 ((zln a0)).toArray 23] w0 w2 := hP.new n3
 refine za0 (I 0) r (fun R => za6 r rfl) rfl fun fr r => wn (wsr (za0 (.agg (zln a0).toArray) r (fun R => za7 r (cs := (zln a0)) (n := 6) rfl (hP.cell (i := 1) rfl) ta23 rfl) rfl fun fr r => za0 (zp a1g.mb) r (fun R => za5 r rfl) rfl fun fr r => za0 (I a2) r (fun R => za5 r rfl) rfl fun fr r => ?_))
 obtain ⟨x5, hx5, hD⟩ := zad hD
 refine za9 r (zbP w2 a0 a1 (hP.memr (i := 0) rfl) a2 hx5) (fun R hc => zac r rfl cl37 hc) rfl ?_
 rintro _ w6 ⟨v7, rfl, hq⟩
 refine ⟨_, rfl, fun fr r => ?_⟩
 have hP : Post No [memR a1g a1, zlm b1 ((zln a0)).toArray 23, rowK 3 1 i64 v7 x5] w0 w6 := hP.add hq
 refine za0 (I (x5.length : Int)) r (fun R => zbj r (hP.row (i := 2) rfl).ro is29 rfl) rfl fun fr r => za0 (I (x5.length : Int)) r (fun R => za6 r rfl) rfl fun fr r => wn (wp_ret ?_)
 have hv : (x5.length : Int) = res := Option.some.inj hD
 try dsimp only [Exit.then, Exit.inBlock]
 refine zaA (fn := Tryz.f39) r (t := 6) rfl (v := (I (x5.length : Int))) rfl ?_
 subst hv
 exact ⟨rfl, hP.chg.below⟩
def D.zbT (c0 : Int) (a0 : Int) : T Int := (bif (a0 == (-1)) then (D.zaW (-1)) else (D.zaW c0))
theorem zgQ {n : Nat} {F : Nat → Prop} {w0 : World} (hF : ∀ b, F b → b < w0.heap.size)
    (c0 : Int) {c0b : Nat} (c0F : F c0b) (c0h : w0.heap[c0b]? = some (.cells ([(.int .i64 c0)]).toArray 3 (0, 0))) (a0 : Int) :
    Calls Tryz.prog 228 #[.int .i64 a0, zp c0b] w0 (zlx Tryz.prog zlq n (D.zbT c0 a0) F w0) := by
 refine enter Tryz.func228 rfl 9 rfl rfl fun fr r => ?_
 have hB := Below.refl w0.heap.size w0
 have lc0b := lt_of_block c0h
 refine wsr ?_
 refine zaa (.cells (zlo false zlq.zero 0 0 0 0 .nilFunc) 61 (0, 0)) r (fun R => zar tz61) rfl fun fr b1 w2 n3 r => ?_
 obtain ⟨e_b1, z_w2, h_b1, hB, zB⟩ := n3.all hB
 refine wn (wp_seq (wsr (za0 (I a0) r (fun R => za5 r rfl) rfl fun fr r => za0 _ r (fun R => zlt r rfl rfl rfl rfl) rfl fun fr r => wn ?_)))
 refine wp_cond_split (t := (a0 == (-1))) (r.ev rfl) (fun h4 => ?_) (fun h4 => ?_)
 ·
  refine wsr ?_
  have hF1 := zlG hF hB b1
  refine za9 r (zbs (F := (fun b => F b ∨ (w0.heap.size ≤ b ∧ b < w2.heap.size ∧ b ≠ b1))) (n := n) hF1 (-1)) (fun R hc => zac r rfl zlS hc) rfl ?_
  rintro _ w5 ⟨v6, rfl, hb, hr7⟩
  refine ⟨_, rfl, fun fr r => ?_⟩
  have z_w5 := hb.size
  have h_b1 := keep hb h_b1
  obtain ⟨hB, zB⟩ := bon hb hB
  refine zaf (.cells v6.cells 61 (0, 0)) r (fun R => zaq r hr7.shape rfl rfl h_b1 ts61 rfl) rfl fun fr w8 u9 r => ?_
  have z_w8 := u9.size
  have h_b1 := u9.at_
  obtain ⟨hB, zB⟩ := u9.on hB (by omega)
  refine wn (wp_ret ?_)
  have hd : D.zbT c0 a0 = (D.zaW (-1)) := (zao h4).trans (rfl)
  have hs := hr7.shape.cells
  refine zal r rfl rfl h_b1 (k := 7) hs.1 ta61 ?_
  rw [← hs.2.2, hd]
  exact rfin hF hB hr7 u9 (by omega) (by omega) (by omega)
 ·
  refine wp_skip (wsr (za0 (I c0) r (fun R => za2 r rfl (keep hB c0h) to3 rfl) rfl fun fr r => ?_))
  have hF1 := zlG hF hB b1
  refine za9 r (zbs (F := (fun b => F b ∨ (w0.heap.size ≤ b ∧ b < w2.heap.size ∧ b ≠ b1))) (n := n) hF1 c0) (fun R hc => zac r rfl zlS hc) rfl ?_
  rintro _ w10 ⟨v11, rfl, hb, hr12⟩
  refine ⟨_, rfl, fun fr r => ?_⟩
  have z_w10 := hb.size
  have h_b1 := keep hb h_b1
  obtain ⟨hB, zB⟩ := bon hb hB
  refine zaf (.cells v11.cells 61 (0, 0)) r (fun R => zaq r hr12.shape rfl rfl h_b1 ts61 rfl) rfl fun fr w13 u14 r => ?_
  have z_w13 := u14.size
  have h_b1 := u14.at_
  obtain ⟨hB, zB⟩ := u14.on hB (by omega)
  refine wn (wp_ret ?_)
  have hd : D.zbT c0 a0 = (D.zaW c0) := (zah h4).trans (rfl)
  have hs := hr12.shape.cells
  refine zal r rfl rfl h_b1 (k := 7) hs.1 ta61 ?_
  rw [← hs.2.2, hd]
  exact rfin hF hB hr12 u14 (by omega) (by omega) (by omega)
def D.zdn (c0 : Plan) (c1 : Int) (c2 : Int) (c3 : (Int → T Int)) (a0 : Int) : T Int := (T.bind (D.zd8 c0 c1 c2) c3)
theorem zgk {n : Nat} {F : Nat → Prop} {w0 : World} (hF : ∀ b, F b → b < w0.heap.size)
    (c0 : Plan) {c0b : Nat} (c0F : F c0b) (c0h : w0.heap[c0b]? = some (.cells ((zln c0)).toArray 23 (0, 0))) (c1 : Int) {c1b : Nat} (c1F : F c1b) (c1h : w0.heap[c1b]? = some (.cells ([(.int .i64 c1)]).toArray 3 (0, 0))) (c2 : Int) {c2b : Nat} (c2F : F c2b) (c2h : w0.heap[c2b]? = some (.cells ([(.int .i64 c2)]).toArray 3 (0, 0))) {c3f : FuncId} {c3_1 c3_2 : List Value} {c3 : (Int → T Int)} {c3b : Nat} (c3F : F c3b) (c3h : w0.heap[c3b]? = some (.cells #[.func (.func c3f) c3_1.toArray c3_2.toArray] 291 (0, 0))) (c3n : FnT Tryz.prog zlq i64 (n + 1) F w0 (.func (.func c3f) c3_1.toArray c3_2.toArray) c3) (a0 : Int) :
    Calls Tryz.prog 232 #[.int .i64 a0, zp c0b, zp c1b, zp c2b, zp c3b] w0 (zlx Tryz.prog zlq n (D.zdn c0 c1 c2 c3 a0) F w0) := by
 refine enter Tryz.func232 rfl 13 rfl rfl fun fr r => ?_
 have hB := Below.refl w0.heap.size w0
 have lc0b := lt_of_block c0h
 have lc1b := lt_of_block c1h
 have lc2b := lt_of_block c2h
 have lc3b := lt_of_block c3h
 refine wsr ?_
 refine zaa (.cells (zlo false zlq.zero 0 0 0 0 .nilFunc) 61 (0, 0)) r (fun R => zar tz61) rfl fun fr b1 w2 n3 r => ?_
 obtain ⟨e_b1, z_w2, h_b1, hB, zB⟩ := n3.all hB
 refine wn (wp_seq ?_)
 have hF1 := zlG hF hB b1
 refine zb5 5 [.val (.agg (zln c0).toArray), .val (I c1), .val (I c2), .pred (PrepP Tryz.prog zlq n (D.zd8 c0 c1 c2) ((fun b => F b ∨ (w0.heap.size ≤ b ∧ b < w2.heap.size ∧ b ≠ b1))) w2) (PrepP.st hF1), .val (.func (.func c3f) c3_1.toArray c3_2.toArray)] mixed r (by kernel_rfl) (za3 (by exact trivial) (za3 (by exact trivial) (za3 (by exact trivial) (za3 (by exact trivial) (za3 (by exact trivial) zaV))))) ?_ ?_
 ·
  refine ec r (fun _ u _ b d s => za7 s (cs := (zln c0)) (n := 6) rfl (zlK hB b c0h) ta23 rfl bz) (ec r (fun _ u _ b d s => za2 s rfl (zlK hB b c1h) to3 rfl bz) (ec r (fun _ u _ b d s => za2 s rfl (zlK hB b c2h) to3 rfl bz) (ec r (fun fr1 u w' hb' hd r' => zac r' (args := [(.agg (zln c0).toArray), (I c1), (I c2)]) (lc hd.1 (lc hd.2.1 (lc hd.2.2.1 l0))) znj ((zgn (F := (fun b => F b ∨ (w0.heap.size ≤ b ∧ b < w2.heap.size ∧ b ≠ b1))) (n := n) (fun b h => Nat.lt_of_lt_of_le (hF1 b h) hb'.size) c0 c1 c2).mono (by rintro _ w2 ⟨y, rfl, hb2, hr2⟩; exact ⟨_, rfl, hb2, PrepP.of (drB hb') hb2 hr2⟩))) (ec r (fun _ u _ b d s => za2 s rfl (zlK hB b c3h) zmu rfl bz) ?_))))
  exact zbc
 ·
  intro fr u w4 hb hΦ hne r
  obtain ⟨v5, hv3⟩ : ∃ v, v = u 3 := ⟨_, rfl⟩
  have g3 : u 3 = v5 := hv3.symm
  have hr6 := (hΦ 3 (by decide)).2
  rw [g3] at hr6
  have r := r.congr (sc (hΦ 4 (by decide)) (sc g3 (sc (hΦ 2 (by decide)) (sc (hΦ 1 (by decide)) (sc (hΦ 0 (by decide)) rfl)))))
  have z_w4 := hb.size
  have h_b1 := keep hb h_b1
  obtain ⟨hB, zB⟩ := bon hb hB
  have hF1 := zlG hF hB b1
  refine za9 r (zcE (F := (fun b => F b ∨ (w0.heap.size ≤ b ∧ b < w4.heap.size ∧ b ≠ b1))) (n := n) hF1 (Rep.mono (by rintro b (h | h); (rcases h with h | ⟨h1, h2, h3⟩; exact .inl h; exact .inr ⟨h1, by omega, h3⟩); exact .inr ⟨by omega, by omega, by omega⟩) (Same.refl _ _) (by omega) n _ _ hr6) (c3n.mono (by omega) (fun b h => .inl h) (Same.below hB hF) hB.size)) (fun R hc => zac r rfl zmd hc) rfl ?_
  rintro _ w7 ⟨v8, rfl, hb, hr9⟩
  refine ⟨_, rfl, fun fr r => ?_⟩
  have z_w7 := hb.size
  have h_b1 := keep hb h_b1
  obtain ⟨hB, zB⟩ := bon hb hB
  refine zaf (.cells v8.cells 61 (0, 0)) r (fun R => zaq r hr9.shape rfl rfl h_b1 ts61 rfl) rfl fun fr w10 u11 r => ?_
  have z_w10 := u11.size
  have h_b1 := u11.at_
  obtain ⟨hB, zB⟩ := u11.on hB (by omega)
  refine wn (wp_ret ?_)
  have hs := hr9.shape.cells
  refine zal r rfl rfl h_b1 (k := 7) hs.1 ta61 ?_
  rw [← hs.2.2]
  exact rfin hF hB hr9 u11 (by omega) (by omega) (by omega)
def D.zcc (j : Nat) (c0 : Int) (c1 : Plan) (c2 : Int) (c3 : (Int → T Int)) (a0 : Int) : T Int := (bif (a0 != (-1)) then (D.zaW c0) else (T.bind (D.zcJ j c1 c2) (fun x => (D.zdn c1 c2 c0 c3 x))))
theorem zh4 {n : Nat} {F : Nat → Prop} {j : Nat} {w0 : World} (hF : ∀ b, F b → b < w0.heap.size) (hj : n < j)
    (c0 : Int) {c0b : Nat} (c0F : F c0b) (c0h : w0.heap[c0b]? = some (.cells ([(.int .i64 c0)]).toArray 3 (0, 0))) (c1 : Plan) {c1b : Nat} (c1F : F c1b) (c1h : w0.heap[c1b]? = some (.cells ((zln c1)).toArray 23 (0, 0))) (c2 : Int) {c2b : Nat} (c2F : F c2b) (c2h : w0.heap[c2b]? = some (.cells ([(.int .i64 c2)]).toArray 3 (0, 0))) {c3f : FuncId} {c3_1 c3_2 : List Value} {c3 : (Int → T Int)} {c3b : Nat} (c3F : F c3b) (c3h : w0.heap[c3b]? = some (.cells #[.func (.func c3f) c3_1.toArray c3_2.toArray] 291 (0, 0))) (c3n : FnT Tryz.prog zlq i64 (n + 1) F w0 (.func (.func c3f) c3_1.toArray c3_2.toArray) c3) (a0 : Int) :
    Calls Tryz.prog 231 #[.int .i64 a0, zp c0b, zp c1b, zp c2b, zp c3b] w0 (zlx Tryz.prog zlq n (D.zcc j c0 c1 c2 c3 a0) F w0) := by
 refine enter Tryz.func231 rfl 16 rfl rfl fun fr r => ?_
 have hB := Below.refl w0.heap.size w0
 have lc0b := lt_of_block c0h
 have lc1b := lt_of_block c1h
 have lc2b := lt_of_block c2h
 have lc3b := lt_of_block c3h
 refine wsr ?_
 refine zaa (.cells (zlo false zlq.zero 0 0 0 0 .nilFunc) 61 (0, 0)) r (fun R => zar tz61) rfl fun fr b1 w2 n3 r => ?_
 obtain ⟨e_b1, z_w2, h_b1, hB, zB⟩ := n3.all hB
 refine wn (wp_seq (wsr (za0 (I a0) r (fun R => za5 r rfl) rfl fun fr r => za0 _ r (fun R => zlt r rfl rfl rfl rfl) rfl fun fr r => wn ?_)))
 refine wp_cond_split (t := (a0 != (-1))) (r.ev rfl) (fun h4 => ?_) (fun h4 => ?_)
 ·
  refine wsr (za0 (I c0) r (fun R => za2 r rfl (keep hB c0h) to3 rfl) rfl fun fr r => ?_)
  have hF1 := zlG hF hB b1
  refine za9 r (zbs (F := (fun b => F b ∨ (w0.heap.size ≤ b ∧ b < w2.heap.size ∧ b ≠ b1))) (n := n) hF1 c0) (fun R hc => zac r rfl zlS hc) rfl ?_
  rintro _ w5 ⟨v6, rfl, hb, hr7⟩
  refine ⟨_, rfl, fun fr r => ?_⟩
  have z_w5 := hb.size
  have h_b1 := keep hb h_b1
  obtain ⟨hB, zB⟩ := bon hb hB
  refine zaf (.cells v6.cells 61 (0, 0)) r (fun R => zaq r hr7.shape rfl rfl h_b1 ts61 rfl) rfl fun fr w8 u9 r => ?_
  have z_w8 := u9.size
  have h_b1 := u9.at_
  obtain ⟨hB, zB⟩ := u9.on hB (by omega)
  refine wn (wp_ret ?_)
  have hd : D.zcc j c0 c1 c2 c3 a0 = (D.zaW c0) := (zao h4).trans (rfl)
  have hs := hr7.shape.cells
  refine zal r rfl rfl h_b1 (k := 7) hs.1 ta61 ?_
  rw [← hs.2.2, hd]
  exact rfin hF hB hr7 u9 (by omega) (by omega) (by omega)
 ·
  refine wp_skip (wsr (za0 (.agg (zln c1).toArray) r (fun R => za7 r (cs := (zln c1)) (n := 6) rfl (keep hB c1h) ta23 rfl) rfl fun fr r => za0 (I c2) r (fun R => za2 r rfl (keep hB c2h) to3 rfl) rfl fun fr r => ?_))
  have hF1 := zlG hF hB b1
  refine za9 r (zfF (j := j) (F := (fun b => F b ∨ (w0.heap.size ≤ b ∧ b < w2.heap.size ∧ b ≠ b1))) (n := n) hF1 (by omega) c1 c2) (fun R hc => zac r rfl zmS hc) rfl ?_
  rintro _ w10 ⟨v11, rfl, hb, hr12⟩
  refine ⟨_, rfl, fun fr r => ?_⟩
  have z_w10 := hb.size
  have h_b1 := keep hb h_b1
  obtain ⟨hB, zB⟩ := bon hb hB
  refine za0 (.func (.func 232) #[] #[zp c1b, zp c2b, zp c0b, zp c3b]) r (fun R => zaL r rfl) rfl fun fr r => ?_
  have hF1 := zlG hF hB b1
  have f13 : ((fun b => F b ∨ (w0.heap.size ≤ b ∧ b < w10.heap.size ∧ b ≠ b1))) c1b := (.inl c1F)
  have f14 : ((fun b => F b ∨ (w0.heap.size ≤ b ∧ b < w10.heap.size ∧ b ≠ b1))) c2b := (.inl c2F)
  have f15 : ((fun b => F b ∨ (w0.heap.size ≤ b ∧ b < w10.heap.size ∧ b ≠ b1))) c0b := (.inl c0F)
  have f16 : ((fun b => F b ∨ (w0.heap.size ≤ b ∧ b < w10.heap.size ∧ b ≠ b1))) c3b := (.inl c3F)
  refine za9 r (zcE (F := (fun b => F b ∨ (w0.heap.size ≤ b ∧ b < w10.heap.size ∧ b ≠ b1))) (n := n) hF1 (Rep.mono (by rintro b (h | h); (rcases h with h | ⟨h1, h2, h3⟩; exact .inl h; exact .inr ⟨h1, by omega, h3⟩); exact .inr ⟨by omega, by omega, by omega⟩) (Same.refl _ _) (by omega) n _ _ hr12) ⟨232, [], [zp c1b, zp c2b, zp c0b, zp c3b], zoB, rfl, fun m hm x w' hs hz => zgk (fun b hb => Nat.lt_of_lt_of_le (hF1 b hb) hz) c1 f13 (hs.at_ f13 (keep hB c1h)) c2 f14 (hs.at_ f14 (keep hB c2h)) c0 f15 (hs.at_ f15 (keep hB c0h)) f16 (hs.at_ f16 (keep hB c3h)) (c3n.mono (by omega) (fun b h => .inl h) ((Same.below hB hF).trans (hs.sub (fun b h => .inl h))) (Nat.le_trans hB.size hz)) x⟩) (fun R hc => zac r rfl zmd hc) rfl ?_
  rintro _ w17 ⟨v18, rfl, hb, hr19⟩
  refine ⟨_, rfl, fun fr r => ?_⟩
  have z_w17 := hb.size
  have h_b1 := keep hb h_b1
  obtain ⟨hB, zB⟩ := bon hb hB
  refine zaf (.cells v18.cells 61 (0, 0)) r (fun R => zaq r hr19.shape rfl rfl h_b1 ts61 rfl) rfl fun fr w20 u21 r => ?_
  have z_w20 := u21.size
  have h_b1 := u21.at_
  obtain ⟨hB, zB⟩ := u21.on hB (by omega)
  refine wn (wp_ret ?_)
  have hd : D.zcc j c0 c1 c2 c3 a0 = (T.bind (D.zcJ j c1 c2) (fun x => (D.zdn c1 c2 c0 c3 x))) := (zah h4).trans (rfl)
  have hs := hr19.shape.cells
  refine zal r rfl rfl h_b1 (k := 7) hs.1 ta61 ?_
  rw [← hs.2.2, hd]
  exact rfin hF hB hr19 u21 (by omega) (by omega) (by omega)
def D.zeG (j : Nat) (a0 : Plan) (a1 : Int) (a2 : Int) : T Int := (T.bind (D.zd8 a0 a1 a2) (fun x => (D.zcc j a2 a0 a1 (fun x => (D.zbT a2 x)) x)))
theorem zhE {n : Nat} {F : Nat → Prop} {j : Nat} {w0 : World} (hF : ∀ b, F b → b < w0.heap.size) (hj : n < j)
    (a0 : Plan) (a1 : Int) (a2 : Int) :
    Calls Tryz.prog 132 #[.agg (zln a0).toArray, .int .i64 a1, .int .i64 a2] w0 (zlx Tryz.prog zlq n (D.zeG j a0 a1 a2) F w0) := by
 refine enter Tryz.func132 rfl 15 rfl rfl fun fr r => ?_
 have hB := Below.refl w0.heap.size w0
 refine wsr ?_
 refine zaa (.cells ((zln a0)).toArray 23 (0, 0)) r (fun R => zlC r (v := (.agg (zln a0).toArray)) rfl) rfl fun fr b1 w2 n3 r => ?_
 obtain ⟨e_b1, z_w2, h_b1, hB, zB⟩ := n3.all hB
 refine zaa (.cells #[(I a1)] 3 (0, 0)) r (fun R => zlC r (v := (I a1)) rfl) rfl fun fr b4 w5 n6 r => ?_
 have h_b1 := keep n6.below h_b1
 obtain ⟨e_b4, z_w5, h_b4, hB, zB⟩ := n6.all hB
 refine zaa (.cells #[(I a2)] 3 (0, 0)) r (fun R => zlC r (v := (I a2)) rfl) rfl fun fr b7 w8 n9 r => ?_
 have h_b1 := keep n9.below h_b1
 have h_b4 := keep n9.below h_b4
 obtain ⟨e_b7, z_w8, h_b7, hB, zB⟩ := n9.all hB
 refine zaa (.cells (zlo false zlq.zero 0 0 0 0 .nilFunc) 61 (0, 0)) r (fun R => zar tz61) rfl fun fr b10 w11 n12 r => ?_
 have h_b1 := keep n12.below h_b1
 have h_b4 := keep n12.below h_b4
 have h_b7 := keep n12.below h_b7
 obtain ⟨e_b10, z_w11, h_b10, hB, zB⟩ := n12.all hB
 refine wn (wsr (za0 (.func (.func 228) #[] #[zp b7]) r (fun R => zaL r rfl) rfl fun fr r => ?_))
 refine zaa (.cells #[.nilFunc] 291 (0, 0)) r (fun R => zar zoK) rfl fun fr b13 w14 n15 r => ?_
 have h_b1 := keep n15.below h_b1
 have h_b4 := keep n15.below h_b4
 have h_b7 := keep n15.below h_b7
 have h_b10 := keep n15.below h_b10
 obtain ⟨e_b13, z_w14, h_b13, hB, zB⟩ := n15.all hB
 refine zaf (.cells #[.func (.func 228) #[] #[zp b7]] 291 (0, 0)) r (fun R => zb0 r (o := 0) (v := (.func (.func 228) #[] #[zp b7])) rfl rfl h_b13 zo9 (Nat.le_of_ble_eq_true rfl) rfl rfl) rfl fun fr w16 u17 r => ?_
 have z_w16 := u17.size
 have h_b1 := u17.keep h_b1 (by omega)
 have h_b4 := u17.keep h_b4 (by omega)
 have h_b7 := u17.keep h_b7 (by omega)
 have h_b10 := u17.keep h_b10 (by omega)
 have h_b13 := u17.at_
 obtain ⟨hB, zB⟩ := u17.on hB (by omega)
 refine wn (wsr (za0 (.agg (zln a0).toArray) r (fun R => za7 r (cs := (zln a0)) (n := 6) rfl h_b1 ta23 rfl) rfl fun fr r => za0 (I a1) r (fun R => za2 r rfl h_b4 to3 rfl) rfl fun fr r => za0 (I a2) r (fun R => za2 r rfl h_b7 to3 rfl) rfl fun fr r => ?_))
 have hF1 := zlG hF hB b10
 refine za9 r (zgn (F := (fun b => F b ∨ (w0.heap.size ≤ b ∧ b < w16.heap.size ∧ b ≠ b10))) (n := n) hF1 a0 a1 a2) (fun R hc => zac r rfl znj hc) rfl ?_
 rintro _ w18 ⟨v19, rfl, hb, hr20⟩
 refine ⟨_, rfl, fun fr r => ?_⟩
 have z_w18 := hb.size
 have h_b1 := keep hb h_b1
 have h_b4 := keep hb h_b4
 have h_b7 := keep hb h_b7
 have h_b10 := keep hb h_b10
 have h_b13 := keep hb h_b13
 obtain ⟨hB, zB⟩ := bon hb hB
 refine za0 (.func (.func 231) #[] #[zp b7, zp b1, zp b4, zp b13]) r (fun R => zaL r rfl) rfl fun fr r => ?_
 have hF1 := zlG hF hB b10
 have f21 : ((fun b => F b ∨ (w0.heap.size ≤ b ∧ b < w18.heap.size ∧ b ≠ b10))) b7 := (.inr ⟨by omega, by omega, by omega⟩)
 have f22 : ((fun b => F b ∨ (w0.heap.size ≤ b ∧ b < w18.heap.size ∧ b ≠ b10))) b1 := (.inr ⟨by omega, by omega, by omega⟩)
 have f23 : ((fun b => F b ∨ (w0.heap.size ≤ b ∧ b < w18.heap.size ∧ b ≠ b10))) b4 := (.inr ⟨by omega, by omega, by omega⟩)
 have f24 : ((fun b => F b ∨ (w0.heap.size ≤ b ∧ b < w18.heap.size ∧ b ≠ b10))) b13 := (.inr ⟨by omega, by omega, by omega⟩)
 have f26 : ((fun b => F b ∨ (w0.heap.size ≤ b ∧ b < w18.heap.size ∧ b ≠ b10))) b7 := (.inr ⟨by omega, by omega, by omega⟩)
 have q25 : FnT Tryz.prog zlq i64 (n + 1) (fun b => F b ∨ (w0.heap.size ≤ b ∧ b < w18.heap.size ∧ b ≠ b10)) w18 (.func (.func 228) #[] #[zp b7]) (fun x => (D.zbT a2 x)) := ⟨228, [], [zp b7], zny, rfl, fun m hm x w' hs hz => zgQ (fun b hb => Nat.lt_of_lt_of_le (hF1 b hb) hz) a2 f26 (hs.at_ f26 h_b7) x⟩
 refine za9 r (zcE (F := (fun b => F b ∨ (w0.heap.size ≤ b ∧ b < w18.heap.size ∧ b ≠ b10))) (n := n) hF1 (Rep.mono (by rintro b (h | h); (rcases h with h | ⟨h1, h2, h3⟩; exact .inl h; exact .inr ⟨h1, by omega, h3⟩); exact .inr ⟨by omega, by omega, by omega⟩) (Same.refl _ _) (by omega) n _ _ hr20) ⟨231, [], [zp b7, zp b1, zp b4, zp b13], zob, rfl, fun m hm x w' hs hz => zh4 (j := j) (fun b hb => Nat.lt_of_lt_of_le (hF1 b hb) hz) (by omega) a2 f21 (hs.at_ f21 h_b7) a0 f22 (hs.at_ f22 h_b1) a1 f23 (hs.at_ f23 h_b4) f24 (hs.at_ f24 h_b13) (q25.mono (by omega) (fun b h => h) hs hz) x⟩) (fun R hc => zac r rfl zmd hc) rfl ?_
 rintro _ w27 ⟨v28, rfl, hb, hr29⟩
 refine ⟨_, rfl, fun fr r => ?_⟩
 have z_w27 := hb.size
 have h_b1 := keep hb h_b1
 have h_b4 := keep hb h_b4
 have h_b7 := keep hb h_b7
 have h_b10 := keep hb h_b10
 have h_b13 := keep hb h_b13
 obtain ⟨hB, zB⟩ := bon hb hB
 refine zaf (.cells v28.cells 61 (0, 0)) r (fun R => zaq r hr29.shape rfl rfl h_b10 ts61 rfl) rfl fun fr w30 u31 r => ?_
 have z_w30 := u31.size
 have h_b1 := u31.keep h_b1 (by omega)
 have h_b4 := u31.keep h_b4 (by omega)
 have h_b7 := u31.keep h_b7 (by omega)
 have h_b13 := u31.keep h_b13 (by omega)
 have h_b10 := u31.at_
 obtain ⟨hB, zB⟩ := u31.on hB (by omega)
 refine wn (wp_ret ?_)
 have hs := hr29.shape.cells
 refine zal r rfl rfl h_b10 (k := 7) hs.1 ta61 ?_
 rw [← hs.2.2]
 exact rfin hF hB hr29 u31 (by omega) (by omega) (by omega)
def D.zdK (j : Nat) (c0 : Plan) (c1 : Int) (c2 : Int) : T Int := (D.zeG j c0 c1 c2)
theorem zfM {n : Nat} {F : Nat → Prop} {j : Nat} {w0 : World} (hF : ∀ b, F b → b < w0.heap.size) (hj : n < j)
    (c0 : Plan) {c0b : Nat} (c0F : F c0b) (c0h : w0.heap[c0b]? = some (.cells ((zln c0)).toArray 23 (0, 0))) (c1 : Int) {c1b : Nat} (c1F : F c1b) (c1h : w0.heap[c1b]? = some (.cells ([(.int .i64 c1)]).toArray 3 (0, 0))) (c2 : Int) {c2b : Nat} (c2F : F c2b) (c2h : w0.heap[c2b]? = some (.cells ([(.int .i64 c2)]).toArray 3 (0, 0))) :
    Calls Tryz.prog 131 #[zp c0b, zp c1b, zp c2b] w0 (zlx Tryz.prog zlq n (D.zdK j c0 c1 c2) F w0) := by
 refine enter Tryz.func131 rfl 8 rfl rfl fun fr r => ?_
 have hB := Below.refl w0.heap.size w0
 have lc0b := lt_of_block c0h
 have lc1b := lt_of_block c1h
 have lc2b := lt_of_block c2h
 refine wsr ?_
 refine zaa (.cells (zlo false zlq.zero 0 0 0 0 .nilFunc) 61 (0, 0)) r (fun R => zar tz61) rfl fun fr b1 w2 n3 r => ?_
 obtain ⟨e_b1, z_w2, h_b1, hB, zB⟩ := n3.all hB
 refine wn (wsr (za0 (.agg (zln c0).toArray) r (fun R => za7 r (cs := (zln c0)) (n := 6) rfl (keep hB c0h) ta23 rfl) rfl fun fr r => za0 (I c1) r (fun R => za2 r rfl (keep hB c1h) to3 rfl) rfl fun fr r => za0 (I c2) r (fun R => za2 r rfl (keep hB c2h) to3 rfl) rfl fun fr r => ?_))
 have hF1 := zlG hF hB b1
 refine za9 r (zhE (j := j) (F := (fun b => F b ∨ (w0.heap.size ≤ b ∧ b < w2.heap.size ∧ b ≠ b1))) (n := n) hF1 (by omega) c0 c1 c2) (fun R hc => zac r rfl znC hc) rfl ?_
 rintro _ w4 ⟨v5, rfl, hb, hr6⟩
 refine ⟨_, rfl, fun fr r => ?_⟩
 have z_w4 := hb.size
 have h_b1 := keep hb h_b1
 obtain ⟨hB, zB⟩ := bon hb hB
 refine zaf (.cells v5.cells 61 (0, 0)) r (fun R => zaq r hr6.shape rfl rfl h_b1 ts61 rfl) rfl fun fr w7 u8 r => ?_
 have z_w7 := u8.size
 have h_b1 := u8.at_
 obtain ⟨hB, zB⟩ := u8.on hB (by omega)
 refine wn (wp_ret ?_)
 have hs := hr6.shape.cells
 refine zal r rfl rfl h_b1 (k := 7) hs.1 ta61 ?_
 rw [← hs.2.2]
 exact rfin hF hB hr6 u8 (by omega) (by omega) (by omega)
def D.zee (j : Nat) (c0 : Plan) (c1 : Int) (c2 : Int) (a0 : Int) : T Int := (D.zbd (D.zaI c0 c1) (D.zan (D.zbk ((D.zau a0).1))) (fun _ => (D.zdK j c0 c2 c1)))
theorem zgw {n : Nat} {F : Nat → Prop} {j : Nat} {w0 : World} (hF : ∀ b, F b → b < w0.heap.size) (hj : n < j)
    (c0 : Plan) {c0b : Nat} (c0F : F c0b) (c0h : w0.heap[c0b]? = some (.cells ((zln c0)).toArray 23 (0, 0))) (c1 : Int) {c1b : Nat} (c1F : F c1b) (c1h : w0.heap[c1b]? = some (.cells ([(.int .i64 c1)]).toArray 3 (0, 0))) (c2 : Int) {c2b : Nat} (c2F : F c2b) (c2h : w0.heap[c2b]? = some (.cells ([(.int .i64 c2)]).toArray 3 (0, 0))) (a0 : Int) :
    Calls Tryz.prog 128 #[.int .u64 a0, zp c0b, zp c1b, zp c2b] w0 (zlx Tryz.prog zlq n (D.zee j c0 c1 c2 a0) F w0) := by
 refine enter Tryz.func128 rfl 21 rfl rfl fun fr r => ?_
 have hB := Below.refl w0.heap.size w0
 have lc0b := lt_of_block c0h
 have lc1b := lt_of_block c1h
 have lc2b := lt_of_block c2h
 refine wsr ?_
 refine zaa (.cells (zlo false zlq.zero 0 0 0 0 .nilFunc) 61 (0, 0)) r (fun R => zar tz61) rfl fun fr b1 w2 n3 r => ?_
 obtain ⟨e_b1, z_w2, h_b1, hB, zB⟩ := n3.all hB
 refine wn (wsr (za0 (U a0) r (fun R => za5 r rfl) rfl fun fr r => ?_))
 refine za9 r (zeo w2 a0) (fun R hc => zac r rfl cl87 hc) rfl ?_
 rintro _ w4 ⟨rfl, hb⟩
 refine ⟨_, rfl, fun fr r => ?_⟩
 have z_w4 := hb.size
 have h_b1 := keep hb h_b1
 obtain ⟨hB, zB⟩ := bon hb hB
 refine za0 (.tuple #[(.agg (zlw (D.zau a0).1).toArray), (.bool (D.zau a0).2)]) r (fun R => za5 r rfl) rfl fun fr r => za0 (.agg (zlw (D.zau a0).1).toArray) r (fun R => zaQ r (vs := #[(.agg (zlw (D.zau a0).1).toArray), (.bool (D.zau a0).2)]) rfl rfl) rfl fun fr r => za0 (.bool (D.zau a0).2) r (fun R => zaQ r (vs := #[(.agg (zlw (D.zau a0).1).toArray), (.bool (D.zau a0).2)]) rfl rfl) rfl fun fr r => ?_
 refine zaa (.cells ((zlw (⟨0, 0, 0⟩ : State))).toArray 55 (0, 0)) r (fun R => zar tz55) rfl fun fr b5 w6 n7 r => ?_
 have h_b1 := keep n7.below h_b1
 obtain ⟨e_b5, z_w6, h_b5, hB, zB⟩ := n7.all hB
 refine zaf (.cells ((zlw ((D.zau a0).1))).toArray 55 (0, 0)) r (fun R => zb0 r (o := 0) (v := (.agg (zlw (D.zau a0).1).toArray)) rfl rfl h_b5 ts55 (Nat.le_of_ble_eq_true rfl) rfl rfl) rfl fun fr w8 u9 r => ?_
 have z_w8 := u9.size
 have h_b1 := u9.keep h_b1 (by omega)
 have h_b5 := u9.at_
 obtain ⟨hB, zB⟩ := u9.on hB (by omega)
 refine za0 (.bool (D.zau a0).2) r (fun R => za6 r rfl) rfl fun fr r => wn (wp_seq ?_)
 refine zb5 7 [.val (.agg (zln c0).toArray), .val (I c1), .val (I (D.zaI c0 c1)), .val (.agg (zlw (D.zau a0).1).toArray), .val (.agg (zlw (D.zbk ((D.zau a0).1))).toArray), .val (U (D.zan (D.zbk ((D.zau a0).1)))), .val (.func (.func 131) #[] #[zp c0b, zp c2b, zp c1b])] mixed r (by kernel_rfl) (za3 (by exact trivial) (za3 (by exact trivial) (za3 (by exact trivial) (za3 (by exact trivial) (za3 (by exact trivial) (za3 (by exact trivial) (za3 (by exact trivial) zaV))))))) ?_ ?_
 ·
  refine ec r (fun _ u _ b d s => za7 s (cs := (zln c0)) (n := 6) rfl (zlK hB b c0h) ta23 rfl bz) (ec r (fun _ u _ b d s => za2 s rfl (zlK hB b c1h) to3 rfl bz) (ec r (fun fr1 u w' hb' hd r' => zac r' (args := [(.agg (zln c0).toArray), (I c1)]) (lc hd.1 (lc hd.2.1 l0)) cl31 ((zbQ _ c0 c1).mono (by rintro _ w2 ⟨rfl, hb2⟩; exact ⟨_, rfl, hb2, rfl⟩))) (ec r (fun _ u _ b d s => za7 s (cs := (zlw ((D.zau a0).1))) (n := 3) rfl (keep b h_b5) ta55 rfl bz) (ec r (fun fr1 u w' hb' hd r' => zac r' (args := [(.agg (zlw (D.zau a0).1).toArray)]) (lc hd.1 l0) zoA ((zfj _ ((D.zau a0).1)).mono (by rintro _ w2 ⟨rfl, hb2⟩; exact ⟨_, rfl, hb2, rfl⟩))) (ec r (fun fr1 u w' hb' hd r' => zac r' (args := [(.agg (zlw (D.zbk ((D.zau a0).1))).toArray)]) (lc hd.1 l0) cl32 ((zbX _ (D.zbk ((D.zau a0).1))).mono (by rintro _ w2 ⟨rfl, hb2⟩; exact ⟨_, rfl, hb2, rfl⟩))) (ec r (fun _ u _ b d s => zaL s (v := (.func (.func 131) #[] #[zp c0b, zp c2b, zp c1b])) rfl bz) ?_))))))
  exact zbc
 ·
  intro fr u w10 hb hΦ hne r
  have r := r.congr (sc (hΦ 6 (by decide)) (sc (hΦ 5 (by decide)) (sc (hΦ 4 (by decide)) (sc (hΦ 3 (by decide)) (sc (hΦ 2 (by decide)) (sc (hΦ 1 (by decide)) (sc (hΦ 0 (by decide)) rfl)))))))
  have z_w10 := hb.size
  have h_b1 := keep hb h_b1
  have h_b5 := keep hb h_b5
  obtain ⟨hB, zB⟩ := bon hb hB
  have hF1 := zlG hF hB b1
  have f11 : ((fun b => F b ∨ (w0.heap.size ≤ b ∧ b < w10.heap.size ∧ b ≠ b1))) c0b := (.inl c0F)
  have f12 : ((fun b => F b ∨ (w0.heap.size ≤ b ∧ b < w10.heap.size ∧ b ≠ b1))) c2b := (.inl c2F)
  have f13 : ((fun b => F b ∨ (w0.heap.size ≤ b ∧ b < w10.heap.size ∧ b ≠ b1))) c1b := (.inl c1F)
  refine za9 r (zbK (F := (fun b => F b ∨ (w0.heap.size ≤ b ∧ b < w10.heap.size ∧ b ≠ b1))) (n := n) hF1 (D.zaI c0 c1) (D.zan (D.zbk ((D.zau a0).1))) ⟨131, [], [zp c0b, zp c2b, zp c1b], zox, rfl, fun m hm _ w' hs hz => zfM (j := j) (fun b hb => Nat.lt_of_lt_of_le (hF1 b hb) hz) (by omega) c0 f11 (hs.at_ f11 (keep hB c0h)) c2 f12 (hs.at_ f12 (keep hB c2h)) c1 f13 (hs.at_ f13 (keep hB c1h))⟩) (fun R hc => zac r rfl zlX hc) rfl ?_
  rintro _ w14 ⟨v15, rfl, hb, hr16⟩
  refine ⟨_, rfl, fun fr r => ?_⟩
  have z_w14 := hb.size
  have h_b1 := keep hb h_b1
  have h_b5 := keep hb h_b5
  obtain ⟨hB, zB⟩ := bon hb hB
  refine zaf (.cells v15.cells 61 (0, 0)) r (fun R => zaq r hr16.shape rfl rfl h_b1 ts61 rfl) rfl fun fr w17 u18 r => ?_
  have z_w17 := u18.size
  have h_b5 := u18.keep h_b5 (by omega)
  have h_b1 := u18.at_
  obtain ⟨hB, zB⟩ := u18.on hB (by omega)
  refine wn (wp_ret ?_)
  have hs := hr16.shape.cells
  refine zal r rfl rfl h_b1 (k := 7) hs.1 ta61 ?_
  rw [← hs.2.2]
  exact rfin hF hB hr16 u18 (by omega) (by omega) (by omega)
def D.zc4 (j : Nat) (a0 : Plan) (a1 : Int) (a2 : Int) : T Int := (D.zb7 (D.zaI a0 a2) (fun x => (D.zee j a0 a2 a1 x)))
theorem zh8 {n : Nat} {F : Nat → Prop} {j : Nat} {w0 : World} (hF : ∀ b, F b → b < w0.heap.size) (hj : n < j)
    (a0 : Plan) (a1 : Int) (a2 : Int) :
    Calls Tryz.prog 34 #[.agg (zln a0).toArray, .int .i64 a1, .int .i64 a2] w0 (zlx Tryz.prog zlq n (D.zc4 j a0 a1 a2) F w0) := by
 refine enter Tryz.func34 rfl 12 rfl rfl fun fr r => ?_
 have hB := Below.refl w0.heap.size w0
 refine wsr ?_
 refine zaa (.cells ((zln a0)).toArray 23 (0, 0)) r (fun R => zlC r (v := (.agg (zln a0).toArray)) rfl) rfl fun fr b1 w2 n3 r => ?_
 obtain ⟨e_b1, z_w2, h_b1, hB, zB⟩ := n3.all hB
 refine zaa (.cells #[(I a1)] 3 (0, 0)) r (fun R => zlC r (v := (I a1)) rfl) rfl fun fr b4 w5 n6 r => ?_
 have h_b1 := keep n6.below h_b1
 obtain ⟨e_b4, z_w5, h_b4, hB, zB⟩ := n6.all hB
 refine zaa (.cells #[(I a2)] 3 (0, 0)) r (fun R => zlC r (v := (I a2)) rfl) rfl fun fr b7 w8 n9 r => ?_
 have h_b1 := keep n9.below h_b1
 have h_b4 := keep n9.below h_b4
 obtain ⟨e_b7, z_w8, h_b7, hB, zB⟩ := n9.all hB
 refine zaa (.cells (zlo false zlq.zero 0 0 0 0 .nilFunc) 61 (0, 0)) r (fun R => zar tz61) rfl fun fr b10 w11 n12 r => ?_
 have h_b1 := keep n12.below h_b1
 have h_b4 := keep n12.below h_b4
 have h_b7 := keep n12.below h_b7
 obtain ⟨e_b10, z_w11, h_b10, hB, zB⟩ := n12.all hB
 refine wn (wsr (za0 (.agg (zln a0).toArray) r (fun R => za7 r (cs := (zln a0)) (n := 6) rfl h_b1 ta23 rfl) rfl fun fr r => za0 (I a2) r (fun R => za2 r rfl h_b7 to3 rfl) rfl fun fr r => ?_))
 refine za9 r (zbQ w11 a0 a2) (fun R hc => zac r rfl cl31 hc) rfl ?_
 rintro _ w13 ⟨rfl, hb⟩
 refine ⟨_, rfl, fun fr r => ?_⟩
 have z_w13 := hb.size
 have h_b1 := keep hb h_b1
 have h_b4 := keep hb h_b4
 have h_b7 := keep hb h_b7
 have h_b10 := keep hb h_b10
 obtain ⟨hB, zB⟩ := bon hb hB
 refine za0 (.func (.func 128) #[] #[zp b1, zp b7, zp b4]) r (fun R => zaL r rfl) rfl fun fr r => ?_
 have hF1 := zlG hF hB b10
 have f14 : ((fun b => F b ∨ (w0.heap.size ≤ b ∧ b < w13.heap.size ∧ b ≠ b10))) b1 := (.inr ⟨by omega, by omega, by omega⟩)
 have f15 : ((fun b => F b ∨ (w0.heap.size ≤ b ∧ b < w13.heap.size ∧ b ≠ b10))) b7 := (.inr ⟨by omega, by omega, by omega⟩)
 have f16 : ((fun b => F b ∨ (w0.heap.size ≤ b ∧ b < w13.heap.size ∧ b ≠ b10))) b4 := (.inr ⟨by omega, by omega, by omega⟩)
 refine za9 r (zbG (F := (fun b => F b ∨ (w0.heap.size ≤ b ∧ b < w13.heap.size ∧ b ≠ b10))) (n := n) hF1 (D.zaI a0 a2) ⟨128, [], [zp b1, zp b7, zp b4], znw, rfl, fun m hm x w' hs hz => zgw (j := j) (fun b hb => Nat.lt_of_lt_of_le (hF1 b hb) hz) (by omega) a0 f14 (hs.at_ f14 h_b1) a2 f15 (hs.at_ f15 h_b7) a1 f16 (hs.at_ f16 h_b4) x⟩) (fun R hc => zac r rfl zlV hc) rfl ?_
 rintro _ w17 ⟨v18, rfl, hb, hr19⟩
 refine ⟨_, rfl, fun fr r => ?_⟩
 have z_w17 := hb.size
 have h_b1 := keep hb h_b1
 have h_b4 := keep hb h_b4
 have h_b7 := keep hb h_b7
 have h_b10 := keep hb h_b10
 obtain ⟨hB, zB⟩ := bon hb hB
 refine zaf (.cells v18.cells 61 (0, 0)) r (fun R => zaq r hr19.shape rfl rfl h_b10 ts61 rfl) rfl fun fr w20 u21 r => ?_
 have z_w20 := u21.size
 have h_b1 := u21.keep h_b1 (by omega)
 have h_b4 := u21.keep h_b4 (by omega)
 have h_b7 := u21.keep h_b7 (by omega)
 have h_b10 := u21.at_
 obtain ⟨hB, zB⟩ := u21.on hB (by omega)
 refine wn (wp_ret ?_)
 have hs := hr19.shape.cells
 refine zal r rfl rfl h_b10 (k := 7) hs.1 ta61 ?_
 rw [← hs.2.2]
 exact rfin hF hB hr19 u21 (by omega) (by omega) (by omega)
end Go.Proofs.YtfpgnmhcfkikkaaGreat

/- Ours. -/
set_option maxRecDepth 20000
set_option maxHeartbeats 2000000
namespace Go.Proofs.YtfpgnmhcfkikkaaGreat
open Go.RowKit
theorem zoz : zlp Tryz.prog 102 = true := by kernel_rfl
theorem cl24 : zlp Tryz.prog 24 = true := by kernel_rfl
theorem cl26 : zlp Tryz.prog 26 = true := by kernel_rfl
theorem cl27 : zlp Tryz.prog 27 = true := by kernel_rfl
theorem cl39 : zlp Tryz.prog 39 = true := by kernel_rfl
theorem zkE : zlB Tryz.prog 37 0 0 = true := by kernel_rfl
theorem ziM : zlB Tryz.prog 37 2 2 = true := by kernel_rfl
theorem to35 : tyO Tryz.prog 35 = true := by kernel_rfl
theorem ts23 : sized Tryz.prog 23 6 = true := by kernel_rfl
theorem tz23 : zeroOf Tryz.prog 23 = some (.agg (zln (⟨0, 0, 0, 0, 0, 0⟩ : Plan)).toArray) := by kernel_rfl
def D.zcd (fu : Nat)  : Option (Bool) := ((D.zc7 fu (⟨2, 1, 4, 0, 1, 1⟩ : Plan)).bind (fun (x7 : Mem) => ((D.zcf fu x7 0).bind (fun (x15 : Cap) => ((D.zcX fu (fu, (D.zbt (fu + 1) (⟨2, 1, 4, 0, 1, 1⟩ : Plan) 0 0)) x7 x15 9).bind (fun (x17 : Grant × Int × Bool × Mem) => (Option.bind (bif x17.2.2.1 then (bif (x17.1.e == 0) then (bif (x17.1.node == 0) then ((D.zcQ fu (⟨2, 1, 4, 0, 1, 1⟩ : Plan) x17.2.2.2 0).bind (fun (x29 : Int) => (some (x29 == 1)))) else (some false)) else (some false)) else (some false)) (fun (x31 : Bool) => (some x31)))))))))
theorem zdN {fu : Nat} (w0 : World) {res : Bool} (hD : D.zcd fu  = some res) :
    Calls Tryz.prog 22 #[] w0 (zlE (.bool res) w0) := by
 refine enter Tryz.func22 rfl 38 rfl rfl fun fr r => ?_
 have hP : Post No [] w0 w0 := Post.nil w0
 unfold D.zcd at hD
 refine wsr (za0 (.bool false) r (fun R => za6 r rfl) rfl fun fr r => wn (wsr (za0 (.agg (zln (⟨2, 1, 4, 0, 1, 1⟩ : Plan)).toArray) r (fun R => zb4 r (by kernel_rfl)) rfl fun fr r => ?_)))
 refine zaa (.cells ((zln (⟨0, 0, 0, 0, 0, 0⟩ : Plan))).toArray 23 (0, 0)) r (fun R => zar tz23) rfl fun fr b1 w2 n3 r => ?_
 have hP : Post No [zlm b1 ((zln (⟨0, 0, 0, 0, 0, 0⟩ : Plan))).toArray 23] w0 w2 := hP.new n3
 refine zaf (.cells ((zln (⟨2, 1, 4, 0, 1, 1⟩ : Plan))).toArray 23 (0, 0)) r (fun R => zb0 r (o := 0) (v := (.agg (zln (⟨2, 1, 4, 0, 1, 1⟩ : Plan)).toArray)) rfl rfl (hP.cell (i := 0) rfl) ts23 (Nat.le_of_ble_eq_true rfl) rfl rfl) rfl fun fr w5 u6 r => ?_
 have hP : Post No [zlm b1 ((zln (⟨2, 1, 4, 0, 1, 1⟩ : Plan))).toArray 23] w0 w5 := hP.upd (i := 0) rfl u6
 refine wn (wsr (za0 (.agg (zln (⟨2, 1, 4, 0, 1, 1⟩ : Plan)).toArray) r (fun R => za7 r (cs := (zln (⟨2, 1, 4, 0, 1, 1⟩ : Plan))) (n := 6) rfl (hP.cell (i := 0) rfl) ta23 rfl) rfl fun fr r => ?_))
 obtain ⟨x7, hx7, hD⟩ := zad hD
 refine za9 r (ze5 w5 (⟨2, 1, 4, 0, 1, 1⟩ : Plan) hx7) (fun R hc => zac r rfl cl24 hc) rfl ?_
 rintro _ w8 ⟨mg9, rfl, hq⟩
 refine ⟨_, rfl, fun fr r => ?_⟩
 have hP : Post No [zlm b1 ((zln (⟨2, 1, 4, 0, 1, 1⟩ : Plan))).toArray 23, memK mg9 x7] w0 w8 := hP.add hq
 refine za0 (zp mg9.mb) r (fun R => za6 r rfl) rfl fun fr r => wn (wp_seq (wsr (za0 (zp mg9.mb) r (fun R => za5 r rfl) rfl fun fr r => za0 _ r (fun R => zlt r rfl rfl rfl rfl) rfl fun fr r => wn ?_)))
 refine wp_cond_split (t := false) (r.ev rfl) (fun h => absurd ((rfl : false = _).symm.trans h) (by decide)) (fun _ => wp_skip (wsr (za0 (.agg (zln (⟨2, 1, 4, 0, 1, 1⟩ : Plan)).toArray) r (fun R => za7 r (cs := (zln (⟨2, 1, 4, 0, 1, 1⟩ : Plan))) (n := 6) rfl (hP.cell (i := 0) rfl) ta23 rfl) rfl fun fr r => ?_)))
 refine za9 r (zgY (F := No) (n := fu) (j := fu + 1) (fun _ h => h.elim) (by omega) (⟨2, 1, 4, 0, 1, 1⟩ : Plan) 0 0) (fun R hc => zac r rfl cl27 hc) rfl ?_
 rintro _ w11 ⟨v12, rfl, hb, hr13⟩
 refine ⟨_, rfl, fun fr r => ?_⟩
 have hP : Post No [zlm b1 ((zln (⟨2, 1, 4, 0, 1, 1⟩ : Plan))).toArray 23, memK mg9 x7, zlA Tryz.prog zls (fu, (D.zbt (fu + 1) (⟨2, 1, 4, 0, 1, 1⟩ : Plan) 0 0)) v12 (rg w8.heap.size w11.heap.size)] w0 w11 := hP.addProg hb hr13
 refine za0 (zp mg9.mb) r (fun R => za5 r rfl) rfl fun fr r => za0 (zp mg9.mb) r (fun R => za5 r rfl) rfl fun fr r => ?_
 obtain ⟨x15, hx15, hD⟩ := zad hD
 refine za9 r (zd0 w11 x7 (hP.mem (i := 1) rfl) 0 hx15) (fun R hc => zac r rfl cl28 hc) rfl ?_
 rintro _ w16 ⟨rfl, hb⟩
 refine ⟨_, rfl, fun fr r => ?_⟩
 have hP : Post No [zlm b1 ((zln (⟨2, 1, 4, 0, 1, 1⟩ : Plan))).toArray 23, memK mg9 x7, zlA Tryz.prog zls (fu, (D.zbt (fu + 1) (⟨2, 1, 4, 0, 1, 1⟩ : Plan) 0 0)) v12 (rg w8.heap.size w11.heap.size)] w0 w16 := hP.below hb
 obtain ⟨x17, hx17, hD⟩ := zad hD
 refine za9 r (zeK w16 (fu, (D.zbt (fu + 1) (⟨2, 1, 4, 0, 1, 1⟩ : Plan) 0 0)) x7 x15 9 (hP.sep.pk [2, 1] rfl rfl) hx17) (fun R hc => zac r rfl cl26 hc) rfl ?_
 rintro _ w18 ⟨rfl, hq⟩
 refine ⟨_, rfl, fun fr r => ?_⟩
 have hP : Post No [zlm b1 ((zln (⟨2, 1, 4, 0, 1, 1⟩ : Plan))).toArray 23, memK mg9 x17.2.2.2, zlA Tryz.prog zls (fu, (D.zbt (fu + 1) (⟨2, 1, 4, 0, 1, 1⟩ : Plan) 0 0)) v12 (rg w8.heap.size w11.heap.size)] w0 w18 := hP.setN (i := 1) rfl hq
 refine za0 (.tuple #[(.agg (zlD x17.1).toArray), (I x17.2.1), (.bool x17.2.2.1)]) r (fun R => za5 r rfl) rfl fun fr r => za0 (.agg (zlD x17.1).toArray) r (fun R => zaQ r (vs := #[(.agg (zlD x17.1).toArray), (I x17.2.1), (.bool x17.2.2.1)]) rfl rfl) rfl fun fr r => za0 (I x17.2.1) r (fun R => zaQ r (vs := #[(.agg (zlD x17.1).toArray), (I x17.2.1), (.bool x17.2.2.1)]) rfl rfl) rfl fun fr r => za0 (.bool x17.2.2.1) r (fun R => zaQ r (vs := #[(.agg (zlD x17.1).toArray), (I x17.2.1), (.bool x17.2.2.1)]) rfl rfl) rfl fun fr r => ?_
 refine zaa (.cells ((zlD (⟨0, 0, 0⟩ : Grant))).toArray 37 (0, 0)) r (fun R => zar tz37) rfl fun fr b19 w20 n21 r => ?_
 have hP : Post No [zlm b1 ((zln (⟨2, 1, 4, 0, 1, 1⟩ : Plan))).toArray 23, memK mg9 x17.2.2.2, zlA Tryz.prog zls (fu, (D.zbt (fu + 1) (⟨2, 1, 4, 0, 1, 1⟩ : Plan) 0 0)) v12 (rg w8.heap.size w11.heap.size), zlm b19 ((zlD (⟨0, 0, 0⟩ : Grant))).toArray 37] w0 w20 := hP.new n21
 refine zaf (.cells ((zlD x17.1)).toArray 37 (0, 0)) r (fun R => zb0 r (o := 0) (v := (.agg (zlD x17.1).toArray)) rfl rfl (hP.cell (i := 3) rfl) ts37 (Nat.le_of_ble_eq_true rfl) rfl rfl) rfl fun fr w23 u24 r => ?_
 have hP : Post No [zlm b1 ((zln (⟨2, 1, 4, 0, 1, 1⟩ : Plan))).toArray 23, memK mg9 x17.2.2.2, zlA Tryz.prog zls (fu, (D.zbt (fu + 1) (⟨2, 1, 4, 0, 1, 1⟩ : Plan) 0 0)) v12 (rg w8.heap.size w11.heap.size), zlm b19 ((zlD x17.1)).toArray 37] w0 w23 := hP.upd (i := 3) rfl u24
 refine za0 (I x17.2.1) r (fun R => za6 r rfl) rfl fun fr r => za0 (.bool x17.2.2.1) r (fun R => za6 r rfl) rfl fun fr r => wn (wp_seq ?_)
 have hP : Post No [zlm b1 ((zln (⟨2, 1, 4, 0, 1, 1⟩ : Plan))).toArray 23, memK mg9 x17.2.2.2, zlm b19 ((zlD x17.1)).toArray 37] w0 w23 := hP.pick [0, 1, 3] rfl rfl
 refine zbo (N := 38) (Y := Bool) (G := Unit) (fun x γ => [(1, (zp b1)), (2, (zp mg9.mb)), (10, (.bool false)), (3, (zp b19)), (5, (.bool x17.2.2.1)), (0, (.bool x))]) (fun x γ w => Post No [zlm b1 ((zln (⟨2, 1, 4, 0, 1, 1⟩ : Plan))).toArray 23, memK mg9 x17.2.2.2, zlm b19 ((zlD x17.1)).toArray 37] w0 w) hD ?_ ?_
 ·
  rintro y25 RPy25 nxy25 hD
  refine wp_region_lit (za0 (.bool x17.2.2.1) r (fun R => za5 r rfl) rfl fun fr r => za0 (.bool x17.2.2.1) r (fun R => za5 r rfl) rfl fun fr r => ?_)
  refine zay x17.2.2.1 (fun h26 => ?_) (fun h26 => ?_)
  ·
   have hD := (zao h26).symm.trans hD
   refine s1 r h26 (za0 _ r (fun R => za4 r (o := 0) rfl ziM) rfl fun fr r => s1 r h26 (za0 (I x17.1.e) r (fun R => za2 r rfl (hP.cell (i := 2) rfl) to35 rfl) rfl fun fr r => s1 r h26 (za0 _ r (fun R => zlt r rfl rfl rfl rfl) rfl fun fr r => za0 (.bool (x17.1.e == 0)) r (fun R => zai r (b := true) (congrArg Value.bool h26) rfl) rfl fun fr r => za0 (.bool (x17.1.e == 0)) r (fun R => za5 r rfl) rfl fun fr r => ?_)))
   refine zay (x17.1.e == 0) (fun h27 => ?_) (fun h27 => ?_)
   ·
    have hD := (zao h27).symm.trans hD
    refine s1 r h27 (za0 _ r (fun R => za4 r (o := 0) rfl zkE) rfl fun fr r => s1 r h27 (za0 (I x17.1.node) r (fun R => za2 r rfl (hP.cell (i := 2) rfl) to3 rfl) rfl fun fr r => s1 r h27 (za0 _ r (fun R => zlt r rfl rfl rfl rfl) rfl fun fr r => za0 (.bool (x17.1.node == 0)) r (fun R => zai r (b := true) (congrArg Value.bool h27) rfl) rfl fun fr r => za0 (.bool (x17.1.node == 0)) r (fun R => za5 r rfl) rfl fun fr r => ?_)))
    refine zay (x17.1.node == 0) (fun h28 => ?_) (fun h28 => ?_)
    ·
     have hD := (zao h28).symm.trans hD
     refine s1 r h28 (za0 (.agg (zln (⟨2, 1, 4, 0, 1, 1⟩ : Plan)).toArray) r (fun R => za7 r (cs := (zln (⟨2, 1, 4, 0, 1, 1⟩ : Plan))) (n := 6) rfl (hP.cell (i := 0) rfl) ta23 rfl) rfl fun fr r => s1 r h28 (za0 (zp mg9.mb) r (fun R => za5 r rfl) rfl fun fr r => s1 r h28 ?_))
     obtain ⟨x29, hx29, hD⟩ := zad hD
     refine za9 r (zdA w23 (⟨2, 1, 4, 0, 1, 1⟩ : Plan) x17.2.2.2 (hP.mem (i := 1) rfl) 0 hx29) (fun R hc => zac r rfl cl39 hc) rfl ?_
     rintro _ w30 ⟨rfl, hb⟩
     refine ⟨_, rfl, fun fr r => ?_⟩
     have hP : Post No [zlm b1 ((zln (⟨2, 1, 4, 0, 1, 1⟩ : Plan))).toArray 23, memK mg9 x17.2.2.2, zlm b19 ((zlD x17.1)).toArray 37] w0 w30 := hP.below hb
     refine s1 r h28 (za0 _ r (fun R => zlt r rfl rfl rfl rfl) rfl fun fr r => za0 (.bool (x29 == 1)) r (fun R => zai r (b := true) (congrArg Value.bool h28) rfl) rfl fun fr r => za0 (.bool (x29 == 1)) r (fun R => za6 r rfl) rfl fun fr r => wn ?_)
     exact nxy25 (x29 == 1) () _ _ _ hD r (za1 rfl (za1 rfl (za1 rfl (za1 rfl (za1 rfl (za1 rfl zaz)))))) (hP.pick [0, 1, 2] rfl rfl)
    ·
     have hD := (zah h28).symm.trans hD
     refine s0 r h28 fun fr r => s0 r h28 fun fr r => s0 r h28 fun fr r => s0 r h28 fun fr r => za0 (.bool false) r (fun R => zai r (b := false) (congrArg Value.bool h28) rfl) rfl fun fr r => za0 (.bool false) r (fun R => za6 r rfl) rfl fun fr r => wn ?_
     exact nxy25 false () _ _ _ hD r (za1 rfl (za1 rfl (za1 rfl (za1 rfl (za1 rfl (za1 rfl zaz)))))) (hP.pick [0, 1, 2] rfl rfl)
   ·
    have hD := (zah h27).symm.trans hD
    refine s0 r h27 fun fr r => s0 r h27 fun fr r => s0 r h27 fun fr r => za0 (.bool false) r (fun R => zai r (b := false) (congrArg Value.bool h27) rfl) rfl fun fr r => za0 (.bool false) r (fun R => za5 r rfl) rfl fun fr r => s0 r (rfl : false = _) fun fr r => s0 r (rfl : false = _) fun fr r => s0 r (rfl : false = _) fun fr r => s0 r (rfl : false = _) fun fr r => za0 (.bool false) r (fun R => zai r (b := false) (congrArg Value.bool (rfl : false = _)) rfl) rfl fun fr r => za0 (.bool false) r (fun R => za6 r rfl) rfl fun fr r => wn ?_
    exact nxy25 false () _ _ _ hD r (za1 rfl (za1 rfl (za1 rfl (za1 rfl (za1 rfl (za1 rfl zaz)))))) (hP.pick [0, 1, 2] rfl rfl)
  ·
   have hD := (zah h26).symm.trans hD
   refine s0 r h26 fun fr r => s0 r h26 fun fr r => s0 r h26 fun fr r => za0 (.bool false) r (fun R => zai r (b := false) (congrArg Value.bool h26) rfl) rfl fun fr r => za0 (.bool false) r (fun R => za5 r rfl) rfl fun fr r => s0 r (rfl : false = _) fun fr r => s0 r (rfl : false = _) fun fr r => s0 r (rfl : false = _) fun fr r => za0 (.bool false) r (fun R => zai r (b := false) (congrArg Value.bool (rfl : false = _)) rfl) rfl fun fr r => za0 (.bool false) r (fun R => za5 r rfl) rfl fun fr r => s0 r (rfl : false = _) fun fr r => s0 r (rfl : false = _) fun fr r => s0 r (rfl : false = _) fun fr r => s0 r (rfl : false = _) fun fr r => za0 (.bool false) r (fun R => zai r (b := false) (congrArg Value.bool (rfl : false = _)) rfl) rfl fun fr r => za0 (.bool false) r (fun R => za6 r rfl) rfl fun fr r => wn ?_
   exact nxy25 false () _ _ _ hD r (za1 rfl (za1 rfl (za1 rfl (za1 rfl (za1 rfl (za1 rfl zaz)))))) (hP.pick [0, 1, 2] rfl rfl)
 ·
  rintro x31 γ32 fr w33 g r hP hD
  have hP : Post No [zlm b1 ((zln (⟨2, 1, 4, 0, 1, 1⟩ : Plan))).toArray 23, memK mg9 x17.2.2.2, zlm b19 ((zlD x17.1)).toArray 37] w0 w33 := hP
  refine wp_ret ?_
  have hv : x31 = res := Option.some.inj hD
  try dsimp only [Exit.then, Exit.inBlock]
  refine zaA (fn := Tryz.f22) r (t := 0) rfl (v := (.bool x31)) rfl ?_
  subst hv
  exact ⟨rfl, hP.chg.below⟩
def D.zb9 (a0 : Plan) : Bool := (bif (D.zb8 a0) then (D.zav a0) else false)
theorem zfY (w0 : World) 
    (a0 : Plan) :
    Calls Tryz.prog 23 #[.agg (zln a0).toArray] w0 (zlE (.bool (D.zb9 a0)) w0) := by
 refine enter Tryz.func23 rfl 9 rfl rfl fun fr r => ?_
 have hB := Below.refl w0.heap.size w0
 refine wsr ?_
 refine zaa (.cells ((zln a0)).toArray 23 (0, 0)) r (fun R => zlC r (v := (.agg (zln a0).toArray)) rfl) rfl fun fr b1 w2 n3 r => ?_
 obtain ⟨eb1, zw2, hb1, hB, zB⟩ := n3.all hB
 refine za0 (.bool false) r (fun R => za6 r rfl) rfl fun fr r => wn (wsr (za0 (.agg (zln a0).toArray) r (fun R => za7 r (cs := (zln a0)) (n := 6) rfl hb1 ta23 rfl) rfl fun fr r => ?_))
 refine za9 r (zfL w2 a0) (fun R hc => zac r rfl zoz hc) rfl ?_
 rintro _ w4 ⟨rfl, hb⟩
 refine ⟨_, rfl, fun fr r => ?_⟩
 have zw4 := hb.size
 have hb1 := keep hb hb1
 obtain ⟨hB, zB⟩ := bon hb hB
 refine za0 (.bool (D.zb8 a0)) r (fun R => za5 r rfl) rfl fun fr r => ?_
 refine zay (D.zb8 a0) (fun h5 => ?_) (fun h5 => ?_)
 ·
  refine s1 r h5 (za0 (.agg (zln a0).toArray) r (fun R => za7 r (cs := (zln a0)) (n := 6) rfl hb1 ta23 rfl) rfl fun fr r => s1 r h5 ?_)
  refine za9 r (zdC w4 a0) (fun R hc => zac r rfl zmV hc) rfl ?_
  rintro _ w6 ⟨rfl, hb⟩
  refine ⟨_, rfl, fun fr r => ?_⟩
  have zw6 := hb.size
  have hb1 := keep hb hb1
  obtain ⟨hB, zB⟩ := bon hb hB
  refine za0 (.bool (D.zav a0)) r (fun R => zai r (b := true) (congrArg Value.bool h5) rfl) rfl fun fr r => za0 (.bool (D.zav a0)) r (fun R => za6 r rfl) rfl fun fr r => wn (wp_ret ?_)
  have hd : D.zb9 a0 = (D.zav a0) := (zao h5).trans (rfl)
  refine zaA r rfl rfl ?_
  rw [hd]
  exact ⟨rfl, hB⟩
 ·
  refine s0 r h5 fun fr r => s0 r h5 fun fr r => za0 (.bool false) r (fun R => zai r (b := false) (congrArg Value.bool h5) rfl) rfl fun fr r => za0 (.bool false) r (fun R => za6 r rfl) rfl fun fr r => wn (wp_ret ?_)
  have hd : D.zb9 a0 = false := (zah h5).trans (rfl)
  refine zaA r rfl rfl ?_
  rw [hd]
  exact ⟨rfl, hB⟩
end Go.Proofs.YtfpgnmhcfkikkaaGreat

/- Ours. -/
namespace Go.Proofs.YtfpgnmhcfkikkaaGreat
open Go.RowKit
theorem runGr {t : T Grant} {M : Mem} {ws' : List Int} {n : Nat} {most : Int} {r : Grant} {fu : Nat} (h : Runs t M.ws n r ws') (hm : (n : Int) ≤ most) (hm2 : most ≤ 1000000) (hn : n < fu) : ∃ c, D.zcX fu (fu, t) M cap0 most = some (r, (n : Int), true, ⟨ws', c⟩) := by
  have h2 := ziB (z := (⟨0, 0, 0⟩ : Grant)) (fu := fu) (d := fu) (most := most) h hm hm2 (Nat.le_of_lt hn) hn
  exact h2
theorem zj8 {at_ : Int} {f : Int → T Grant} {ws ws' : List Int} {n : Nat} {r : Grant} (h0 : 0 ≤ at_) (h1 : at_ < ws.length) (h : Runs (f (rd ws at_)) ws n r ws') : Runs (D.zdW at_ f) ws (n + 1) r ws' := Runs.load h0 h1 h
theorem ziv {at_ w : Int} {f : Unit → T Grant} {ws ws' : List Int} {n : Nat} {r : Grant} (h0 : 0 ≤ at_) (h1 : at_ < ws.length) (h : Runs (f ()) (ws.set at_.toNat w) n r ws') : Runs (D.zdL at_ w f) ws (n + 1) r ws' := Runs.store h0 h1 h
def sp (p : Plan) (n : Int) : Int := D.za8 p + n * 5
section
variable {p : Plan} (hp : PF p) {n : Int} (hn : 0 ≤ n ∧ n < p.nodes)
include hp hn
theorem zm9 : 0 < sp p n ∧ sp p n + 5 ≤ D.zaD p ∧ D.zaI p n = sp p n := by
  have hN := zbA hp
  have hS := zcN hp
  refine ⟨by unfold sp; omega, by unfold sp; omega, by rw [zmK hp hn]; rfl⟩
end
theorem SF.live {s : State} (h : SF s) {k : Int} (hk : 0 ≤ k ∧ k ≤ 2) : SF (D.zaS s k) := ⟨h.g0, h.g1, by show (0 : Int) ≤ 1; omega, by show (1 : Int) ≤ 3; omega, hk.1, hk.2⟩
theorem SF.retire {s : State} (h : SF s) : SF (D.zbk s) := ⟨h.g0, h.g1, by show (0 : Int) ≤ 2; omega, by show (2 : Int) ≤ 3; omega, h.k0, h.k1⟩
theorem SF.freed {s : State} (h : SF s) {m : Int} (hm : m ≤ 1073741823) : SF (D.zas s m) := by
  unfold D.zas
  have := h.g0
  have := h.g1
  by_cases e : s.gen ≥ m
  · rw [show decide (s.gen ≥ m) = true from by simpa using e]
    exact ⟨h.g0, h.g1, by show (0 : Int) ≤ 3; omega, by show (3 : Int) ≤ 3; omega, by show (0 : Int) ≤ 0; omega, by show (0 : Int) ≤ 2; omega⟩
  · rw [show decide (s.gen ≥ m) = false from by simpa using e]
    simp only [cond_false]
    rw [zaZ (x := s.gen + 1) (by omega) (by omega)]
    exact ⟨by show 0 ≤ s.gen + 1; omega, by show s.gen + 1 ≤ _; omega, by show (0 : Int) ≤ 0; omega, by show (0 : Int) ≤ 3; omega, by show (0 : Int) ≤ 0; omega, by show (0 : Int) ≤ 2; omega⟩
def StAt (p : Plan) (ws : List Int) (n : Int) (s : State) : Prop := rd ws (sp p n) = D.zan s ∧ SF s
theorem StAt.of {p : Plan} {ws : List Int} {n : Int} {s : State} (h : StAt p ws n s) : D.zau (rd ws (sp p n)) = (s, true) := by rw [h.1]; exact zkW h.2
theorem zjc {p : Plan} (hp : PF p) {ws : List Int} {n k : Int} {s : State} (hn : 0 ≤ n ∧ n < p.nodes) (hl : Len p ws) (hs : StAt p ws n s) :
    Runs (D.zcK p n k) ws 2 ⟨n, s.gen, 0⟩ (ws.set (sp p n).toNat (D.zan (D.zaS s k))) := by
  obtain ⟨q1, q2, q3⟩ := zm9 hp hn
  unfold Len at hl
  unfold D.zcK
  rw [q3]
  refine zj8 (by omega) (by omega) ?_
  unfold D.zev
  rw [hs.of, q3]
  exact ziv (by omega) (by omega) (.done _ _)
theorem zhX {p : Plan} (hp : PF p) {ws : List Int} {n k : Int} {l : List Int} {g : Int} {s : State} (hF : FreeAt p ws (n :: l) g) (hnn : p.nodes ≤ 1000000) (hg : g < 1000000) (hs : StAt p ws n s) (hk : 0 ≤ k ∧ k ≤ 2) (J : Nat) {G : Int → T Grant} (hG : G n = D.zcK p n k) :
    ∃ ws', Runs (T.bind (D.zbW (J + 1) p) G) ws 5 ⟨n, s.gen, 0⟩ ws' ∧ ws'.length = ws.length ∧ FreeAt p ws' l (g + 1) ∧ StAt p ws' n (D.zaS s k) ∧ ∀ j, 0 < j → j ≠ sp p n → rd ws' j = rd ws j := by
  have hn := hF.range n (List.mem_cons_self ..)
  obtain ⟨q1, q2, q3⟩ := zm9 hp hn
  obtain ⟨hr, hF2⟩ := zkq hp hF hnn hg J
  have hN := zbA hp
  have hl := hF.len
  have hl2 := hF2.len
  have hs0 := hs.1
  generalize hu : ws.set (0 : Int).toNat ((g + 1) * 2097152 + first l) = u at hr hF2 hl2
  have hul : u.length = ws.length := by rw [← hu, List.length_set]
  have hur : ∀ j, 0 < j → rd u j = rd ws j := fun j hj => by rw [← hu, zcr (by omega) (by omega) (by omega), if_neg (by omega)]
  have hsu : StAt p u n s := ⟨by rw [hur _ q1]; exact hs0, hs.2⟩
  have hg2 := zjc hp (k := k) hn hl2 hsu
  refine ⟨u.set (sp p n).toNat (D.zan (D.zaS s k)), ?_, by rw [List.length_set, hul], ?_, ⟨?_, hs.2.live hk⟩, fun j hj hne => ?_⟩
  · exact (Runs.bind (g := G) hr (by rw [hG]; exact hg2)).cast (show 3 + 2 = 5 from rfl)
  · refine hF2.keep (by rw [List.length_set]) ?_ fun m hm => ?_
    · rw [zcr (by omega) (by omega) (by omega), if_neg (by omega)]
    · have hmr := hF2.range m hm
      have : nx p m ≠ sp p n := by unfold nx sp; omega
      rw [zcr (by omega) (by omega) (by unfold nx; omega), if_neg this]
  · rw [zcr (by omega) (by omega) (by omega), if_pos rfl]
  · rw [zcr (by omega) (by omega) (by omega), if_neg hne, hur j hj]
theorem zjN {p : Plan} (hp : PF p) {ws : List Int} {n k t : Int} {l : List Int} {g : Int} {s : State} (hF : FreeAt p ws (n :: l) g) (hnn : p.nodes ≤ 1000000) (hg : g < 1000000) (hs : StAt p ws n s) (hk : 0 ≤ k ∧ k ≤ 2) (J : Nat) :
    ∃ ws', Runs (D.zbt (J + 1) p t k) ws 5 ⟨n, s.gen, 0⟩ ws' ∧ ws'.length = ws.length ∧ FreeAt p ws' l (g + 1) ∧ StAt p ws' n (D.zaS s k) ∧ ∀ j, 0 < j → j ≠ sp p n → rd ws' j = rd ws j := by
  have hn := hF.range n (List.mem_cons_self ..)
  refine zhX hp hF hnn hg hs hk J (G := fun x => D.zcL (J + 1) p k t (fun x => D.zbH p k x) x) ?_
  unfold D.zcL
  rw [show (n != -1) = true from by simp; omega]
  rfl
theorem zj6 {p : Plan} (hp : PF p) {ws : List Int} {k g : Int} (hF : FreeAt p ws [] g) (hg : g < 1000000) (J : Nat) : Runs (T.bind (D.zbW (J + 1) p) (fun x => D.zbH p k x)) ws 1 ⟨-1, 0, 4⟩ ws :=
  (Runs.bind (g := fun x => D.zbH p k x) (ziO hp hF hg J) (.done _ _)).cast (show 1 + 0 = 1 from rfl)
theorem zja {p : Plan} (hp : PF p) {ws : List Int} {n k : Int} {l : List Int} {g : Int} {s : State} (hF : FreeAt p ws (n :: l) g) (hnn : p.nodes ≤ 1000000) (hg : g < 1000000) (hs : StAt p ws n s) (hk : 0 ≤ k ∧ k ≤ 2) (J : Nat) :
    ∃ ws', Runs (T.bind (D.zbW (J + 1) p) (fun x => D.zbH p k x)) ws 5 ⟨n, s.gen, 0⟩ ws' ∧ ws'.length = ws.length ∧ FreeAt p ws' l (g + 1) ∧ StAt p ws' n (D.zaS s k) ∧ ∀ j, 0 < j → j ≠ sp p n → rd ws' j = rd ws j := by
  have hn := hF.range n (List.mem_cons_self ..)
  refine zhX hp hF hnn hg hs hk J (G := fun x => D.zbH p k x) ?_
  unfold D.zbH
  rw [show (n == -1) = false from by simp; omega]
  rfl
theorem zji {p : Plan} (hp : PF p) {ws : List Int} {t n : Int} {r : List Int} (ht : 0 ≤ t ∧ t < p.threads) (hn : 0 ≤ n ∧ n < p.nodes) (hnn : p.nodes ≤ 1000000) (hl : Len p ws) (h : RetAt p ws t r) (hf : (r.length : Int) < p.retire) (J : Nat) :
    ∃ ws', Runs (D.zeG J p t n) ws 3 n ws' ∧ ws'.length = ws.length ∧ RetAt p ws' t (r ++ [n]) ∧ ∀ j, 0 ≤ j → j ≠ rb p t → j ≠ rb p t + 1 + r.length → rd ws' j = rd ws j := by
  obtain ⟨ws', hr, hl', hR, ho⟩ := ziQ hp ht hn hnn hl h hf
  refine ⟨ws', ?_, hl', hR, ho⟩
  refine (Runs.bind (g := fun x => D.zcc J n p t (fun x => D.zbT n x) x) hr ?_).cast (show 3 + 0 = 3 from rfl)
  unfold D.zcc
  rw [show ((r.length : Int) + 1 != -1) = true from by simp; omega]
  exact .done _ _
theorem zkt {p : Plan} (h : D.zb9 p = true) : PF p ∧ p.nodes ≤ 40 ∧ p.retire ≤ 40 ∧ p.domains ≤ 6 ∧ p.buckets ≤ 10 := by
  unfold D.zb9 at h
  cases h1 : D.zb8 p <;> rw [h1] at h
  · cases h
  have hp := zhq h
  exact ⟨hp, zl8 hp h1⟩
theorem zkP : D.zan ⟨0, 0, 0⟩ = 0 := by rw [ziS ⟨by decide, by decide, by decide, by decide, by decide, by decide⟩]; rfl
theorem zho {p : Plan} (hp : PF p) {ws : List Int} (h : LaidAt p ws) {n : Int} (hn : 0 ≤ n ∧ n < p.nodes) : StAt p ws n ⟨0, 0, 0⟩ := by
  obtain ⟨q1, q2, q3⟩ := zm9 hp hn
  refine ⟨?_, by decide, by decide, by decide, by decide, by decide, by decide⟩
  rw [zkP]
  exact h.zero _ q1 fun m _ _ => by unfold sp; omega
theorem ziP {p : Plan} (hp : PF p) {ws : List Int} (h : LaidAt p ws) {t : Int} (ht : 0 ≤ t ∧ t < p.threads) : RetAt p ws t [] := by
  obtain ⟨q1, q2, q3⟩ := zlQ hp ht
  have hr1 := hp.r1
  have ht1 := hp.t1
  exact ⟨h.zero _ q3 fun m _ _ => by omega, by simp; omega, fun i hi => (by cases hi), fun _ h => (by cases h)⟩
structure GrantI (p : Plan) (k : Int) (i : Nat) (ws : List Int) : Prop where
  free : FreeAt p ws ((List.range' i (p.nodes.toNat - i)).map fun (q : Nat) => (q : Int)) i
  ret : RetAt p ws 0 []
  live : ∀ n : Int, 0 ≤ n → n < i → StAt p ws n ⟨0, 1, k⟩
  rest : ∀ n : Int, i ≤ n → n < p.nodes → StAt p ws n ⟨0, 0, 0⟩
theorem GrantI.start {p : Plan} (hp : PF p) {ws : List Int} (h : LaidAt p ws) (k : Int) : GrantI p k 0 ws := by
  have hn1 := hp.n1
  have ht1 := hp.t1
  exact ⟨zhV hp h, ziP hp h ⟨by omega, by omega⟩, fun n h0 h1 => by omega, fun n h0 h1 => zho hp h ⟨by omega, h1⟩⟩
theorem GrantI.step {p : Plan} (hp : PF p) (hnn : p.nodes ≤ 40) {k : Int} (hk : 0 ≤ k ∧ k ≤ 2) {i : Nat} {ws : List Int} (h : GrantI p k i ws) (hi : (i : Int) < p.nodes) (J : Nat) :
    ∃ ws', Runs (D.zbt (J + 1) p 0 k) ws 5 ⟨i, 0, 0⟩ ws' ∧ GrantI p k (i + 1) ws' ∧ ∀ j, 0 < j → j < D.za8 p → rd ws' j = rd ws j := by
  have hN := zbA hp
  have ht1 := hp.t1
  obtain ⟨d, hd⟩ : ∃ d, p.nodes.toNat - i = d + 1 := ⟨p.nodes.toNat - i - 1, by omega⟩
  have hF := h.free
  rw [hd, List.range'_succ, List.map_cons] at hF
  have hs := h.rest i (by omega) hi
  obtain ⟨ws', hr, hl, hF2, hst, ho⟩ := zjN hp (t := 0) hF (by omega) (by omega) hs hk J
  obtain ⟨p1, p2, p3⟩ := zlQ hp (t := 0) ⟨by omega, by omega⟩
  refine ⟨ws', hr, ⟨?_, h.ret.keep fun j h0 h1 => ho j (by omega) (by unfold sp; omega), fun n h0 h1 => ?_, fun n h0 h1 => ?_⟩, fun j h0 h1 => ho j h0 (by unfold sp; omega)⟩
  · rw [show p.nodes.toNat - (i + 1) = d from by omega]
    exact hF2
  · by_cases e : n = (i : Int)
    · subst e; exact hst
    · have hv := h.live n h0 (by omega)
      exact ⟨by rw [ho _ (by unfold sp; omega) (by unfold sp; omega)]; exact hv.1, hv.2⟩
  · have hv := h.rest n (by omega) h1
    exact ⟨by rw [ho _ (by unfold sp; omega) (by unfold sp; omega)]; exact hv.1, hv.2⟩
end Go.Proofs.YtfpgnmhcfkikkaaGreat

/- Ours. -/
namespace Go.Proofs.YtfpgnmhcfkikkaaGreat
open Go.RowKit
theorem zgg : ∀ (k : Nat) (r : List Int), k = r.length → zlJ (fun _ => false) k r = ([], r.reverse)
  | 0, r, h => by rw [List.length_eq_zero_iff.1 h.symm]; rfl
  | k + 1, r, h => by
    rcases List.eq_nil_or_concat r with rfl | ⟨s, z, rfl⟩
    · cases h
    rw [List.concat_eq_append] at *
    have hk : k = s.length := by simpa using h
    have e1 : (s ++ [z])[k]? = some z := by rw [hk]; simp
    have e2 : ((s ++ [z]).set k (((s ++ [z]).getLast?).getD 0)).dropLast = s := by
      rw [hk]; simp
    simp only [zlJ, e1, Bool.false_eq_true, if_false, e2, zgg k s hk]
    simp
structure Pool where
  fr : List Int
  rt : List Int
  st : Int → State
def Pool.back (m : Int) (P : Pool) (n : Int) : Pool :=
  ⟨if (D.zas (P.st n) m).mode = 3 then P.fr else n :: P.fr, P.rt, fun q => if q = n then D.zas (P.st n) m else P.st q⟩
def Pool.scan (P : Pool) (m : Int) : Pool := P.rt.reverse.foldl (Pool.back m) ⟨P.fr, [], P.st⟩
theorem zfy (m : Int) : ∀ (l : List Int) (P : Pool), (l.foldl (Pool.back m) P).rt = P.rt
  | [], _ => rfl
  | n :: l, P => by rw [List.foldl_cons, zfy m l]; rfl
theorem zjy (m : Int) : ∀ (l : List Int) (P : Pool), l.Nodup → ∀ n, (l.foldl (Pool.back m) P).st n = if n ∈ l then D.zas (P.st n) m else P.st n
  | [], _, _, _ => rfl
  | a :: l, P, hn, n => by
    obtain ⟨h1, h2⟩ := List.nodup_cons.1 hn
    rw [List.foldl_cons, zjy m l _ h2]
    by_cases e : n = a
    · subst e
      rw [if_neg h1, if_pos (List.mem_cons_self ..)]
      exact if_pos rfl
    · have hs : (Pool.back m P a).st n = P.st n := if_neg e
      rw [hs]
      by_cases h : n ∈ l
      · rw [if_pos h, if_pos (List.mem_cons_of_mem _ h)]
      · rw [if_neg h, if_neg (fun h' => by rcases List.mem_cons.1 h' with h' | h'; exact e h'; exact h h')]
theorem zio (m : Int) : ∀ (l : List Int) (P : Pool), l.Nodup → (l.foldl (Pool.back m) P).fr = l.foldl (fun l n => if (D.zas (P.st n) m).mode = 3 then l else n :: l) P.fr
  | [], _, _ => rfl
  | a :: l, P, hn => by
    obtain ⟨h1, h2⟩ := List.nodup_cons.1 hn
    rw [List.foldl_cons, List.foldl_cons, zio m l _ h2]
    have : ∀ (k : List Int) (L L' : List Int), (∀ q, q ∈ k → q ≠ a) → L = L' → k.foldl (fun l n => if (D.zas ((Pool.back m P a).st n) m).mode = 3 then l else n :: l) L = k.foldl (fun l n => if (D.zas (P.st n) m).mode = 3 then l else n :: l) L' := by
      intro k
      induction k with
      | nil => rintro L _ _ rfl; rfl
      | cons q k ih =>
        rintro L _ hq rfl
        rw [List.foldl_cons, List.foldl_cons]
        have hs : (Pool.back m P a).st q = P.st q := if_neg (hq q (List.mem_cons_self ..))
        exact ih _ _ (fun q' h => hq q' (List.mem_cons_of_mem _ h)) (by rw [hs])
    exact this l _ _ (fun q hq e => h1 (e ▸ hq)) rfl
structure PoolAt (p : Plan) (t : Int) (ws : List Int) (P : Pool) (g : Int) : Prop where
  free : FreeAt p ws P.fr g
  ret : RetAt p ws t P.rt
  nod : P.rt.Nodup
  dis : ∀ n, n ∈ P.rt → n ∉ P.fr
  st : ∀ n, 0 ≤ n → n < p.nodes → StAt p ws n (P.st n)
  hz : ∀ j, 0 ≤ j → j < p.threads * 3 → rd ws (D.zam p + j) = 0
  zero : ∀ n f, n ∈ P.fr → 0 ≤ f → f < 3 → rd ws (sp p n + 2 + f) = 0
def KeptP (p : Plan) (t : Int) (P : Pool) (ws ws' : List Int) : Prop :=
  ws'.length = ws.length ∧ ∀ j, 0 < j → (∀ n, n ∈ P.fr ∨ n ∈ P.rt → ¬ ofNode p n j) → ¬ (rb p t ≤ j ∧ j < rb p t + 1 + p.retire) → rd ws' j = rd ws j
theorem PoolAt.scan {p : Plan} (hp : PF p) (hnn : p.nodes ≤ 1000) {t : Int} (ht : 0 ≤ t ∧ t < p.threads) {ws : List Int} {P : Pool} {g : Int} (h : PoolAt p t ws P g) (hg : g < 900000) (J : Nat) (hJ : 1100 < J) :
    ∃ (m : Nat) (ws' : List Int) (g' : Int), m ≤ 70 * P.rt.length + 1 ∧ g' ≤ g + P.rt.length ∧ Runs (D.zcJ J p t) ws m (P.rt.length : Int) ws' ∧ PoolAt p t ws' (P.scan p.gen) g' ∧ KeptP p t P ws ws' := by
  have hN := zbA hp
  have hz := zlR hp
  obtain ⟨p1, p2, p3⟩ := zlQ hp ht
  have hh : ∀ n, n ∈ P.rt → ((fun _ => false) n = true ↔ heldW p ws n) := by
    intro n hn
    have := (h.ret.range n hn).1
    constructor
    · intro h; cases h
    · rintro ⟨j, j0, j1, hj⟩
      rw [h.hz j j0 j1] at hj
      omega
  obtain ⟨m, ws', hm, hr, hs⟩ := zk4 hp hnn ht J hJ h.free.len h.ret h.free (fun n hn => h.dis n hn) h.nod hh hg
  rw [zgg P.rt.length P.rt rfl] at hr hs
  simp only [List.length_reverse] at hr
  obtain ⟨g', hg', hF⟩ := hs.free
  have hnr : P.rt.reverse.Nodup := List.pairwise_reverse.2 (h.nod.imp fun h e => h e.symm)
  have htof : ∀ n, n ∈ P.rt → tof p ws n = D.zas (P.st n) p.gen := fun n hn => by
    have hn' := h.ret.range n hn
    unfold tof
    have := (h.st n hn'.1 hn'.2).of
    unfold sp at this
    rw [this]
  have hfr : pushAll p ws P.rt.reverse P.fr = (P.scan p.gen).fr := by
    unfold Pool.scan
    rw [zio _ _ _ hnr]
    unfold pushAll
    have : ∀ (k L : List Int), (∀ n, n ∈ k → n ∈ P.rt) → k.foldl (fun l n => if (tof p ws n).mode = 3 then l else n :: l) L = k.foldl (fun l n => if (D.zas (P.st n) p.gen).mode = 3 then l else n :: l) L := by
      intro k
      induction k with
      | nil => intro _ _; rfl
      | cons q k ih =>
        intro L hq
        rw [List.foldl_cons, List.foldl_cons, htof q (hq q (List.mem_cons_self ..))]
        exact ih _ fun n hn => hq n (List.mem_cons_of_mem _ hn)
    exact this _ _ fun n hn => List.mem_reverse.1 hn
  have hsub : ∀ n, n ∈ (P.scan p.gen).fr → n ∈ P.rt ∨ n ∈ P.fr := fun n hn => by
    rw [← hfr] at hn
    rcases zgO hn with h | h
    · exact .inl (List.mem_reverse.1 h)
    · exact .inr h
  have hrt : (P.scan p.gen).rt = [] := zfy _ _ _
  rw [hfr] at hF
  have hst : ∀ n, (P.scan p.gen).st n = if n ∈ P.rt then D.zas (P.st n) p.gen else P.st n := fun n => by
    unfold Pool.scan
    rw [zjy _ _ _ hnr]
    simp only [List.mem_reverse]
  have hrr := h.ret.range
  have hkeep : ∀ j, 0 < j → (∀ n, n ∈ P.rt → ¬ ofNode p n j) → ¬ (rb p t ≤ j ∧ j < rb p t + 1 + p.retire) → rd ws' j = rd ws j := fun j j0 h1 h2 => hs.others j j0 (fun n hn => h1 n (List.mem_reverse.1 hn)) h2
  have hge := hp.g2
  refine ⟨m, ws', g', hm, by simpa using hg', hr, ⟨hF, by rw [hrt]; exact hs.ret, by rw [hrt]; exact List.nodup_nil, fun n hn => (by rw [hrt] at hn; cases hn), fun n n0 n1 => ?_, fun j j0 j1 => ?_, fun n f hn f0 f1 => ?_⟩, hs.len, fun j j0 h1 h2 => hkeep j j0 (fun n hn => h1 n (.inr hn)) h2⟩
  · rw [hst]
    by_cases hn : n ∈ P.rt
    · rw [if_pos hn]
      refine ⟨?_, (h.st n n0 n1).2.freed (by omega)⟩
      have := hs.states n (List.mem_reverse.2 hn)
      rw [htof n hn] at this
      exact this
    · rw [if_neg hn]
      refine ⟨?_, (h.st n n0 n1).2⟩
      rw [hkeep (sp p n) (by unfold sp; omega) (fun q hq hq' => ?_) (by unfold sp; omega)]
      · exact (h.st n n0 n1).1
      · unfold ofNode sp at hq'
        exact hn (by rw [show n = q by omega]; exact hq)
  · rw [hkeep _ (by omega) (fun q hq => by have := (hrr q hq).1; unfold ofNode; omega) (by omega)]
    exact h.hz j j0 j1
  · by_cases hq : n ∈ P.rt
    · exact hs.fields n f (List.mem_reverse.2 hq) f0 f1
    · have hnf : n ∈ P.fr := (hsub n hn).resolve_left hq
      have := h.free.range n hnf
      rw [hkeep _ (by unfold sp; omega) (fun q hq' hq'' => ?_) (by unfold sp; omega)]
      · exact h.zero n f hnf f0 f1
      · unfold ofNode sp at hq''
        exact hq (by rw [show n = q by omega]; exact hq')
theorem PoolAt.keep {p : Plan} (hp : PF p) {t : Int} (ht : 0 ≤ t ∧ t < p.threads) {ws ws' : List Int} {P : Pool} {g : Int} (h : PoolAt p t ws P g) {st : Int → State} (hl : ws'.length = ws.length) (h0 : rd ws' 0 = rd ws 0)
    (hr : ∀ j, rb p t ≤ j → j < rb p t + 1 + p.retire → rd ws' j = rd ws j) (hf : ∀ n f, n ∈ P.fr → 1 ≤ f → f < 5 → rd ws' (sp p n + f) = rd ws (sp p n + f)) (hz : ∀ j, 0 ≤ j → j < p.threads * 3 → rd ws' (D.zam p + j) = rd ws (D.zam p + j))
    (hs : ∀ n, 0 ≤ n → n < p.nodes → StAt p ws' n (st n)) : PoolAt p t ws' ⟨P.fr, P.rt, st⟩ g :=
  ⟨h.free.keep hl h0 fun n hn => by have := hf n 1 hn (by omega) (by omega); unfold sp at this; exact this, h.ret.keep hr, h.nod, h.dis, hs, fun j j0 j1 => (hz j j0 j1).trans (h.hz j j0 j1), fun n f hn f0 f1 => by
    have := hf n (2 + f) hn (by omega) (by omega)
    rw [← Int.add_assoc] at this
    exact this.trans (h.zero n f hn f0 f1)⟩
def Pool.out (P : Pool) (k : Int) : Pool × Grant :=
  match P.fr with
  | [] => (P, ⟨-1, 0, 4⟩)
  | n :: l => (⟨l, P.rt, fun q => if q = n then D.zaS (P.st n) k else P.st q⟩, ⟨n, (P.st n).gen, 0⟩)
def Pool.grant (P : Pool) (m k : Int) : Pool × Grant := match P.fr with
  | [] => (P.scan m).out k
  | _ :: _ => P.out k
theorem PoolAt.took {p : Plan} (hp : PF p) {t : Int} (ht : 0 ≤ t ∧ t < p.threads) {ws ws' : List Int} {n k : Int} {l r : List Int} {st : Int → State} {g : Int} (h : PoolAt p t ws ⟨n :: l, r, st⟩ g) (hk : 0 ≤ k ∧ k ≤ 2)
    (hl : ws'.length = ws.length) (hF : FreeAt p ws' l (g + 1)) (hst : StAt p ws' n (D.zaS (st n) k)) (ho : ∀ j, 0 < j → j ≠ sp p n → rd ws' j = rd ws j) :
    PoolAt p t ws' ⟨l, r, fun q => if q = n then D.zaS (st n) k else st q⟩ (g + 1) := by
  have hN := zbA hp
  have hz := zlR hp
  obtain ⟨p1, p2, p3⟩ := zlQ hp ht
  have hn := h.free.range n (List.mem_cons_self ..)
  refine ⟨hF, h.ret.keep fun j j0 j1 => ho j (by omega) (by unfold sp; omega), h.nod, fun q hq hq' => h.dis q hq (List.mem_cons_of_mem _ hq'), fun q q0 q1 => ?_, fun j j0 j1 => ?_, fun q f hq f0 f1 => ?_⟩
  · by_cases e : q = n
    · subst e
      show StAt p ws' q (if q = q then _ else _)
      rw [if_pos rfl]; exact hst
    · show StAt p ws' q (if q = n then _ else _)
      rw [if_neg e]
      have := h.st q q0 q1
      exact ⟨by rw [ho _ (by unfold sp; omega) (by unfold sp; omega)]; exact this.1, this.2⟩
  · rw [ho _ (by omega) (by unfold sp; omega)]; exact h.hz j j0 j1
  · have hqr := h.free.range q (List.mem_cons_of_mem _ hq)
    rw [ho _ (by unfold sp; omega) (by unfold sp; omega)]
    exact h.zero q f (List.mem_cons_of_mem _ hq) f0 f1
theorem zfD {P : Pool} {m n : Int} (hd : P.rt.Nodup) (h : n ∈ (P.scan m).fr) : n ∈ P.rt ∨ n ∈ P.fr := by
  unfold Pool.scan at h
  rw [zio m _ _ (List.pairwise_reverse.2 (hd.imp fun h e => h e.symm))] at h
  have : ∀ (k L : List Int), n ∈ k.foldl (fun l n => if (D.zas (P.st n) m).mode = 3 then l else n :: l) L → n ∈ k ∨ n ∈ L := by
    intro k
    induction k with
    | nil => exact fun L h => .inr h
    | cons a k ih =>
      intro L h
      rcases ih _ h with h | h
      · exact .inl (List.mem_cons_of_mem _ h)
      · replace h : n ∈ (if (D.zas (P.st a) m).mode = 3 then L else a :: L) := h
        split at h
        · exact .inr h
        · rcases List.mem_cons.1 h with rfl | h
          · exact .inl (List.mem_cons_self ..)
          · exact .inr h
  rcases this _ _ h with h | h
  · exact .inl (List.mem_reverse.1 h)
  · exact .inr h
theorem PoolAt.grant {p : Plan} (hp : PF p) (hnn : p.nodes ≤ 1000) {t : Int} (ht : 0 ≤ t ∧ t < p.threads) {ws : List Int} {P : Pool} {g k : Int} (hk : 0 ≤ k ∧ k ≤ 2) (h : PoolAt p t ws P g) (hg : g < 900000) (J : Nat) (hJ : 1100 < J) :
    ∃ (m : Nat) (ws' : List Int) (g' : Int), m ≤ 70 * P.rt.length + 10 ∧ g' ≤ g + P.rt.length + 1 ∧ Runs (D.zbt J p t k) ws m (P.grant p.gen k).2 ws' ∧ PoolAt p t ws' (P.grant p.gen k).1 g' ∧ KeptP p t P ws ws' := by
  have hN := zbA hp
  have hz := zlR hp
  obtain ⟨p1, p2, p3⟩ := zlQ hp ht
  have hrm := h.ret.room
  have hr2 := hp.r2
  obtain ⟨fr, rt, st⟩ := P
  cases fr with
  | cons n l =>
    have hn := h.free.range n (List.mem_cons_self ..)
    obtain ⟨K, rfl⟩ : ∃ K, J = K + 1 := ⟨J - 1, by omega⟩
    obtain ⟨ws', hr, hl, hF, hst, ho⟩ := zjN hp (t := t) h.free (by omega) (by omega) (h.st n hn.1 hn.2) hk K
    refine ⟨5, ws', g + 1, by omega, by omega, hr, h.took hp ht hk hl hF hst ho, hl, fun j j0 h1 h2 => ho j j0 fun e => h1 n (.inl (List.mem_cons_self ..)) (by unfold ofNode; unfold sp at e; omega)⟩
  | nil =>
    have hh : ∀ n, n ∈ rt → ((fun _ => false) n = true ↔ heldW p ws n) := by
      intro n hn
      have := (h.ret.range n hn).1
      constructor
      · intro h; cases h
      · rintro ⟨j, j0, j1, hj⟩
        rw [h.hz j j0 j1] at hj
        omega
    obtain ⟨K, rfl⟩ : ∃ K, J = K + 1 := ⟨J - 1, by omega⟩
    obtain ⟨m1, ws1, g1, hm1, hg1, hr1, h1, hk1⟩ := h.scan hp hnn ht hg (K + 1) hJ
    have hnew : ∀ {m : Nat} {gr : Grant} {ws' : List Int}, Runs (T.bind (D.zbW (K + 1) p) (fun x => D.zbH p k x)) ws1 m gr ws' → Runs (D.zbt (K + 1) p t k) ws (m1 + 1 + m) gr ws' := fun {m gr ws'} hr => by
      refine (Runs.bind (g := fun x => D.zcL (K + 1) p k t (fun x => D.zbH p k x) x) (ziO hp h.free (by omega) K) (m := m1 + m) ?_).cast (by omega)
      unfold D.zcL
      rw [show ((-1 : Int) != -1) = false from rfl]
      exact Runs.bind (g := fun x => D.zdO (K + 1) p (fun x => D.zbH p k x) x) hr1 hr
    show ∃ (m : Nat) (ws' : List Int) (g' : Int), _ ∧ _ ∧ Runs _ ws m (((⟨[], rt, st⟩ : Pool).scan p.gen).out k).2 ws' ∧ PoolAt p t ws' (((⟨[], rt, st⟩ : Pool).scan p.gen).out k).1 g' ∧ _
    have hfr : ∀ n, n ∈ ((⟨[], rt, st⟩ : Pool).scan p.gen).fr → n ∈ rt := fun n hn => (zfD h.nod hn).resolve_right fun h => (by cases h)
    have hgl : g1 < 1000000 := by omega
    generalize hQ : (⟨[], rt, st⟩ : Pool).scan p.gen = Q at h1 hfr
    obtain ⟨fr', rt', st'⟩ := Q
    cases fr' with
    | nil =>
      exact ⟨m1 + 1 + 1, ws1, g1, by omega, by omega, hnew (zj6 hp h1.free hgl K), h1, hk1⟩
    | cons n l =>
      have hn := h1.free.range n (List.mem_cons_self ..)
      obtain ⟨ws', hr, hl, hF, hst, ho⟩ := zja hp h1.free (by omega) hgl (h1.st n hn.1 hn.2) hk K
      refine ⟨m1 + 1 + 5, ws', g1 + 1, by omega, by omega, hnew hr, h1.took hp ht hk hl hF hst ho, hl.trans hk1.1, fun j j0 h2 h3 => (ho j j0 fun e => ?_).trans (hk1.2 j j0 h2 h3)⟩
      exact h2 n (.inr (hfr n (List.mem_cons_self ..))) (by unfold ofNode; unfold sp at e; omega)
def Pool.stash (P : Pool) (room m n : Int) : Pool :=
  let Q := if (P.rt.length : Int) < room then P else P.scan m
  ⟨Q.fr, Q.rt ++ [n], Q.st⟩
theorem PoolAt.put {p : Plan} (hp : PF p) {t : Int} (ht : 0 ≤ t ∧ t < p.threads) {ws ws' : List Int} {P : Pool} {g n : Int} (h : PoolAt p t ws P g) (hnr : n ∉ P.rt) (hnf : n ∉ P.fr)
    (hf : (P.rt.length : Int) < p.retire) (hl : ws'.length = ws.length) (hR : RetAt p ws' t (P.rt ++ [n])) (ho : ∀ j, 0 ≤ j → j ≠ rb p t → j ≠ rb p t + 1 + P.rt.length → rd ws' j = rd ws j) :
    PoolAt p t ws' ⟨P.fr, P.rt ++ [n], P.st⟩ g := by
  have hN := zbA hp
  have hz := zlR hp
  obtain ⟨p1, p2, p3⟩ := zlQ hp ht
  refine ⟨h.free.keep hl (ho 0 (by omega) (by omega) (by omega)) fun q hq => ?_, hR, ?_, fun q hq => ?_, fun q q0 q1 => ?_, fun j j0 j1 => ?_, fun q f hq f0 f1 => ?_⟩
  · have := h.free.range q hq
    exact ho _ (by unfold nx; omega) (by unfold nx; omega) (by unfold nx; omega)
  · refine List.nodup_append.2 ⟨h.nod, List.nodup_cons.2 ⟨List.not_mem_nil, List.nodup_nil⟩, fun a ha b hb e => ?_⟩
    rw [List.mem_singleton.1 hb] at e
    exact hnr (e ▸ ha)
  · rcases List.mem_append.1 hq with hq | hq
    · exact h.dis q hq
    · rw [List.mem_singleton.1 hq]; exact hnf
  · have := h.st q q0 q1
    exact ⟨by rw [ho _ (by unfold sp; omega) (by unfold sp; omega) (by unfold sp; omega)]; exact this.1, this.2⟩
  · rw [ho _ (by omega) (by omega) (by omega)]; exact h.hz j j0 j1
  · have := h.free.range q hq
    rw [ho _ (by unfold sp; omega) (by unfold sp; omega) (by unfold sp; omega)]
    exact h.zero q f hq f0 f1
theorem PoolAt.stash {p : Plan} (hp : PF p) (hnn : p.nodes ≤ 1000) {t : Int} (ht : 0 ≤ t ∧ t < p.threads) {ws : List Int} {P : Pool} {g n : Int} (h : PoolAt p t ws P g) (hn : 0 ≤ n ∧ n < p.nodes) (hnr : n ∉ P.rt) (hnf : n ∉ P.fr) (hg : g < 900000) (J : Nat) (hJ : 1100 < J) :
    ∃ (m : Nat) (ws' : List Int) (g' : Int), m ≤ 70 * P.rt.length + 10 ∧ g' ≤ g + P.rt.length ∧ Runs (D.zeG J p t n) ws m n ws' ∧ PoolAt p t ws' (P.stash p.retire p.gen n) g' ∧ KeptP p t P ws ws' := by
  have hN := zbA hp
  have hz := zlR hp
  obtain ⟨p1, p2, p3⟩ := zlQ hp ht
  have hrm := h.ret.room
  have hr1 := hp.r1
  have ht1 := hp.t1
  have hz0 := zlU hp
  by_cases hf : (P.rt.length : Int) < p.retire
  · obtain ⟨ws', hr, hl, hR, ho⟩ := zji hp ht hn (by omega) h.free.len h.ret hf J
    refine ⟨3, ws', g, by omega, by omega, hr, ?_, hl, fun j j0 h1 h2 => ho j (by omega) (by omega) (by omega)⟩
    unfold Pool.stash
    rw [if_pos hf]
    exact h.put hp ht hnr hnf hf hl hR ho
  · obtain ⟨m1, ws1, g1, hm1, hg1, hr1', h1, hk1⟩ := h.scan hp hnn ht hg J hJ
    have hrt : (P.scan p.gen).rt = [] := zfy _ _ _
    have hret := h1.ret
    rw [hrt] at hret
    have hpos : (([] : List Int).length : Int) < p.retire := by simp; omega
    obtain ⟨ws', hr, hl, hR, ho⟩ := ziQ hp ht hn (by omega) h1.free.len hret hpos
    have hfull := zkm (n := n) hp ht h.free.len h.ret (by omega)
    refine ⟨1 + (m1 + (3 + 0)), ws', g1, by omega, by omega, ?_, ?_, hl.trans hk1.1, fun j j0 h2 h3 => (ho j (by omega) (by omega) (by simp; omega)).trans (hk1.2 j j0 h2 h3)⟩
    · refine Runs.bind (g := fun x => D.zcc J n p t (fun x => D.zbT n x) x) hfull ?_
      unfold D.zcc
      rw [show ((-1 : Int) != -1) = false from rfl]
      refine Runs.bind (g := fun x => D.zdn p t n (fun x => D.zbT n x) x) hr1' ?_
      refine Runs.bind (g := fun x => D.zbT n x) hr ?_
      unfold D.zbT
      exact .done _ _
    · unfold Pool.stash
      rw [if_neg hf]
      have hx := h1.put (n := n) hp ht (by rw [hrt]; exact List.not_mem_nil) (fun hx => (zfD h.nod hx).elim hnr hnf) (by rw [hrt]; exact hpos) hl (by rw [hrt]; exact hR) (by rw [hrt]; exact ho)
      exact hx
end Go.Proofs.YtfpgnmhcfkikkaaGreat

/- Ours. -/
namespace Go.Proofs.YtfpgnmhcfkikkaaGreat
open Go.RowKit
theorem PoolAt.startP {p : Plan} (hp : PF p) {ws : List Int} (h : LaidAt p ws) {t : Int} (ht : 0 ≤ t ∧ t < p.threads) : PoolAt p t ws ⟨allN p, [], fun _ => ⟨0, 0, 0⟩⟩ 0 := by
  have hN := zbA hp
  have hF := zhV hp h
  refine ⟨hF, ziP hp h ht, List.nodup_nil, fun _ h => (by cases h), fun n n0 n1 => zho hp h ⟨n0, n1⟩, fun j j0 j1 => zl4 hp h j0 j1, fun n f hn f0 f1 => ?_⟩
  have hr := hF.range n hn
  exact h.zero _ (by unfold sp; omega) fun m _ _ => by unfold sp; omega
theorem zjf {at_ : Int} {f : Int → T Int} {ws ws' : List Int} {n : Nat} {r : Int} (h0 : 0 ≤ at_) (h1 : at_ < ws.length) (h : Runs (f (rd ws at_)) ws n r ws') : Runs (D.zb7 at_ f) ws (n + 1) r ws' := Runs.load h0 h1 h
theorem zix {at_ w : Int} {f : Unit → T Int} {ws ws' : List Int} {n : Nat} {r : Int} (h0 : 0 ≤ at_) (h1 : at_ < ws.length) (h : Runs (f ()) (ws.set at_.toNat w) n r ws') : Runs (D.zbd at_ w f) ws (n + 1) r ws' := Runs.store h0 h1 h
theorem zig {p : Plan} (hp : PF p) (hnn : p.nodes ≤ 1000) {t : Int} (ht : 0 ≤ t ∧ t < p.threads) {ws : List Int} {P : Pool} {g n : Int} (h : PoolAt p t ws P g) (hg : g < 900000) (J : Nat) (hJ : 1100 < J) (hn : 0 ≤ n ∧ n < p.nodes) (hnr : n ∉ P.rt) (hnf : n ∉ P.fr) :
    ∃ (m : Nat) (ws' : List Int) (g' : Int), m ≤ 70 * P.rt.length + 12 ∧ g' ≤ g + P.rt.length ∧ Runs (D.zc4 J p t n) ws m n ws' ∧
      PoolAt p t ws' ((⟨P.fr, P.rt, fun q => if q = n then ⟨(P.st n).gen, 2, (P.st n).kind⟩ else P.st q⟩ : Pool).stash p.retire p.gen n) g' ∧ ws'.length = ws.length ∧
      ∀ j, 0 < j → (∀ q, q ∈ P.fr ∨ q ∈ P.rt → ¬ ofNode p q j) → ¬ (rb p t ≤ j ∧ j < rb p t + 1 + p.retire) → j ≠ sp p n → rd ws' j = rd ws j := by
  obtain ⟨q1, q2, q3⟩ := zm9 hp hn
  obtain ⟨p1, p2, p3⟩ := zlQ hp ht
  obtain ⟨z1, z2, z3, z4⟩ := zlR hp
  have hl := h.free.len
  have hst := (h.st n hn.1 hn.2)
  have hsp : D.za8 p ≤ sp p n := by unfold sp; omega
  have hS : SF ⟨(P.st n).gen, 2, (P.st n).kind⟩ := ⟨hst.2.g0, hst.2.g1, by show (0 : Int) ≤ 2; omega, by show (2 : Int) ≤ 3; omega, hst.2.k0, hst.2.k1⟩
  generalize hu : ws.set (sp p n).toNat (D.zan ⟨(P.st n).gen, 2, (P.st n).kind⟩) = u
  have hul : u.length = ws.length := by rw [← hu, List.length_set]
  have hur : ∀ j, 0 ≤ j → rd u j = if j = sp p n then D.zan ⟨(P.st n).gen, 2, (P.st n).kind⟩ else rd ws j := fun j hj => by rw [← hu]; exact zcr (by omega) (by omega) hj
  have hPu : PoolAt p t u ⟨P.fr, P.rt, fun q => if q = n then ⟨(P.st n).gen, 2, (P.st n).kind⟩ else P.st q⟩ g := by
    refine h.keep hp ht hul (by rw [hur 0 (by omega), if_neg (by omega)]) (fun j j0 j1 => by rw [hur j (by omega), if_neg (by omega)]) (fun q f hq f0 f1 => ?_) (fun j j0 j1 => by rw [hur _ (by omega), if_neg (by omega)]) (fun q n0 n1 => ?_)
    · have hr := h.free.range q hq
      have hne : q ≠ n := fun e => hnf (e ▸ hq)
      rw [hur _ (by unfold sp; omega), if_neg (by unfold sp; omega)]
    · by_cases e : q = n
      · subst e
        show StAt p u q (if q = q then _ else _)
        rw [if_pos rfl]
        exact ⟨by rw [hur _ (by omega), if_pos rfl], hS⟩
      · show StAt p u q (if q = n then _ else _)
        rw [if_neg e]
        have := h.st q n0 n1
        exact ⟨by rw [hur _ (by unfold sp; omega), if_neg (by unfold sp; omega)]; exact this.1, this.2⟩
  obtain ⟨m, ws', g', hm', hg', hr, hP, hk⟩ := hPu.stash hp hnn ht hn hnr hnf hg J hJ
  refine ⟨m + 2, ws', g', by simp only at hm'; omega, hg', ?_, hP, by rw [hk.1, hul], fun j j0 h1 h2 h3 => ?_⟩
  · unfold D.zc4
    rw [q3]
    refine zjf (n := m + 1) (by omega) (by omega) ?_
    unfold D.zee
    rw [q3, hst.of]
    refine zix (by omega) (by omega) ?_
    unfold D.zdK
    have hu' : ws.set (sp p n).toNat (D.zan (D.zbk (P.st n))) = u := hu
    rw [hu']
    exact hr
  · rw [hk.2 j j0 h1 h2, hur j (by omega), if_neg h3]
end Go.Proofs.YtfpgnmhcfkikkaaGreat
