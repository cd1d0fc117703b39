/- Some of our texts, one behind the other. -/
import Derived.Test.YtjkinpbfmihhdaaGreatQnRetires
import Derived.Test.YtjkinpbfmihhdaaGreatQnM10
import Derived.Test.YtjkinpbfmihhdaaGreatQnM4
import Derived.Test.YtjkinpbfmihhdaaGreatQnM2
import Derived.Test.YtjkinpbfmihhdaaGreatQnM3
import Derived.Test.YtjkinpbfmihhdaaGreatQnM0
set_option linter.all false
/- Ours. -/
set_option maxRecDepth 20000
set_option maxHeartbeats 2000000
namespace Go.Proofs.YtjkinpbfmihhdaaGreat
open Go.RowKit
theorem zry : znv Tryz.prog 130 = true := by kernel_rfl
theorem zrP : znv Tryz.prog 133 = true := by kernel_rfl
theorem zrm : znv Tryz.prog 187 = true := by kernel_rfl
theorem zqc : znv Tryz.prog 188 = true := by kernel_rfl
theorem zqk : znv Tryz.prog 189 = true := by kernel_rfl
theorem zrv : znv Tryz.prog 192 = true := by kernel_rfl
theorem zql : znv Tryz.prog 193 = true := by kernel_rfl
theorem zqY : znv Tryz.prog 194 = true := by kernel_rfl
theorem zrU : znv Tryz.prog 199 = true := by kernel_rfl
theorem zs9 : znv Tryz.prog 201 = true := by kernel_rfl
theorem zrZ : znv Tryz.prog 228 = true := by kernel_rfl
theorem zpS : znv Tryz.prog 231 = true := by kernel_rfl
theorem zrh : znv Tryz.prog 232 = true := by kernel_rfl
theorem zrg : znv Tryz.prog 233 = true := by kernel_rfl
theorem zqI : znv Tryz.prog 281 = true := by kernel_rfl
theorem zrL : znv Tryz.prog 282 = true := by kernel_rfl
theorem zqP : znv Tryz.prog 283 = true := by kernel_rfl
theorem zrd : znv Tryz.prog 284 = true := by kernel_rfl
theorem zrn : znv Tryz.prog 285 = true := by kernel_rfl
theorem cl69 : znv Tryz.prog 69 = true := by kernel_rfl
theorem zrT : sized Tryz.prog 246 1 = true := by kernel_rfl
theorem zrK : sized Tryz.prog 271 1 = true := by kernel_rfl
theorem zsc : zeroOf Tryz.prog 246 = some .nilFunc := by kernel_rfl
theorem zqv : zeroOf Tryz.prog 271 = some .nilFunc := by kernel_rfl
def D.zgn (c0 : Int) (c1 : State) : T Grant := (D.zdW (⟨c0, c1.gen, 0⟩ : Grant))
theorem zhS {n : Nat} {F : Nat → Prop} {w0 : World} (hF : ∀ b, F b → b < w0.heap.size)
    (c0 : Int) {c0b : Nat} (c0F : F c0b) (c0h : w0.heap[c0b]? = some (.cells ([(.int .i64 c0)]).toArray 3 (0, 0))) (c1 : State) {c1b : Nat} (c1F : F c1b) (c1h : w0.heap[c1b]? = some (.cells ((znD c1)).toArray 118 (0, 0))) :
    Calls Tryz.prog 285 #[zp c0b, zp c1b] w0 (zny Tryz.prog znG n (D.zgn c0 c1) F w0) := by
 refine enter Tryz.func285 rfl 8 rfl rfl fun fr r => ?_
 have hB := Below.refl w0.heap.size w0
 have lc0b := lt_of_block c0h
 have lc1b := lt_of_block c1h
 refine wsr ?_
 refine za5 (.cells (znt false znG.zero 0 0 0 0 .nilFunc) 158 (0, 0)) r (fun R => zag zo7) rfl fun fr b1 w2 n3 r => ?_
 obtain ⟨e_b1, z_w2, h_b1, hB, zB⟩ := n3.all hB
 refine wn (wsr (za0 (I c0) r (fun R => za3 r rfl (keep hB c0h) to3 rfl) rfl fun fr r => za0 _ r (fun R => za4 r (o := 0) rfl zg8) rfl fun fr r => za0 (I c1.gen) r (fun R => za3 r rfl (keep hB c1h) to3 rfl) rfl fun fr r => za0 (.agg (grantC (⟨c0, c1.gen, 0⟩ : Grant)).toArray) r (fun R => zaQ r (by kernel_rfl)) rfl fun fr r => ?_))
 have hF1 := znI hF hB b1
 refine za8 r (zfy (F := (fun b => F b ∨ (w0.heap.size ≤ b ∧ b < w2.heap.size ∧ b ≠ b1))) (n := n) hF1 (⟨c0, c1.gen, 0⟩ : Grant)) (fun R hc => zac r rfl zqc hc) rfl ?_
 rintro _ w4 ⟨v5, rfl, hb, hr6⟩
 refine ⟨_, rfl, fun fr r => ?_⟩
 have z_w4 := hb.size
 have h_b1 := keep hb h_b1
 obtain ⟨hB, zB⟩ := bon hb hB
 refine zae (.cells v5.cells 158 (0, 0)) r (fun R => zaf r hr6.shape rfl rfl h_b1 zo3 rfl) rfl fun fr w7 u8 r => ?_
 have z_w7 := u8.size
 have h_b1 := u8.at_
 obtain ⟨hB, zB⟩ := u8.on hB (by omega)
 refine wn (wp_ret ?_)
 have hs := hr6.shape.cells
 refine zad r rfl rfl h_b1 (k := 9) hs.1 zo4 ?_
 rw [← hs.2.2]
 exact rfin hF hB hr6 u8 (by omega) (by omega) (by omega)
def D.zfO (c0 : Plan) (c1 : Int) (c2 : Int) (a0 : Int) : T Grant := (D.zev (D.zaH c0 c1) (D.zas (D.zb1 ((D.zan a0).1) c2)) (fun _ => (D.zgn c1 ((D.zan a0).1))))
theorem zj5 {n : Nat} {F : Nat → Prop} {w0 : World} (hF : ∀ b, F b → b < w0.heap.size)
    (c0 : Plan) {c0b : Nat} (c0F : F c0b) (c0h : w0.heap[c0b]? = some (.cells ((znu c0)).toArray 25 (0, 0))) (c1 : Int) {c1b : Nat} (c1F : F c1b) (c1h : w0.heap[c1b]? = some (.cells ([(.int .i64 c1)]).toArray 3 (0, 0))) (c2 : Int) {c2b : Nat} (c2F : F c2b) (c2h : w0.heap[c2b]? = some (.cells ([(.int .i64 c2)]).toArray 3 (0, 0))) (a0 : Int) :
    Calls Tryz.prog 282 #[.int .u64 a0, zp c0b, zp c1b, zp c2b] w0 (zny Tryz.prog znG n (D.zfO c0 c1 c2 a0) F w0) := by
 refine enter Tryz.func282 rfl 22 rfl rfl fun fr r => ?_
 have hB := Below.refl w0.heap.size w0
 have lc0b := lt_of_block c0h
 have lc1b := lt_of_block c1h
 have lc2b := lt_of_block c2h
 refine wsr ?_
 refine za5 (.cells (znt false znG.zero 0 0 0 0 .nilFunc) 158 (0, 0)) r (fun R => zag zo7) rfl fun fr b1 w2 n3 r => ?_
 obtain ⟨e_b1, z_w2, h_b1, hB, zB⟩ := n3.all hB
 refine wn (wsr (za0 (U a0) r (fun R => za9 r rfl) rfl fun fr r => ?_))
 refine za8 r (zeK w2 a0) (fun R hc => zac r rfl cl67 hc) rfl ?_
 rintro _ w4 ⟨rfl, hb⟩
 refine ⟨_, rfl, fun fr r => ?_⟩
 have z_w4 := hb.size
 have h_b1 := keep hb h_b1
 obtain ⟨hB, zB⟩ := bon hb hB
 refine za0 (.tuple #[(.agg (znD (D.zan a0).1).toArray), (.bool (D.zan a0).2)]) r (fun R => za9 r rfl) rfl fun fr r => za0 (.agg (znD (D.zan a0).1).toArray) r (fun R => zb5 r (vs := #[(.agg (znD (D.zan a0).1).toArray), (.bool (D.zan a0).2)]) rfl rfl) rfl fun fr r => za0 (.bool (D.zan a0).2) r (fun R => zb5 r (vs := #[(.agg (znD (D.zan a0).1).toArray), (.bool (D.zan a0).2)]) rfl rfl) rfl fun fr r => ?_
 refine za5 (.cells ((znD (⟨0, 0, 0⟩ : State))).toArray 118 (0, 0)) r (fun R => zag zoh) rfl fun fr b5 w6 n7 r => ?_
 have h_b1 := keep n7.below h_b1
 obtain ⟨e_b5, z_w6, h_b5, hB, zB⟩ := n7.all hB
 refine zae (.cells ((znD ((D.zan a0).1))).toArray 118 (0, 0)) r (fun R => zaS r (o := 0) (v := (.agg (znD (D.zan a0).1).toArray)) rfl rfl h_b5 zoa (Nat.le_of_ble_eq_true rfl) rfl rfl) rfl fun fr w8 u9 r => ?_
 have z_w8 := u9.size
 have h_b1 := u9.keep h_b1 (by omega)
 have h_b5 := u9.at_
 obtain ⟨hB, zB⟩ := u9.on hB (by omega)
 refine za0 (.bool (D.zan a0).2) r (fun R => za7 r rfl) rfl fun fr r => wn (wp_seq ?_)
 refine zaI 8 [.val (.agg (znu c0).toArray), .val (I c1), .val (I (D.zaH c0 c1)), .val (.agg (znD (D.zan a0).1).toArray), .val (I c2), .val (.agg (znD (D.zb1 ((D.zan a0).1) c2)).toArray), .val (U (D.zas (D.zb1 ((D.zan a0).1) c2))), .val (.func (.func 285) #[] #[zp c1b, zp b5])] mixed r (by kernel_rfl) (za2 (by exact trivial) (za2 (by exact trivial) (za2 (by exact trivial) (za2 (by exact trivial) (za2 (by exact trivial) (za2 (by exact trivial) (za2 (by exact trivial) (za2 (by exact trivial) zaC)))))))) ?_ ?_
 ·
  refine ec r (fun _ u _ b d s => za6 s (cs := (znu c0)) (n := 6) rfl (znU hB b c0h) ta25 rfl bz) (ec r (fun _ u _ b d s => za3 s rfl (znU hB b c1h) to3 rfl bz) (ec r (fun fr1 u w' hb' hd r' => zac r' (args := [(.agg (znu c0).toArray), (I c1)]) (lc hd.1 (lc hd.2.1 l0)) cl68 ((zbO _ c0 c1).mono (by rintro _ w2 ⟨rfl, hb2⟩; exact ⟨_, rfl, hb2, rfl⟩))) (ec r (fun _ u _ b d s => za6 s (cs := (znD ((D.zan a0).1))) (n := 3) rfl (keep b h_b5) zo8 rfl bz) (ec r (fun _ u _ b d s => za3 s rfl (znU hB b c2h) to3 rfl bz) (ec r (fun fr1 u w' hb' hd r' => zac r' (args := [(.agg (znD (D.zan a0).1).toArray), (I c2)]) (lc hd.1 (lc hd.2.1 l0)) zrd ((zhu _ ((D.zan a0).1) c2).mono (by rintro _ w2 ⟨rfl, hb2⟩; exact ⟨_, rfl, hb2, rfl⟩))) (ec r (fun fr1 u w' hb' hd r' => zac r' (args := [(.agg (znD (D.zb1 ((D.zan a0).1) c2)).toArray)]) (lc hd.1 l0) cl91 ((zcm _ (D.zb1 ((D.zan a0).1) c2)).mono (by rintro _ w2 ⟨rfl, hb2⟩; exact ⟨_, rfl, hb2, rfl⟩))) (ec r (fun _ u _ b d s => zao s (v := (.func (.func 285) #[] #[zp c1b, zp b5])) rfl bz) ?_)))))))
  exact zaV
 ·
  intro fr u w10 hb hΦ hne r
  have r := r.congr (sc (hΦ 7 (by decide)) (sc (hΦ 6 (by decide)) (sc (hΦ 5 (by decide)) (sc (hΦ 4 (by decide)) (sc (hΦ 3 (by decide)) (sc (hΦ 2 (by decide)) (sc (hΦ 1 (by decide)) (sc (hΦ 0 (by decide)) rfl))))))))
  have z_w10 := hb.size
  have h_b1 := keep hb h_b1
  have h_b5 := keep hb h_b5
  obtain ⟨hB, zB⟩ := bon hb hB
  have hF1 := znI hF hB b1
  have f11 : ((fun b => F b ∨ (w0.heap.size ≤ b ∧ b < w10.heap.size ∧ b ≠ b1))) c1b := (.inl c1F)
  have f12 : ((fun b => F b ∨ (w0.heap.size ≤ b ∧ b < w10.heap.size ∧ b ≠ b1))) b5 := (.inr ⟨by omega, by omega, by omega⟩)
  refine za8 r (zhs (F := (fun b => F b ∨ (w0.heap.size ≤ b ∧ b < w10.heap.size ∧ b ≠ b1))) (n := n) hF1 (D.zaH c0 c1) (D.zas (D.zb1 ((D.zan a0).1) c2)) ⟨285, [], [zp c1b, zp b5], zrn, rfl, fun m hm _ w' hs hz => zhS (fun b hb => Nat.lt_of_lt_of_le (hF1 b hb) hz) c1 f11 (hs.at_ f11 (keep hB c1h)) ((D.zan a0).1) f12 (hs.at_ f12 h_b5)⟩) (fun R hc => zac r rfl zqP hc) rfl ?_
  rintro _ w13 ⟨v14, rfl, hb, hr15⟩
  refine ⟨_, rfl, fun fr r => ?_⟩
  have z_w13 := hb.size
  have h_b1 := keep hb h_b1
  have h_b5 := keep hb h_b5
  obtain ⟨hB, zB⟩ := bon hb hB
  refine zae (.cells v14.cells 158 (0, 0)) r (fun R => zaf r hr15.shape rfl rfl h_b1 zo3 rfl) rfl fun fr w16 u17 r => ?_
  have z_w16 := u17.size
  have h_b5 := u17.keep h_b5 (by omega)
  have h_b1 := u17.at_
  obtain ⟨hB, zB⟩ := u17.on hB (by omega)
  refine wn (wp_ret ?_)
  have hs := hr15.shape.cells
  refine zad r rfl rfl h_b1 (k := 9) hs.1 zo4 ?_
  rw [← hs.2.2]
  exact rfin hF hB hr15 u17 (by omega) (by omega) (by omega)
def D.zd8 (a0 : Plan) (a1 : Int) (a2 : Int) : T Grant := (D.zeR (D.zaH a0 a1) (fun x => (D.zfO a0 a1 a2 x)))
theorem zhG {n : Nat} {F : Nat → Prop} {w0 : World} (hF : ∀ b, F b → b < w0.heap.size)
    (a0 : Plan) (a1 : Int) (a2 : Int) :
    Calls Tryz.prog 189 #[.agg (znu a0).toArray, .int .i64 a1, .int .i64 a2] w0 (zny Tryz.prog znG n (D.zd8 a0 a1 a2) F w0) := by
 refine enter Tryz.func189 rfl 12 rfl rfl fun fr r => ?_
 have hB := Below.refl w0.heap.size w0
 refine wsr ?_
 refine za5 (.cells ((znu a0)).toArray 25 (0, 0)) r (fun R => znF r (v := (.agg (znu a0).toArray)) rfl) rfl fun fr b1 w2 n3 r => ?_
 obtain ⟨e_b1, z_w2, h_b1, hB, zB⟩ := n3.all hB
 refine za5 (.cells #[(I a1)] 3 (0, 0)) r (fun R => znF r (v := (I a1)) rfl) rfl fun fr b4 w5 n6 r => ?_
 have h_b1 := keep n6.below h_b1
 obtain ⟨e_b4, z_w5, h_b4, hB, zB⟩ := n6.all hB
 refine za5 (.cells #[(I a2)] 3 (0, 0)) r (fun R => znF r (v := (I a2)) rfl) rfl fun fr b7 w8 n9 r => ?_
 have h_b1 := keep n9.below h_b1
 have h_b4 := keep n9.below h_b4
 obtain ⟨e_b7, z_w8, h_b7, hB, zB⟩ := n9.all hB
 refine za5 (.cells (znt false znG.zero 0 0 0 0 .nilFunc) 158 (0, 0)) r (fun R => zag zo7) rfl fun fr b10 w11 n12 r => ?_
 have h_b1 := keep n12.below h_b1
 have h_b4 := keep n12.below h_b4
 have h_b7 := keep n12.below h_b7
 obtain ⟨e_b10, z_w11, h_b10, hB, zB⟩ := n12.all hB
 refine wn (wsr (za0 (.agg (znu a0).toArray) r (fun R => za6 r (cs := (znu a0)) (n := 6) rfl h_b1 ta25 rfl) rfl fun fr r => za0 (I a1) r (fun R => za3 r rfl h_b4 to3 rfl) rfl fun fr r => ?_))
 refine za8 r (zbO w11 a0 a1) (fun R hc => zac r rfl cl68 hc) rfl ?_
 rintro _ w13 ⟨rfl, hb⟩
 refine ⟨_, rfl, fun fr r => ?_⟩
 have z_w13 := hb.size
 have h_b1 := keep hb h_b1
 have h_b4 := keep hb h_b4
 have h_b7 := keep hb h_b7
 have h_b10 := keep hb h_b10
 obtain ⟨hB, zB⟩ := bon hb hB
 refine za0 (.func (.func 282) #[] #[zp b1, zp b4, zp b7]) r (fun R => zao r rfl) rfl fun fr r => ?_
 have hF1 := znI hF hB b10
 have f14 : ((fun b => F b ∨ (w0.heap.size ≤ b ∧ b < w13.heap.size ∧ b ≠ b10))) b1 := (.inr ⟨by omega, by omega, by omega⟩)
 have f15 : ((fun b => F b ∨ (w0.heap.size ≤ b ∧ b < w13.heap.size ∧ b ≠ b10))) b4 := (.inr ⟨by omega, by omega, by omega⟩)
 have f16 : ((fun b => F b ∨ (w0.heap.size ≤ b ∧ b < w13.heap.size ∧ b ≠ b10))) b7 := (.inr ⟨by omega, by omega, by omega⟩)
 refine za8 r (zi6 (F := (fun b => F b ∨ (w0.heap.size ≤ b ∧ b < w13.heap.size ∧ b ≠ b10))) (n := n) hF1 (D.zaH a0 a1) ⟨282, [], [zp b1, zp b4, zp b7], zrL, rfl, fun m hm x w' hs hz => zj5 (fun b hb => Nat.lt_of_lt_of_le (hF1 b hb) hz) a0 f14 (hs.at_ f14 h_b1) a1 f15 (hs.at_ f15 h_b4) a2 f16 (hs.at_ f16 h_b7) x⟩) (fun R hc => zac r rfl zqI hc) rfl ?_
 rintro _ w17 ⟨v18, rfl, hb, hr19⟩
 refine ⟨_, rfl, fun fr r => ?_⟩
 have z_w17 := hb.size
 have h_b1 := keep hb h_b1
 have h_b4 := keep hb h_b4
 have h_b7 := keep hb h_b7
 have h_b10 := keep hb h_b10
 obtain ⟨hB, zB⟩ := bon hb hB
 refine zae (.cells v18.cells 158 (0, 0)) r (fun R => zaf r hr19.shape rfl rfl h_b10 zo3 rfl) rfl fun fr w20 u21 r => ?_
 have z_w20 := u21.size
 have h_b1 := u21.keep h_b1 (by omega)
 have h_b4 := u21.keep h_b4 (by omega)
 have h_b7 := u21.keep h_b7 (by omega)
 have h_b10 := u21.at_
 obtain ⟨hB, zB⟩ := u21.on hB (by omega)
 refine wn (wp_ret ?_)
 have hs := hr19.shape.cells
 refine zad r rfl rfl h_b10 (k := 9) hs.1 zo4 ?_
 rw [← hs.2.2]
 exact rfin hF hB hr19 u21 (by omega) (by omega) (by omega)
def D.zbl (c0 : Plan) (c1 : Int) (a0 : Int) : T Grant := (bif (a0 == (-1)) then (D.zdW (⟨(-1), 0, 4⟩ : Grant)) else (D.zd8 c0 a0 c1))
theorem zjK {n : Nat} {F : Nat → Prop} {w0 : World} (hF : ∀ b, F b → b < w0.heap.size)
    (c0 : Plan) {c0b : Nat} (c0F : F c0b) (c0h : w0.heap[c0b]? = some (.cells ((znu c0)).toArray 25 (0, 0))) (c1 : Int) {c1b : Nat} (c1F : F c1b) (c1h : w0.heap[c1b]? = some (.cells ([(.int .i64 c1)]).toArray 3 (0, 0))) (a0 : Int) :
    Calls Tryz.prog 187 #[.int .i64 a0, zp c0b, zp c1b] w0 (zny Tryz.prog znG n (D.zbl c0 c1 a0) F w0) := by
 refine enter Tryz.func187 rfl 13 rfl rfl fun fr r => ?_
 have hB := Below.refl w0.heap.size w0
 have lc0b := lt_of_block c0h
 have lc1b := lt_of_block c1h
 refine wsr ?_
 refine za5 (.cells (znt false znG.zero 0 0 0 0 .nilFunc) 158 (0, 0)) r (fun R => zag zo7) rfl fun fr b1 w2 n3 r => ?_
 obtain ⟨e_b1, z_w2, h_b1, hB, zB⟩ := n3.all hB
 refine wn (wp_seq (wsr (za0 (I a0) r (fun R => za9 r rfl) rfl fun fr r => za0 _ r (fun R => znA r rfl rfl rfl rfl) rfl fun fr r => wn ?_)))
 refine wp_cond_split (t := (a0 == (-1))) (r.ev rfl) (fun h4 => ?_) (fun h4 => ?_)
 ·
  refine wsr (za0 (.agg (grantC (⟨(-1), 0, 4⟩ : Grant)).toArray) r (fun R => zaQ r (by kernel_rfl)) rfl fun fr r => ?_)
  have hF1 := znI hF hB b1
  refine za8 r (zfy (F := (fun b => F b ∨ (w0.heap.size ≤ b ∧ b < w2.heap.size ∧ b ≠ b1))) (n := n) hF1 (⟨(-1), 0, 4⟩ : Grant)) (fun R hc => zac r rfl zqc hc) rfl ?_
  rintro _ w5 ⟨v6, rfl, hb, hr7⟩
  refine ⟨_, rfl, fun fr r => ?_⟩
  have z_w5 := hb.size
  have h_b1 := keep hb h_b1
  obtain ⟨hB, zB⟩ := bon hb hB
  refine zae (.cells v6.cells 158 (0, 0)) r (fun R => zaf r hr7.shape rfl rfl h_b1 zo3 rfl) rfl fun fr w8 u9 r => ?_
  have z_w8 := u9.size
  have h_b1 := u9.at_
  obtain ⟨hB, zB⟩ := u9.on hB (by omega)
  refine wn (wp_ret ?_)
  have hd : D.zbl c0 c1 a0 = (D.zdW (⟨(-1), 0, 4⟩ : Grant)) := (zaq h4).trans (rfl)
  have hs := hr7.shape.cells
  refine zad r rfl rfl h_b1 (k := 9) hs.1 zo4 ?_
  rw [← hs.2.2, hd]
  exact rfin hF hB hr7 u9 (by omega) (by omega) (by omega)
 ·
  refine wp_skip (wsr (za0 (.agg (znu c0).toArray) r (fun R => za6 r (cs := (znu c0)) (n := 6) rfl (keep hB c0h) ta25 rfl) rfl fun fr r => za0 (I a0) r (fun R => za9 r rfl) rfl fun fr r => za0 (I c1) r (fun R => za3 r rfl (keep hB c1h) to3 rfl) rfl fun fr r => ?_))
  have hF1 := znI hF hB b1
  refine za8 r (zhG (F := (fun b => F b ∨ (w0.heap.size ≤ b ∧ b < w2.heap.size ∧ b ≠ b1))) (n := n) hF1 c0 a0 c1) (fun R hc => zac r rfl zqk hc) rfl ?_
  rintro _ w10 ⟨v11, rfl, hb, hr12⟩
  refine ⟨_, rfl, fun fr r => ?_⟩
  have z_w10 := hb.size
  have h_b1 := keep hb h_b1
  obtain ⟨hB, zB⟩ := bon hb hB
  refine zae (.cells v11.cells 158 (0, 0)) r (fun R => zaf r hr12.shape rfl rfl h_b1 zo3 rfl) rfl fun fr w13 u14 r => ?_
  have z_w13 := u14.size
  have h_b1 := u14.at_
  obtain ⟨hB, zB⟩ := u14.on hB (by omega)
  refine wn (wp_ret ?_)
  have hd : D.zbl c0 c1 a0 = (D.zd8 c0 a0 c1) := (zak h4).trans (rfl)
  have hs := hr12.shape.cells
  refine zad r rfl rfl h_b1 (k := 9) hs.1 zo4 ?_
  rw [← hs.2.2, hd]
  exact rfin hF hB hr12 u14 (by omega) (by omega) (by omega)
def D.zdU (j : Nat) (c0 : Plan) (c1 : (Int → T Grant)) (a0 : Int) : T Grant := (T.bind (D.zbW j c0) c1)
theorem ziU {n : Nat} {F : Nat → Prop} {j : Nat} {w0 : World} (hF : ∀ b, F b → b < w0.heap.size) (hj : n < j)
    (c0 : Plan) {c0b : Nat} (c0F : F c0b) (c0h : w0.heap[c0b]? = some (.cells ((znu c0)).toArray 25 (0, 0))) {c1f : FuncId} {c1_1 c1_2 : List Value} {c1 : (Int → T Grant)} {c1b : Nat} (c1F : F c1b) (c1h : w0.heap[c1b]? = some (.cells #[.func (.func c1f) c1_1.toArray c1_2.toArray] 246 (0, 0))) (c1n : FnT Tryz.prog znG i64 (n + 1) F w0 (.func (.func c1f) c1_1.toArray c1_2.toArray) c1) (a0 : Int) :
    Calls Tryz.prog 194 #[.int .i64 a0, zp c0b, zp c1b] w0 (zny Tryz.prog znG n (D.zdU j c0 c1 a0) F w0) := by
 refine enter Tryz.func194 rfl 9 rfl rfl fun fr r => ?_
 have hB := Below.refl w0.heap.size w0
 have lc0b := lt_of_block c0h
 have lc1b := lt_of_block c1h
 refine wsr ?_
 refine za5 (.cells (znt false znG.zero 0 0 0 0 .nilFunc) 158 (0, 0)) r (fun R => zag zo7) rfl fun fr b1 w2 n3 r => ?_
 obtain ⟨e_b1, z_w2, h_b1, hB, zB⟩ := n3.all hB
 refine wn (wp_seq ?_)
 have hF1 := znI hF hB b1
 refine zaI 3 [.val (.agg (znu c0).toArray), .pred (PrepP Tryz.prog znz n (D.zbW j c0) ((fun b => F b ∨ (w0.heap.size ≤ b ∧ b < w2.heap.size ∧ b ≠ b1))) w2) (PrepP.st hF1), .val (.func (.func c1f) c1_1.toArray c1_2.toArray)] mixed r (by kernel_rfl) (za2 (by exact trivial) (za2 (by exact trivial) (za2 (by exact trivial) zaC))) ?_ ?_
 ·
  refine ec r (fun _ u _ b d s => za6 s (cs := (znu c0)) (n := 6) rfl (znU hB b c0h) ta25 rfl bz) (ec r (fun fr1 u w' hb' hd r' => zac r' (args := [(.agg (znu c0).toArray)]) (lc hd.1 l0) zpq (((zjo (k := j) (n := n) (by omega)) ((fun b => F b ∨ (w0.heap.size ≤ b ∧ b < w2.heap.size ∧ b ≠ b1))) _ (fun b h => Nat.lt_of_lt_of_le (hF1 b h) hb'.size) c0).mono (by rintro _ w2 ⟨y, rfl, hb2, hr2⟩; exact ⟨_, rfl, hb2, PrepP.of (drB hb') hb2 hr2⟩))) (ec r (fun _ u _ b d s => za3 s rfl (znU hB b c1h) zps rfl bz) ?_))
  exact zaV
 ·
  intro fr u w4 hb hΦ hne r
  obtain ⟨v5, hv1⟩ : ∃ v, v = u 1 := ⟨_, rfl⟩
  have g1 : u 1 = v5 := hv1.symm
  have hr6 := (hΦ 1 (by decide)).2
  rw [g1] at hr6
  have r := r.congr (sc (hΦ 2 (by decide)) (sc g1 (sc (hΦ 0 (by decide)) rfl)))
  have z_w4 := hb.size
  have h_b1 := keep hb h_b1
  obtain ⟨hB, zB⟩ := bon hb hB
  have hF1 := znI hF hB b1
  refine za8 r (zcD (F := (fun b => F b ∨ (w0.heap.size ≤ b ∧ b < w4.heap.size ∧ b ≠ b1))) (n := n) hF1 (Rep.mono (by rintro b (h | h); (rcases h with h | ⟨h1, h2, h3⟩; exact .inl h; exact .inr ⟨h1, by omega, h3⟩); exact .inr ⟨by omega, by omega, by omega⟩) (Same.refl _ _) (by omega) n _ _ hr6) (c1n.mono (by omega) (fun b h => .inl h) (Same.below hB hF) hB.size)) (fun R hc => zac r rfl zoV hc) rfl ?_
  rintro _ w7 ⟨v8, rfl, hb, hr9⟩
  refine ⟨_, rfl, fun fr r => ?_⟩
  have z_w7 := hb.size
  have h_b1 := keep hb h_b1
  obtain ⟨hB, zB⟩ := bon hb hB
  refine zae (.cells v8.cells 158 (0, 0)) r (fun R => zaf r hr9.shape rfl rfl h_b1 zo3 rfl) rfl fun fr w10 u11 r => ?_
  have z_w10 := u11.size
  have h_b1 := u11.at_
  obtain ⟨hB, zB⟩ := u11.on hB (by omega)
  refine wn (wp_ret ?_)
  have hs := hr9.shape.cells
  refine zad r rfl rfl h_b1 (k := 9) hs.1 zo4 ?_
  rw [← hs.2.2]
  exact rfin hF hB hr9 u11 (by omega) (by omega) (by omega)
def D.zcs (j : Nat) (c0 : Plan) (c1 : Int) (c2 : Int) (c3 : (Int → T Grant)) (a0 : Int) : T Grant := (bif (a0 != (-1)) then (D.zd8 c0 a0 c1) else (T.bind (D.zd9 j c0 c2) (fun x => (D.zdU j c0 c3 x))))
theorem zjD {n : Nat} {F : Nat → Prop} {j : Nat} {w0 : World} (hF : ∀ b, F b → b < w0.heap.size) (hj : n < j)
    (c0 : Plan) {c0b : Nat} (c0F : F c0b) (c0h : w0.heap[c0b]? = some (.cells ((znu c0)).toArray 25 (0, 0))) (c1 : Int) {c1b : Nat} (c1F : F c1b) (c1h : w0.heap[c1b]? = some (.cells ([(.int .i64 c1)]).toArray 3 (0, 0))) (c2 : Int) {c2b : Nat} (c2F : F c2b) (c2h : w0.heap[c2b]? = some (.cells ([(.int .i64 c2)]).toArray 3 (0, 0))) {c3f : FuncId} {c3_1 c3_2 : List Value} {c3 : (Int → T Grant)} {c3b : Nat} (c3F : F c3b) (c3h : w0.heap[c3b]? = some (.cells #[.func (.func c3f) c3_1.toArray c3_2.toArray] 246 (0, 0))) (c3n : FnT Tryz.prog znG i64 (n + 1) F w0 (.func (.func c3f) c3_1.toArray c3_2.toArray) c3) (a0 : Int) :
    Calls Tryz.prog 192 #[.int .i64 a0, zp c0b, zp c1b, zp c2b, zp c3b] w0 (zny Tryz.prog znG n (D.zcs j c0 c1 c2 c3 a0) F w0) := by
 refine enter Tryz.func192 rfl 18 rfl rfl fun fr r => ?_
 have hB := Below.refl w0.heap.size w0
 have lc0b := lt_of_block c0h
 have lc1b := lt_of_block c1h
 have lc2b := lt_of_block c2h
 have lc3b := lt_of_block c3h
 refine wsr ?_
 refine za5 (.cells (znt false znG.zero 0 0 0 0 .nilFunc) 158 (0, 0)) r (fun R => zag zo7) rfl fun fr b1 w2 n3 r => ?_
 obtain ⟨e_b1, z_w2, h_b1, hB, zB⟩ := n3.all hB
 refine wn (wp_seq (wsr (za0 (I a0) r (fun R => za9 r rfl) rfl fun fr r => za0 _ r (fun R => znA r rfl rfl rfl rfl) rfl fun fr r => wn ?_)))
 refine wp_cond_split (t := (a0 != (-1))) (r.ev rfl) (fun h4 => ?_) (fun h4 => ?_)
 ·
  refine wsr (za0 (.agg (znu c0).toArray) r (fun R => za6 r (cs := (znu c0)) (n := 6) rfl (keep hB c0h) ta25 rfl) rfl fun fr r => za0 (I a0) r (fun R => za9 r rfl) rfl fun fr r => za0 (I c1) r (fun R => za3 r rfl (keep hB c1h) to3 rfl) rfl fun fr r => ?_)
  have hF1 := znI hF hB b1
  refine za8 r (zhG (F := (fun b => F b ∨ (w0.heap.size ≤ b ∧ b < w2.heap.size ∧ b ≠ b1))) (n := n) hF1 c0 a0 c1) (fun R hc => zac r rfl zqk hc) rfl ?_
  rintro _ w5 ⟨v6, rfl, hb, hr7⟩
  refine ⟨_, rfl, fun fr r => ?_⟩
  have z_w5 := hb.size
  have h_b1 := keep hb h_b1
  obtain ⟨hB, zB⟩ := bon hb hB
  refine zae (.cells v6.cells 158 (0, 0)) r (fun R => zaf r hr7.shape rfl rfl h_b1 zo3 rfl) rfl fun fr w8 u9 r => ?_
  have z_w8 := u9.size
  have h_b1 := u9.at_
  obtain ⟨hB, zB⟩ := u9.on hB (by omega)
  refine wn (wp_ret ?_)
  have hd : D.zcs j c0 c1 c2 c3 a0 = (D.zd8 c0 a0 c1) := (zaq h4).trans (rfl)
  have hs := hr7.shape.cells
  refine zad r rfl rfl h_b1 (k := 9) hs.1 zo4 ?_
  rw [← hs.2.2, hd]
  exact rfin hF hB hr7 u9 (by omega) (by omega) (by omega)
 ·
  refine wp_skip (wsr (za0 (.agg (znu c0).toArray) r (fun R => za6 r (cs := (znu c0)) (n := 6) rfl (keep hB c0h) ta25 rfl) rfl fun fr r => za0 (I c2) r (fun R => za3 r rfl (keep hB c2h) to3 rfl) rfl fun fr r => ?_))
  have hF1 := znI hF hB b1
  refine za8 r (zhB (j := j) (F := (fun b => F b ∨ (w0.heap.size ≤ b ∧ b < w2.heap.size ∧ b ≠ b1))) (n := n) hF1 (by omega) c0 c2) (fun R hc => zac r rfl zql hc) rfl ?_
  rintro _ w10 ⟨v11, rfl, hb, hr12⟩
  refine ⟨_, rfl, fun fr r => ?_⟩
  have z_w10 := hb.size
  have h_b1 := keep hb h_b1
  obtain ⟨hB, zB⟩ := bon hb hB
  refine za0 (.func (.func 194) #[] #[zp c0b, zp c3b]) r (fun R => zao r rfl) rfl fun fr r => ?_
  have hF1 := znI hF hB b1
  have f13 : ((fun b => F b ∨ (w0.heap.size ≤ b ∧ b < w10.heap.size ∧ b ≠ b1))) c0b := (.inl c0F)
  have f14 : ((fun b => F b ∨ (w0.heap.size ≤ b ∧ b < w10.heap.size ∧ b ≠ b1))) c3b := (.inl c3F)
  refine za8 r (zcD (F := (fun b => F b ∨ (w0.heap.size ≤ b ∧ b < w10.heap.size ∧ b ≠ b1))) (n := n) hF1 (Rep.mono (by rintro b (h | h); (rcases h with h | ⟨h1, h2, h3⟩; exact .inl h; exact .inr ⟨h1, by omega, h3⟩); exact .inr ⟨by omega, by omega, by omega⟩) (Same.refl _ _) (by omega) n _ _ hr12) ⟨194, [], [zp c0b, zp c3b], zqY, rfl, fun m hm x w' hs hz => ziU (j := j) (fun b hb => Nat.lt_of_lt_of_le (hF1 b hb) hz) (by omega) c0 f13 (hs.at_ f13 (keep hB c0h)) f14 (hs.at_ f14 (keep hB c3h)) (c3n.mono (by omega) (fun b h => .inl h) ((Same.below hB hF).trans (hs.sub (fun b h => .inl h))) (Nat.le_trans hB.size hz)) x⟩) (fun R hc => zac r rfl zoV hc) rfl ?_
  rintro _ w15 ⟨v16, rfl, hb, hr17⟩
  refine ⟨_, rfl, fun fr r => ?_⟩
  have z_w15 := hb.size
  have h_b1 := keep hb h_b1
  obtain ⟨hB, zB⟩ := bon hb hB
  refine zae (.cells v16.cells 158 (0, 0)) r (fun R => zaf r hr17.shape rfl rfl h_b1 zo3 rfl) rfl fun fr w18 u19 r => ?_
  have z_w18 := u19.size
  have h_b1 := u19.at_
  obtain ⟨hB, zB⟩ := u19.on hB (by omega)
  refine wn (wp_ret ?_)
  have hd : D.zcs j c0 c1 c2 c3 a0 = (T.bind (D.zd9 j c0 c2) (fun x => (D.zdU j c0 c3 x))) := (zak h4).trans (rfl)
  have hs := hr17.shape.cells
  refine zad r rfl rfl h_b1 (k := 9) hs.1 zo4 ?_
  rw [← hs.2.2, hd]
  exact rfin hF hB hr17 u19 (by omega) (by omega) (by omega)
def D.ze2 (j : Nat) (a0 : Plan) (a1 : Int) (a2 : Int) : T Grant := (T.bind (D.zbW j a0) (fun x => (D.zcs j a0 a2 a1 (fun x => (D.zbl a0 a2 x)) x)))
theorem zkJ {n : Nat} {F : Nat → Prop} {j : Nat} {w0 : World} (hF : ∀ b, F b → b < w0.heap.size) (hj : n < j)
    (a0 : Plan) (a1 : Int) (a2 : Int) :
    Calls Tryz.prog 89 #[.agg (znu a0).toArray, .int .i64 a1, .int .i64 a2] w0 (zny Tryz.prog znG n (D.ze2 j a0 a1 a2) F w0) := by
 refine enter Tryz.func89 rfl 13 rfl rfl fun fr r => ?_
 have hB := Below.refl w0.heap.size w0
 refine wsr ?_
 refine za5 (.cells ((znu a0)).toArray 25 (0, 0)) r (fun R => znF r (v := (.agg (znu a0).toArray)) rfl) rfl fun fr b1 w2 n3 r => ?_
 obtain ⟨e_b1, z_w2, h_b1, hB, zB⟩ := n3.all hB
 refine za5 (.cells #[(I a1)] 3 (0, 0)) r (fun R => znF r (v := (I a1)) rfl) rfl fun fr b4 w5 n6 r => ?_
 have h_b1 := keep n6.below h_b1
 obtain ⟨e_b4, z_w5, h_b4, hB, zB⟩ := n6.all hB
 refine za5 (.cells #[(I a2)] 3 (0, 0)) r (fun R => znF r (v := (I a2)) rfl) rfl fun fr b7 w8 n9 r => ?_
 have h_b1 := keep n9.below h_b1
 have h_b4 := keep n9.below h_b4
 obtain ⟨e_b7, z_w8, h_b7, hB, zB⟩ := n9.all hB
 refine za5 (.cells (znt false znG.zero 0 0 0 0 .nilFunc) 158 (0, 0)) r (fun R => zag zo7) rfl fun fr b10 w11 n12 r => ?_
 have h_b1 := keep n12.below h_b1
 have h_b4 := keep n12.below h_b4
 have h_b7 := keep n12.below h_b7
 obtain ⟨e_b10, z_w11, h_b10, hB, zB⟩ := n12.all hB
 refine wn (wsr (za0 (.func (.func 187) #[] #[zp b1, zp b7]) r (fun R => zao r rfl) rfl fun fr r => ?_))
 refine za5 (.cells #[.nilFunc] 246 (0, 0)) r (fun R => zag zsc) rfl fun fr b13 w14 n15 r => ?_
 have h_b1 := keep n15.below h_b1
 have h_b4 := keep n15.below h_b4
 have h_b7 := keep n15.below h_b7
 have h_b10 := keep n15.below h_b10
 obtain ⟨e_b13, z_w14, h_b13, hB, zB⟩ := n15.all hB
 refine zae (.cells #[.func (.func 187) #[] #[zp b1, zp b7]] 246 (0, 0)) r (fun R => zaS r (o := 0) (v := (.func (.func 187) #[] #[zp b1, zp b7])) rfl rfl h_b13 zrT (Nat.le_of_ble_eq_true rfl) rfl rfl) rfl fun fr w16 u17 r => ?_
 have z_w16 := u17.size
 have h_b1 := u17.keep h_b1 (by omega)
 have h_b4 := u17.keep h_b4 (by omega)
 have h_b7 := u17.keep h_b7 (by omega)
 have h_b10 := u17.keep h_b10 (by omega)
 have h_b13 := u17.at_
 obtain ⟨hB, zB⟩ := u17.on hB (by omega)
 refine wn (wsr (za0 (.agg (znu a0).toArray) r (fun R => za6 r (cs := (znu a0)) (n := 6) rfl h_b1 ta25 rfl) rfl fun fr r => ?_))
 have hF1 := znI hF hB b10
 refine za8 r ((zjo (k := j) (n := n) (by omega)) (fun b => F b ∨ (w0.heap.size ≤ b ∧ b < w16.heap.size ∧ b ≠ b10)) _ hF1 a0) (fun R hc => zac r rfl zpq hc) rfl ?_
 rintro _ w18 ⟨v19, rfl, hb, hr20⟩
 refine ⟨_, rfl, fun fr r => ?_⟩
 have z_w18 := hb.size
 have h_b1 := keep hb h_b1
 have h_b4 := keep hb h_b4
 have h_b7 := keep hb h_b7
 have h_b10 := keep hb h_b10
 have h_b13 := keep hb h_b13
 obtain ⟨hB, zB⟩ := bon hb hB
 refine za0 (.func (.func 192) #[] #[zp b1, zp b7, zp b4, zp b13]) r (fun R => zao r rfl) rfl fun fr r => ?_
 have hF1 := znI hF hB b10
 have f21 : ((fun b => F b ∨ (w0.heap.size ≤ b ∧ b < w18.heap.size ∧ b ≠ b10))) b1 := (.inr ⟨by omega, by omega, by omega⟩)
 have f22 : ((fun b => F b ∨ (w0.heap.size ≤ b ∧ b < w18.heap.size ∧ b ≠ b10))) b7 := (.inr ⟨by omega, by omega, by omega⟩)
 have f23 : ((fun b => F b ∨ (w0.heap.size ≤ b ∧ b < w18.heap.size ∧ b ≠ b10))) b4 := (.inr ⟨by omega, by omega, by omega⟩)
 have f24 : ((fun b => F b ∨ (w0.heap.size ≤ b ∧ b < w18.heap.size ∧ b ≠ b10))) b13 := (.inr ⟨by omega, by omega, by omega⟩)
 have f26 : ((fun b => F b ∨ (w0.heap.size ≤ b ∧ b < w18.heap.size ∧ b ≠ b10))) b1 := (.inr ⟨by omega, by omega, by omega⟩)
 have f27 : ((fun b => F b ∨ (w0.heap.size ≤ b ∧ b < w18.heap.size ∧ b ≠ b10))) b7 := (.inr ⟨by omega, by omega, by omega⟩)
 have q25 : FnT Tryz.prog znG i64 (n + 1) (fun b => F b ∨ (w0.heap.size ≤ b ∧ b < w18.heap.size ∧ b ≠ b10)) w18 (.func (.func 187) #[] #[zp b1, zp b7]) (fun x => (D.zbl a0 a2 x)) := ⟨187, [], [zp b1, zp b7], zrm, rfl, fun m hm x w' hs hz => zjK (fun b hb => Nat.lt_of_lt_of_le (hF1 b hb) hz) a0 f26 (hs.at_ f26 h_b1) a2 f27 (hs.at_ f27 h_b7) x⟩
 refine za8 r (zcD (F := (fun b => F b ∨ (w0.heap.size ≤ b ∧ b < w18.heap.size ∧ b ≠ b10))) (n := n) hF1 (Rep.mono (by rintro b (h | h); (rcases h with h | ⟨h1, h2, h3⟩; exact .inl h; exact .inr ⟨h1, by omega, h3⟩); exact .inr ⟨by omega, by omega, by omega⟩) (Same.refl _ _) (by omega) n _ _ hr20) ⟨192, [], [zp b1, zp b7, zp b4, zp b13], zrv, rfl, fun m hm x w' hs hz => zjD (j := j) (fun b hb => Nat.lt_of_lt_of_le (hF1 b hb) hz) (by omega) a0 f21 (hs.at_ f21 h_b1) a2 f22 (hs.at_ f22 h_b7) a1 f23 (hs.at_ f23 h_b4) f24 (hs.at_ f24 h_b13) (q25.mono (by omega) (fun b h => h) hs hz) x⟩) (fun R hc => zac r rfl zoV hc) rfl ?_
 rintro _ w28 ⟨v29, rfl, hb, hr30⟩
 refine ⟨_, rfl, fun fr r => ?_⟩
 have z_w28 := hb.size
 have h_b1 := keep hb h_b1
 have h_b4 := keep hb h_b4
 have h_b7 := keep hb h_b7
 have h_b10 := keep hb h_b10
 have h_b13 := keep hb h_b13
 obtain ⟨hB, zB⟩ := bon hb hB
 refine zae (.cells v29.cells 158 (0, 0)) r (fun R => zaf r hr30.shape rfl rfl h_b10 zo3 rfl) rfl fun fr w31 u32 r => ?_
 have z_w31 := u32.size
 have h_b1 := u32.keep h_b1 (by omega)
 have h_b4 := u32.keep h_b4 (by omega)
 have h_b7 := u32.keep h_b7 (by omega)
 have h_b13 := u32.keep h_b13 (by omega)
 have h_b10 := u32.at_
 obtain ⟨hB, zB⟩ := u32.on hB (by omega)
 refine wn (wp_ret ?_)
 have hs := hr30.shape.cells
 refine zad r rfl rfl h_b10 (k := 9) hs.1 zo4 ?_
 rw [← hs.2.2]
 exact rfin hF hB hr30 u32 (by omega) (by omega) (by omega)
def D.zbY (c0 : Int) (a0 : Int) : T Int := (bif (a0 == (-1)) then (D.zaY (-1)) else (D.zaY c0))
theorem ziX {n : Nat} {F : Nat → Prop} {w0 : World} (hF : ∀ b, F b → b < w0.heap.size)
    (c0 : Int) {c0b : Nat} (c0F : F c0b) (c0h : w0.heap[c0b]? = some (.cells ([(.int .i64 c0)]).toArray 3 (0, 0))) (a0 : Int) :
    Calls Tryz.prog 228 #[.int .i64 a0, zp c0b] w0 (zny Tryz.prog znz n (D.zbY c0 a0) F w0) := by
 refine enter Tryz.func228 rfl 9 rfl rfl fun fr r => ?_
 have hB := Below.refl w0.heap.size w0
 have lc0b := lt_of_block c0h
 refine wsr ?_
 refine za5 (.cells (znt false znz.zero 0 0 0 0 .nilFunc) 167 (0, 0)) r (fun R => zag znV) rfl fun fr b1 w2 n3 r => ?_
 obtain ⟨e_b1, z_w2, h_b1, hB, zB⟩ := n3.all hB
 refine wn (wp_seq (wsr (za0 (I a0) r (fun R => za9 r rfl) rfl fun fr r => za0 _ r (fun R => znA r rfl rfl rfl rfl) rfl fun fr r => wn ?_)))
 refine wp_cond_split (t := (a0 == (-1))) (r.ev rfl) (fun h4 => ?_) (fun h4 => ?_)
 ·
  refine wsr ?_
  have hF1 := znI hF hB b1
  refine za8 r (zbm (F := (fun b => F b ∨ (w0.heap.size ≤ b ∧ b < w2.heap.size ∧ b ≠ b1))) (n := n) hF1 (-1)) (fun R hc => zac r rfl zoe hc) rfl ?_
  rintro _ w5 ⟨v6, rfl, hb, hr7⟩
  refine ⟨_, rfl, fun fr r => ?_⟩
  have z_w5 := hb.size
  have h_b1 := keep hb h_b1
  obtain ⟨hB, zB⟩ := bon hb hB
  refine zae (.cells v6.cells 167 (0, 0)) r (fun R => zaf r hr7.shape rfl rfl h_b1 znT rfl) rfl fun fr w8 u9 r => ?_
  have z_w8 := u9.size
  have h_b1 := u9.at_
  obtain ⟨hB, zB⟩ := u9.on hB (by omega)
  refine wn (wp_ret ?_)
  have hd : D.zbY c0 a0 = (D.zaY (-1)) := (zaq h4).trans (rfl)
  have hs := hr7.shape.cells
  refine zad r rfl rfl h_b1 (k := 7) hs.1 znS ?_
  rw [← hs.2.2, hd]
  exact rfin hF hB hr7 u9 (by omega) (by omega) (by omega)
 ·
  refine wp_skip (wsr (za0 (I c0) r (fun R => za3 r rfl (keep hB c0h) to3 rfl) rfl fun fr r => ?_))
  have hF1 := znI hF hB b1
  refine za8 r (zbm (F := (fun b => F b ∨ (w0.heap.size ≤ b ∧ b < w2.heap.size ∧ b ≠ b1))) (n := n) hF1 c0) (fun R hc => zac r rfl zoe hc) rfl ?_
  rintro _ w10 ⟨v11, rfl, hb, hr12⟩
  refine ⟨_, rfl, fun fr r => ?_⟩
  have z_w10 := hb.size
  have h_b1 := keep hb h_b1
  obtain ⟨hB, zB⟩ := bon hb hB
  refine zae (.cells v11.cells 167 (0, 0)) r (fun R => zaf r hr12.shape rfl rfl h_b1 znT rfl) rfl fun fr w13 u14 r => ?_
  have z_w13 := u14.size
  have h_b1 := u14.at_
  obtain ⟨hB, zB⟩ := u14.on hB (by omega)
  refine wn (wp_ret ?_)
  have hd : D.zbY c0 a0 = (D.zaY c0) := (zak h4).trans (rfl)
  have hs := hr12.shape.cells
  refine zad r rfl rfl h_b1 (k := 7) hs.1 znS ?_
  rw [← hs.2.2, hd]
  exact rfin hF hB hr12 u14 (by omega) (by omega) (by omega)
def D.zdV (c0 : Plan) (c1 : Int) (c2 : Int) (c3 : (Int → T Int)) (a0 : Int) : T Int := (T.bind (D.zdI c0 c1 c2) c3)
theorem zi3 {n : Nat} {F : Nat → Prop} {w0 : World} (hF : ∀ b, F b → b < w0.heap.size)
    (c0 : Plan) {c0b : Nat} (c0F : F c0b) (c0h : w0.heap[c0b]? = some (.cells ((znu c0)).toArray 25 (0, 0))) (c1 : Int) {c1b : Nat} (c1F : F c1b) (c1h : w0.heap[c1b]? = some (.cells ([(.int .i64 c1)]).toArray 3 (0, 0))) (c2 : Int) {c2b : Nat} (c2F : F c2b) (c2h : w0.heap[c2b]? = some (.cells ([(.int .i64 c2)]).toArray 3 (0, 0))) {c3f : FuncId} {c3_1 c3_2 : List Value} {c3 : (Int → T Int)} {c3b : Nat} (c3F : F c3b) (c3h : w0.heap[c3b]? = some (.cells #[.func (.func c3f) c3_1.toArray c3_2.toArray] 271 (0, 0))) (c3n : FnT Tryz.prog znz i64 (n + 1) F w0 (.func (.func c3f) c3_1.toArray c3_2.toArray) c3) (a0 : Int) :
    Calls Tryz.prog 233 #[.int .i64 a0, zp c0b, zp c1b, zp c2b, zp c3b] w0 (zny Tryz.prog znz n (D.zdV c0 c1 c2 c3 a0) F w0) := by
 refine enter Tryz.func233 rfl 13 rfl rfl fun fr r => ?_
 have hB := Below.refl w0.heap.size w0
 have lc0b := lt_of_block c0h
 have lc1b := lt_of_block c1h
 have lc2b := lt_of_block c2h
 have lc3b := lt_of_block c3h
 refine wsr ?_
 refine za5 (.cells (znt false znz.zero 0 0 0 0 .nilFunc) 167 (0, 0)) r (fun R => zag znV) rfl fun fr b1 w2 n3 r => ?_
 obtain ⟨e_b1, z_w2, h_b1, hB, zB⟩ := n3.all hB
 refine wn (wp_seq ?_)
 have hF1 := znI hF hB b1
 refine zaI 5 [.val (.agg (znu c0).toArray), .val (I c1), .val (I c2), .pred (PrepP Tryz.prog znz n (D.zdI c0 c1 c2) ((fun b => F b ∨ (w0.heap.size ≤ b ∧ b < w2.heap.size ∧ b ≠ b1))) w2) (PrepP.st hF1), .val (.func (.func c3f) c3_1.toArray c3_2.toArray)] mixed r (by kernel_rfl) (za2 (by exact trivial) (za2 (by exact trivial) (za2 (by exact trivial) (za2 (by exact trivial) (za2 (by exact trivial) zaC))))) ?_ ?_
 ·
  refine ec r (fun _ u _ b d s => za6 s (cs := (znu c0)) (n := 6) rfl (znU hB b c0h) ta25 rfl bz) (ec r (fun _ u _ b d s => za3 s rfl (znU hB b c1h) to3 rfl bz) (ec r (fun _ u _ b d s => za3 s rfl (znU hB b c2h) to3 rfl bz) (ec r (fun fr1 u w' hb' hd r' => zac r' (args := [(.agg (znu c0).toArray), (I c1), (I c2)]) (lc hd.1 (lc hd.2.1 (lc hd.2.2.1 l0))) zpS ((zie (F := (fun b => F b ∨ (w0.heap.size ≤ b ∧ b < w2.heap.size ∧ b ≠ b1))) (n := n) (fun b h => Nat.lt_of_lt_of_le (hF1 b h) hb'.size) c0 c1 c2).mono (by rintro _ w2 ⟨y, rfl, hb2, hr2⟩; exact ⟨_, rfl, hb2, PrepP.of (drB hb') hb2 hr2⟩))) (ec r (fun _ u _ b d s => za3 s rfl (znU hB b c3h) zpa rfl bz) ?_))))
  exact zaV
 ·
  intro fr u w4 hb hΦ hne r
  obtain ⟨v5, hv3⟩ : ∃ v, v = u 3 := ⟨_, rfl⟩
  have g3 : u 3 = v5 := hv3.symm
  have hr6 := (hΦ 3 (by decide)).2
  rw [g3] at hr6
  have r := r.congr (sc (hΦ 4 (by decide)) (sc g3 (sc (hΦ 2 (by decide)) (sc (hΦ 1 (by decide)) (sc (hΦ 0 (by decide)) rfl)))))
  have z_w4 := hb.size
  have h_b1 := keep hb h_b1
  obtain ⟨hB, zB⟩ := bon hb hB
  have hF1 := znI hF hB b1
  refine za8 r (zcX (F := (fun b => F b ∨ (w0.heap.size ≤ b ∧ b < w4.heap.size ∧ b ≠ b1))) (n := n) hF1 (Rep.mono (by rintro b (h | h); (rcases h with h | ⟨h1, h2, h3⟩; exact .inl h; exact .inr ⟨h1, by omega, h3⟩); exact .inr ⟨by omega, by omega, by omega⟩) (Same.refl _ _) (by omega) n _ _ hr6) (c3n.mono (by omega) (fun b h => .inl h) (Same.below hB hF) hB.size)) (fun R hc => zac r rfl zoK hc) rfl ?_
  rintro _ w7 ⟨v8, rfl, hb, hr9⟩
  refine ⟨_, rfl, fun fr r => ?_⟩
  have z_w7 := hb.size
  have h_b1 := keep hb h_b1
  obtain ⟨hB, zB⟩ := bon hb hB
  refine zae (.cells v8.cells 167 (0, 0)) r (fun R => zaf r hr9.shape rfl rfl h_b1 znT rfl) rfl fun fr w10 u11 r => ?_
  have z_w10 := u11.size
  have h_b1 := u11.at_
  obtain ⟨hB, zB⟩ := u11.on hB (by omega)
  refine wn (wp_ret ?_)
  have hs := hr9.shape.cells
  refine zad r rfl rfl h_b1 (k := 7) hs.1 znS ?_
  rw [← hs.2.2]
  exact rfin hF hB hr9 u11 (by omega) (by omega) (by omega)
def D.zci (j : Nat) (c0 : Int) (c1 : Plan) (c2 : Int) (c3 : (Int → T Int)) (a0 : Int) : T Int := (bif (a0 != (-1)) then (D.zaY c0) else (T.bind (D.zd9 j c1 c2) (fun x => (D.zdV c1 c2 c0 c3 x))))
theorem ziR {n : Nat} {F : Nat → Prop} {j : Nat} {w0 : World} (hF : ∀ b, F b → b < w0.heap.size) (hj : n < j)
    (c0 : Int) {c0b : Nat} (c0F : F c0b) (c0h : w0.heap[c0b]? = some (.cells ([(.int .i64 c0)]).toArray 3 (0, 0))) (c1 : Plan) {c1b : Nat} (c1F : F c1b) (c1h : w0.heap[c1b]? = some (.cells ((znu c1)).toArray 25 (0, 0))) (c2 : Int) {c2b : Nat} (c2F : F c2b) (c2h : w0.heap[c2b]? = some (.cells ([(.int .i64 c2)]).toArray 3 (0, 0))) {c3f : FuncId} {c3_1 c3_2 : List Value} {c3 : (Int → T Int)} {c3b : Nat} (c3F : F c3b) (c3h : w0.heap[c3b]? = some (.cells #[.func (.func c3f) c3_1.toArray c3_2.toArray] 271 (0, 0))) (c3n : FnT Tryz.prog znz i64 (n + 1) F w0 (.func (.func c3f) c3_1.toArray c3_2.toArray) c3) (a0 : Int) :
    Calls Tryz.prog 232 #[.int .i64 a0, zp c0b, zp c1b, zp c2b, zp c3b] w0 (zny Tryz.prog znz n (D.zci j c0 c1 c2 c3 a0) F w0) := by
 refine enter Tryz.func232 rfl 16 rfl rfl fun fr r => ?_
 have hB := Below.refl w0.heap.size w0
 have lc0b := lt_of_block c0h
 have lc1b := lt_of_block c1h
 have lc2b := lt_of_block c2h
 have lc3b := lt_of_block c3h
 refine wsr ?_
 refine za5 (.cells (znt false znz.zero 0 0 0 0 .nilFunc) 167 (0, 0)) r (fun R => zag znV) rfl fun fr b1 w2 n3 r => ?_
 obtain ⟨e_b1, z_w2, h_b1, hB, zB⟩ := n3.all hB
 refine wn (wp_seq (wsr (za0 (I a0) r (fun R => za9 r rfl) rfl fun fr r => za0 _ r (fun R => znA r rfl rfl rfl rfl) rfl fun fr r => wn ?_)))
 refine wp_cond_split (t := (a0 != (-1))) (r.ev rfl) (fun h4 => ?_) (fun h4 => ?_)
 ·
  refine wsr (za0 (I c0) r (fun R => za3 r rfl (keep hB c0h) to3 rfl) rfl fun fr r => ?_)
  have hF1 := znI hF hB b1
  refine za8 r (zbm (F := (fun b => F b ∨ (w0.heap.size ≤ b ∧ b < w2.heap.size ∧ b ≠ b1))) (n := n) hF1 c0) (fun R hc => zac r rfl zoe hc) rfl ?_
  rintro _ w5 ⟨v6, rfl, hb, hr7⟩
  refine ⟨_, rfl, fun fr r => ?_⟩
  have z_w5 := hb.size
  have h_b1 := keep hb h_b1
  obtain ⟨hB, zB⟩ := bon hb hB
  refine zae (.cells v6.cells 167 (0, 0)) r (fun R => zaf r hr7.shape rfl rfl h_b1 znT rfl) rfl fun fr w8 u9 r => ?_
  have z_w8 := u9.size
  have h_b1 := u9.at_
  obtain ⟨hB, zB⟩ := u9.on hB (by omega)
  refine wn (wp_ret ?_)
  have hd : D.zci j c0 c1 c2 c3 a0 = (D.zaY c0) := (zaq h4).trans (rfl)
  have hs := hr7.shape.cells
  refine zad r rfl rfl h_b1 (k := 7) hs.1 znS ?_
  rw [← hs.2.2, hd]
  exact rfin hF hB hr7 u9 (by omega) (by omega) (by omega)
 ·
  refine wp_skip (wsr (za0 (.agg (znu c1).toArray) r (fun R => za6 r (cs := (znu c1)) (n := 6) rfl (keep hB c1h) ta25 rfl) rfl fun fr r => za0 (I c2) r (fun R => za3 r rfl (keep hB c2h) to3 rfl) rfl fun fr r => ?_))
  have hF1 := znI hF hB b1
  refine za8 r (zhB (j := j) (F := (fun b => F b ∨ (w0.heap.size ≤ b ∧ b < w2.heap.size ∧ b ≠ b1))) (n := n) hF1 (by omega) c1 c2) (fun R hc => zac r rfl zql hc) rfl ?_
  rintro _ w10 ⟨v11, rfl, hb, hr12⟩
  refine ⟨_, rfl, fun fr r => ?_⟩
  have z_w10 := hb.size
  have h_b1 := keep hb h_b1
  obtain ⟨hB, zB⟩ := bon hb hB
  refine za0 (.func (.func 233) #[] #[zp c1b, zp c2b, zp c0b, zp c3b]) r (fun R => zao r rfl) rfl fun fr r => ?_
  have hF1 := znI hF hB b1
  have f13 : ((fun b => F b ∨ (w0.heap.size ≤ b ∧ b < w10.heap.size ∧ b ≠ b1))) c1b := (.inl c1F)
  have f14 : ((fun b => F b ∨ (w0.heap.size ≤ b ∧ b < w10.heap.size ∧ b ≠ b1))) c2b := (.inl c2F)
  have f15 : ((fun b => F b ∨ (w0.heap.size ≤ b ∧ b < w10.heap.size ∧ b ≠ b1))) c0b := (.inl c0F)
  have f16 : ((fun b => F b ∨ (w0.heap.size ≤ b ∧ b < w10.heap.size ∧ b ≠ b1))) c3b := (.inl c3F)
  refine za8 r (zcX (F := (fun b => F b ∨ (w0.heap.size ≤ b ∧ b < w10.heap.size ∧ b ≠ b1))) (n := n) hF1 (Rep.mono (by rintro b (h | h); (rcases h with h | ⟨h1, h2, h3⟩; exact .inl h; exact .inr ⟨h1, by omega, h3⟩); exact .inr ⟨by omega, by omega, by omega⟩) (Same.refl _ _) (by omega) n _ _ hr12) ⟨233, [], [zp c1b, zp c2b, zp c0b, zp c3b], zrg, rfl, fun m hm x w' hs hz => zi3 (fun b hb => Nat.lt_of_lt_of_le (hF1 b hb) hz) c1 f13 (hs.at_ f13 (keep hB c1h)) c2 f14 (hs.at_ f14 (keep hB c2h)) c0 f15 (hs.at_ f15 (keep hB c0h)) f16 (hs.at_ f16 (keep hB c3h)) (c3n.mono (by omega) (fun b h => .inl h) ((Same.below hB hF).trans (hs.sub (fun b h => .inl h))) (Nat.le_trans hB.size hz)) x⟩) (fun R hc => zac r rfl zoK hc) rfl ?_
  rintro _ w17 ⟨v18, rfl, hb, hr19⟩
  refine ⟨_, rfl, fun fr r => ?_⟩
  have z_w17 := hb.size
  have h_b1 := keep hb h_b1
  obtain ⟨hB, zB⟩ := bon hb hB
  refine zae (.cells v18.cells 167 (0, 0)) r (fun R => zaf r hr19.shape rfl rfl h_b1 znT rfl) rfl fun fr w20 u21 r => ?_
  have z_w20 := u21.size
  have h_b1 := u21.at_
  obtain ⟨hB, zB⟩ := u21.on hB (by omega)
  refine wn (wp_ret ?_)
  have hd : D.zci j c0 c1 c2 c3 a0 = (T.bind (D.zd9 j c1 c2) (fun x => (D.zdV c1 c2 c0 c3 x))) := (zak h4).trans (rfl)
  have hs := hr19.shape.cells
  refine zad r rfl rfl h_b1 (k := 7) hs.1 znS ?_
  rw [← hs.2.2, hd]
  exact rfin hF hB hr19 u21 (by omega) (by omega) (by omega)
def D.zfB (j : Nat) (a0 : Plan) (a1 : Int) (a2 : Int) : T Int := (T.bind (D.zdI a0 a1 a2) (fun x => (D.zci j a2 a0 a1 (fun x => (D.zbY a2 x)) x)))
theorem zjI {n : Nat} {F : Nat → Prop} {j : Nat} {w0 : World} (hF : ∀ b, F b → b < w0.heap.size) (hj : n < j)
    (a0 : Plan) (a1 : Int) (a2 : Int) :
    Calls Tryz.prog 133 #[.agg (znu a0).toArray, .int .i64 a1, .int .i64 a2] w0 (zny Tryz.prog znz n (D.zfB j a0 a1 a2) F w0) := by
 refine enter Tryz.func133 rfl 15 rfl rfl fun fr r => ?_
 have hB := Below.refl w0.heap.size w0
 refine wsr ?_
 refine za5 (.cells ((znu a0)).toArray 25 (0, 0)) r (fun R => znF r (v := (.agg (znu a0).toArray)) rfl) rfl fun fr b1 w2 n3 r => ?_
 obtain ⟨e_b1, z_w2, h_b1, hB, zB⟩ := n3.all hB
 refine za5 (.cells #[(I a1)] 3 (0, 0)) r (fun R => znF r (v := (I a1)) rfl) rfl fun fr b4 w5 n6 r => ?_
 have h_b1 := keep n6.below h_b1
 obtain ⟨e_b4, z_w5, h_b4, hB, zB⟩ := n6.all hB
 refine za5 (.cells #[(I a2)] 3 (0, 0)) r (fun R => znF r (v := (I a2)) rfl) rfl fun fr b7 w8 n9 r => ?_
 have h_b1 := keep n9.below h_b1
 have h_b4 := keep n9.below h_b4
 obtain ⟨e_b7, z_w8, h_b7, hB, zB⟩ := n9.all hB
 refine za5 (.cells (znt false znz.zero 0 0 0 0 .nilFunc) 167 (0, 0)) r (fun R => zag znV) rfl fun fr b10 w11 n12 r => ?_
 have h_b1 := keep n12.below h_b1
 have h_b4 := keep n12.below h_b4
 have h_b7 := keep n12.below h_b7
 obtain ⟨e_b10, z_w11, h_b10, hB, zB⟩ := n12.all hB
 refine wn (wsr (za0 (.func (.func 228) #[] #[zp b7]) r (fun R => zao r rfl) rfl fun fr r => ?_))
 refine za5 (.cells #[.nilFunc] 271 (0, 0)) r (fun R => zag zqv) rfl fun fr b13 w14 n15 r => ?_
 have h_b1 := keep n15.below h_b1
 have h_b4 := keep n15.below h_b4
 have h_b7 := keep n15.below h_b7
 have h_b10 := keep n15.below h_b10
 obtain ⟨e_b13, z_w14, h_b13, hB, zB⟩ := n15.all hB
 refine zae (.cells #[.func (.func 228) #[] #[zp b7]] 271 (0, 0)) r (fun R => zaS r (o := 0) (v := (.func (.func 228) #[] #[zp b7])) rfl rfl h_b13 zrK (Nat.le_of_ble_eq_true rfl) rfl rfl) rfl fun fr w16 u17 r => ?_
 have z_w16 := u17.size
 have h_b1 := u17.keep h_b1 (by omega)
 have h_b4 := u17.keep h_b4 (by omega)
 have h_b7 := u17.keep h_b7 (by omega)
 have h_b10 := u17.keep h_b10 (by omega)
 have h_b13 := u17.at_
 obtain ⟨hB, zB⟩ := u17.on hB (by omega)
 refine wn (wsr (za0 (.agg (znu a0).toArray) r (fun R => za6 r (cs := (znu a0)) (n := 6) rfl h_b1 ta25 rfl) rfl fun fr r => za0 (I a1) r (fun R => za3 r rfl h_b4 to3 rfl) rfl fun fr r => za0 (I a2) r (fun R => za3 r rfl h_b7 to3 rfl) rfl fun fr r => ?_))
 have hF1 := znI hF hB b10
 refine za8 r (zie (F := (fun b => F b ∨ (w0.heap.size ≤ b ∧ b < w16.heap.size ∧ b ≠ b10))) (n := n) hF1 a0 a1 a2) (fun R hc => zac r rfl zpS hc) rfl ?_
 rintro _ w18 ⟨v19, rfl, hb, hr20⟩
 refine ⟨_, rfl, fun fr r => ?_⟩
 have z_w18 := hb.size
 have h_b1 := keep hb h_b1
 have h_b4 := keep hb h_b4
 have h_b7 := keep hb h_b7
 have h_b10 := keep hb h_b10
 have h_b13 := keep hb h_b13
 obtain ⟨hB, zB⟩ := bon hb hB
 refine za0 (.func (.func 232) #[] #[zp b7, zp b1, zp b4, zp b13]) r (fun R => zao r rfl) rfl fun fr r => ?_
 have hF1 := znI hF hB b10
 have f21 : ((fun b => F b ∨ (w0.heap.size ≤ b ∧ b < w18.heap.size ∧ b ≠ b10))) b7 := (.inr ⟨by omega, by omega, by omega⟩)
 have f22 : ((fun b => F b ∨ (w0.heap.size ≤ b ∧ b < w18.heap.size ∧ b ≠ b10))) b1 := (.inr ⟨by omega, by omega, by omega⟩)
 have f23 : ((fun b => F b ∨ (w0.heap.size ≤ b ∧ b < w18.heap.size ∧ b ≠ b10))) b4 := (.inr ⟨by omega, by omega, by omega⟩)
 have f24 : ((fun b => F b ∨ (w0.heap.size ≤ b ∧ b < w18.heap.size ∧ b ≠ b10))) b13 := (.inr ⟨by omega, by omega, by omega⟩)
 have f26 : ((fun b => F b ∨ (w0.heap.size ≤ b ∧ b < w18.heap.size ∧ b ≠ b10))) b7 := (.inr ⟨by omega, by omega, by omega⟩)
 have q25 : FnT Tryz.prog znz i64 (n + 1) (fun b => F b ∨ (w0.heap.size ≤ b ∧ b < w18.heap.size ∧ b ≠ b10)) w18 (.func (.func 228) #[] #[zp b7]) (fun x => (D.zbY a2 x)) := ⟨228, [], [zp b7], zrZ, rfl, fun m hm x w' hs hz => ziX (fun b hb => Nat.lt_of_lt_of_le (hF1 b hb) hz) a2 f26 (hs.at_ f26 h_b7) x⟩
 refine za8 r (zcX (F := (fun b => F b ∨ (w0.heap.size ≤ b ∧ b < w18.heap.size ∧ b ≠ b10))) (n := n) hF1 (Rep.mono (by rintro b (h | h); (rcases h with h | ⟨h1, h2, h3⟩; exact .inl h; exact .inr ⟨h1, by omega, h3⟩); exact .inr ⟨by omega, by omega, by omega⟩) (Same.refl _ _) (by omega) n _ _ hr20) ⟨232, [], [zp b7, zp b1, zp b4, zp b13], zrh, rfl, fun m hm x w' hs hz => ziR (j := j) (fun b hb => Nat.lt_of_lt_of_le (hF1 b hb) hz) (by omega) a2 f21 (hs.at_ f21 h_b7) a0 f22 (hs.at_ f22 h_b1) a1 f23 (hs.at_ f23 h_b4) f24 (hs.at_ f24 h_b13) (q25.mono (by omega) (fun b h => h) hs hz) x⟩) (fun R hc => zac r rfl zoK hc) rfl ?_
 rintro _ w27 ⟨v28, rfl, hb, hr29⟩
 refine ⟨_, rfl, fun fr r => ?_⟩
 have z_w27 := hb.size
 have h_b1 := keep hb h_b1
 have h_b4 := keep hb h_b4
 have h_b7 := keep hb h_b7
 have h_b10 := keep hb h_b10
 have h_b13 := keep hb h_b13
 obtain ⟨hB, zB⟩ := bon hb hB
 refine zae (.cells v28.cells 167 (0, 0)) r (fun R => zaf r hr29.shape rfl rfl h_b10 znT rfl) rfl fun fr w30 u31 r => ?_
 have z_w30 := u31.size
 have h_b1 := u31.keep h_b1 (by omega)
 have h_b4 := u31.keep h_b4 (by omega)
 have h_b7 := u31.keep h_b7 (by omega)
 have h_b13 := u31.keep h_b13 (by omega)
 have h_b10 := u31.at_
 obtain ⟨hB, zB⟩ := u31.on hB (by omega)
 refine wn (wp_ret ?_)
 have hs := hr29.shape.cells
 refine zad r rfl rfl h_b10 (k := 7) hs.1 znS ?_
 rw [← hs.2.2]
 exact rfin hF hB hr29 u31 (by omega) (by omega) (by omega)
def D.zep (j : Nat) (c0 : Plan) (c1 : Int) (c2 : Int) : T Int := (D.zfB j c0 c1 c2)
theorem zhm {n : Nat} {F : Nat → Prop} {j : Nat} {w0 : World} (hF : ∀ b, F b → b < w0.heap.size) (hj : n < j)
    (c0 : Plan) {c0b : Nat} (c0F : F c0b) (c0h : w0.heap[c0b]? = some (.cells ((znu c0)).toArray 25 (0, 0))) (c1 : Int) {c1b : Nat} (c1F : F c1b) (c1h : w0.heap[c1b]? = some (.cells ([(.int .i64 c1)]).toArray 3 (0, 0))) (c2 : Int) {c2b : Nat} (c2F : F c2b) (c2h : w0.heap[c2b]? = some (.cells ([(.int .i64 c2)]).toArray 3 (0, 0))) :
    Calls Tryz.prog 201 #[zp c0b, zp c1b, zp c2b] w0 (zny Tryz.prog znz n (D.zep j c0 c1 c2) F w0) := by
 refine enter Tryz.func201 rfl 8 rfl rfl fun fr r => ?_
 have hB := Below.refl w0.heap.size w0
 have lc0b := lt_of_block c0h
 have lc1b := lt_of_block c1h
 have lc2b := lt_of_block c2h
 refine wsr ?_
 refine za5 (.cells (znt false znz.zero 0 0 0 0 .nilFunc) 167 (0, 0)) r (fun R => zag znV) rfl fun fr b1 w2 n3 r => ?_
 obtain ⟨e_b1, z_w2, h_b1, hB, zB⟩ := n3.all hB
 refine wn (wsr (za0 (.agg (znu c0).toArray) r (fun R => za6 r (cs := (znu c0)) (n := 6) rfl (keep hB c0h) ta25 rfl) rfl fun fr r => za0 (I c1) r (fun R => za3 r rfl (keep hB c1h) to3 rfl) rfl fun fr r => za0 (I c2) r (fun R => za3 r rfl (keep hB c2h) to3 rfl) rfl fun fr r => ?_))
 have hF1 := znI hF hB b1
 refine za8 r (zjI (j := j) (F := (fun b => F b ∨ (w0.heap.size ≤ b ∧ b < w2.heap.size ∧ b ≠ b1))) (n := n) hF1 (by omega) c0 c1 c2) (fun R hc => zac r rfl zrP hc) rfl ?_
 rintro _ w4 ⟨v5, rfl, hb, hr6⟩
 refine ⟨_, rfl, fun fr r => ?_⟩
 have z_w4 := hb.size
 have h_b1 := keep hb h_b1
 obtain ⟨hB, zB⟩ := bon hb hB
 refine zae (.cells v5.cells 167 (0, 0)) r (fun R => zaf r hr6.shape rfl rfl h_b1 znT rfl) rfl fun fr w7 u8 r => ?_
 have z_w7 := u8.size
 have h_b1 := u8.at_
 obtain ⟨hB, zB⟩ := u8.on hB (by omega)
 refine wn (wp_ret ?_)
 have hs := hr6.shape.cells
 refine zad r rfl rfl h_b1 (k := 7) hs.1 znS ?_
 rw [← hs.2.2]
 exact rfin hF hB hr6 u8 (by omega) (by omega) (by omega)
def D.zfj (j : Nat) (c0 : Plan) (c1 : Int) (c2 : Int) (a0 : Int) : T Int := (D.zbe (D.zaH c0 c1) (D.zas (D.zbg ((D.zan a0).1))) (fun _ => (D.zep j c0 c2 c1)))
theorem ziw {n : Nat} {F : Nat → Prop} {j : Nat} {w0 : World} (hF : ∀ b, F b → b < w0.heap.size) (hj : n < j)
    (c0 : Plan) {c0b : Nat} (c0F : F c0b) (c0h : w0.heap[c0b]? = some (.cells ((znu c0)).toArray 25 (0, 0))) (c1 : Int) {c1b : Nat} (c1F : F c1b) (c1h : w0.heap[c1b]? = some (.cells ([(.int .i64 c1)]).toArray 3 (0, 0))) (c2 : Int) {c2b : Nat} (c2F : F c2b) (c2h : w0.heap[c2b]? = some (.cells ([(.int .i64 c2)]).toArray 3 (0, 0))) (a0 : Int) :
    Calls Tryz.prog 199 #[.int .u64 a0, zp c0b, zp c1b, zp c2b] w0 (zny Tryz.prog znz n (D.zfj j c0 c1 c2 a0) F w0) := by
 refine enter Tryz.func199 rfl 21 rfl rfl fun fr r => ?_
 have hB := Below.refl w0.heap.size w0
 have lc0b := lt_of_block c0h
 have lc1b := lt_of_block c1h
 have lc2b := lt_of_block c2h
 refine wsr ?_
 refine za5 (.cells (znt false znz.zero 0 0 0 0 .nilFunc) 167 (0, 0)) r (fun R => zag znV) rfl fun fr b1 w2 n3 r => ?_
 obtain ⟨e_b1, z_w2, h_b1, hB, zB⟩ := n3.all hB
 refine wn (wsr (za0 (U a0) r (fun R => za9 r rfl) rfl fun fr r => ?_))
 refine za8 r (zeK w2 a0) (fun R hc => zac r rfl cl67 hc) rfl ?_
 rintro _ w4 ⟨rfl, hb⟩
 refine ⟨_, rfl, fun fr r => ?_⟩
 have z_w4 := hb.size
 have h_b1 := keep hb h_b1
 obtain ⟨hB, zB⟩ := bon hb hB
 refine za0 (.tuple #[(.agg (znD (D.zan a0).1).toArray), (.bool (D.zan a0).2)]) r (fun R => za9 r rfl) rfl fun fr r => za0 (.agg (znD (D.zan a0).1).toArray) r (fun R => zb5 r (vs := #[(.agg (znD (D.zan a0).1).toArray), (.bool (D.zan a0).2)]) rfl rfl) rfl fun fr r => za0 (.bool (D.zan a0).2) r (fun R => zb5 r (vs := #[(.agg (znD (D.zan a0).1).toArray), (.bool (D.zan a0).2)]) rfl rfl) rfl fun fr r => ?_
 refine za5 (.cells ((znD (⟨0, 0, 0⟩ : State))).toArray 118 (0, 0)) r (fun R => zag zoh) rfl fun fr b5 w6 n7 r => ?_
 have h_b1 := keep n7.below h_b1
 obtain ⟨e_b5, z_w6, h_b5, hB, zB⟩ := n7.all hB
 refine zae (.cells ((znD ((D.zan a0).1))).toArray 118 (0, 0)) r (fun R => zaS r (o := 0) (v := (.agg (znD (D.zan a0).1).toArray)) rfl rfl h_b5 zoa (Nat.le_of_ble_eq_true rfl) rfl rfl) rfl fun fr w8 u9 r => ?_
 have z_w8 := u9.size
 have h_b1 := u9.keep h_b1 (by omega)
 have h_b5 := u9.at_
 obtain ⟨hB, zB⟩ := u9.on hB (by omega)
 refine za0 (.bool (D.zan a0).2) r (fun R => za7 r rfl) rfl fun fr r => wn (wp_seq ?_)
 refine zaI 7 [.val (.agg (znu c0).toArray), .val (I c1), .val (I (D.zaH c0 c1)), .val (.agg (znD (D.zan a0).1).toArray), .val (.agg (znD (D.zbg ((D.zan a0).1))).toArray), .val (U (D.zas (D.zbg ((D.zan a0).1)))), .val (.func (.func 201) #[] #[zp c0b, zp c2b, zp c1b])] mixed r (by kernel_rfl) (za2 (by exact trivial) (za2 (by exact trivial) (za2 (by exact trivial) (za2 (by exact trivial) (za2 (by exact trivial) (za2 (by exact trivial) (za2 (by exact trivial) zaC))))))) ?_ ?_
 ·
  refine ec r (fun _ u _ b d s => za6 s (cs := (znu c0)) (n := 6) rfl (znU hB b c0h) ta25 rfl bz) (ec r (fun _ u _ b d s => za3 s rfl (znU hB b c1h) to3 rfl bz) (ec r (fun fr1 u w' hb' hd r' => zac r' (args := [(.agg (znu c0).toArray), (I c1)]) (lc hd.1 (lc hd.2.1 l0)) cl68 ((zbO _ c0 c1).mono (by rintro _ w2 ⟨rfl, hb2⟩; exact ⟨_, rfl, hb2, rfl⟩))) (ec r (fun _ u _ b d s => za6 s (cs := (znD ((D.zan a0).1))) (n := 3) rfl (keep b h_b5) zo8 rfl bz) (ec r (fun fr1 u w' hb' hd r' => zac r' (args := [(.agg (znD (D.zan a0).1).toArray)]) (lc hd.1 l0) zry ((zgP _ ((D.zan a0).1)).mono (by rintro _ w2 ⟨rfl, hb2⟩; exact ⟨_, rfl, hb2, rfl⟩))) (ec r (fun fr1 u w' hb' hd r' => zac r' (args := [(.agg (znD (D.zbg ((D.zan a0).1))).toArray)]) (lc hd.1 l0) cl91 ((zcm _ (D.zbg ((D.zan a0).1))).mono (by rintro _ w2 ⟨rfl, hb2⟩; exact ⟨_, rfl, hb2, rfl⟩))) (ec r (fun _ u _ b d s => zao s (v := (.func (.func 201) #[] #[zp c0b, zp c2b, zp c1b])) rfl bz) ?_))))))
  exact zaV
 ·
  intro fr u w10 hb hΦ hne r
  have r := r.congr (sc (hΦ 6 (by decide)) (sc (hΦ 5 (by decide)) (sc (hΦ 4 (by decide)) (sc (hΦ 3 (by decide)) (sc (hΦ 2 (by decide)) (sc (hΦ 1 (by decide)) (sc (hΦ 0 (by decide)) rfl)))))))
  have z_w10 := hb.size
  have h_b1 := keep hb h_b1
  have h_b5 := keep hb h_b5
  obtain ⟨hB, zB⟩ := bon hb hB
  have hF1 := znI hF hB b1
  have f11 : ((fun b => F b ∨ (w0.heap.size ≤ b ∧ b < w10.heap.size ∧ b ≠ b1))) c0b := (.inl c0F)
  have f12 : ((fun b => F b ∨ (w0.heap.size ≤ b ∧ b < w10.heap.size ∧ b ≠ b1))) c2b := (.inl c2F)
  have f13 : ((fun b => F b ∨ (w0.heap.size ≤ b ∧ b < w10.heap.size ∧ b ≠ b1))) c1b := (.inl c1F)
  refine za8 r (zbK (F := (fun b => F b ∨ (w0.heap.size ≤ b ∧ b < w10.heap.size ∧ b ≠ b1))) (n := n) hF1 (D.zaH c0 c1) (D.zas (D.zbg ((D.zan a0).1))) ⟨201, [], [zp c0b, zp c2b, zp c1b], zs9, rfl, fun m hm _ w' hs hz => zhm (j := j) (fun b hb => Nat.lt_of_lt_of_le (hF1 b hb) hz) (by omega) c0 f11 (hs.at_ f11 (keep hB c0h)) c2 f12 (hs.at_ f12 (keep hB c2h)) c1 f13 (hs.at_ f13 (keep hB c1h))⟩) (fun R hc => zac r rfl zon hc) rfl ?_
  rintro _ w14 ⟨v15, rfl, hb, hr16⟩
  refine ⟨_, rfl, fun fr r => ?_⟩
  have z_w14 := hb.size
  have h_b1 := keep hb h_b1
  have h_b5 := keep hb h_b5
  obtain ⟨hB, zB⟩ := bon hb hB
  refine zae (.cells v15.cells 167 (0, 0)) r (fun R => zaf r hr16.shape rfl rfl h_b1 znT rfl) rfl fun fr w17 u18 r => ?_
  have z_w17 := u18.size
  have h_b5 := u18.keep h_b5 (by omega)
  have h_b1 := u18.at_
  obtain ⟨hB, zB⟩ := u18.on hB (by omega)
  refine wn (wp_ret ?_)
  have hs := hr16.shape.cells
  refine zad r rfl rfl h_b1 (k := 7) hs.1 znS ?_
  rw [← hs.2.2]
  exact rfin hF hB hr16 u18 (by omega) (by omega) (by omega)
def D.zek (j : Nat) (a0 : Plan) (a1 : Int) (a2 : Int) : T Int := (D.zb9 (D.zaH a0 a2) (fun x => (D.zfj j a0 a2 a1 x)))
theorem zj9 {n : Nat} {F : Nat → Prop} {j : Nat} {w0 : World} (hF : ∀ b, F b → b < w0.heap.size) (hj : n < j)
    (a0 : Plan) (a1 : Int) (a2 : Int) :
    Calls Tryz.prog 93 #[.agg (znu a0).toArray, .int .i64 a1, .int .i64 a2] w0 (zny Tryz.prog znz n (D.zek j a0 a1 a2) F w0) := by
 refine enter Tryz.func93 rfl 12 rfl rfl fun fr r => ?_
 have hB := Below.refl w0.heap.size w0
 refine wsr ?_
 refine za5 (.cells ((znu a0)).toArray 25 (0, 0)) r (fun R => znF r (v := (.agg (znu a0).toArray)) rfl) rfl fun fr b1 w2 n3 r => ?_
 obtain ⟨e_b1, z_w2, h_b1, hB, zB⟩ := n3.all hB
 refine za5 (.cells #[(I a1)] 3 (0, 0)) r (fun R => znF r (v := (I a1)) rfl) rfl fun fr b4 w5 n6 r => ?_
 have h_b1 := keep n6.below h_b1
 obtain ⟨e_b4, z_w5, h_b4, hB, zB⟩ := n6.all hB
 refine za5 (.cells #[(I a2)] 3 (0, 0)) r (fun R => znF r (v := (I a2)) rfl) rfl fun fr b7 w8 n9 r => ?_
 have h_b1 := keep n9.below h_b1
 have h_b4 := keep n9.below h_b4
 obtain ⟨e_b7, z_w8, h_b7, hB, zB⟩ := n9.all hB
 refine za5 (.cells (znt false znz.zero 0 0 0 0 .nilFunc) 167 (0, 0)) r (fun R => zag znV) rfl fun fr b10 w11 n12 r => ?_
 have h_b1 := keep n12.below h_b1
 have h_b4 := keep n12.below h_b4
 have h_b7 := keep n12.below h_b7
 obtain ⟨e_b10, z_w11, h_b10, hB, zB⟩ := n12.all hB
 refine wn (wsr (za0 (.agg (znu a0).toArray) r (fun R => za6 r (cs := (znu a0)) (n := 6) rfl h_b1 ta25 rfl) rfl fun fr r => za0 (I a2) r (fun R => za3 r rfl h_b7 to3 rfl) rfl fun fr r => ?_))
 refine za8 r (zbO w11 a0 a2) (fun R hc => zac r rfl cl68 hc) rfl ?_
 rintro _ w13 ⟨rfl, hb⟩
 refine ⟨_, rfl, fun fr r => ?_⟩
 have z_w13 := hb.size
 have h_b1 := keep hb h_b1
 have h_b4 := keep hb h_b4
 have h_b7 := keep hb h_b7
 have h_b10 := keep hb h_b10
 obtain ⟨hB, zB⟩ := bon hb hB
 refine za0 (.func (.func 199) #[] #[zp b1, zp b7, zp b4]) r (fun R => zao r rfl) rfl fun fr r => ?_
 have hF1 := znI hF hB b10
 have f14 : ((fun b => F b ∨ (w0.heap.size ≤ b ∧ b < w13.heap.size ∧ b ≠ b10))) b1 := (.inr ⟨by omega, by omega, by omega⟩)
 have f15 : ((fun b => F b ∨ (w0.heap.size ≤ b ∧ b < w13.heap.size ∧ b ≠ b10))) b7 := (.inr ⟨by omega, by omega, by omega⟩)
 have f16 : ((fun b => F b ∨ (w0.heap.size ≤ b ∧ b < w13.heap.size ∧ b ≠ b10))) b4 := (.inr ⟨by omega, by omega, by omega⟩)
 refine za8 r (zbG (F := (fun b => F b ∨ (w0.heap.size ≤ b ∧ b < w13.heap.size ∧ b ≠ b10))) (n := n) hF1 (D.zaH a0 a2) ⟨199, [], [zp b1, zp b7, zp b4], zrU, rfl, fun m hm x w' hs hz => ziw (j := j) (fun b hb => Nat.lt_of_lt_of_le (hF1 b hb) hz) (by omega) a0 f14 (hs.at_ f14 h_b1) a2 f15 (hs.at_ f15 h_b7) a1 f16 (hs.at_ f16 h_b4) x⟩) (fun R hc => zac r rfl zoj hc) rfl ?_
 rintro _ w17 ⟨v18, rfl, hb, hr19⟩
 refine ⟨_, rfl, fun fr r => ?_⟩
 have z_w17 := hb.size
 have h_b1 := keep hb h_b1
 have h_b4 := keep hb h_b4
 have h_b7 := keep hb h_b7
 have h_b10 := keep hb h_b10
 obtain ⟨hB, zB⟩ := bon hb hB
 refine zae (.cells v18.cells 167 (0, 0)) r (fun R => zaf r hr19.shape rfl rfl h_b10 znT rfl) rfl fun fr w20 u21 r => ?_
 have z_w20 := u21.size
 have h_b1 := u21.keep h_b1 (by omega)
 have h_b4 := u21.keep h_b4 (by omega)
 have h_b7 := u21.keep h_b7 (by omega)
 have h_b10 := u21.at_
 obtain ⟨hB, zB⟩ := u21.on hB (by omega)
 refine wn (wp_ret ?_)
 have hs := hr19.shape.cells
 refine zad r rfl rfl h_b10 (k := 7) hs.1 znS ?_
 rw [← hs.2.2]
 exact rfin hF hB hr19 u21 (by omega) (by omega) (by omega)
end Go.Proofs.YtjkinpbfmihhdaaGreat

/- Ours. -/
set_option maxRecDepth 20000
set_option maxHeartbeats 2000000
namespace Go.Proofs.YtjkinpbfmihhdaaGreat
open Go.RowKit
theorem cl28 : znv Tryz.prog 28 = true := by kernel_rfl
theorem cl39 : znv Tryz.prog 39 = true := by kernel_rfl
theorem cl89 : znv Tryz.prog 89 = true := by kernel_rfl
theorem zn9 : znH Tryz.prog 153 0 0 = true := by kernel_rfl
theorem zmd : znH Tryz.prog 153 2 2 = true := by kernel_rfl
theorem to30 : tyO Tryz.prog 30 = true := by kernel_rfl
theorem ts25 : sized Tryz.prog 25 6 = true := by kernel_rfl
theorem tz25 : zeroOf Tryz.prog 25 = some (.agg (znu (⟨0, 0, 0, 0, 0, 0⟩ : Plan)).toArray) := by kernel_rfl
end Go.Proofs.YtjkinpbfmihhdaaGreat

/- Ours. -/
namespace Go.Proofs.YtjkinpbfmihhdaaGreat
open Go.RowKit
theorem zlt {at_ : Int} {f : Int → T Grant} {ws ws' : List Int} {n : Nat} {r : Grant} (h0 : 0 ≤ at_) (h1 : at_ < ws.length) (h : Runs (f (rd ws at_)) ws n r ws') : Runs (D.zeR at_ f) ws (n + 1) r ws' := Runs.load h0 h1 h
theorem zkQ {at_ w : Int} {f : Unit → T Grant} {ws ws' : List Int} {n : Nat} {r : Grant} (h0 : 0 ≤ at_) (h1 : at_ < ws.length) (h : Runs (f ()) (ws.set at_.toNat w) n r ws') : Runs (D.zev at_ w f) ws (n + 1) r ws' := Runs.store h0 h1 h
def sp (p : Plan) (n : Int) : Int := D.zaa p + n * 5
section
variable {p : Plan} (hp : PF p) {n : Int} (hn : 0 ≤ n ∧ n < p.nodes)
include hp hn
theorem zo9 : 0 < sp p n ∧ sp p n + 5 ≤ D.zaA p ∧ D.zaH p n = sp p n := by
  have hN := zbv hp
  have hS := zd3 hp
  refine ⟨by unfold sp; omega, by unfold sp; omega, by rw [zpp hp hn]; rfl⟩
end
theorem SF.live {s : State} (h : SF s) {k : Int} (hk : 0 ≤ k ∧ k ≤ 2) : SF (D.zb1 s k) := ⟨h.g0, h.g1, by show (0 : Int) ≤ 1; omega, by show (1 : Int) ≤ 3; omega, hk.1, hk.2⟩
theorem SF.retire {s : State} (h : SF s) : SF (D.zbg s) := ⟨h.g0, h.g1, by show (0 : Int) ≤ 2; omega, by show (2 : Int) ≤ 3; omega, h.k0, h.k1⟩
theorem SF.freed {s : State} (h : SF s) {m : Int} (hm : m ≤ 1073741823) : SF (D.zai s m) := by
  unfold D.zai
  have := h.g0
  have := h.g1
  by_cases e : s.gen ≥ m
  · rw [show decide (s.gen ≥ m) = true from by simpa using e]
    exact ⟨h.g0, h.g1, by show (0 : Int) ≤ 3; omega, by show (3 : Int) ≤ 3; omega, by show (0 : Int) ≤ 0; omega, by show (0 : Int) ≤ 2; omega⟩
  · rw [show decide (s.gen ≥ m) = false from by simpa using e]
    simp only [cond_false]
    rw [zaT (x := s.gen + 1) (by omega) (by omega)]
    exact ⟨by show 0 ≤ s.gen + 1; omega, by show s.gen + 1 ≤ _; omega, by show (0 : Int) ≤ 0; omega, by show (0 : Int) ≤ 3; omega, by show (0 : Int) ≤ 0; omega, by show (0 : Int) ≤ 2; omega⟩
def StAt (p : Plan) (ws : List Int) (n : Int) (s : State) : Prop := rd ws (sp p n) = D.zas s ∧ SF s
theorem StAt.of {p : Plan} {ws : List Int} {n : Int} {s : State} (h : StAt p ws n s) : D.zan (rd ws (sp p n)) = (s, true) := by rw [h.1]; exact zna h.2
theorem zlk {p : Plan} (hp : PF p) {ws : List Int} {n k : Int} {s : State} (hn : 0 ≤ n ∧ n < p.nodes) (hl : Len p ws) (hs : StAt p ws n s) :
    Runs (D.zd8 p n k) ws 2 ⟨n, s.gen, 0⟩ (ws.set (sp p n).toNat (D.zas (D.zb1 s k))) := by
  obtain ⟨q1, q2, q3⟩ := zo9 hp hn
  unfold Len at hl
  unfold D.zd8
  rw [q3]
  refine zlt (by omega) (by omega) ?_
  unfold D.zfO
  rw [hs.of, q3]
  exact zkQ (by omega) (by omega) (.done _ _)
theorem zkb {p : Plan} (hp : PF p) {ws : List Int} {n k : Int} {l : List Int} {g : Int} {s : State} (hF : FreeAt p ws (n :: l) g) (hnn : p.nodes ≤ 1000000) (hg : g < 1000000) (hs : StAt p ws n s) (hk : 0 ≤ k ∧ k ≤ 2) (J : Nat) {G : Int → T Grant} (hG : G n = D.zd8 p n k) :
    ∃ ws', Runs (T.bind (D.zbW (J + 1) p) G) ws 5 ⟨n, s.gen, 0⟩ ws' ∧ ws'.length = ws.length ∧ FreeAt p ws' l (g + 1) ∧ StAt p ws' n (D.zb1 s k) ∧ ∀ j, 0 < j → j ≠ sp p n → rd ws' j = rd ws j := by
  have hn := hF.range n (List.mem_cons_self ..)
  obtain ⟨q1, q2, q3⟩ := zo9 hp hn
  obtain ⟨hr, hF2⟩ := zmj hp hF hnn hg J
  have hN := zbv hp
  have hl := hF.len
  have hl2 := hF2.len
  have hs0 := hs.1
  generalize hu : ws.set (0 : Int).toNat ((g + 1) * 2097152 + first l) = u at hr hF2 hl2
  have hul : u.length = ws.length := by rw [← hu, List.length_set]
  have hur : ∀ j, 0 < j → rd u j = rd ws j := fun j hj => by rw [← hu, zbt (by omega) (by omega) (by omega), if_neg (by omega)]
  have hsu : StAt p u n s := ⟨by rw [hur _ q1]; exact hs0, hs.2⟩
  have hg2 := zlk hp (k := k) hn hl2 hsu
  refine ⟨u.set (sp p n).toNat (D.zas (D.zb1 s k)), ?_, by rw [List.length_set, hul], ?_, ⟨?_, hs.2.live hk⟩, fun j hj hne => ?_⟩
  · exact (Runs.bind (g := G) hr (by rw [hG]; exact hg2)).cast (show 3 + 2 = 5 from rfl)
  · refine hF2.keep (by rw [List.length_set]) ?_ fun m hm => ?_
    · rw [zbt (by omega) (by omega) (by omega), if_neg (by omega)]
    · have hmr := hF2.range m hm
      have : nx p m ≠ sp p n := by unfold nx sp; omega
      rw [zbt (by omega) (by omega) (by unfold nx; omega), if_neg this]
  · rw [zbt (by omega) (by omega) (by omega), if_pos rfl]
  · rw [zbt (by omega) (by omega) (by omega), if_neg hne, hur j hj]
theorem zjP {p : Plan} (hp : PF p) {ws : List Int} {n k t : Int} {l : List Int} {g : Int} {s : State} (hF : FreeAt p ws (n :: l) g) (hnn : p.nodes ≤ 1000000) (hg : g < 1000000) (hs : StAt p ws n s) (hk : 0 ≤ k ∧ k ≤ 2) (J : Nat) :
    ∃ ws', Runs (D.ze2 (J + 1) p t k) ws 5 ⟨n, s.gen, 0⟩ ws' ∧ ws'.length = ws.length ∧ FreeAt p ws' l (g + 1) ∧ StAt p ws' n (D.zb1 s k) ∧ ∀ j, 0 < j → j ≠ sp p n → rd ws' j = rd ws j := by
  have hn := hF.range n (List.mem_cons_self ..)
  refine zkb hp hF hnn hg hs hk J (G := fun x => D.zcs (J + 1) p k t (fun x => D.zbl p k x) x) ?_
  unfold D.zcs
  rw [show (n != -1) = true from by simp; omega]
  rfl
theorem zjq {p : Plan} (hp : PF p) {ws : List Int} {k g : Int} (hF : FreeAt p ws [] g) (hg : g < 1000000) (J : Nat) : Runs (T.bind (D.zbW (J + 1) p) (fun x => D.zbl p k x)) ws 1 ⟨-1, 0, 4⟩ ws :=
  (Runs.bind (g := fun x => D.zbl p k x) (zjW hp hF hg J) (.done _ _)).cast (show 1 + 0 = 1 from rfl)
theorem zjn {p : Plan} (hp : PF p) {ws : List Int} {n k : Int} {l : List Int} {g : Int} {s : State} (hF : FreeAt p ws (n :: l) g) (hnn : p.nodes ≤ 1000000) (hg : g < 1000000) (hs : StAt p ws n s) (hk : 0 ≤ k ∧ k ≤ 2) (J : Nat) :
    ∃ ws', Runs (T.bind (D.zbW (J + 1) p) (fun x => D.zbl p k x)) ws 5 ⟨n, s.gen, 0⟩ ws' ∧ ws'.length = ws.length ∧ FreeAt p ws' l (g + 1) ∧ StAt p ws' n (D.zb1 s k) ∧ ∀ j, 0 < j → j ≠ sp p n → rd ws' j = rd ws j := by
  have hn := hF.range n (List.mem_cons_self ..)
  refine zkb hp hF hnn hg hs hk J (G := fun x => D.zbl p k x) ?_
  unfold D.zbl
  rw [show (n == -1) = false from by simp; omega]
  rfl
theorem zlp {p : Plan} (hp : PF p) {ws : List Int} {t n : Int} {r : List Int} (ht : 0 ≤ t ∧ t < p.threads) (hn : 0 ≤ n ∧ n < p.nodes) (hnn : p.nodes ≤ 1000000) (hl : Len p ws) (h : RetAt p ws t r) (hf : (r.length : Int) < p.retire) (J : Nat) :
    ∃ ws', Runs (D.zfB J p t n) ws 3 n ws' ∧ ws'.length = ws.length ∧ RetAt p ws' t (r ++ [n]) ∧ ∀ j, 0 ≤ j → j ≠ rb p t → j ≠ rb p t + 1 + r.length → rd ws' j = rd ws j := by
  obtain ⟨ws', hr, hl', hR, ho⟩ := zli hp ht hn hnn hl h hf
  refine ⟨ws', ?_, hl', hR, ho⟩
  refine (Runs.bind (g := fun x => D.zci J n p t (fun x => D.zbY n x) x) hr ?_).cast (show 3 + 0 = 3 from rfl)
  unfold D.zci
  rw [show ((r.length : Int) + 1 != -1) = true from by simp; omega]
  exact .done _ _
theorem zmV : D.zas ⟨0, 0, 0⟩ = 0 := by rw [zl3 ⟨by decide, by decide, by decide, by decide, by decide, by decide⟩]; rfl
theorem zjz {p : Plan} (hp : PF p) {ws : List Int} (h : LaidAt p ws) {n : Int} (hn : 0 ≤ n ∧ n < p.nodes) : StAt p ws n ⟨0, 0, 0⟩ := by
  obtain ⟨q1, q2, q3⟩ := zo9 hp hn
  refine ⟨?_, by decide, by decide, by decide, by decide, by decide, by decide⟩
  rw [zmV]
  exact h.zero _ q1 fun m _ _ => by unfold sp; omega
theorem zlc {p : Plan} (hp : PF p) {ws : List Int} (h : LaidAt p ws) {t : Int} (ht : 0 ≤ t ∧ t < p.threads) : RetAt p ws t [] := by
  obtain ⟨q1, q2, q3⟩ := zo0 hp ht
  have hr1 := hp.r1
  have ht1 := hp.t1
  exact ⟨h.zero _ q3 fun m _ _ => by omega, by simp; omega, fun i hi => (by cases hi), fun _ h => (by cases h)⟩
structure GrantI (p : Plan) (k : Int) (i : Nat) (ws : List Int) : Prop where
  free : FreeAt p ws ((List.range' i (p.nodes.toNat - i)).map fun (q : Nat) => (q : Int)) i
  ret : RetAt p ws 0 []
  live : ∀ n : Int, 0 ≤ n → n < i → StAt p ws n ⟨0, 1, k⟩
  rest : ∀ n : Int, i ≤ n → n < p.nodes → StAt p ws n ⟨0, 0, 0⟩
theorem GrantI.start {p : Plan} (hp : PF p) {ws : List Int} (h : LaidAt p ws) (k : Int) : GrantI p k 0 ws := by
  have hn1 := hp.n1
  have ht1 := hp.t1
  exact ⟨zkd hp h, zlc hp h ⟨by omega, by omega⟩, fun n h0 h1 => by omega, fun n h0 h1 => zjz hp h ⟨by omega, h1⟩⟩
theorem GrantI.step {p : Plan} (hp : PF p) (hnn : p.nodes ≤ 40) {k : Int} (hk : 0 ≤ k ∧ k ≤ 2) {i : Nat} {ws : List Int} (h : GrantI p k i ws) (hi : (i : Int) < p.nodes) (J : Nat) :
    ∃ ws', Runs (D.ze2 (J + 1) p 0 k) ws 5 ⟨i, 0, 0⟩ ws' ∧ GrantI p k (i + 1) ws' ∧ ∀ j, 0 < j → j < D.zaa p → rd ws' j = rd ws j := by
  have hN := zbv hp
  have ht1 := hp.t1
  obtain ⟨d, hd⟩ : ∃ d, p.nodes.toNat - i = d + 1 := ⟨p.nodes.toNat - i - 1, by omega⟩
  have hF := h.free
  rw [hd, List.range'_succ, List.map_cons] at hF
  have hs := h.rest i (by omega) hi
  obtain ⟨ws', hr, hl, hF2, hst, ho⟩ := zjP hp (t := 0) hF (by omega) (by omega) hs hk J
  obtain ⟨p1, p2, p3⟩ := zo0 hp (t := 0) ⟨by omega, by omega⟩
  refine ⟨ws', hr, ⟨?_, h.ret.keep fun j h0 h1 => ho j (by omega) (by unfold sp; omega), fun n h0 h1 => ?_, fun n h0 h1 => ?_⟩, fun j h0 h1 => ho j h0 (by unfold sp; omega)⟩
  · rw [show p.nodes.toNat - (i + 1) = d from by omega]
    exact hF2
  · by_cases e : n = (i : Int)
    · subst e; exact hst
    · have hv := h.live n h0 (by omega)
      exact ⟨by rw [ho _ (by unfold sp; omega) (by unfold sp; omega)]; exact hv.1, hv.2⟩
  · have hv := h.rest n (by omega) h1
    exact ⟨by rw [ho _ (by unfold sp; omega) (by unfold sp; omega)]; exact hv.1, hv.2⟩
end Go.Proofs.YtjkinpbfmihhdaaGreat

/- Ours. -/
namespace Go.Proofs.YtjkinpbfmihhdaaGreat
open Go.RowKit
theorem zjs : ∀ (k : Nat) (r : List Int), k = r.length → znY (fun _ => false) k r = ([], r.reverse)
  | 0, r, h => by rw [List.length_eq_zero_iff.1 h.symm]; rfl
  | k + 1, r, h => by
    rcases List.eq_nil_or_concat r with rfl | ⟨s, z, rfl⟩
    · cases h
    rw [List.concat_eq_append] at *
    have hk : k = s.length := by simpa using h
    have e1 : (s ++ [z])[k]? = some z := by rw [hk]; simp
    have e2 : ((s ++ [z]).set k (((s ++ [z]).getLast?).getD 0)).dropLast = s := by
      rw [hk]; simp
    simp only [znY, e1, Bool.false_eq_true, if_false, e2, zjs k s hk]
    simp
structure Pool where
  fr : List Int
  rt : List Int
  st : Int → State
def Pool.back (m : Int) (P : Pool) (n : Int) : Pool :=
  ⟨if (D.zai (P.st n) m).mode = 3 then P.fr else n :: P.fr, P.rt, fun q => if q = n then D.zai (P.st n) m else P.st q⟩
def Pool.scan (P : Pool) (m : Int) : Pool := P.rt.reverse.foldl (Pool.back m) ⟨P.fr, [], P.st⟩
theorem zjV (m : Int) : ∀ (l : List Int) (P : Pool), (l.foldl (Pool.back m) P).rt = P.rt
  | [], _ => rfl
  | n :: l, P => by rw [List.foldl_cons, zjV m l]; rfl
theorem ziN (m : Int) : ∀ (l : List Int) (P : Pool), l.Nodup → ∀ n, (l.foldl (Pool.back m) P).st n = if n ∈ l then D.zai (P.st n) m else P.st n
  | [], _, _, _ => rfl
  | a :: l, P, hn, n => by
    obtain ⟨h1, h2⟩ := List.nodup_cons.1 hn
    rw [List.foldl_cons, ziN m l _ h2]
    by_cases e : n = a
    · subst e
      rw [if_neg h1, if_pos (List.mem_cons_self ..)]
      exact if_pos rfl
    · have hs : (Pool.back m P a).st n = P.st n := if_neg e
      rw [hs]
      by_cases h : n ∈ l
      · rw [if_pos h, if_pos (List.mem_cons_of_mem _ h)]
      · rw [if_neg h, if_neg (fun h' => by rcases List.mem_cons.1 h' with h' | h'; exact e h'; exact h h')]
theorem zj2 (m : Int) : ∀ (l : List Int) (P : Pool), l.Nodup → (l.foldl (Pool.back m) P).fr = l.foldl (fun l n => if (D.zai (P.st n) m).mode = 3 then l else n :: l) P.fr
  | [], _, _ => rfl
  | a :: l, P, hn => by
    obtain ⟨h1, h2⟩ := List.nodup_cons.1 hn
    rw [List.foldl_cons, List.foldl_cons, zj2 m l _ h2]
    have : ∀ (k : List Int) (L L' : List Int), (∀ q, q ∈ k → q ≠ a) → L = L' → k.foldl (fun l n => if (D.zai ((Pool.back m P a).st n) m).mode = 3 then l else n :: l) L = k.foldl (fun l n => if (D.zai (P.st n) m).mode = 3 then l else n :: l) L' := by
      intro k
      induction k with
      | nil => rintro L _ _ rfl; rfl
      | cons q k ih =>
        rintro L _ hq rfl
        rw [List.foldl_cons, List.foldl_cons]
        have hs : (Pool.back m P a).st q = P.st q := if_neg (hq q (List.mem_cons_self ..))
        exact ih _ _ (fun q' h => hq q' (List.mem_cons_of_mem _ h)) (by rw [hs])
    exact this l _ _ (fun q hq e => h1 (e ▸ hq)) rfl
structure PoolAt (p : Plan) (t : Int) (ws : List Int) (P : Pool) (g : Int) : Prop where
  free : FreeAt p ws P.fr g
  ret : RetAt p ws t P.rt
  nod : P.rt.Nodup
  dis : ∀ n, n ∈ P.rt → n ∉ P.fr
  st : ∀ n, 0 ≤ n → n < p.nodes → StAt p ws n (P.st n)
  hz : ∀ j, 0 ≤ j → j < p.threads * 3 → rd ws (D.zab p + j) = 0
  zero : ∀ n f, n ∈ P.fr → 0 ≤ f → f < 3 → rd ws (sp p n + 2 + f) = 0
def KeptP (p : Plan) (t : Int) (P : Pool) (ws ws' : List Int) : Prop :=
  ws'.length = ws.length ∧ ∀ j, 0 < j → (∀ n, n ∈ P.fr ∨ n ∈ P.rt → ¬ ofNode p n j) → ¬ (rb p t ≤ j ∧ j < rb p t + 1 + p.retire) → rd ws' j = rd ws j
theorem PoolAt.scan {p : Plan} (hp : PF p) (hnn : p.nodes ≤ 1000) {t : Int} (ht : 0 ≤ t ∧ t < p.threads) {ws : List Int} {P : Pool} {g : Int} (h : PoolAt p t ws P g) (hg : g < 900000) (J : Nat) (hJ : 1100 < J) :
    ∃ (m : Nat) (ws' : List Int) (g' : Int), m ≤ 70 * P.rt.length + 1 ∧ g' ≤ g + P.rt.length ∧ Runs (D.zd9 J p t) ws m (P.rt.length : Int) ws' ∧ PoolAt p t ws' (P.scan p.gen) g' ∧ KeptP p t P ws ws' := by
  have hN := zbv hp
  have hz := znX hp
  obtain ⟨p1, p2, p3⟩ := zo0 hp ht
  have hh : ∀ n, n ∈ P.rt → ((fun _ => false) n = true ↔ heldW p ws n) := by
    intro n hn
    have := (h.ret.range n hn).1
    constructor
    · intro h; cases h
    · rintro ⟨j, j0, j1, hj⟩
      rw [h.hz j j0 j1] at hj
      omega
  obtain ⟨m, ws', hm, hr, hs⟩ := zlJ hp hnn ht J hJ h.free.len h.ret h.free (fun n hn => h.dis n hn) h.nod hh hg
  rw [zjs P.rt.length P.rt rfl] at hr hs
  simp only [List.length_reverse] at hr
  obtain ⟨g', hg', hF⟩ := hs.free
  have hnr : P.rt.reverse.Nodup := List.pairwise_reverse.2 (h.nod.imp fun h e => h e.symm)
  have htof : ∀ n, n ∈ P.rt → tof p ws n = D.zai (P.st n) p.gen := fun n hn => by
    have hn' := h.ret.range n hn
    unfold tof
    have := (h.st n hn'.1 hn'.2).of
    unfold sp at this
    rw [this]
  have hfr : pushAll p ws P.rt.reverse P.fr = (P.scan p.gen).fr := by
    unfold Pool.scan
    rw [zj2 _ _ _ hnr]
    unfold pushAll
    have : ∀ (k L : List Int), (∀ n, n ∈ k → n ∈ P.rt) → k.foldl (fun l n => if (tof p ws n).mode = 3 then l else n :: l) L = k.foldl (fun l n => if (D.zai (P.st n) p.gen).mode = 3 then l else n :: l) L := by
      intro k
      induction k with
      | nil => intro _ _; rfl
      | cons q k ih =>
        intro L hq
        rw [List.foldl_cons, List.foldl_cons, htof q (hq q (List.mem_cons_self ..))]
        exact ih _ fun n hn => hq n (List.mem_cons_of_mem _ hn)
    exact this _ _ fun n hn => List.mem_reverse.1 hn
  have hsub : ∀ n, n ∈ (P.scan p.gen).fr → n ∈ P.rt ∨ n ∈ P.fr := fun n hn => by
    rw [← hfr] at hn
    rcases ziY hn with h | h
    · exact .inl (List.mem_reverse.1 h)
    · exact .inr h
  have hrt : (P.scan p.gen).rt = [] := zjV _ _ _
  rw [hfr] at hF
  have hst : ∀ n, (P.scan p.gen).st n = if n ∈ P.rt then D.zai (P.st n) p.gen else P.st n := fun n => by
    unfold Pool.scan
    rw [ziN _ _ _ hnr]
    simp only [List.mem_reverse]
  have hrr := h.ret.range
  have hkeep : ∀ j, 0 < j → (∀ n, n ∈ P.rt → ¬ ofNode p n j) → ¬ (rb p t ≤ j ∧ j < rb p t + 1 + p.retire) → rd ws' j = rd ws j := fun j j0 h1 h2 => hs.others j j0 (fun n hn => h1 n (List.mem_reverse.1 hn)) h2
  have hge := hp.g2
  refine ⟨m, ws', g', hm, by simpa using hg', hr, ⟨hF, by rw [hrt]; exact hs.ret, by rw [hrt]; exact List.nodup_nil, fun n hn => (by rw [hrt] at hn; cases hn), fun n n0 n1 => ?_, fun j j0 j1 => ?_, fun n f hn f0 f1 => ?_⟩, hs.len, fun j j0 h1 h2 => hkeep j j0 (fun n hn => h1 n (.inr hn)) h2⟩
  · rw [hst]
    by_cases hn : n ∈ P.rt
    · rw [if_pos hn]
      refine ⟨?_, (h.st n n0 n1).2.freed (by omega)⟩
      have := hs.states n (List.mem_reverse.2 hn)
      rw [htof n hn] at this
      exact this
    · rw [if_neg hn]
      refine ⟨?_, (h.st n n0 n1).2⟩
      rw [hkeep (sp p n) (by unfold sp; omega) (fun q hq hq' => ?_) (by unfold sp; omega)]
      · exact (h.st n n0 n1).1
      · unfold ofNode sp at hq'
        exact hn (by rw [show n = q by omega]; exact hq)
  · rw [hkeep _ (by omega) (fun q hq => by have := (hrr q hq).1; unfold ofNode; omega) (by omega)]
    exact h.hz j j0 j1
  · by_cases hq : n ∈ P.rt
    · exact hs.fields n f (List.mem_reverse.2 hq) f0 f1
    · have hnf : n ∈ P.fr := (hsub n hn).resolve_left hq
      have := h.free.range n hnf
      rw [hkeep _ (by unfold sp; omega) (fun q hq' hq'' => ?_) (by unfold sp; omega)]
      · exact h.zero n f hnf f0 f1
      · unfold ofNode sp at hq''
        exact hq (by rw [show n = q by omega]; exact hq')
theorem PoolAt.keep {p : Plan} (hp : PF p) {t : Int} (ht : 0 ≤ t ∧ t < p.threads) {ws ws' : List Int} {P : Pool} {g : Int} (h : PoolAt p t ws P g) {st : Int → State} (hl : ws'.length = ws.length) (h0 : rd ws' 0 = rd ws 0)
    (hr : ∀ j, rb p t ≤ j → j < rb p t + 1 + p.retire → rd ws' j = rd ws j) (hf : ∀ n f, n ∈ P.fr → 1 ≤ f → f < 5 → rd ws' (sp p n + f) = rd ws (sp p n + f)) (hz : ∀ j, 0 ≤ j → j < p.threads * 3 → rd ws' (D.zab p + j) = rd ws (D.zab p + j))
    (hs : ∀ n, 0 ≤ n → n < p.nodes → StAt p ws' n (st n)) : PoolAt p t ws' ⟨P.fr, P.rt, st⟩ g :=
  ⟨h.free.keep hl h0 fun n hn => by have := hf n 1 hn (by omega) (by omega); unfold sp at this; exact this, h.ret.keep hr, h.nod, h.dis, hs, fun j j0 j1 => (hz j j0 j1).trans (h.hz j j0 j1), fun n f hn f0 f1 => by
    have := hf n (2 + f) hn (by omega) (by omega)
    rw [← Int.add_assoc] at this
    exact this.trans (h.zero n f hn f0 f1)⟩
def Pool.out (P : Pool) (k : Int) : Pool × Grant :=
  match P.fr with
  | [] => (P, ⟨-1, 0, 4⟩)
  | n :: l => (⟨l, P.rt, fun q => if q = n then D.zb1 (P.st n) k else P.st q⟩, ⟨n, (P.st n).gen, 0⟩)
def Pool.grant (P : Pool) (m k : Int) : Pool × Grant := match P.fr with
  | [] => (P.scan m).out k
  | _ :: _ => P.out k
theorem PoolAt.took {p : Plan} (hp : PF p) {t : Int} (ht : 0 ≤ t ∧ t < p.threads) {ws ws' : List Int} {n k : Int} {l r : List Int} {st : Int → State} {g : Int} (h : PoolAt p t ws ⟨n :: l, r, st⟩ g) (hk : 0 ≤ k ∧ k ≤ 2)
    (hl : ws'.length = ws.length) (hF : FreeAt p ws' l (g + 1)) (hst : StAt p ws' n (D.zb1 (st n) k)) (ho : ∀ j, 0 < j → j ≠ sp p n → rd ws' j = rd ws j) :
    PoolAt p t ws' ⟨l, r, fun q => if q = n then D.zb1 (st n) k else st q⟩ (g + 1) := by
  have hN := zbv hp
  have hz := znX hp
  obtain ⟨p1, p2, p3⟩ := zo0 hp ht
  have hn := h.free.range n (List.mem_cons_self ..)
  refine ⟨hF, h.ret.keep fun j j0 j1 => ho j (by omega) (by unfold sp; omega), h.nod, fun q hq hq' => h.dis q hq (List.mem_cons_of_mem _ hq'), fun q q0 q1 => ?_, fun j j0 j1 => ?_, fun q f hq f0 f1 => ?_⟩
  · by_cases e : q = n
    · subst e
      show StAt p ws' q (if q = q then _ else _)
      rw [if_pos rfl]; exact hst
    · show StAt p ws' q (if q = n then _ else _)
      rw [if_neg e]
      have := h.st q q0 q1
      exact ⟨by rw [ho _ (by unfold sp; omega) (by unfold sp; omega)]; exact this.1, this.2⟩
  · rw [ho _ (by omega) (by unfold sp; omega)]; exact h.hz j j0 j1
  · have hqr := h.free.range q (List.mem_cons_of_mem _ hq)
    rw [ho _ (by unfold sp; omega) (by unfold sp; omega)]
    exact h.zero q f (List.mem_cons_of_mem _ hq) f0 f1
theorem zmU {P : Pool} {m n : Int} (h : n ∉ P.rt) (hd : P.rt.Nodup) : (P.scan m).st n = P.st n := by
  unfold Pool.scan
  rw [ziN m _ _ (List.pairwise_reverse.2 (hd.imp fun h e => h e.symm)), if_neg]
  simpa using h
theorem zjQ {P : Pool} {m n : Int} (hd : P.rt.Nodup) (h : n ∈ (P.scan m).fr) : n ∈ P.rt ∨ n ∈ P.fr := by
  unfold Pool.scan at h
  rw [zj2 m _ _ (List.pairwise_reverse.2 (hd.imp fun h e => h e.symm))] at h
  have : ∀ (k L : List Int), n ∈ k.foldl (fun l n => if (D.zai (P.st n) m).mode = 3 then l else n :: l) L → n ∈ k ∨ n ∈ L := by
    intro k
    induction k with
    | nil => exact fun L h => .inr h
    | cons a k ih =>
      intro L h
      rcases ih _ h with h | h
      · exact .inl (List.mem_cons_of_mem _ h)
      · replace h : n ∈ (if (D.zai (P.st a) m).mode = 3 then L else a :: L) := h
        split at h
        · exact .inr h
        · rcases List.mem_cons.1 h with rfl | h
          · exact .inl (List.mem_cons_self ..)
          · exact .inr h
  rcases this _ _ h with h | h
  · exact .inl (List.mem_reverse.1 h)
  · exact .inr h
theorem PoolAt.grant {p : Plan} (hp : PF p) (hnn : p.nodes ≤ 1000) {t : Int} (ht : 0 ≤ t ∧ t < p.threads) {ws : List Int} {P : Pool} {g k : Int} (hk : 0 ≤ k ∧ k ≤ 2) (h : PoolAt p t ws P g) (hg : g < 900000) (J : Nat) (hJ : 1100 < J) :
    ∃ (m : Nat) (ws' : List Int) (g' : Int), m ≤ 70 * P.rt.length + 10 ∧ g' ≤ g + P.rt.length + 1 ∧ Runs (D.ze2 J p t k) ws m (P.grant p.gen k).2 ws' ∧ PoolAt p t ws' (P.grant p.gen k).1 g' ∧ KeptP p t P ws ws' := by
  have hN := zbv hp
  have hz := znX hp
  obtain ⟨p1, p2, p3⟩ := zo0 hp ht
  have hrm := h.ret.room
  have hr2 := hp.r2
  obtain ⟨fr, rt, st⟩ := P
  cases fr with
  | cons n l =>
    have hn := h.free.range n (List.mem_cons_self ..)
    obtain ⟨K, rfl⟩ : ∃ K, J = K + 1 := ⟨J - 1, by omega⟩
    obtain ⟨ws', hr, hl, hF, hst, ho⟩ := zjP hp (t := t) h.free (by omega) (by omega) (h.st n hn.1 hn.2) hk K
    refine ⟨5, ws', g + 1, by omega, by omega, hr, h.took hp ht hk hl hF hst ho, hl, fun j j0 h1 h2 => ho j j0 fun e => h1 n (.inl (List.mem_cons_self ..)) (by unfold ofNode; unfold sp at e; omega)⟩
  | nil =>
    have hh : ∀ n, n ∈ rt → ((fun _ => false) n = true ↔ heldW p ws n) := by
      intro n hn
      have := (h.ret.range n hn).1
      constructor
      · intro h; cases h
      · rintro ⟨j, j0, j1, hj⟩
        rw [h.hz j j0 j1] at hj
        omega
    obtain ⟨K, rfl⟩ : ∃ K, J = K + 1 := ⟨J - 1, by omega⟩
    obtain ⟨m1, ws1, g1, hm1, hg1, hr1, h1, hk1⟩ := h.scan hp hnn ht hg (K + 1) hJ
    have hnew : ∀ {m : Nat} {gr : Grant} {ws' : List Int}, Runs (T.bind (D.zbW (K + 1) p) (fun x => D.zbl p k x)) ws1 m gr ws' → Runs (D.ze2 (K + 1) p t k) ws (m1 + 1 + m) gr ws' := fun {m gr ws'} hr => by
      refine (Runs.bind (g := fun x => D.zcs (K + 1) p k t (fun x => D.zbl p k x) x) (zjW hp h.free (by omega) K) (m := m1 + m) ?_).cast (by omega)
      unfold D.zcs
      rw [show ((-1 : Int) != -1) = false from rfl]
      exact Runs.bind (g := fun x => D.zdU (K + 1) p (fun x => D.zbl p k x) x) hr1 hr
    show ∃ (m : Nat) (ws' : List Int) (g' : Int), _ ∧ _ ∧ Runs _ ws m (((⟨[], rt, st⟩ : Pool).scan p.gen).out k).2 ws' ∧ PoolAt p t ws' (((⟨[], rt, st⟩ : Pool).scan p.gen).out k).1 g' ∧ _
    have hfr : ∀ n, n ∈ ((⟨[], rt, st⟩ : Pool).scan p.gen).fr → n ∈ rt := fun n hn => (zjQ h.nod hn).resolve_right fun h => (by cases h)
    have hgl : g1 < 1000000 := by omega
    generalize hQ : (⟨[], rt, st⟩ : Pool).scan p.gen = Q at h1 hfr
    obtain ⟨fr', rt', st'⟩ := Q
    cases fr' with
    | nil =>
      exact ⟨m1 + 1 + 1, ws1, g1, by omega, by omega, hnew (zjq hp h1.free hgl K), h1, hk1⟩
    | cons n l =>
      have hn := h1.free.range n (List.mem_cons_self ..)
      obtain ⟨ws', hr, hl, hF, hst, ho⟩ := zjn hp h1.free (by omega) hgl (h1.st n hn.1 hn.2) hk K
      refine ⟨m1 + 1 + 5, ws', g1 + 1, by omega, by omega, hnew hr, h1.took hp ht hk hl hF hst ho, hl.trans hk1.1, fun j j0 h2 h3 => (ho j j0 fun e => ?_).trans (hk1.2 j j0 h2 h3)⟩
      exact h2 n (.inr (hfr n (List.mem_cons_self ..))) (by unfold ofNode; unfold sp at e; omega)
def Pool.stash (P : Pool) (room m n : Int) : Pool :=
  let Q := if (P.rt.length : Int) < room then P else P.scan m
  ⟨Q.fr, Q.rt ++ [n], Q.st⟩
theorem PoolAt.put {p : Plan} (hp : PF p) {t : Int} (ht : 0 ≤ t ∧ t < p.threads) {ws ws' : List Int} {P : Pool} {g n : Int} (h : PoolAt p t ws P g) (hnr : n ∉ P.rt) (hnf : n ∉ P.fr)
    (hf : (P.rt.length : Int) < p.retire) (hl : ws'.length = ws.length) (hR : RetAt p ws' t (P.rt ++ [n])) (ho : ∀ j, 0 ≤ j → j ≠ rb p t → j ≠ rb p t + 1 + P.rt.length → rd ws' j = rd ws j) :
    PoolAt p t ws' ⟨P.fr, P.rt ++ [n], P.st⟩ g := by
  have hN := zbv hp
  have hz := znX hp
  obtain ⟨p1, p2, p3⟩ := zo0 hp ht
  refine ⟨h.free.keep hl (ho 0 (by omega) (by omega) (by omega)) fun q hq => ?_, hR, ?_, fun q hq => ?_, fun q q0 q1 => ?_, fun j j0 j1 => ?_, fun q f hq f0 f1 => ?_⟩
  · have := h.free.range q hq
    exact ho _ (by unfold nx; omega) (by unfold nx; omega) (by unfold nx; omega)
  · refine List.nodup_append.2 ⟨h.nod, List.nodup_cons.2 ⟨List.not_mem_nil, List.nodup_nil⟩, fun a ha b hb e => ?_⟩
    rw [List.mem_singleton.1 hb] at e
    exact hnr (e ▸ ha)
  · rcases List.mem_append.1 hq with hq | hq
    · exact h.dis q hq
    · rw [List.mem_singleton.1 hq]; exact hnf
  · have := h.st q q0 q1
    exact ⟨by rw [ho _ (by unfold sp; omega) (by unfold sp; omega) (by unfold sp; omega)]; exact this.1, this.2⟩
  · rw [ho _ (by omega) (by omega) (by omega)]; exact h.hz j j0 j1
  · have := h.free.range q hq
    rw [ho _ (by unfold sp; omega) (by unfold sp; omega) (by unfold sp; omega)]
    exact h.zero q f hq f0 f1
theorem PoolAt.stash {p : Plan} (hp : PF p) (hnn : p.nodes ≤ 1000) {t : Int} (ht : 0 ≤ t ∧ t < p.threads) {ws : List Int} {P : Pool} {g n : Int} (h : PoolAt p t ws P g) (hn : 0 ≤ n ∧ n < p.nodes) (hnr : n ∉ P.rt) (hnf : n ∉ P.fr) (hg : g < 900000) (J : Nat) (hJ : 1100 < J) :
    ∃ (m : Nat) (ws' : List Int) (g' : Int), m ≤ 70 * P.rt.length + 10 ∧ g' ≤ g + P.rt.length ∧ Runs (D.zfB J p t n) ws m n ws' ∧ PoolAt p t ws' (P.stash p.retire p.gen n) g' ∧ KeptP p t P ws ws' := by
  have hN := zbv hp
  have hz := znX hp
  obtain ⟨p1, p2, p3⟩ := zo0 hp ht
  have hrm := h.ret.room
  have hr1 := hp.r1
  have ht1 := hp.t1
  have hz0 := zog hp
  by_cases hf : (P.rt.length : Int) < p.retire
  · obtain ⟨ws', hr, hl, hR, ho⟩ := zlp hp ht hn (by omega) h.free.len h.ret hf J
    refine ⟨3, ws', g, by omega, by omega, hr, ?_, hl, fun j j0 h1 h2 => ho j (by omega) (by omega) (by omega)⟩
    unfold Pool.stash
    rw [if_pos hf]
    exact h.put hp ht hnr hnf hf hl hR ho
  · obtain ⟨m1, ws1, g1, hm1, hg1, hr1', h1, hk1⟩ := h.scan hp hnn ht hg J hJ
    have hrt : (P.scan p.gen).rt = [] := zjV _ _ _
    have hret := h1.ret
    rw [hrt] at hret
    have hpos : (([] : List Int).length : Int) < p.retire := by simp; omega
    obtain ⟨ws', hr, hl, hR, ho⟩ := zli hp ht hn (by omega) h1.free.len hret hpos
    have hfull := zmm (n := n) hp ht h.free.len h.ret (by omega)
    refine ⟨1 + (m1 + (3 + 0)), ws', g1, by omega, by omega, ?_, ?_, hl.trans hk1.1, fun j j0 h2 h3 => (ho j (by omega) (by omega) (by simp; omega)).trans (hk1.2 j j0 h2 h3)⟩
    · refine Runs.bind (g := fun x => D.zci J n p t (fun x => D.zbY n x) x) hfull ?_
      unfold D.zci
      rw [show ((-1 : Int) != -1) = false from rfl]
      refine Runs.bind (g := fun x => D.zdV p t n (fun x => D.zbY n x) x) hr1' ?_
      refine Runs.bind (g := fun x => D.zbY n x) hr ?_
      unfold D.zbY
      exact .done _ _
    · unfold Pool.stash
      rw [if_neg hf]
      have hx := h1.put (n := n) hp ht (by rw [hrt]; exact List.not_mem_nil) (fun hx => (zjQ h.nod hx).elim hnr hnf) (by rw [hrt]; exact hpos) hl (by rw [hrt]; exact hR) (by rw [hrt]; exact ho)
      exact hx
end Go.Proofs.YtjkinpbfmihhdaaGreat

/- Ours. -/
set_option maxRecDepth 20000
set_option maxHeartbeats 2000000
namespace Go.Proofs.YtjkinpbfmihhdaaGreat.St
open Go.RowKit
def D.zk4 (fu : Nat)  : Option (List Field) := (some ([(⟨0, 20⟩ : Field), (⟨20, 30⟩ : Field), (⟨50, 6⟩ : Field), (⟨58, 6⟩ : Field)]))
def D.zfq (fu : Nat) (a0 : Int) : Option (Handle × Bool) := ((D.zk4 fu ).bind (fun (x5 : List Field) => ((D.zd7 fu x5 a0).bind (fun (x9 : List Int × Int) => (Option.bind (bif (x9.2 != 0) then (some true) else ((getI x9.1 3).bind (fun (x15 : Int) => (some (x15 != 42))))) (fun (x16 : Bool) => (bif x16 then (some ((⟨0, 0, 0⟩ : Handle), false)) else ((getI x9.1 0).bind (fun (x22 : Int) => ((getI x9.1 1).bind (fun (x23 : Int) => ((getI x9.1 2).bind (fun (x24 : Int) => (some ((⟨(IntKind.i64.wrap x22), (IntKind.i64.wrap x23), (IntKind.i64.wrap x24)⟩ : Handle), true)))))))))))))))
end Go.Proofs.YtjkinpbfmihhdaaGreat.St

/- Ours. -/
namespace Go.Proofs.YtjkinpbfmihhdaaGreat
open Go.RowKit
def D.zfq (w : Int) : Handle × Bool := (St.D.zfq 10 w).getD (⟨0, 0, 0⟩, false)
end Go.Proofs.YtjkinpbfmihhdaaGreat

/- Ours. -/
set_option maxRecDepth 20000
set_option maxHeartbeats 2000000
namespace Go.Proofs.YtjkinpbfmihhdaaGreat
open Go.RowKit
def D.zkH (a0 : Int) (a1 : Int) (a2 : Int) : Handle × Bool := (bif (!((D.zfq a0).2)) then ((⟨0, 0, 0⟩ : Handle), false) else (bif ((((D.zfq a0).1).tenant) != a1) then ((⟨0, 0, 0⟩ : Handle), false) else (bif (decide ((((D.zfq a0).1).index) ≥ a2)) then ((⟨0, 0, 0⟩ : Handle), false) else ((D.zfq a0).1, true))))
end Go.Proofs.YtjkinpbfmihhdaaGreat

/- Ours. -/
namespace Go.Proofs.YtjkinpbfmihhdaaGreat
open Go.RowKit
def FnHAt {R : Type} (P : Program) (E : Enc R) (F : Nat → Prop) (w : World) (f : FuncId) (first cap : List Value) (d : Int → (Int → T R) → T R) : Prop :=
  ∀ (m : Nat) (x : Int) {nf : FuncId} {n1 n2 : List Value} {g : Int → T R} (F' : Nat → Prop) (w' : World), (∀ b, F b → F' b) → Same F w w' → w.heap.size ≤ w'.heap.size → (∀ b, F' b → b < w'.heap.size) →
    FnT P E u64 m F' w' (.func (.func nf) n1.toArray n2.toArray) g → Calls P f (first ++ [Value.int .i64 x, Value.func (.func nf) n1.toArray n2.toArray] ++ cap).toArray w' (zny P E m (d x g) F' w')
def FnH {R : Type} (P : Program) (E : Enc R) (F : Nat → Prop) (w : World) (fv : Value) (d : Int → (Int → T R) → T R) : Prop :=
  ∃ (f : FuncId) (first cap : List Value), znv P f = true ∧ fv = .func (.func f) first.toArray cap.toArray ∧ FnHAt P E F w f first cap d
section
variable {R : Type} {P : Program} {E : Enc R}
theorem FnH.mono {F F' : Nat → Prop} {w w' : World} {fv : Value} {d : Int → (Int → T R) → T R} (h : FnH P E F w fv d)
    (hs : ∀ b, F b → F' b) (h1 : Same F w w') (h2 : w.heap.size ≤ w'.heap.size) : FnH P E F' w' fv d := by
  obtain ⟨f, first, cap, hc, hv, h⟩ := h
  exact ⟨f, first, cap, hc, hv, fun m x nf n1 n2 g F1 w1 k1 k2 k3 k4 k5 => h m x F1 w1 (fun b hb => k1 b (hs b hb)) (h1.trans (k2.sub hs)) (by omega) k4 k5⟩
theorem FnH.at_ {F : Nat → Prop} {w : World} {f : FuncId} {first cap : List Value} {d : Int → (Int → T R) → T R} (h : FnH P E F w (.func (.func f) first.toArray cap.toArray) d) :
    znv P f = true ∧ FnHAt P E F w f first cap d := by
  obtain ⟨f', first', cap', hc, he, hf⟩ := h
  simp only [Value.func.injEq, Fn.func.injEq] at he
  obtain ⟨e1, e2, e3⟩ := he
  have e2' : first = first' := by simpa using congrArg Array.toList e2
  have e3' : cap = cap' := by simpa using congrArg Array.toList e3
  subst e1; subst e2'; subst e3'
  exact ⟨hc, hf⟩
end
end Go.Proofs.YtjkinpbfmihhdaaGreat

/- Ours. -/
set_option maxRecDepth 20000
set_option maxHeartbeats 2000000
namespace Go.Proofs.YtjkinpbfmihhdaaGreat
open Go.RowKit
theorem zp1 : znv Tryz.prog 120 = true := by kernel_rfl
theorem zos : znv Tryz.prog 123 = true := by kernel_rfl
theorem zoC : znv Tryz.prog 125 = true := by kernel_rfl
theorem zqm : znv Tryz.prog 211 = true := by kernel_rfl
theorem zgs : znH Tryz.prog 29 0 0 = true := by kernel_rfl
theorem zkq : znH Tryz.prog 29 2 7 = true := by kernel_rfl
theorem ta29 : tyA Tryz.prog 29 8 = true := by kernel_rfl
def D.ze9 (a0 : Seat) : Bool := (bif (D.zaP a0.p) then (bif (decide (a0.tenant ≥ 0)) then (bif (decide (a0.tenant < 64)) then (bif (decide (a0.thread ≥ 0)) then (decide (a0.thread < a0.p.threads)) else false) else false) else false) else false)
end Go.Proofs.YtjkinpbfmihhdaaGreat

/- Ours. -/
namespace Go.Proofs.YtjkinpbfmihhdaaGreat
open Go.RowKit
inductive FP where
  | val (c : Value)
  | put (k : Nat) (c : Array Value) (T : TypeId)
def FP.v : FP → Value
  | .val c => c
  | .put _ _ _ => undef
def FP.slot : FP → Option Nat
  | .put k _ _ => some k
  | .val _ => none
def FP.mk (bs : List Nat) (w' w'' : World) : FP → Prop
  | .val _ => Below w'.heap.size w' w''
  | .put k c T => ∃ b, bs[k]? = some b ∧ Upd w' w'' b (.cells c T (0, 0))
def fct : List FP → Nat → FP
  | [], _ => .val undef
  | f :: _, 0 => f
  | _ :: l, n + 1 => fct l n
section
variable {P : Program} {Q : Exit → Act → World → Prop} {L : List Oper} {a : Act} {w : World} {fl : List FP} {bs : List Nat}
structure PInv (L : List Oper) (fl : List FP) (bs : List Nat) (a : Act) (w0 : World) (listed : Array Bool) (g : Nat → Value) (a' : Act) (w' : World) : Prop where
  act : a' = puts L g 0 a
  closed : ∀ i o, L[i]? = some o → listed.getD i false = true → ∀ e, e ∈ o.after → Region.binds .any e = true → listed.getD e.on false = true
  os : w'.os = w0.os
  tape : w'.tape = w0.tape
  output : w'.output = w0.output
  size : w0.heap.size ≤ w'.heap.size
  old : ∀ b, b < w0.heap.size → b ∉ bs → w'.heap[b]? = w0.heap[b]?
  vals : ∀ i, i < L.length → listed.getD i false = true → g i = (fct fl i).v
  un : ∀ k b, bs[k]? = some b → (∀ i, i < L.length → listed.getD i false = true → (fct fl i).slot ≠ some k) → w'.heap[b]? = w0.heap[b]?
  done : ∀ i k c T b, i < L.length → listed.getD i false = true → fct fl i = .put k c T → bs[k]? = some b → w'.heap[b]? = some (.cells c T (0, 0))
variable {N : Nat} {s : SL}
end
/-! ### Chunks -/
section
variable {L : List Ck} {d : Ck} {w w' w0 : World} {i i1 i2 b1 b2 : Nat} {a1 a2 c1 c2 : Array Value} {T1 T2 S1 S2 : TypeId} {Z : Nat → Prop}
end
end Go.Proofs.YtjkinpbfmihhdaaGreat

/- Ours. -/
set_option maxRecDepth 20000
set_option maxHeartbeats 2000000
namespace Go.Proofs.YtjkinpbfmihhdaaGreat
open Go.RowKit
theorem cl29 : znv Tryz.prog 29 = true := by kernel_rfl
theorem zmA : znH Tryz.prog 32 0 0 = true := by kernel_rfl
end Go.Proofs.YtjkinpbfmihhdaaGreat

/- Ours. -/
namespace Go.Proofs.YtjkinpbfmihhdaaGreat
open Go.RowKit
structure HF (h : Handle) : Prop where
  i0 : 0 ≤ h.index
  i1 : h.index < 1048576
  g0 : 0 ≤ h.gen
  g1 : h.gen ≤ 1073741823
  t0 : 0 ≤ h.tenant
  t1 : h.tenant < 64
end Go.Proofs.YtjkinpbfmihhdaaGreat

/- Ours. -/
namespace Go.Proofs.YtjkinpbfmihhdaaGreat
open Go.RowKit
theorem runR {t : T Res} {M : Mem} {ws' : List Int} {n : Nat} {most : Int} {r : Res} {fu : Nat} (h : Runs t M.ws n r ws') (hm : (n : Int) ≤ most) (hm2 : most ≤ 1000000) (hn : n < fu) : ∃ c, D.zdF fu (fu, t) M cap0 most = some (r, (n : Int), true, ⟨ws', c⟩) := by
  have h2 := zlR (z := (⟨0, 0⟩ : Res)) (fu := fu) (d := fu) (most := most) h hm hm2 (Nat.le_of_lt hn) hn
  exact h2
theorem zeJ {at_ : Int} {f : Int → T Res} {ws ws' : List Int} {n : Nat} {r : Res} (h0 : 0 ≤ at_) (h1 : at_ < ws.length) (h : Runs (f (rd ws at_)) ws n r ws') : Runs (D.zc8 at_ f) ws (n + 1) r ws' := Runs.load h0 h1 h
theorem zh5 {at_ w : Int} {f : Unit → T Res} {ws ws' : List Int} {n : Nat} {r : Res} (h0 : 0 ≤ at_) (h1 : at_ < ws.length) (h : Runs (f ()) (ws.set at_.toNat w) n r ws') : Runs (D.zdt at_ w f) ws (n + 1) r ws' := Runs.store h0 h1 h
theorem zhK {at_ was w : Int} {f : Bool → T Res} {ws ws' : List Int} {n : Nat} {r : Res} (h0 : 0 ≤ at_) (h1 : at_ < ws.length) (h : Runs (f (rd ws at_ == was)) (if rd ws at_ = was then ws.set at_.toNat w else ws) n r ws') : Runs (D.zbH at_ was w f) ws (n + 1) r ws' := by
  refine Runs.act (op := 2) (by omega) (zhe h0 h1) ?_
  have : acted 2 at_ was w (rd ws at_) ws = (if rd ws at_ = was then ws.set at_.toNat w else ws) := by simp [acted]
  rw [this]
  exact h
def Eq1 (ws ws' : List Int) : Prop := ws'.length = ws.length ∧ ∀ j, 0 ≤ j → rd ws' j = rd ws j
def fp (p : Plan) (n f : Int) : Int := sp p n + 2 + f
section
variable {s : Seat} (hs : D.ze9 s = true) {ws : List Int} (hl : Len s.p ws) {w f : Int} {h : Handle} (hm : D.zkH w s.tenant s.p.nodes = (h, true)) (hn : 0 ≤ h.index ∧ h.index < s.p.nodes)
include hs hl hm hn
end
end Go.Proofs.YtjkinpbfmihhdaaGreat

/- Ours. -/
namespace Go.Proofs.YtjkinpbfmihhdaaGreat
open Go.RowKit
theorem PoolAt.start {p : Plan} (hp : PF p) {ws : List Int} (h : LaidAt p ws) {t : Int} (ht : 0 ≤ t ∧ t < p.threads) : PoolAt p t ws ⟨allN p, [], fun _ => ⟨0, 0, 0⟩⟩ 0 := by
  have hN := zbv hp
  have hF := zkd hp h
  refine ⟨hF, zlc hp h ht, List.nodup_nil, fun _ h => (by cases h), fun n n0 n1 => zjz hp h ⟨n0, n1⟩, fun j j0 j1 => zmH hp h j0 j1, fun n f hn f0 f1 => ?_⟩
  have hr := hF.range n hn
  exact h.zero _ (by unfold sp; omega) fun m _ _ => by unfold sp; omega
section
variable {s : Seat} (hs : D.ze9 s = true) (hnn : s.p.nodes ≤ 1000) {ws : List Int} {P : Pool} {g : Int} (h : PoolAt s.p s.thread ws P g) (hg : g < 900000)
include hs hnn h hg
end
end Go.Proofs.YtjkinpbfmihhdaaGreat

/- Ours. -/
namespace Go.Proofs.YtjkinpbfmihhdaaGreat
open Go.RowKit
theorem zj6 {P : Pool} {m n : Int} (hd : P.rt.Nodup) (h : n ∈ (P.scan m).fr) : (n ∈ P.rt ∧ (D.zai (P.st n) m).mode ≠ 3) ∨ n ∈ P.fr := by
  unfold Pool.scan at h
  rw [zj2 m _ _ (List.pairwise_reverse.2 (hd.imp fun h e => h e.symm))] at h
  have : ∀ (k L : List Int), n ∈ k.foldl (fun l n => if (D.zai (P.st n) m).mode = 3 then l else n :: l) L → (n ∈ k ∧ (D.zai (P.st n) m).mode ≠ 3) ∨ n ∈ L := by
    intro k
    induction k with
    | nil => exact fun L h => .inr h
    | cons a k ih =>
      intro L h
      rcases ih _ h with h | h
      · exact .inl ⟨List.mem_cons_of_mem _ h.1, h.2⟩
      · replace h : n ∈ (if (D.zai (P.st a) m).mode = 3 then L else a :: L) := h
        split at h
        · exact .inr h
        · rename_i hne
          rcases List.mem_cons.1 h with rfl | h
          · exact .inl ⟨List.mem_cons_self .., hne⟩
          · exact .inr h
  rcases this _ _ h with h | h
  · exact .inl ⟨List.mem_reverse.1 h.1, h.2⟩
  · exact .inr h
theorem zls (s : State) (m : Int) : (D.zai s m).mode = 3 ∨ (D.zai s m).mode = 0 := by
  unfold D.zai
  cases decide (s.gen ≥ m)
  · exact .inr rfl
  · exact .inl rfl
theorem zkE (P : Pool) (m : Int) : (P.scan m).rt = [] := zjV _ _ _
structure ModesP (P : Pool) : Prop where
  mf : ∀ n, n ∈ P.fr → (P.st n).mode = 0
  mr : ∀ n, n ∈ P.rt → (P.st n).mode = 2
theorem ModesP.scan {P : Pool} (h : ModesP P) (hd : P.rt.Nodup) (m : Int) : ModesP (P.scan m) := by
  refine ⟨fun n hn => ?_, fun n hn => by rw [zkE] at hn; cases hn⟩
  have hst : (P.scan m).st n = if n ∈ P.rt then D.zai (P.st n) m else P.st n := by
    unfold Pool.scan
    rw [ziN _ _ _ (List.pairwise_reverse.2 (hd.imp fun h e => h e.symm))]
    simp only [List.mem_reverse]
  rw [hst]
  rcases zj6 hd hn with ⟨h1, h2⟩ | h1
  · rw [if_pos h1]
    exact (zls _ _).resolve_left h2
  · by_cases h2 : n ∈ P.rt
    · have := h.mr n h2
      have := h.mf n h1
      omega
    · rw [if_neg h2]; exact h.mf n h1
theorem ModesP.out {P : Pool} (h : ModesP P) (hn : P.fr.Nodup) (hd : ∀ n, n ∈ P.rt → n ∉ P.fr) (k : Int) : ModesP (P.out k).1 := by
  obtain ⟨fr, rt, st⟩ := P
  cases fr with
  | nil => exact h
  | cons n l =>
    have hnl := (List.nodup_cons.1 hn).1
    refine ⟨fun q hq => ?_, fun q hq => ?_⟩
    · have hne : q ≠ n := fun e => hnl (e ▸ hq)
      show (if q = n then _ else st q).mode = 0
      rw [if_neg hne]
      exact h.mf q (List.mem_cons_of_mem _ hq)
    · have hne : q ≠ n := fun e => hd q hq (e ▸ List.mem_cons_self ..)
      show (if q = n then _ else st q).mode = 2
      rw [if_neg hne]
      exact h.mr q hq
theorem ModesP.stash {P : Pool} (h : ModesP P) (hd : P.rt.Nodup) {room m n : Int} (hn : (P.st n).mode = 2) (hr : n ∉ P.rt) : ModesP (P.stash room m n) := by
  unfold Pool.stash
  split
  · refine ⟨h.mf, fun q hq => ?_⟩
    rcases List.mem_append.1 hq with hq | hq
    · exact h.mr q hq
    · rw [List.mem_singleton.1 hq]; exact hn
  · have hs := h.scan hd m
    refine ⟨hs.mf, fun q hq => ?_⟩
    rcases List.mem_append.1 hq with hq | hq
    · exact hs.mr q hq
    · rw [List.mem_singleton.1 hq]
      show ((P.scan m).st n).mode = 2
      rw [zmU hr hd]; exact hn
structure BoxAt (p : Plan) (t : Int) (ws : List Int) (P : Pool) (g : Int) : Prop where
  pool : PoolAt p t ws P g
  modes : ModesP P
theorem PoolAt.putf {p : Plan} (hp : PF p) {t : Int} (ht : 0 ≤ t ∧ t < p.threads) {ws ws' : List Int} {P : Pool} {g n f : Int} (h : PoolAt p t ws P g) (hn : 0 ≤ n ∧ n < p.nodes) (hnf : n ∉ P.fr) (hf : 0 ≤ f ∧ f < 3) (hl : ws'.length = ws.length)
    (ho : ∀ j, 0 ≤ j → j ≠ fp p n f → rd ws' j = rd ws j) : PoolAt p t ws' P g := by
  obtain ⟨z1, z2, z3, z4⟩ := znX hp
  obtain ⟨p1, p2, p3⟩ := zo0 hp ht
  have hfp : fp p n f = D.zaa p + n * 5 + 2 + f := rfl
  refine h.keep hp ht (st := P.st) hl (ho 0 (by omega) (by omega)) (fun j j0 j1 => ho j (by omega) (by omega)) (fun q e hq e0 e1 => ?_) (fun j j0 j1 => ho _ (by omega) (by omega)) (fun q q0 q1 => ?_)
  · have hr := h.free.range q hq
    have hne : q ≠ n := fun e => hnf (e ▸ hq)
    exact ho _ (by unfold sp; omega) (by unfold sp; omega)
  · have := h.st q q0 q1
    exact ⟨by rw [ho _ (by unfold sp; omega) (by unfold sp; omega)]; exact this.1, this.2⟩
theorem PoolAt.same {p : Plan} (hp : PF p) {t : Int} (ht : 0 ≤ t ∧ t < p.threads) {ws ws' : List Int} {P : Pool} {g : Int} (h : PoolAt p t ws P g) (he : Eq1 ws ws') : PoolAt p t ws' P g := by
  obtain ⟨z1, z2, z3, z4⟩ := znX hp
  obtain ⟨p1, p2, p3⟩ := zo0 hp ht
  refine h.keep hp ht (st := P.st) he.1 (he.2 0 (by omega)) (fun j j0 j1 => he.2 j (by omega)) (fun q e hq e0 e1 => ?_) (fun j j0 j1 => he.2 _ (by omega)) (fun q q0 q1 => ?_)
  · have hr := h.free.range q hq
    exact he.2 _ (by unfold sp; omega)
  · have := h.st q q0 q1
    exact ⟨by rw [he.2 _ (by unfold sp; omega)]; exact this.1, this.2⟩
theorem BoxAt.put {p : Plan} (hp : PF p) {t : Int} (ht : 0 ≤ t ∧ t < p.threads) {ws ws' : List Int} {P : Pool} {g n f : Int} (h : BoxAt p t ws P g) (hn : 0 ≤ n ∧ n < p.nodes) (hnf : n ∉ P.fr) (hf : 0 ≤ f ∧ f < 3) (hl : ws'.length = ws.length)
    (ho : ∀ j, 0 ≤ j → j ≠ fp p n f → rd ws' j = rd ws j) : BoxAt p t ws' P g := ⟨h.pool.putf hp ht hn hnf hf hl ho, h.modes⟩
theorem BoxAt.same {p : Plan} (hp : PF p) {t : Int} (ht : 0 ≤ t ∧ t < p.threads) {ws ws' : List Int} {P : Pool} {g : Int} (h : BoxAt p t ws P g) (he : Eq1 ws ws') : BoxAt p t ws' P g := ⟨h.pool.same hp ht he, h.modes⟩
section
variable {s : Seat} (hs : D.ze9 s = true) (hnn : s.p.nodes ≤ 40) (hrr : s.p.retire ≤ 40) {ws : List Int} {P : Pool} {g : Int} (h : BoxAt s.p s.thread ws P g) (hg : g < 800000)
include hs hnn hrr h hg
end
end Go.Proofs.YtjkinpbfmihhdaaGreat

/- Ours. -/
namespace Go.Proofs.YtjkinpbfmihhdaaGreat
open Go.RowKit
/-! ### Guards -/
theorem zju {p : Plan} (hp : PF p) {ws : List Int} (hl : Len p ws) {t s at_ sh w : Int} (ht : 0 ≤ t ∧ t < p.threads) (hs : 0 ≤ s ∧ s < 3) (h0 : 0 ≤ at_) (h1 : at_ < D.zaA p) (hne : at_ ≠ D.zab p + t * 3 + s)
    (hw0 : 0 ≤ w) (hw1 : w < 1099511627776) (hsh : 0 ≤ sh ∧ sh < 3) (hw : rd ws at_ = w) (k : Nat) :
    (w / 2 ^ sh.toNat - 1 < 0 → Runs (D.zch (k + 1) p t s at_ sh w) ws 0 w ws) ∧
    (¬ w / 2 ^ sh.toNat - 1 < 0 → Runs (D.zch (k + 1) p t s at_ sh w) ws 2 w (ws.set (D.zab p + t * 3 + s).toNat (w / 2 ^ sh.toNat))) := by
  obtain ⟨h2, h3, h4⟩ := zni hw0 hsh
  obtain ⟨g1, g2, g3, g4⟩ := znX hp
  have hn1 := hp.n1
  have hb : D.zch (k + 1) p t s at_ sh w = D.zbT (D.zch k) p t s at_ sh w := rfl
  have hq : IntKind.i64.wrap (IntKind.i64.wrap (shrI .u64 w sh) - 1) = w / 2 ^ sh.toNat - 1 := by
    rw [h2, zaT (x := w / 2 ^ sh.toNat) (by omega) (by omega), zaT (by omega) (by omega)]
  constructor
  · intro hlt
    rw [hb]
    unfold D.zbT
    rw [hq, show decide (w / 2 ^ sh.toNat - 1 < 0) = true from by simpa using hlt]
    exact .done _ _
  · intro hge
    rw [hb]
    unfold D.zbT
    rw [hq, show decide (w / 2 ^ sh.toNat - 1 < 0) = false from by simpa using hge]
    have hr := zgt hp hl ht hs (n := w / 2 ^ sh.toNat - 1) (by omega)
    rw [show w / 2 ^ sh.toNat - 1 + 1 = w / 2 ^ sh.toNat from by omega] at hr
    show Runs ((D.zeb p t s (w / 2 ^ sh.toNat - 1)).bind fun _ => D.zef (D.zch k) at_ w p t s sh) ws (1 + 1) w _
    refine Runs.bind hr ?_
    unfold Len at hl
    show Runs (.act 0 at_ 0 0 _) _ 1 _ _
    refine .load h0 (by simpa [hl] using h1) ?_
    have hx : rd (ws.set (D.zab p + t * 3 + s).toNat (w / 2 ^ sh.toNat)) at_ = w := by
      rw [zbt (by omega) (by omega) h0, if_neg hne, hw]
    rw [hx]
    unfold D.zcR
    rw [show (w == w) = true from by simp]
    exact .done _ _
end Go.Proofs.YtjkinpbfmihhdaaGreat
