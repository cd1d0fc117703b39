/- Some of our texts, one behind the other. -/
import Derived.Test.YtfpgnmhcfkikkaaGreatAaM6
import Derived.Test.YtfpgnmhcfkikkaaGreatAaM3
set_option linter.all false
/- Ours. -/
set_option maxRecDepth 20000
set_option maxHeartbeats 2000000
namespace Go.Proofs.YtfpgnmhcfkikkaaGreat
open Go.RowKit
theorem zmM : zlp Tryz.prog 113 = true := by kernel_rfl
theorem zlV : zlp Tryz.prog 127 = true := by kernel_rfl
theorem zlX : zlp Tryz.prog 129 = true := by kernel_rfl
theorem zms : zlp Tryz.prog 133 = true := by kernel_rfl
theorem zm5 : zlp Tryz.prog 134 = true := by kernel_rfl
theorem zm1 : zlp Tryz.prog 135 = true := by kernel_rfl
theorem zmh : zlp Tryz.prog 136 = true := by kernel_rfl
theorem znn : zlp Tryz.prog 204 = true := by kernel_rfl
theorem zoe : zlp Tryz.prog 212 = true := by kernel_rfl
theorem zlS : zlp Tryz.prog 213 = true := by kernel_rfl
theorem zop : zlp Tryz.prog 214 = true := by kernel_rfl
theorem znc : zlp Tryz.prog 215 = true := by kernel_rfl
theorem zn3 : zlp Tryz.prog 216 = true := by kernel_rfl
theorem znt : zlp Tryz.prog 217 = true := by kernel_rfl
theorem zmm : zlp Tryz.prog 225 = true := by kernel_rfl
theorem zot : zlp Tryz.prog 313 = true := by kernel_rfl
theorem zmy : zlp Tryz.prog 314 = true := by kernel_rfl
theorem znQ : zlp Tryz.prog 316 = true := by kernel_rfl
theorem znk : zlp Tryz.prog 319 = true := by kernel_rfl
theorem zn4 : zlp Tryz.prog 362 = true := by kernel_rfl
theorem znK : zlp Tryz.prog 402 = true := by kernel_rfl
theorem zoy : zlp Tryz.prog 403 = true := by kernel_rfl
theorem znN : zlp Tryz.prog 404 = true := by kernel_rfl
theorem ti3 : intTy Tryz.prog 3 .i64 = true := by kernel_rfl
theorem ti40 : intTy Tryz.prog 40 .u64 = true := by kernel_rfl
theorem zm4 : sized Tryz.prog 217 2 = true := by kernel_rfl
theorem zm0 : zeroOf Tryz.prog 217 = some (.agg (zlv (⟨0, 0⟩ : Field)).toArray) := by kernel_rfl
theorem tz3 : zeroOf Tryz.prog 3 = some (.int .i64 0) := by kernel_rfl
def D.zbO (a0 : Int) : Int := (IntKind.u64.wrap (IntKind.i64.wrap (a0 + 1)))
theorem zfw (w0 : World) 
    (a0 : Int) :
    Calls Tryz.prog 314 #[.int .i64 a0] w0 (zlE (.int .u64 (D.zbO a0)) w0) := by
 refine enter Tryz.func314 rfl 6 rfl rfl fun fr r => ?_
 have hB := Below.refl w0.heap.size w0
 refine wsr (za0 (U 0) r (fun R => za6 r rfl) rfl fun fr r => wn (wsr (za0 (I a0) r (fun R => za5 r rfl) rfl fun fr r => za0 _ r (fun R => zlt r rfl rfl rfl rfl) rfl fun fr r => za0 (U (V (W (a0 + 1)))) r (fun R => zbf r rfl ti3 ti40) rfl fun fr r => za0 (U (V (W (a0 + 1)))) r (fun R => za6 r rfl) rfl fun fr r => wn (wp_ret ?_))))
 refine zaA r rfl rfl ?_
 exact ⟨rfl, hB⟩
def D.zeU (r_free_fresh : Plan → Int → T Unit) (c0 : Plan) (c1 : Int) : T Unit := (r_free_fresh c0 (IntKind.i64.wrap (c1 + 1)))
def D.zbU (r_free_fresh : Plan → Int → T Unit) (a0 : Plan) (a1 : Int) : T Unit := (bif (a1 == a0.nodes) then (D.zgF (D.zaT a0) (D.zbO 0)) else (let x19 : Int := (bif ((IntKind.i64.wrap (a1 + 1)) == a0.nodes) then 0 else (D.zbO (IntKind.i64.wrap (a1 + 1)))); (D.zdl (D.zaY a0 a1) x19 (fun _ => (D.zeU r_free_fresh a0 a1)))))
def D.zcS : Nat → Plan → Int → T Unit
  | 0, _, _ => .cut
  | k + 1, a0, a1 => D.zbU (D.zcS k) a0 a1
def ze6 (r : Plan → Int → T Unit) (n : Nat) : Prop := ∀ (F : Nat → Prop) (w0 : World), (∀ b, F b → b < w0.heap.size) → ∀ (a0 : Plan) (a1 : Int), Calls Tryz.prog 204 #[.agg (zln a0).toArray, .int .i64 a1] w0 (zlx Tryz.prog zly n (r a0 a1) F w0)
theorem zhb {n : Nat} {F : Nat → Prop} {r_free_fresh : Plan → Int → T Unit} {w0 : World} (hF : ∀ b, F b → b < w0.heap.size) (ih_free_fresh : ∀ m, m ≤ n → ze6 r_free_fresh m)
    (c0 : Plan) {c0b : Nat} (c0F : F c0b) (c0h : w0.heap[c0b]? = some (.cells ((zln c0)).toArray 23 (0, 0))) (c1 : Int) {c1b : Nat} (c1F : F c1b) (c1h : w0.heap[c1b]? = some (.cells ([(.int .i64 c1)]).toArray 3 (0, 0))) :
    Calls Tryz.prog 316 #[zp c0b, zp c1b] w0 (zlx Tryz.prog zly n (D.zeU r_free_fresh c0 c1) F w0) := by
 refine enter Tryz.func316 rfl 7 rfl rfl fun fr r => ?_
 have hB := Below.refl w0.heap.size w0
 have lc0b := lt_of_block c0h
 have lc1b := lt_of_block c1h
 refine wsr ?_
 refine zaa (.cells (zlo false zly.zero 0 0 0 0 .nilFunc) 195 (0, 0)) r (fun R => zar zlT) rfl fun fr b1 w2 n3 r => ?_
 obtain ⟨e_b1, z_w2, h_b1, hB, zB⟩ := n3.all hB
 refine wn (wsr (za0 (.agg (zln c0).toArray) r (fun R => za7 r (cs := (zln c0)) (n := 6) rfl (keep hB c0h) ta23 rfl) rfl fun fr r => za0 (I c1) r (fun R => za2 r rfl (keep hB c1h) to3 rfl) rfl fun fr r => za0 _ r (fun R => zlt r rfl rfl rfl rfl) rfl fun fr r => ?_))
 have hF1 := zlG hF hB b1
 refine za9 r ((ih_free_fresh n (by omega)) (fun b => F b ∨ (w0.heap.size ≤ b ∧ b < w2.heap.size ∧ b ≠ b1)) _ hF1 c0 (W (c1 + 1))) (fun R hc => zac r rfl znn hc) rfl ?_
 rintro _ w4 ⟨v5, rfl, hb, hr6⟩
 refine ⟨_, rfl, fun fr r => ?_⟩
 have z_w4 := hb.size
 have h_b1 := keep hb h_b1
 obtain ⟨hB, zB⟩ := bon hb hB
 refine zaf (.cells v5.cells 195 (0, 0)) r (fun R => zaq r hr6.shape rfl rfl h_b1 zlP rfl) rfl fun fr w7 u8 r => ?_
 have z_w7 := u8.size
 have h_b1 := u8.at_
 obtain ⟨hB, zB⟩ := u8.on hB (by omega)
 refine wn (wp_ret ?_)
 have hs := hr6.shape.cells
 refine zal r rfl rfl h_b1 (k := 6) hs.1 zlO ?_
 rw [← hs.2.2]
 exact rfin hF hB hr6 u8 (by omega) (by omega) (by omega)
theorem zie {n : Nat} {F : Nat → Prop} {r_free_fresh : Plan → Int → T Unit} {w0 : World} (hF : ∀ b, F b → b < w0.heap.size) (ih_free_fresh : ∀ m, m < n → ze6 r_free_fresh m)
    (a0 : Plan) (a1 : Int) :
    Calls Tryz.prog 204 #[.agg (zln a0).toArray, .int .i64 a1] w0 (zlx Tryz.prog zly n (D.zbU r_free_fresh a0 a1) F w0) := by
 refine enter Tryz.func204 rfl 28 rfl rfl fun fr r => ?_
 have hB := Below.refl w0.heap.size w0
 refine wsr ?_
 refine zaa (.cells ((zln a0)).toArray 23 (0, 0)) r (fun R => zlC r (v := (.agg (zln a0).toArray)) rfl) rfl fun fr b1 w2 n3 r => ?_
 obtain ⟨e_b1, z_w2, h_b1, hB, zB⟩ := n3.all hB
 refine zaa (.cells #[(I a1)] 3 (0, 0)) r (fun R => zlC r (v := (I a1)) rfl) rfl fun fr b4 w5 n6 r => ?_
 have h_b1 := keep n6.below h_b1
 obtain ⟨e_b4, z_w5, h_b4, hB, zB⟩ := n6.all hB
 refine zaa (.cells (zlo false zly.zero 0 0 0 0 .nilFunc) 195 (0, 0)) r (fun R => zar zlT) rfl fun fr b7 w8 n9 r => ?_
 have h_b1 := keep n9.below h_b1
 have h_b4 := keep n9.below h_b4
 obtain ⟨e_b7, z_w8, h_b7, hB, zB⟩ := n9.all hB
 refine wn (wp_seq (wsr (za0 (I a1) r (fun R => za2 r rfl h_b4 to3 rfl) rfl fun fr r => za0 _ r (fun R => za4 r (o := 0) rfl zec) rfl fun fr r => za0 (I a0.nodes) r (fun R => za2 r rfl h_b1 to3 rfl) rfl fun fr r => za0 _ r (fun R => zlt r rfl rfl rfl rfl) rfl fun fr r => wn ?_)))
 refine wp_cond_split (t := (a1 == a0.nodes)) (r.ev rfl) (fun h10 => ?_) (fun h10 => ?_)
 ·
  refine wsr (za0 (.agg (zln a0).toArray) r (fun R => za7 r (cs := (zln a0)) (n := 6) rfl h_b1 ta23 rfl) rfl fun fr r => ?_)
  refine za9 r (zcb w8 a0) (fun R hc => zac r rfl zm1 hc) rfl ?_
  rintro _ w11 ⟨rfl, hb⟩
  refine ⟨_, rfl, fun fr r => ?_⟩
  have z_w11 := hb.size
  have h_b1 := keep hb h_b1
  have h_b4 := keep hb h_b4
  have h_b7 := keep hb h_b7
  obtain ⟨hB, zB⟩ := bon hb hB
  refine za9 r (zfw w11 0) (fun R hc => zac r rfl zmy hc) rfl ?_
  rintro _ w12 ⟨rfl, hb⟩
  refine ⟨_, rfl, fun fr r => ?_⟩
  have z_w12 := hb.size
  have h_b1 := keep hb h_b1
  have h_b4 := keep hb h_b4
  have h_b7 := keep hb h_b7
  obtain ⟨hB, zB⟩ := bon hb hB
  have hF1 := zlG hF hB b7
  refine za9 r (zj7 (F := (fun b => F b ∨ (w0.heap.size ≤ b ∧ b < w12.heap.size ∧ b ≠ b7))) (n := n) hF1 (D.zaT a0) (D.zbO 0)) (fun R hc => zac r rfl zot hc) rfl ?_
  rintro _ w13 ⟨v14, rfl, hb, hr15⟩
  refine ⟨_, rfl, fun fr r => ?_⟩
  have z_w13 := hb.size
  have h_b1 := keep hb h_b1
  have h_b4 := keep hb h_b4
  have h_b7 := keep hb h_b7
  obtain ⟨hB, zB⟩ := bon hb hB
  refine zaf (.cells v14.cells 195 (0, 0)) r (fun R => zaq r hr15.shape rfl rfl h_b7 zlP rfl) rfl fun fr w16 u17 r => ?_
  have z_w16 := u17.size
  have h_b1 := u17.keep h_b1 (by omega)
  have h_b4 := u17.keep h_b4 (by omega)
  have h_b7 := u17.at_
  obtain ⟨hB, zB⟩ := u17.on hB (by omega)
  refine wn (wp_ret ?_)
  have hd : D.zbU r_free_fresh a0 a1 = (D.zgF (D.zaT a0) (D.zbO 0)) := (zao h10).trans (rfl)
  have hs := hr15.shape.cells
  refine zal r rfl rfl h_b7 (k := 6) hs.1 zlO ?_
  rw [← hs.2.2, hd]
  exact rfin hF hB hr15 u17 (by omega) (by omega) (by omega)
 ·
  refine wp_skip (wsr (za0 (I a1) r (fun R => za2 r rfl h_b4 to3 rfl) rfl fun fr r => za0 _ r (fun R => zlt r rfl rfl rfl rfl) rfl fun fr r => ?_))
  refine za9 r (zfw w8 (W (a1 + 1))) (fun R hc => zac r rfl zmy hc) rfl ?_
  rintro _ w18 ⟨rfl, hb⟩
  refine ⟨_, rfl, fun fr r => ?_⟩
  have z_w18 := hb.size
  have h_b1 := keep hb h_b1
  have h_b4 := keep hb h_b4
  have h_b7 := keep hb h_b7
  obtain ⟨hB, zB⟩ := bon hb hB
  refine za0 (U (D.zbO (W (a1 + 1)))) r (fun R => za6 r rfl) rfl fun fr r => wn (wp_seq (wsr (za0 (I a1) r (fun R => za2 r rfl h_b4 to3 rfl) rfl fun fr r => za0 _ r (fun R => zlt r rfl rfl rfl rfl) rfl fun fr r => za0 _ r (fun R => za4 r (o := 0) rfl zec) rfl fun fr r => za0 (I a0.nodes) r (fun R => za2 r rfl h_b1 to3 rfl) rfl fun fr r => za0 _ r (fun R => zlt r rfl rfl rfl rfl) rfl fun fr r => wn ?_)))
  obtain ⟨x19, hx19⟩ : ∃ x : Int, x = (bif ((W (a1 + 1)) == a0.nodes) then 0 else (D.zbO (W (a1 + 1)))) := ⟨_, rfl⟩
  refine zkN (N := 28) [(0, (.agg (zln a0).toArray)), (1, (I a1)), (2, (zp b1)), (3, (zp b4)), (4, (zp b7)), (5, (U x19))] (fun w => Below w0.heap.size w0 w ∧ w18.heap.size ≤ w.heap.size ∧ w.heap[b1]? = some (.cells ((zln a0)).toArray 23 (0, 0)) ∧ w.heap[b4]? = some (.cells #[(I a1)] 3 (0, 0)) ∧ w.heap[b7]? = some (.cells (zlo false zly.zero 0 0 0 0 .nilFunc) 195 (0, 0))) ?_ ?_
  ·
   refine wp_cond_split (t := ((W (a1 + 1)) == a0.nodes)) (r.ev rfl) (fun h20 => ?_) (fun h20 => ?_)
   ·
    refine wp_region_lit (za0 (U 0) r (fun R => za6 r rfl) rfl fun fr r => wn ?_)
    exact ⟨rfl, _, r, (za1 rfl (za1 rfl (za1 rfl (za1 rfl (za1 rfl (za1 (by rw [hx19, zao h20]; rfl) zaz)))))), hB, (by omega), h_b1, h_b4, h_b7⟩
   ·
    refine wp_skip ?_
    exact ⟨rfl, _, r, (za1 rfl (za1 rfl (za1 rfl (za1 rfl (za1 rfl (za1 (by rw [hx19, zah h20]; rfl) zaz)))))), hB, (by omega), h_b1, h_b4, h_b7⟩
  ·
   rintro fr w21 g r ⟨hB, z_w21, h_b1, h_b4, h_b7⟩
   have zB := hB.size
   refine wsr (za0 (.agg (zln a0).toArray) r (fun R => za7 r (cs := (zln a0)) (n := 6) rfl h_b1 ta23 rfl) rfl fun fr r => za0 (I a1) r (fun R => za2 r rfl h_b4 to3 rfl) rfl fun fr r => ?_)
   refine za9 r (zcy w21 a0 a1) (fun R hc => zac r rfl zmh hc) rfl ?_
   rintro _ w22 ⟨rfl, hb⟩
   refine ⟨_, rfl, fun fr r => ?_⟩
   have z_w22 := hb.size
   have h_b1 := keep hb h_b1
   have h_b4 := keep hb h_b4
   have h_b7 := keep hb h_b7
   obtain ⟨hB, zB⟩ := bon hb hB
   refine za0 (U x19) r (fun R => za5 r rfl) rfl fun fr r => za0 (.func (.func 316) #[] #[zp b1, zp b4]) r (fun R => zaL r rfl) rfl fun fr r => ?_
   have hF1 := zlG hF hB b7
   have f23 : ((fun b => F b ∨ (w0.heap.size ≤ b ∧ b < w22.heap.size ∧ b ≠ b7))) b1 := (.inr ⟨by omega, by omega, by omega⟩)
   have f24 : ((fun b => F b ∨ (w0.heap.size ≤ b ∧ b < w22.heap.size ∧ b ≠ b7))) b4 := (.inr ⟨by omega, by omega, by omega⟩)
   refine za9 r (zen (F := (fun b => F b ∨ (w0.heap.size ≤ b ∧ b < w22.heap.size ∧ b ≠ b7))) (n := n) hF1 (D.zaY a0 a1) x19 ⟨316, [], [zp b1, zp b4], znQ, rfl, fun m hm _ w' hs hz => zhb (fun b hb => Nat.lt_of_lt_of_le (hF1 b hb) hz) (fun m' hm' => ih_free_fresh m' (by omega)) a0 f23 (hs.at_ f23 h_b1) a1 f24 (hs.at_ f24 h_b4)⟩) (fun R hc => zac r rfl zne hc) rfl ?_
   rintro _ w25 ⟨v26, rfl, hb, hr27⟩
   refine ⟨_, rfl, fun fr r => ?_⟩
   have z_w25 := hb.size
   have h_b1 := keep hb h_b1
   have h_b4 := keep hb h_b4
   have h_b7 := keep hb h_b7
   obtain ⟨hB, zB⟩ := bon hb hB
   refine zaf (.cells v26.cells 195 (0, 0)) r (fun R => zaq r hr27.shape rfl rfl h_b7 zlP rfl) rfl fun fr w28 u29 r => ?_
   have z_w28 := u29.size
   have h_b1 := u29.keep h_b1 (by omega)
   have h_b4 := u29.keep h_b4 (by omega)
   have h_b7 := u29.at_
   obtain ⟨hB, zB⟩ := u29.on hB (by omega)
   refine wn (wp_ret ?_)
   have hd : D.zbU r_free_fresh a0 a1 = (D.zdl (D.zaY a0 a1) x19 (fun _ => (D.zeU r_free_fresh a0 a1))) := by subst hx19; exact (zah h10).trans (rfl)
   have hs := hr27.shape.cells
   refine zal r rfl rfl h_b7 (k := 6) hs.1 zlO ?_
   rw [← hs.2.2, hd]
   exact rfin hF hB hr27 u29 (by omega) (by omega) (by omega)
theorem zhS {n : Nat} {k : Nat} (hk : n < k) : ze6 (D.zcS k) n := by
  induction n using Nat.strongRecOn generalizing k with
  | _ n ih =>
    obtain ⟨k, rfl⟩ : ∃ q, k = q + 1 := ⟨k - 1, by omega⟩
    intro F w0 hF
    have h := @zie n F (D.zcS k) w0 hF (fun m hm => ih m hm (by omega))
    exact h
def D.zds (j : Nat) (a0 : Plan) : T Unit := (D.zcS j a0 0)
theorem zil {n : Nat} {F : Nat → Prop} {j : Nat} {w0 : World} (hF : ∀ b, F b → b < w0.heap.size) (hj : n < j)
    (a0 : Plan) :
    Calls Tryz.prog 107 #[.agg (zln a0).toArray] w0 (zlx Tryz.prog zly n (D.zds j a0) F w0) := by
 refine enter Tryz.func107 rfl 5 rfl rfl fun fr r => ?_
 have hB := Below.refl w0.heap.size w0
 refine wsr ?_
 refine zaa (.cells ((zln a0)).toArray 23 (0, 0)) r (fun R => zlC r (v := (.agg (zln a0).toArray)) rfl) rfl fun fr b1 w2 n3 r => ?_
 obtain ⟨e_b1, z_w2, h_b1, hB, zB⟩ := n3.all hB
 refine zaa (.cells (zlo false zly.zero 0 0 0 0 .nilFunc) 195 (0, 0)) r (fun R => zar zlT) rfl fun fr b4 w5 n6 r => ?_
 have h_b1 := keep n6.below h_b1
 obtain ⟨e_b4, z_w5, h_b4, hB, zB⟩ := n6.all hB
 refine wn (wsr (za0 (.agg (zln a0).toArray) r (fun R => za7 r (cs := (zln a0)) (n := 6) rfl h_b1 ta23 rfl) rfl fun fr r => ?_))
 have hF1 := zlG hF hB b4
 refine za9 r ((zhS (k := j) (n := n) (by omega)) (fun b => F b ∨ (w0.heap.size ≤ b ∧ b < w5.heap.size ∧ b ≠ b4)) _ hF1 a0 0) (fun R hc => zac r rfl znn hc) rfl ?_
 rintro _ w7 ⟨v8, rfl, hb, hr9⟩
 refine ⟨_, rfl, fun fr r => ?_⟩
 have z_w7 := hb.size
 have h_b1 := keep hb h_b1
 have h_b4 := keep hb h_b4
 obtain ⟨hB, zB⟩ := bon hb hB
 refine zaf (.cells v8.cells 195 (0, 0)) r (fun R => zaq r hr9.shape rfl rfl h_b4 zlP rfl) rfl fun fr w10 u11 r => ?_
 have z_w10 := u11.size
 have h_b1 := u11.keep h_b1 (by omega)
 have h_b4 := u11.at_
 obtain ⟨hB, zB⟩ := u11.on hB (by omega)
 refine wn (wp_ret ?_)
 have hs := hr9.shape.cells
 refine zal r rfl rfl h_b4 (k := 6) hs.1 zlO ?_
 rw [← hs.2.2]
 exact rfin hF hB hr9 u11 (by omega) (by omega) (by omega)
def D.zaO  : Field := (⟨0, 21⟩ : Field)
theorem zez (w0 : World) 
     :
    Calls Tryz.prog 133 #[] w0 (zlE (.agg (zlv D.zaO).toArray) w0) := by
 refine enter Tryz.func133 rfl 2 rfl rfl fun fr r => ?_
 have hB := Below.refl w0.heap.size w0
 refine wsr ?_
 refine zaa (.cells ((zlv (⟨0, 0⟩ : Field))).toArray 217 (0, 0)) r (fun R => zar zm0) rfl fun fr b1 w2 n3 r => ?_
 obtain ⟨e_b1, z_w2, h_b1, hB, zB⟩ := n3.all hB
 refine wn (wsr (za0 (.agg (zlv (⟨0, 21⟩ : Field)).toArray) r (fun R => zb4 r (by kernel_rfl)) rfl fun fr r => ?_))
 refine zaf (.cells ((zlv (⟨0, 21⟩ : Field))).toArray 217 (0, 0)) r (fun R => zb0 r (o := 0) (v := (.agg (zlv (⟨0, 21⟩ : Field)).toArray)) rfl rfl h_b1 zm4 (Nat.le_of_ble_eq_true rfl) rfl rfl) rfl fun fr w4 u5 r => ?_
 have z_w4 := u5.size
 have h_b1 := u5.at_
 obtain ⟨hB, zB⟩ := u5.on hB (by omega)
 refine wn (wp_ret ?_)
 refine zal r rfl rfl h_b1 (k := 2) rfl zlN ?_
 exact ⟨rfl, hB⟩
def D.zcO  : Field := (⟨21, 43⟩ : Field)
theorem zhl (w0 : World) 
     :
    Calls Tryz.prog 319 #[] w0 (zlE (.agg (zlv D.zcO).toArray) w0) := by
 refine enter Tryz.func319 rfl 2 rfl rfl fun fr r => ?_
 have hB := Below.refl w0.heap.size w0
 refine wsr ?_
 refine zaa (.cells ((zlv (⟨0, 0⟩ : Field))).toArray 217 (0, 0)) r (fun R => zar zm0) rfl fun fr b1 w2 n3 r => ?_
 obtain ⟨e_b1, z_w2, h_b1, hB, zB⟩ := n3.all hB
 refine wn (wsr (za0 (.agg (zlv (⟨21, 43⟩ : Field)).toArray) r (fun R => zb4 r (by kernel_rfl)) rfl fun fr r => ?_))
 refine zaf (.cells ((zlv (⟨21, 43⟩ : Field))).toArray 217 (0, 0)) r (fun R => zb0 r (o := 0) (v := (.agg (zlv (⟨21, 43⟩ : Field)).toArray)) rfl rfl h_b1 zm4 (Nat.le_of_ble_eq_true rfl) rfl rfl) rfl fun fr w4 u5 r => ?_
 have z_w4 := u5.size
 have h_b1 := u5.at_
 obtain ⟨hB, zB⟩ := u5.on hB (by omega)
 refine wn (wp_ret ?_)
 refine zal r rfl rfl h_b1 (k := 2) rfl zlN ?_
 exact ⟨rfl, hB⟩
def D.zcw (a0 : Int) (a1 : Int) : Int := (D.zaH D.zcO (D.zaH D.zaO 0 a1) (IntKind.u64.wrap ((D.zag D.zcO a0) + 1)))
theorem zfR (w0 : World) 
    (a0 : Int) (a1 : Int) :
    Calls Tryz.prog 216 #[.int .u64 a0, .int .u64 a1] w0 (zlE (.int .u64 (D.zcw a0 a1)) w0) := by
 refine enter Tryz.func216 rfl 14 rfl rfl fun fr r => ?_
 have hB := Below.refl w0.heap.size w0
 refine wsr (za0 (U 0) r (fun R => za6 r rfl) rfl fun fr r => wn (wsr ?_))
 refine za9 r (zhl w0 ) (fun R hc => zac r rfl znk hc) rfl ?_
 rintro _ w1 ⟨rfl, hb⟩
 refine ⟨_, rfl, fun fr r => ?_⟩
 have z_w1 := hb.size
 obtain ⟨hB, zB⟩ := bon hb hB
 refine za9 r (zez w1 ) (fun R hc => zac r rfl zms hc) rfl ?_
 rintro _ w2 ⟨rfl, hb⟩
 refine ⟨_, rfl, fun fr r => ?_⟩
 have z_w2 := hb.size
 obtain ⟨hB, zB⟩ := bon hb hB
 refine za0 (U a1) r (fun R => za5 r rfl) rfl fun fr r => ?_
 refine za9 r (zdt w2 D.zaO 0 a1) (fun R hc => zac r rfl zmm hc) rfl ?_
 rintro _ w3 ⟨rfl, hb⟩
 refine ⟨_, rfl, fun fr r => ?_⟩
 have z_w3 := hb.size
 obtain ⟨hB, zB⟩ := bon hb hB
 refine za9 r (zhl w3 ) (fun R hc => zac r rfl znk hc) rfl ?_
 rintro _ w4 ⟨rfl, hb⟩
 refine ⟨_, rfl, fun fr r => ?_⟩
 have z_w4 := hb.size
 obtain ⟨hB, zB⟩ := bon hb hB
 refine za0 (U a0) r (fun R => za5 r rfl) rfl fun fr r => ?_
 refine za9 r (zct w4 D.zcO a0) (fun R hc => zac r rfl zm5 hc) rfl ?_
 rintro _ w5 ⟨rfl, hb⟩
 refine ⟨_, rfl, fun fr r => ?_⟩
 have z_w5 := hb.size
 obtain ⟨hB, zB⟩ := bon hb hB
 refine za0 _ r (fun R => zlt r rfl rfl rfl rfl) rfl fun fr r => ?_
 refine za9 r (zdt w5 D.zcO (D.zaH D.zaO 0 a1) (V ((D.zag D.zcO a0) + 1))) (fun R hc => zac r rfl zmm hc) rfl ?_
 rintro _ w6 ⟨rfl, hb⟩
 refine ⟨_, rfl, fun fr r => ?_⟩
 have z_w6 := hb.size
 obtain ⟨hB, zB⟩ := bon hb hB
 refine za0 (U (D.zaH D.zcO (D.zaH D.zaO 0 a1) (V ((D.zag D.zcO a0) + 1)))) r (fun R => za6 r rfl) rfl fun fr r => wn (wp_ret ?_)
 refine zaA r rfl rfl ?_
 exact ⟨rfl, hB⟩
def D.zcC (r_free_Pop : Plan → T Int) (c0 : Plan) (c1 : Int) (a0 : Bool) : T Int := (bif (!a0) then (r_free_Pop c0) else (D.zaW c1))
def D.zdB (r_free_Pop : Plan → T Int) (c0 : Plan) (c1 : Int) (c2 : Int) (a0 : Int) : T Int := (D.zeC (D.zaT c0) c1 (D.zcw c1 a0) (fun x => (D.zcC r_free_Pop c0 c2 x)))
def D.zda (r_free_Pop : Plan → T Int) (c0 : Plan) (a0 : Int) : T Int := (bif (decide ((IntKind.i64.wrap ((IntKind.i64.wrap (D.zag D.zaO a0)) - 1)) < 0)) then (D.zaW (-1)) else (D.zb7 (D.zaY c0 (IntKind.i64.wrap ((IntKind.i64.wrap (D.zag D.zaO a0)) - 1))) (fun x => (D.zdB r_free_Pop c0 a0 (IntKind.i64.wrap ((IntKind.i64.wrap (D.zag D.zaO a0)) - 1)) x))))
def D.zcT (r_free_Pop : Plan → T Int) (a0 : Plan) : T Int := (D.zb7 (D.zaT a0) (fun x => (D.zda r_free_Pop a0 x)))
def D.zbW : Nat → Plan → T Int
  | 0, _ => .cut
  | k + 1, a0 => D.zcT (D.zbW k) a0
def zdo (r : Plan → T Int) (n : Nat) : Prop := ∀ (F : Nat → Prop) (w0 : World), (∀ b, F b → b < w0.heap.size) → ∀ (a0 : Plan), Calls Tryz.prog 113 #[.agg (zln a0).toArray] w0 (zlx Tryz.prog zlq n (r a0) F w0)
theorem zgC {n : Nat} {F : Nat → Prop} {r_free_Pop : Plan → T Int} {w0 : World} (hF : ∀ b, F b → b < w0.heap.size) (ih_free_Pop : ∀ m, m ≤ n → zdo r_free_Pop m)
    (c0 : Plan) {c0b : Nat} (c0F : F c0b) (c0h : w0.heap[c0b]? = some (.cells ((zln c0)).toArray 23 (0, 0))) (c1 : Int) {c1b : Nat} (c1F : F c1b) (c1h : w0.heap[c1b]? = some (.cells ([(.int .i64 c1)]).toArray 3 (0, 0))) (a0 : Bool) :
    Calls Tryz.prog 217 #[.bool a0, zp c0b, zp c1b] w0 (zlx Tryz.prog zlq n (D.zcC r_free_Pop c0 c1 a0) F w0) := by
 refine enter Tryz.func217 rfl 11 rfl rfl fun fr r => ?_
 have hB := Below.refl w0.heap.size w0
 have lc0b := lt_of_block c0h
 have lc1b := lt_of_block c1h
 refine wsr ?_
 refine zaa (.cells (zlo false zlq.zero 0 0 0 0 .nilFunc) 61 (0, 0)) r (fun R => zar tz61) rfl fun fr b1 w2 n3 r => ?_
 obtain ⟨e_b1, z_w2, h_b1, hB, zB⟩ := n3.all hB
 refine wn (wp_seq (wsr (za0 (.bool a0) r (fun R => za5 r rfl) rfl fun fr r => za0 (.bool (!a0)) r (fun R => y_un r (u := (.bool a0)) rfl rfl) rfl fun fr r => wn ?_)))
 refine wp_cond_split (t := (!a0)) (r.ev rfl) (fun h4 => ?_) (fun h4 => ?_)
 ·
  refine wsr (za0 (.agg (zln c0).toArray) r (fun R => za7 r (cs := (zln c0)) (n := 6) rfl (keep hB c0h) ta23 rfl) rfl fun fr r => ?_)
  have hF1 := zlG hF hB b1
  refine za9 r ((ih_free_Pop n (by omega)) (fun b => F b ∨ (w0.heap.size ≤ b ∧ b < w2.heap.size ∧ b ≠ b1)) _ hF1 c0) (fun R hc => zac r rfl zmM hc) rfl ?_
  rintro _ w5 ⟨v6, rfl, hb, hr7⟩
  refine ⟨_, rfl, fun fr r => ?_⟩
  have z_w5 := hb.size
  have h_b1 := keep hb h_b1
  obtain ⟨hB, zB⟩ := bon hb hB
  refine zaf (.cells v6.cells 61 (0, 0)) r (fun R => zaq r hr7.shape rfl rfl h_b1 ts61 rfl) rfl fun fr w8 u9 r => ?_
  have z_w8 := u9.size
  have h_b1 := u9.at_
  obtain ⟨hB, zB⟩ := u9.on hB (by omega)
  refine wn (wp_ret ?_)
  have hd : D.zcC r_free_Pop c0 c1 a0 = (r_free_Pop c0) := (zao h4).trans (rfl)
  have hs := hr7.shape.cells
  refine zal r rfl rfl h_b1 (k := 7) hs.1 ta61 ?_
  rw [← hs.2.2, hd]
  exact rfin hF hB hr7 u9 (by omega) (by omega) (by omega)
 ·
  refine wp_skip (wsr (za0 (I c1) r (fun R => za2 r rfl (keep hB c1h) to3 rfl) rfl fun fr r => ?_))
  have hF1 := zlG hF hB b1
  refine za9 r (zbs (F := (fun b => F b ∨ (w0.heap.size ≤ b ∧ b < w2.heap.size ∧ b ≠ b1))) (n := n) hF1 c1) (fun R hc => zac r rfl zlS hc) rfl ?_
  rintro _ w10 ⟨v11, rfl, hb, hr12⟩
  refine ⟨_, rfl, fun fr r => ?_⟩
  have z_w10 := hb.size
  have h_b1 := keep hb h_b1
  obtain ⟨hB, zB⟩ := bon hb hB
  refine zaf (.cells v11.cells 61 (0, 0)) r (fun R => zaq r hr12.shape rfl rfl h_b1 ts61 rfl) rfl fun fr w13 u14 r => ?_
  have z_w13 := u14.size
  have h_b1 := u14.at_
  obtain ⟨hB, zB⟩ := u14.on hB (by omega)
  refine wn (wp_ret ?_)
  have hd : D.zcC r_free_Pop c0 c1 a0 = (D.zaW c1) := (zah h4).trans (rfl)
  have hs := hr12.shape.cells
  refine zal r rfl rfl h_b1 (k := 7) hs.1 ta61 ?_
  rw [← hs.2.2, hd]
  exact rfin hF hB hr12 u14 (by omega) (by omega) (by omega)
theorem zhc {n : Nat} {F : Nat → Prop} {r_free_Pop : Plan → T Int} {w0 : World} (hF : ∀ b, F b → b < w0.heap.size) (ih_free_Pop : ∀ m, m < n → zdo r_free_Pop m)
    (c0 : Plan) {c0b : Nat} (c0F : F c0b) (c0h : w0.heap[c0b]? = some (.cells ((zln c0)).toArray 23 (0, 0))) (c1 : Int) {c1b : Nat} (c1F : F c1b) (c1h : w0.heap[c1b]? = some (.cells ([(.int .u64 c1)]).toArray 40 (0, 0))) (c2 : Int) {c2b : Nat} (c2F : F c2b) (c2h : w0.heap[c2b]? = some (.cells ([(.int .i64 c2)]).toArray 3 (0, 0))) (a0 : Int) :
    Calls Tryz.prog 214 #[.int .u64 a0, zp c0b, zp c1b, zp c2b] w0 (zlx Tryz.prog zlq n (D.zdB r_free_Pop c0 c1 c2 a0) F w0) := by
 refine enter Tryz.func214 rfl 14 rfl rfl fun fr r => ?_
 have hB := Below.refl w0.heap.size w0
 have lc0b := lt_of_block c0h
 have lc1b := lt_of_block c1h
 have lc2b := lt_of_block c2h
 refine wsr ?_
 refine zaa (.cells (zlo false zlq.zero 0 0 0 0 .nilFunc) 61 (0, 0)) r (fun R => zar tz61) rfl fun fr b1 w2 n3 r => ?_
 obtain ⟨e_b1, z_w2, h_b1, hB, zB⟩ := n3.all hB
 refine wn (wp_seq ?_)
 refine zb5 7 [.val (.agg (zln c0).toArray), .val (I (D.zaT c0)), .val (U c1), .val (U c1), .val (U a0), .val (U (D.zcw c1 a0)), .val (.func (.func 217) #[] #[zp c0b, zp c2b])] mixed r (by kernel_rfl) (za3 (by exact trivial) (za3 (by exact trivial) (za3 (by exact trivial) (za3 (by exact trivial) (za3 (by exact trivial) (za3 (by exact trivial) (za3 (by exact trivial) zaV))))))) ?_ ?_
 ·
  refine ec r (fun _ u _ b d s => za7 s (cs := (zln c0)) (n := 6) rfl (zlK hB b c0h) ta23 rfl bz) (ec r (fun fr1 u w' hb' hd r' => zac r' (args := [(.agg (zln c0).toArray)]) (lc hd.1 l0) zm1 ((zcb _ c0).mono (by rintro _ w2 ⟨rfl, hb2⟩; exact ⟨_, rfl, hb2, rfl⟩))) (ec r (fun _ u _ b d s => za2 s rfl (zlK hB b c1h) to40 rfl bz) (ec r (fun _ u _ b d s => za2 s rfl (zlK hB b c1h) to40 rfl bz) (ec r (fun _ u _ b d s => za5 s rfl bz) (ec r (fun fr1 u w' hb' hd r' => zac r' (args := [(U c1), (U a0)]) (lc hd.1 (lc hd.2.1 l0)) zn3 ((zfR _ c1 a0).mono (by rintro _ w2 ⟨rfl, hb2⟩; exact ⟨_, rfl, hb2, rfl⟩))) (ec r (fun _ u _ b d s => zaL s (v := (.func (.func 217) #[] #[zp c0b, zp c2b])) rfl bz) ?_))))))
  exact zbc
 ·
  intro fr u w4 hb hΦ hne r
  have r := r.congr (sc (hΦ 6 (by decide)) (sc (hΦ 5 (by decide)) (sc (hΦ 4 (by decide)) (sc (hΦ 3 (by decide)) (sc (hΦ 2 (by decide)) (sc (hΦ 1 (by decide)) (sc (hΦ 0 (by decide)) rfl)))))))
  have z_w4 := hb.size
  have h_b1 := keep hb h_b1
  obtain ⟨hB, zB⟩ := bon hb hB
  have hF1 := zlG hF hB b1
  have f5 : ((fun b => F b ∨ (w0.heap.size ≤ b ∧ b < w4.heap.size ∧ b ≠ b1))) c0b := (.inl c0F)
  have f6 : ((fun b => F b ∨ (w0.heap.size ≤ b ∧ b < w4.heap.size ∧ b ≠ b1))) c2b := (.inl c2F)
  refine za9 r (zeV (F := (fun b => F b ∨ (w0.heap.size ≤ b ∧ b < w4.heap.size ∧ b ≠ b1))) (n := n) hF1 (D.zaT c0) c1 (D.zcw c1 a0) ⟨217, [], [zp c0b, zp c2b], znt, rfl, fun m hm x w' hs hz => zgC (fun b hb => Nat.lt_of_lt_of_le (hF1 b hb) hz) (fun m' hm' => ih_free_Pop m' (by omega)) c0 f5 (hs.at_ f5 (keep hB c0h)) c2 f6 (hs.at_ f6 (keep hB c2h)) x⟩) (fun R hc => zac r rfl znc hc) rfl ?_
  rintro _ w7 ⟨v8, rfl, hb, hr9⟩
  refine ⟨_, rfl, fun fr r => ?_⟩
  have z_w7 := hb.size
  have h_b1 := keep hb h_b1
  obtain ⟨hB, zB⟩ := bon hb hB
  refine zaf (.cells v8.cells 61 (0, 0)) r (fun R => zaq r hr9.shape rfl rfl h_b1 ts61 rfl) rfl fun fr w10 u11 r => ?_
  have z_w10 := u11.size
  have h_b1 := u11.at_
  obtain ⟨hB, zB⟩ := u11.on hB (by omega)
  refine wn (wp_ret ?_)
  have hs := hr9.shape.cells
  refine zal r rfl rfl h_b1 (k := 7) hs.1 ta61 ?_
  rw [← hs.2.2]
  exact rfin hF hB hr9 u11 (by omega) (by omega) (by omega)
theorem zi0 {n : Nat} {F : Nat → Prop} {r_free_Pop : Plan → T Int} {w0 : World} (hF : ∀ b, F b → b < w0.heap.size) (ih_free_Pop : ∀ m, m < n → zdo r_free_Pop m)
    (c0 : Plan) {c0b : Nat} (c0F : F c0b) (c0h : w0.heap[c0b]? = some (.cells ((zln c0)).toArray 23 (0, 0))) (a0 : Int) :
    Calls Tryz.prog 212 #[.int .u64 a0, zp c0b] w0 (zlx Tryz.prog zlq n (D.zda r_free_Pop c0 a0) F w0) := by
 refine enter Tryz.func212 rfl 18 rfl rfl fun fr r => ?_
 have hB := Below.refl w0.heap.size w0
 have lc0b := lt_of_block c0h
 refine wsr ?_
 refine zaa (.cells #[(U a0)] 40 (0, 0)) r (fun R => zlC r (v := (U a0)) rfl) rfl fun fr b1 w2 n3 r => ?_
 obtain ⟨e_b1, z_w2, h_b1, hB, zB⟩ := n3.all hB
 refine zaa (.cells (zlo false zlq.zero 0 0 0 0 .nilFunc) 61 (0, 0)) r (fun R => zar tz61) rfl fun fr b4 w5 n6 r => ?_
 have h_b1 := keep n6.below h_b1
 obtain ⟨e_b4, z_w5, h_b4, hB, zB⟩ := n6.all hB
 refine wn (wp_seq ?_)
 refine zb5 6 [.val (.agg (zlv D.zaO).toArray), .val (U a0), .val (U (D.zag D.zaO a0)), .val (I (W (D.zag D.zaO a0))), .val (I (W ((W (D.zag D.zaO a0)) - 1))), .new w5.heap.size (.cells #[(I 0)] 3 (0, 0))] mixed r (by kernel_rfl) (za3 (by exact trivial) (za3 (by exact trivial) (za3 (by exact trivial) (za3 (by exact trivial) (za3 (by exact trivial) (za3 (Nat.le_refl _) zaV)))))) ?_ ?_
 ·
  refine ec r (fun fr1 u w' hb' hd r' => zac r' (args := []) (l0) zms ((zez _ ).mono (by rintro _ w2 ⟨rfl, hb2⟩; exact ⟨_, rfl, hb2, rfl⟩))) (ec r (fun _ u _ b d s => za2 s rfl (keep b h_b1) to40 rfl bz) (ec r (fun fr1 u w' hb' hd r' => zac r' (args := [(.agg (zlv D.zaO).toArray), (U a0)]) (lc hd.1 (lc hd.2.1 l0)) zm5 ((zct _ D.zaO a0).mono (by rintro _ w2 ⟨rfl, hb2⟩; exact ⟨_, rfl, hb2, rfl⟩))) (ec r (fun _ u _ b d s => zbf s (n := (D.zag D.zaO a0)) d.1 ti40 ti3 bz) (ec r (fun _ u _ b d s => zlt s d.1 rfl rfl rfl bz) (ec r (fun fr1 u w' hb' hd r' => zar tz3 (fun b w2 n2 => ⟨n2.below, b, rfl, Nat.le_of_eq n2.eq.symm, n2.at_⟩)) ?_)))))
  exact zbc
 ·
  intro fr u w7 hb hΦ hne r
  obtain ⟨b8, g5, e_b8, h_b8⟩ := hΦ 5 (by decide)
  have l_b8 := lt_of_block h_b8
  have r := r.congr (sc g5 (sc (hΦ 4 (by decide)) (sc (hΦ 3 (by decide)) (sc (hΦ 2 (by decide)) (sc (hΦ 1 (by decide)) (sc (hΦ 0 (by decide)) rfl))))))
  have z_w7 := hb.size
  have h_b1 := keep hb h_b1
  have h_b4 := keep hb h_b4
  obtain ⟨hB, zB⟩ := bon hb hB
  refine zaf (.cells #[(I (W ((W (D.zag D.zaO a0)) - 1)))] 3 (0, 0)) r (fun R => zb0 r (o := 0) (v := (I (W ((W (D.zag D.zaO a0)) - 1)))) rfl rfl h_b8 ts3 (Nat.le_of_ble_eq_true rfl) rfl rfl) rfl fun fr w9 u10 r => ?_
  have z_w9 := u10.size
  have h_b1 := u10.keep h_b1 (by omega)
  have h_b4 := u10.keep h_b4 (by omega)
  have h_b8 := u10.at_
  obtain ⟨hB, zB⟩ := u10.on hB (by omega)
  refine wn (wp_seq (wsr (za0 (I (W ((W (D.zag D.zaO a0)) - 1))) r (fun R => za2 r rfl h_b8 to3 rfl) rfl fun fr r => za0 _ r (fun R => zlt r rfl rfl rfl rfl) rfl fun fr r => wn ?_)))
  refine wp_cond_split (t := (decide ((W ((W (D.zag D.zaO a0)) - 1)) < 0))) (r.ev rfl) (fun h11 => ?_) (fun h11 => ?_)
  ·
   refine wsr ?_
   have hF1 := zlG hF hB b4
   refine za9 r (zbs (F := (fun b => F b ∨ (w0.heap.size ≤ b ∧ b < w9.heap.size ∧ b ≠ b4))) (n := n) hF1 (-1)) (fun R hc => zac r rfl zlS hc) rfl ?_
   rintro _ w12 ⟨v13, rfl, hb, hr14⟩
   refine ⟨_, rfl, fun fr r => ?_⟩
   have z_w12 := hb.size
   have h_b1 := keep hb h_b1
   have h_b4 := keep hb h_b4
   have h_b8 := keep hb h_b8
   obtain ⟨hB, zB⟩ := bon hb hB
   refine zaf (.cells v13.cells 61 (0, 0)) r (fun R => zaq r hr14.shape rfl rfl h_b4 ts61 rfl) rfl fun fr w15 u16 r => ?_
   have z_w15 := u16.size
   have h_b1 := u16.keep h_b1 (by omega)
   have h_b8 := u16.keep h_b8 (by omega)
   have h_b4 := u16.at_
   obtain ⟨hB, zB⟩ := u16.on hB (by omega)
   refine wn (wp_ret ?_)
   have hd : D.zda r_free_Pop c0 a0 = (D.zaW (-1)) := (zao h11).trans (rfl)
   have hs := hr14.shape.cells
   refine zal r rfl rfl h_b4 (k := 7) hs.1 ta61 ?_
   rw [← hs.2.2, hd]
   exact rfin hF hB hr14 u16 (by omega) (by omega) (by omega)
  ·
   refine wp_skip (wsr (za0 (.agg (zln c0).toArray) r (fun R => za7 r (cs := (zln c0)) (n := 6) rfl (keep hB c0h) ta23 rfl) rfl fun fr r => za0 (I (W ((W (D.zag D.zaO a0)) - 1))) r (fun R => za2 r rfl h_b8 to3 rfl) rfl fun fr r => ?_))
   refine za9 r (zcy w9 c0 (W ((W (D.zag D.zaO a0)) - 1))) (fun R hc => zac r rfl zmh hc) rfl ?_
   rintro _ w17 ⟨rfl, hb⟩
   refine ⟨_, rfl, fun fr r => ?_⟩
   have z_w17 := hb.size
   have h_b1 := keep hb h_b1
   have h_b4 := keep hb h_b4
   have h_b8 := keep hb h_b8
   obtain ⟨hB, zB⟩ := bon hb hB
   refine za0 (.func (.func 214) #[] #[zp c0b, zp b1, zp b8]) r (fun R => zaL r rfl) rfl fun fr r => ?_
   have hF1 := zlG hF hB b4
   have f18 : ((fun b => F b ∨ (w0.heap.size ≤ b ∧ b < w17.heap.size ∧ b ≠ b4))) c0b := (.inl c0F)
   have f19 : ((fun b => F b ∨ (w0.heap.size ≤ b ∧ b < w17.heap.size ∧ b ≠ b4))) b1 := (.inr ⟨by omega, by omega, by omega⟩)
   have f20 : ((fun b => F b ∨ (w0.heap.size ≤ b ∧ b < w17.heap.size ∧ b ≠ b4))) b8 := (.inr ⟨by omega, by omega, by omega⟩)
   refine za9 r (zbG (F := (fun b => F b ∨ (w0.heap.size ≤ b ∧ b < w17.heap.size ∧ b ≠ b4))) (n := n) hF1 (D.zaY c0 (W ((W (D.zag D.zaO a0)) - 1))) ⟨214, [], [zp c0b, zp b1, zp b8], zop, rfl, fun m hm x w' hs hz => zhc (fun b hb => Nat.lt_of_lt_of_le (hF1 b hb) hz) (fun m' hm' => ih_free_Pop m' (by omega)) c0 f18 (hs.at_ f18 (keep hB c0h)) a0 f19 (hs.at_ f19 h_b1) (W ((W (D.zag D.zaO a0)) - 1)) f20 (hs.at_ f20 h_b8) x⟩) (fun R hc => zac r rfl zlV hc) rfl ?_
   rintro _ w21 ⟨v22, rfl, hb, hr23⟩
   refine ⟨_, rfl, fun fr r => ?_⟩
   have z_w21 := hb.size
   have h_b1 := keep hb h_b1
   have h_b4 := keep hb h_b4
   have h_b8 := keep hb h_b8
   obtain ⟨hB, zB⟩ := bon hb hB
   refine zaf (.cells v22.cells 61 (0, 0)) r (fun R => zaq r hr23.shape rfl rfl h_b4 ts61 rfl) rfl fun fr w24 u25 r => ?_
   have z_w24 := u25.size
   have h_b1 := u25.keep h_b1 (by omega)
   have h_b8 := u25.keep h_b8 (by omega)
   have h_b4 := u25.at_
   obtain ⟨hB, zB⟩ := u25.on hB (by omega)
   refine wn (wp_ret ?_)
   have hd : D.zda r_free_Pop c0 a0 = (D.zb7 (D.zaY c0 (W ((W (D.zag D.zaO a0)) - 1))) (fun x => (D.zdB r_free_Pop c0 a0 (W ((W (D.zag D.zaO a0)) - 1)) x))) := (zah h11).trans (rfl)
   have hs := hr23.shape.cells
   refine zal r rfl rfl h_b4 (k := 7) hs.1 ta61 ?_
   rw [← hs.2.2, hd]
   exact rfin hF hB hr23 u25 (by omega) (by omega) (by omega)
theorem zj9 {n : Nat} {F : Nat → Prop} {r_free_Pop : Plan → T Int} {w0 : World} (hF : ∀ b, F b → b < w0.heap.size) (ih_free_Pop : ∀ m, m < n → zdo r_free_Pop m)
    (a0 : Plan) :
    Calls Tryz.prog 113 #[.agg (zln a0).toArray] w0 (zlx Tryz.prog zlq n (D.zcT r_free_Pop a0) F w0) := by
 refine enter Tryz.func113 rfl 7 rfl rfl fun fr r => ?_
 have hB := Below.refl w0.heap.size w0
 refine wsr ?_
 refine zaa (.cells ((zln a0)).toArray 23 (0, 0)) r (fun R => zlC r (v := (.agg (zln a0).toArray)) rfl) rfl fun fr b1 w2 n3 r => ?_
 obtain ⟨e_b1, z_w2, h_b1, hB, zB⟩ := n3.all hB
 refine zaa (.cells (zlo false zlq.zero 0 0 0 0 .nilFunc) 61 (0, 0)) r (fun R => zar tz61) rfl fun fr b4 w5 n6 r => ?_
 have h_b1 := keep n6.below h_b1
 obtain ⟨e_b4, z_w5, h_b4, hB, zB⟩ := n6.all hB
 refine wn (wsr (za0 (.agg (zln a0).toArray) r (fun R => za7 r (cs := (zln a0)) (n := 6) rfl h_b1 ta23 rfl) rfl fun fr r => ?_))
 refine za9 r (zcb w5 a0) (fun R hc => zac r rfl zm1 hc) rfl ?_
 rintro _ w7 ⟨rfl, hb⟩
 refine ⟨_, rfl, fun fr r => ?_⟩
 have z_w7 := hb.size
 have h_b1 := keep hb h_b1
 have h_b4 := keep hb h_b4
 obtain ⟨hB, zB⟩ := bon hb hB
 refine za0 (.func (.func 212) #[] #[zp b1]) r (fun R => zaL r rfl) rfl fun fr r => ?_
 have hF1 := zlG hF hB b4
 have f8 : ((fun b => F b ∨ (w0.heap.size ≤ b ∧ b < w7.heap.size ∧ b ≠ b4))) b1 := (.inr ⟨by omega, by omega, by omega⟩)
 refine za9 r (zbG (F := (fun b => F b ∨ (w0.heap.size ≤ b ∧ b < w7.heap.size ∧ b ≠ b4))) (n := n) hF1 (D.zaT a0) ⟨212, [], [zp b1], zoe, rfl, fun m hm x w' hs hz => zi0 (fun b hb => Nat.lt_of_lt_of_le (hF1 b hb) hz) (fun m' hm' => ih_free_Pop m' (by omega)) a0 f8 (hs.at_ f8 h_b1) x⟩) (fun R hc => zac r rfl zlV hc) rfl ?_
 rintro _ w9 ⟨v10, rfl, hb, hr11⟩
 refine ⟨_, rfl, fun fr r => ?_⟩
 have z_w9 := hb.size
 have h_b1 := keep hb h_b1
 have h_b4 := keep hb h_b4
 obtain ⟨hB, zB⟩ := bon hb hB
 refine zaf (.cells v10.cells 61 (0, 0)) r (fun R => zaq r hr11.shape rfl rfl h_b4 ts61 rfl) rfl fun fr w12 u13 r => ?_
 have z_w12 := u13.size
 have h_b1 := u13.keep h_b1 (by omega)
 have h_b4 := u13.at_
 obtain ⟨hB, zB⟩ := u13.on hB (by omega)
 refine wn (wp_ret ?_)
 have hs := hr11.shape.cells
 refine zal r rfl rfl h_b4 (k := 7) hs.1 ta61 ?_
 rw [← hs.2.2]
 exact rfin hF hB hr11 u13 (by omega) (by omega) (by omega)
theorem zhi {n : Nat} {k : Nat} (hk : n < k) : zdo (D.zbW k) n := by
  induction n using Nat.strongRecOn generalizing k with
  | _ n ih =>
    obtain ⟨k, rfl⟩ : ∃ q, k = q + 1 := ⟨k - 1, by omega⟩
    intro F w0 hF
    have h := @zj9 n F (D.zbW k) w0 hF (fun m hm => ih m hm (by omega))
    exact h
def D.zcm (r_free_Push : Plan → Int → T Int) (c0 : Plan) (c1 : Int) (a0 : Bool) : T Int := (bif (!a0) then (r_free_Push c0 c1) else (D.zaW c1))
def D.zdT (r_free_Push : Plan → Int → T Int) (c0 : Plan) (c1 : Int) (c2 : Int) : T Int := (D.zeC (D.zaT c0) c1 (D.zcw c1 (D.zbO c2)) (fun x => (D.zcm r_free_Push c0 c2 x)))
def D.ze4 (r_free_Push : Plan → Int → T Int) (c0 : Plan) (c1 : Int) (a0 : Int) : T Int := (D.zbd (D.zaY c0 c1) (D.zag D.zaO a0) (fun _ => (D.zdT r_free_Push c0 a0 c1)))
def D.zcD (r_free_Push : Plan → Int → T Int) (a0 : Plan) (a1 : Int) : T Int := (bif ((D.zaY a0 a1) == (-1)) then (D.zaW (-1)) else (D.zb7 (D.zaT a0) (fun x => (D.ze4 r_free_Push a0 a1 x))))
def D.zcM : Nat → Plan → Int → T Int
  | 0, _, _ => .cut
  | k + 1, a0, a1 => D.zcD (D.zcM k) a0 a1
def zcW (r : Plan → Int → T Int) (n : Nat) : Prop := ∀ (F : Nat → Prop) (w0 : World), (∀ b, F b → b < w0.heap.size) → ∀ (a0 : Plan) (a1 : Int), Calls Tryz.prog 362 #[.agg (zln a0).toArray, .int .i64 a1] w0 (zlx Tryz.prog zlq n (r a0 a1) F w0)
theorem zg4 {n : Nat} {F : Nat → Prop} {r_free_Push : Plan → Int → T Int} {w0 : World} (hF : ∀ b, F b → b < w0.heap.size) (ih_free_Push : ∀ m, m ≤ n → zcW r_free_Push m)
    (c0 : Plan) {c0b : Nat} (c0F : F c0b) (c0h : w0.heap[c0b]? = some (.cells ((zln c0)).toArray 23 (0, 0))) (c1 : Int) {c1b : Nat} (c1F : F c1b) (c1h : w0.heap[c1b]? = some (.cells ([(.int .i64 c1)]).toArray 3 (0, 0))) (a0 : Bool) :
    Calls Tryz.prog 404 #[.bool a0, zp c0b, zp c1b] w0 (zlx Tryz.prog zlq n (D.zcm r_free_Push c0 c1 a0) F w0) := by
 refine enter Tryz.func404 rfl 12 rfl rfl fun fr r => ?_
 have hB := Below.refl w0.heap.size w0
 have lc0b := lt_of_block c0h
 have lc1b := lt_of_block c1h
 refine wsr ?_
 refine zaa (.cells (zlo false zlq.zero 0 0 0 0 .nilFunc) 61 (0, 0)) r (fun R => zar tz61) rfl fun fr b1 w2 n3 r => ?_
 obtain ⟨e_b1, z_w2, h_b1, hB, zB⟩ := n3.all hB
 refine wn (wp_seq (wsr (za0 (.bool a0) r (fun R => za5 r rfl) rfl fun fr r => za0 (.bool (!a0)) r (fun R => y_un r (u := (.bool a0)) rfl rfl) rfl fun fr r => wn ?_)))
 refine wp_cond_split (t := (!a0)) (r.ev rfl) (fun h4 => ?_) (fun h4 => ?_)
 ·
  refine wsr (za0 (.agg (zln c0).toArray) r (fun R => za7 r (cs := (zln c0)) (n := 6) rfl (keep hB c0h) ta23 rfl) rfl fun fr r => za0 (I c1) r (fun R => za2 r rfl (keep hB c1h) to3 rfl) rfl fun fr r => ?_)
  have hF1 := zlG hF hB b1
  refine za9 r ((ih_free_Push n (by omega)) (fun b => F b ∨ (w0.heap.size ≤ b ∧ b < w2.heap.size ∧ b ≠ b1)) _ hF1 c0 c1) (fun R hc => zac r rfl zn4 hc) rfl ?_
  rintro _ w5 ⟨v6, rfl, hb, hr7⟩
  refine ⟨_, rfl, fun fr r => ?_⟩
  have z_w5 := hb.size
  have h_b1 := keep hb h_b1
  obtain ⟨hB, zB⟩ := bon hb hB
  refine zaf (.cells v6.cells 61 (0, 0)) r (fun R => zaq r hr7.shape rfl rfl h_b1 ts61 rfl) rfl fun fr w8 u9 r => ?_
  have z_w8 := u9.size
  have h_b1 := u9.at_
  obtain ⟨hB, zB⟩ := u9.on hB (by omega)
  refine wn (wp_ret ?_)
  have hd : D.zcm r_free_Push c0 c1 a0 = (r_free_Push c0 c1) := (zao h4).trans (rfl)
  have hs := hr7.shape.cells
  refine zal r rfl rfl h_b1 (k := 7) hs.1 ta61 ?_
  rw [← hs.2.2, hd]
  exact rfin hF hB hr7 u9 (by omega) (by omega) (by omega)
 ·
  refine wp_skip (wsr (za0 (I c1) r (fun R => za2 r rfl (keep hB c1h) to3 rfl) rfl fun fr r => ?_))
  have hF1 := zlG hF hB b1
  refine za9 r (zbs (F := (fun b => F b ∨ (w0.heap.size ≤ b ∧ b < w2.heap.size ∧ b ≠ b1))) (n := n) hF1 c1) (fun R hc => zac r rfl zlS hc) rfl ?_
  rintro _ w10 ⟨v11, rfl, hb, hr12⟩
  refine ⟨_, rfl, fun fr r => ?_⟩
  have z_w10 := hb.size
  have h_b1 := keep hb h_b1
  obtain ⟨hB, zB⟩ := bon hb hB
  refine zaf (.cells v11.cells 61 (0, 0)) r (fun R => zaq r hr12.shape rfl rfl h_b1 ts61 rfl) rfl fun fr w13 u14 r => ?_
  have z_w13 := u14.size
  have h_b1 := u14.at_
  obtain ⟨hB, zB⟩ := u14.on hB (by omega)
  refine wn (wp_ret ?_)
  have hd : D.zcm r_free_Push c0 c1 a0 = (D.zaW c1) := (zah h4).trans (rfl)
  have hs := hr12.shape.cells
  refine zal r rfl rfl h_b1 (k := 7) hs.1 ta61 ?_
  rw [← hs.2.2, hd]
  exact rfin hF hB hr12 u14 (by omega) (by omega) (by omega)
theorem zgX {n : Nat} {F : Nat → Prop} {r_free_Push : Plan → Int → T Int} {w0 : World} (hF : ∀ b, F b → b < w0.heap.size) (ih_free_Push : ∀ m, m < n → zcW r_free_Push m)
    (c0 : Plan) {c0b : Nat} (c0F : F c0b) (c0h : w0.heap[c0b]? = some (.cells ((zln c0)).toArray 23 (0, 0))) (c1 : Int) {c1b : Nat} (c1F : F c1b) (c1h : w0.heap[c1b]? = some (.cells ([(.int .u64 c1)]).toArray 40 (0, 0))) (c2 : Int) {c2b : Nat} (c2F : F c2b) (c2h : w0.heap[c2b]? = some (.cells ([(.int .i64 c2)]).toArray 3 (0, 0))) :
    Calls Tryz.prog 403 #[zp c0b, zp c1b, zp c2b] w0 (zlx Tryz.prog zlq n (D.zdT r_free_Push c0 c1 c2) F w0) := by
 refine enter Tryz.func403 rfl 13 rfl rfl fun fr r => ?_
 have hB := Below.refl w0.heap.size w0
 have lc0b := lt_of_block c0h
 have lc1b := lt_of_block c1h
 have lc2b := lt_of_block c2h
 refine wsr ?_
 refine zaa (.cells (zlo false zlq.zero 0 0 0 0 .nilFunc) 61 (0, 0)) r (fun R => zar tz61) rfl fun fr b1 w2 n3 r => ?_
 obtain ⟨e_b1, z_w2, h_b1, hB, zB⟩ := n3.all hB
 refine wn (wp_seq ?_)
 refine zb5 8 [.val (.agg (zln c0).toArray), .val (I (D.zaT c0)), .val (U c1), .val (U c1), .val (I c2), .val (U (D.zbO c2)), .val (U (D.zcw c1 (D.zbO c2))), .val (.func (.func 404) #[] #[zp c0b, zp c2b])] mixed r (by kernel_rfl) (za3 (by exact trivial) (za3 (by exact trivial) (za3 (by exact trivial) (za3 (by exact trivial) (za3 (by exact trivial) (za3 (by exact trivial) (za3 (by exact trivial) (za3 (by exact trivial) zaV)))))))) ?_ ?_
 ·
  refine ec r (fun _ u _ b d s => za7 s (cs := (zln c0)) (n := 6) rfl (zlK hB b c0h) ta23 rfl bz) (ec r (fun fr1 u w' hb' hd r' => zac r' (args := [(.agg (zln c0).toArray)]) (lc hd.1 l0) zm1 ((zcb _ c0).mono (by rintro _ w2 ⟨rfl, hb2⟩; exact ⟨_, rfl, hb2, rfl⟩))) (ec r (fun _ u _ b d s => za2 s rfl (zlK hB b c1h) to40 rfl bz) (ec r (fun _ u _ b d s => za2 s rfl (zlK hB b c1h) to40 rfl bz) (ec r (fun _ u _ b d s => za2 s rfl (zlK hB b c2h) to3 rfl bz) (ec r (fun fr1 u w' hb' hd r' => zac r' (args := [(I c2)]) (lc hd.1 l0) zmy ((zfw _ c2).mono (by rintro _ w2 ⟨rfl, hb2⟩; exact ⟨_, rfl, hb2, rfl⟩))) (ec r (fun fr1 u w' hb' hd r' => zac r' (args := [(U c1), (U (D.zbO c2))]) (lc hd.1 (lc hd.2.1 l0)) zn3 ((zfR _ c1 (D.zbO c2)).mono (by rintro _ w2 ⟨rfl, hb2⟩; exact ⟨_, rfl, hb2, rfl⟩))) (ec r (fun _ u _ b d s => zaL s (v := (.func (.func 404) #[] #[zp c0b, zp c2b])) rfl bz) ?_)))))))
  exact zbc
 ·
  intro fr u w4 hb hΦ hne r
  have r := r.congr (sc (hΦ 7 (by decide)) (sc (hΦ 6 (by decide)) (sc (hΦ 5 (by decide)) (sc (hΦ 4 (by decide)) (sc (hΦ 3 (by decide)) (sc (hΦ 2 (by decide)) (sc (hΦ 1 (by decide)) (sc (hΦ 0 (by decide)) rfl))))))))
  have z_w4 := hb.size
  have h_b1 := keep hb h_b1
  obtain ⟨hB, zB⟩ := bon hb hB
  have hF1 := zlG hF hB b1
  have f5 : ((fun b => F b ∨ (w0.heap.size ≤ b ∧ b < w4.heap.size ∧ b ≠ b1))) c0b := (.inl c0F)
  have f6 : ((fun b => F b ∨ (w0.heap.size ≤ b ∧ b < w4.heap.size ∧ b ≠ b1))) c2b := (.inl c2F)
  refine za9 r (zeV (F := (fun b => F b ∨ (w0.heap.size ≤ b ∧ b < w4.heap.size ∧ b ≠ b1))) (n := n) hF1 (D.zaT c0) c1 (D.zcw c1 (D.zbO c2)) ⟨404, [], [zp c0b, zp c2b], znN, rfl, fun m hm x w' hs hz => zg4 (fun b hb => Nat.lt_of_lt_of_le (hF1 b hb) hz) (fun m' hm' => ih_free_Push m' (by omega)) c0 f5 (hs.at_ f5 (keep hB c0h)) c2 f6 (hs.at_ f6 (keep hB c2h)) x⟩) (fun R hc => zac r rfl znc hc) rfl ?_
  rintro _ w7 ⟨v8, rfl, hb, hr9⟩
  refine ⟨_, rfl, fun fr r => ?_⟩
  have z_w7 := hb.size
  have h_b1 := keep hb h_b1
  obtain ⟨hB, zB⟩ := bon hb hB
  refine zaf (.cells v8.cells 61 (0, 0)) r (fun R => zaq r hr9.shape rfl rfl h_b1 ts61 rfl) rfl fun fr w10 u11 r => ?_
  have z_w10 := u11.size
  have h_b1 := u11.at_
  obtain ⟨hB, zB⟩ := u11.on hB (by omega)
  refine wn (wp_ret ?_)
  have hs := hr9.shape.cells
  refine zal r rfl rfl h_b1 (k := 7) hs.1 ta61 ?_
  rw [← hs.2.2]
  exact rfin hF hB hr9 u11 (by omega) (by omega) (by omega)
theorem zhN {n : Nat} {F : Nat → Prop} {r_free_Push : Plan → Int → T Int} {w0 : World} (hF : ∀ b, F b → b < w0.heap.size) (ih_free_Push : ∀ m, m < n → zcW r_free_Push m)
    (c0 : Plan) {c0b : Nat} (c0F : F c0b) (c0h : w0.heap[c0b]? = some (.cells ((zln c0)).toArray 23 (0, 0))) (c1 : Int) {c1b : Nat} (c1F : F c1b) (c1h : w0.heap[c1b]? = some (.cells ([(.int .i64 c1)]).toArray 3 (0, 0))) (a0 : Int) :
    Calls Tryz.prog 402 #[.int .u64 a0, zp c0b, zp c1b] w0 (zlx Tryz.prog zlq n (D.ze4 r_free_Push c0 c1 a0) F w0) := by
 refine enter Tryz.func402 rfl 13 rfl rfl fun fr r => ?_
 have hB := Below.refl w0.heap.size w0
 have lc0b := lt_of_block c0h
 have lc1b := lt_of_block c1h
 refine wsr ?_
 refine zaa (.cells #[(U a0)] 40 (0, 0)) r (fun R => zlC r (v := (U a0)) rfl) rfl fun fr b1 w2 n3 r => ?_
 obtain ⟨e_b1, z_w2, h_b1, hB, zB⟩ := n3.all hB
 refine zaa (.cells (zlo false zlq.zero 0 0 0 0 .nilFunc) 61 (0, 0)) r (fun R => zar tz61) rfl fun fr b4 w5 n6 r => ?_
 have h_b1 := keep n6.below h_b1
 obtain ⟨e_b4, z_w5, h_b4, hB, zB⟩ := n6.all hB
 refine wn (wp_seq ?_)
 refine zb5 7 [.val (.agg (zln c0).toArray), .val (I c1), .val (I (D.zaY c0 c1)), .val (.agg (zlv D.zaO).toArray), .val (U a0), .val (U (D.zag D.zaO a0)), .val (.func (.func 403) #[] #[zp c0b, zp b1, zp c1b])] mixed r (by kernel_rfl) (za3 (by exact trivial) (za3 (by exact trivial) (za3 (by exact trivial) (za3 (by exact trivial) (za3 (by exact trivial) (za3 (by exact trivial) (za3 (by exact trivial) zaV))))))) ?_ ?_
 ·
  refine ec r (fun _ u _ b d s => za7 s (cs := (zln c0)) (n := 6) rfl (zlK hB b c0h) ta23 rfl bz) (ec r (fun _ u _ b d s => za2 s rfl (zlK hB b c1h) to3 rfl bz) (ec r (fun fr1 u w' hb' hd r' => zac r' (args := [(.agg (zln c0).toArray), (I c1)]) (lc hd.1 (lc hd.2.1 l0)) zmh ((zcy _ c0 c1).mono (by rintro _ w2 ⟨rfl, hb2⟩; exact ⟨_, rfl, hb2, rfl⟩))) (ec r (fun fr1 u w' hb' hd r' => zac r' (args := []) (l0) zms ((zez _ ).mono (by rintro _ w2 ⟨rfl, hb2⟩; exact ⟨_, rfl, hb2, rfl⟩))) (ec r (fun _ u _ b d s => za2 s rfl (keep b h_b1) to40 rfl bz) (ec r (fun fr1 u w' hb' hd r' => zac r' (args := [(.agg (zlv D.zaO).toArray), (U a0)]) (lc hd.1 (lc hd.2.1 l0)) zm5 ((zct _ D.zaO a0).mono (by rintro _ w2 ⟨rfl, hb2⟩; exact ⟨_, rfl, hb2, rfl⟩))) (ec r (fun _ u _ b d s => zaL s (v := (.func (.func 403) #[] #[zp c0b, zp b1, zp c1b])) rfl bz) ?_))))))
  exact zbc
 ·
  intro fr u w7 hb hΦ hne r
  have r := r.congr (sc (hΦ 6 (by decide)) (sc (hΦ 5 (by decide)) (sc (hΦ 4 (by decide)) (sc (hΦ 3 (by decide)) (sc (hΦ 2 (by decide)) (sc (hΦ 1 (by decide)) (sc (hΦ 0 (by decide)) rfl)))))))
  have z_w7 := hb.size
  have h_b1 := keep hb h_b1
  have h_b4 := keep hb h_b4
  obtain ⟨hB, zB⟩ := bon hb hB
  have hF1 := zlG hF hB b4
  have f8 : ((fun b => F b ∨ (w0.heap.size ≤ b ∧ b < w7.heap.size ∧ b ≠ b4))) c0b := (.inl c0F)
  have f9 : ((fun b => F b ∨ (w0.heap.size ≤ b ∧ b < w7.heap.size ∧ b ≠ b4))) b1 := (.inr ⟨by omega, by omega, by omega⟩)
  have f10 : ((fun b => F b ∨ (w0.heap.size ≤ b ∧ b < w7.heap.size ∧ b ≠ b4))) c1b := (.inl c1F)
  refine za9 r (zbK (F := (fun b => F b ∨ (w0.heap.size ≤ b ∧ b < w7.heap.size ∧ b ≠ b4))) (n := n) hF1 (D.zaY c0 c1) (D.zag D.zaO a0) ⟨403, [], [zp c0b, zp b1, zp c1b], zoy, rfl, fun m hm _ w' hs hz => zgX (fun b hb => Nat.lt_of_lt_of_le (hF1 b hb) hz) (fun m' hm' => ih_free_Push m' (by omega)) c0 f8 (hs.at_ f8 (keep hB c0h)) a0 f9 (hs.at_ f9 h_b1) c1 f10 (hs.at_ f10 (keep hB c1h))⟩) (fun R hc => zac r rfl zlX hc) rfl ?_
  rintro _ w11 ⟨v12, rfl, hb, hr13⟩
  refine ⟨_, rfl, fun fr r => ?_⟩
  have z_w11 := hb.size
  have h_b1 := keep hb h_b1
  have h_b4 := keep hb h_b4
  obtain ⟨hB, zB⟩ := bon hb hB
  refine zaf (.cells v12.cells 61 (0, 0)) r (fun R => zaq r hr13.shape rfl rfl h_b4 ts61 rfl) rfl fun fr w14 u15 r => ?_
  have z_w14 := u15.size
  have h_b1 := u15.keep h_b1 (by omega)
  have h_b4 := u15.at_
  obtain ⟨hB, zB⟩ := u15.on hB (by omega)
  refine wn (wp_ret ?_)
  have hs := hr13.shape.cells
  refine zal r rfl rfl h_b4 (k := 7) hs.1 ta61 ?_
  rw [← hs.2.2]
  exact rfin hF hB hr13 u15 (by omega) (by omega) (by omega)
theorem ziI {n : Nat} {F : Nat → Prop} {r_free_Push : Plan → Int → T Int} {w0 : World} (hF : ∀ b, F b → b < w0.heap.size) (ih_free_Push : ∀ m, m < n → zcW r_free_Push m)
    (a0 : Plan) (a1 : Int) :
    Calls Tryz.prog 362 #[.agg (zln a0).toArray, .int .i64 a1] w0 (zlx Tryz.prog zlq n (D.zcD r_free_Push a0 a1) F w0) := by
 refine enter Tryz.func362 rfl 14 rfl rfl fun fr r => ?_
 have hB := Below.refl w0.heap.size w0
 refine wsr ?_
 refine zaa (.cells ((zln a0)).toArray 23 (0, 0)) r (fun R => zlC r (v := (.agg (zln a0).toArray)) rfl) rfl fun fr b1 w2 n3 r => ?_
 obtain ⟨e_b1, z_w2, h_b1, hB, zB⟩ := n3.all hB
 refine zaa (.cells #[(I a1)] 3 (0, 0)) r (fun R => zlC r (v := (I a1)) rfl) rfl fun fr b4 w5 n6 r => ?_
 have h_b1 := keep n6.below h_b1
 obtain ⟨e_b4, z_w5, h_b4, hB, zB⟩ := n6.all hB
 refine zaa (.cells (zlo false zlq.zero 0 0 0 0 .nilFunc) 61 (0, 0)) r (fun R => zar tz61) rfl fun fr b7 w8 n9 r => ?_
 have h_b1 := keep n9.below h_b1
 have h_b4 := keep n9.below h_b4
 obtain ⟨e_b7, z_w8, h_b7, hB, zB⟩ := n9.all hB
 refine wn (wp_seq (wsr (za0 (.agg (zln a0).toArray) r (fun R => za7 r (cs := (zln a0)) (n := 6) rfl h_b1 ta23 rfl) rfl fun fr r => za0 (I a1) r (fun R => za2 r rfl h_b4 to3 rfl) rfl fun fr r => ?_)))
 refine za9 r (zcy w8 a0 a1) (fun R hc => zac r rfl zmh hc) rfl ?_
 rintro _ w10 ⟨rfl, hb⟩
 refine ⟨_, rfl, fun fr r => ?_⟩
 have z_w10 := hb.size
 have h_b1 := keep hb h_b1
 have h_b4 := keep hb h_b4
 have h_b7 := keep hb h_b7
 obtain ⟨hB, zB⟩ := bon hb hB
 refine za0 _ r (fun R => zlt r rfl rfl rfl rfl) rfl fun fr r => wn ?_
 refine wp_cond_split (t := ((D.zaY a0 a1) == (-1))) (r.ev rfl) (fun h11 => ?_) (fun h11 => ?_)
 ·
  refine wsr ?_
  have hF1 := zlG hF hB b7
  refine za9 r (zbs (F := (fun b => F b ∨ (w0.heap.size ≤ b ∧ b < w10.heap.size ∧ b ≠ b7))) (n := n) hF1 (-1)) (fun R hc => zac r rfl zlS hc) rfl ?_
  rintro _ w12 ⟨v13, rfl, hb, hr14⟩
  refine ⟨_, rfl, fun fr r => ?_⟩
  have z_w12 := hb.size
  have h_b1 := keep hb h_b1
  have h_b4 := keep hb h_b4
  have h_b7 := keep hb h_b7
  obtain ⟨hB, zB⟩ := bon hb hB
  refine zaf (.cells v13.cells 61 (0, 0)) r (fun R => zaq r hr14.shape rfl rfl h_b7 ts61 rfl) rfl fun fr w15 u16 r => ?_
  have z_w15 := u16.size
  have h_b1 := u16.keep h_b1 (by omega)
  have h_b4 := u16.keep h_b4 (by omega)
  have h_b7 := u16.at_
  obtain ⟨hB, zB⟩ := u16.on hB (by omega)
  refine wn (wp_ret ?_)
  have hd : D.zcD r_free_Push a0 a1 = (D.zaW (-1)) := (zao h11).trans (rfl)
  have hs := hr14.shape.cells
  refine zal r rfl rfl h_b7 (k := 7) hs.1 ta61 ?_
  rw [← hs.2.2, hd]
  exact rfin hF hB hr14 u16 (by omega) (by omega) (by omega)
 ·
  refine wp_skip (wsr (za0 (.agg (zln a0).toArray) r (fun R => za7 r (cs := (zln a0)) (n := 6) rfl h_b1 ta23 rfl) rfl fun fr r => ?_))
  refine za9 r (zcb w10 a0) (fun R hc => zac r rfl zm1 hc) rfl ?_
  rintro _ w17 ⟨rfl, hb⟩
  refine ⟨_, rfl, fun fr r => ?_⟩
  have z_w17 := hb.size
  have h_b1 := keep hb h_b1
  have h_b4 := keep hb h_b4
  have h_b7 := keep hb h_b7
  obtain ⟨hB, zB⟩ := bon hb hB
  refine za0 (.func (.func 402) #[] #[zp b1, zp b4]) r (fun R => zaL r rfl) rfl fun fr r => ?_
  have hF1 := zlG hF hB b7
  have f18 : ((fun b => F b ∨ (w0.heap.size ≤ b ∧ b < w17.heap.size ∧ b ≠ b7))) b1 := (.inr ⟨by omega, by omega, by omega⟩)
  have f19 : ((fun b => F b ∨ (w0.heap.size ≤ b ∧ b < w17.heap.size ∧ b ≠ b7))) b4 := (.inr ⟨by omega, by omega, by omega⟩)
  refine za9 r (zbG (F := (fun b => F b ∨ (w0.heap.size ≤ b ∧ b < w17.heap.size ∧ b ≠ b7))) (n := n) hF1 (D.zaT a0) ⟨402, [], [zp b1, zp b4], znK, rfl, fun m hm x w' hs hz => zhN (fun b hb => Nat.lt_of_lt_of_le (hF1 b hb) hz) (fun m' hm' => ih_free_Push m' (by omega)) a0 f18 (hs.at_ f18 h_b1) a1 f19 (hs.at_ f19 h_b4) x⟩) (fun R hc => zac r rfl zlV hc) rfl ?_
  rintro _ w20 ⟨v21, rfl, hb, hr22⟩
  refine ⟨_, rfl, fun fr r => ?_⟩
  have z_w20 := hb.size
  have h_b1 := keep hb h_b1
  have h_b4 := keep hb h_b4
  have h_b7 := keep hb h_b7
  obtain ⟨hB, zB⟩ := bon hb hB
  refine zaf (.cells v21.cells 61 (0, 0)) r (fun R => zaq r hr22.shape rfl rfl h_b7 ts61 rfl) rfl fun fr w23 u24 r => ?_
  have z_w23 := u24.size
  have h_b1 := u24.keep h_b1 (by omega)
  have h_b4 := u24.keep h_b4 (by omega)
  have h_b7 := u24.at_
  obtain ⟨hB, zB⟩ := u24.on hB (by omega)
  refine wn (wp_ret ?_)
  have hd : D.zcD r_free_Push a0 a1 = (D.zb7 (D.zaT a0) (fun x => (D.ze4 r_free_Push a0 a1 x))) := (zah h11).trans (rfl)
  have hs := hr22.shape.cells
  refine zal r rfl rfl h_b7 (k := 7) hs.1 ta61 ?_
  rw [← hs.2.2, hd]
  exact rfin hF hB hr22 u24 (by omega) (by omega) (by omega)
theorem ziJ {n : Nat} {k : Nat} (hk : n < k) : zcW (D.zcM k) n := by
  induction n using Nat.strongRecOn generalizing k with
  | _ n ih =>
    obtain ⟨k, rfl⟩ : ∃ q, k = q + 1 := ⟨k - 1, by omega⟩
    intro F w0 hF
    have h := @ziI n F (D.zcM k) w0 hF (fun m hm => ih m hm (by omega))
    exact h
end Go.Proofs.YtfpgnmhcfkikkaaGreat

/- Ours. -/
set_option maxRecDepth 20000
set_option maxHeartbeats 2000000
namespace Go.Proofs.YtfpgnmhcfkikkaaGreat
open Go.RowKit
theorem zmZ : zlp Tryz.prog 387 = true := by kernel_rfl
theorem znW : zlp Tryz.prog 392 = true := by kernel_rfl
theorem znb : zlp Tryz.prog 416 = true := by kernel_rfl
theorem znO : zlp Tryz.prog 417 = true := by kernel_rfl
theorem zov : zlp Tryz.prog 418 = true := by kernel_rfl
theorem cl88 : zlp Tryz.prog 88 = true := by kernel_rfl
def D.ze2 (a0 : Int) : Int := (IntKind.u64.wrap (IntKind.i64.wrap (a0 + 1)))
theorem zhL (w0 : World) 
    (a0 : Int) :
    Calls Tryz.prog 392 #[.int .i64 a0] w0 (zlE (.int .u64 (D.ze2 a0)) w0) := by
 refine enter Tryz.func392 rfl 6 rfl rfl fun fr r => ?_
 have hB := Below.refl w0.heap.size w0
 refine wsr (za0 (U 0) r (fun R => za6 r rfl) rfl fun fr r => wn (wsr (za0 (I a0) r (fun R => za5 r rfl) rfl fun fr r => za0 _ r (fun R => zlt r rfl rfl rfl rfl) rfl fun fr r => za0 (U (V (W (a0 + 1)))) r (fun R => zbf r rfl ti3 ti40) rfl fun fr r => za0 (U (V (W (a0 + 1)))) r (fun R => za6 r rfl) rfl fun fr r => wn (wp_ret ?_))))
 refine zaA r rfl rfl ?_
 exact ⟨rfl, hB⟩
def D.zbS (r_hazard_held : Plan → Int → Int → T Bool) (c0 : Int) (c1 : Plan) (c2 : Int) (a0 : Int) : T Bool := (bif (a0 == (D.ze2 c0)) then (D.zcY true) else (r_hazard_held c1 c0 (IntKind.i64.wrap (c2 + 1))))
def D.zbv (r_hazard_held : Plan → Int → Int → T Bool) (a0 : Plan) (a1 : Int) (a2 : Int) : T Bool := (bif (a2 == (IntKind.i64.wrap (a0.threads * 3))) then (D.zcY false) else (D.zeg (D.zbY a0 (IntKind.i64.wrap (a2.tdiv 3)) (a2.tmod 3)) (fun x => (D.zbS r_hazard_held a1 a0 a2 x))))
def D.zbR : Nat → Plan → Int → Int → T Bool
  | 0, _, _, _ => .cut
  | k + 1, a0, a1, a2 => D.zbv (D.zbR k) a0 a1 a2
def zdH (r : Plan → Int → Int → T Bool) (n : Nat) : Prop := ∀ (F : Nat → Prop) (w0 : World), (∀ b, F b → b < w0.heap.size) → ∀ (a0 : Plan) (a1 : Int) (a2 : Int), Calls Tryz.prog 387 #[.agg (zln a0).toArray, .int .i64 a1, .int .i64 a2] w0 (zlx Tryz.prog zlH n (r a0 a1 a2) F w0)
theorem zgT {n : Nat} {F : Nat → Prop} {r_hazard_held : Plan → Int → Int → T Bool} {w0 : World} (hF : ∀ b, F b → b < w0.heap.size) (ih_hazard_held : ∀ m, m ≤ n → zdH r_hazard_held m)
    (c0 : Int) {c0b : Nat} (c0F : F c0b) (c0h : w0.heap[c0b]? = some (.cells ([(.int .i64 c0)]).toArray 3 (0, 0))) (c1 : Plan) {c1b : Nat} (c1F : F c1b) (c1h : w0.heap[c1b]? = some (.cells ((zln c1)).toArray 23 (0, 0))) (c2 : Int) {c2b : Nat} (c2F : F c2b) (c2h : w0.heap[c2b]? = some (.cells ([(.int .i64 c2)]).toArray 3 (0, 0))) (a0 : Int) :
    Calls Tryz.prog 418 #[.int .u64 a0, zp c0b, zp c1b, zp c2b] w0 (zlx Tryz.prog zlH n (D.zbS r_hazard_held c0 c1 c2 a0) F w0) := by
 refine enter Tryz.func418 rfl 16 rfl rfl fun fr r => ?_
 have hB := Below.refl w0.heap.size w0
 have lc0b := lt_of_block c0h
 have lc1b := lt_of_block c1h
 have lc2b := lt_of_block c2h
 refine wsr ?_
 refine zaa (.cells (zlo false zlH.zero 0 0 0 0 .nilFunc) 336 (0, 0)) r (fun R => zar zm2) rfl fun fr b1 w2 n3 r => ?_
 obtain ⟨eb1, zw2, hb1, hB, zB⟩ := n3.all hB
 refine wn (wp_seq (wsr (za0 (U a0) r (fun R => za5 r rfl) rfl fun fr r => za0 (I c0) r (fun R => za2 r rfl (keep hB c0h) to3 rfl) rfl fun fr r => ?_)))
 refine za9 r (zhL w2 c0) (fun R hc => zac r rfl znW hc) rfl ?_
 rintro _ w4 ⟨rfl, hb⟩
 refine ⟨_, rfl, fun fr r => ?_⟩
 have zw4 := hb.size
 have hb1 := keep hb hb1
 obtain ⟨hB, zB⟩ := bon hb hB
 refine za0 _ r (fun R => zlt r rfl rfl rfl rfl) rfl fun fr r => wn ?_
 refine wp_cond_split (t := (a0 == (D.ze2 c0))) (r.ev rfl) (fun h5 => ?_) (fun h5 => ?_)
 ·
  refine wsr ?_
  have hF1 := zlG hF hB b1
  refine za9 r (zeL (F := (fun b => F b ∨ (w0.heap.size ≤ b ∧ b < w4.heap.size ∧ b ≠ b1))) (n := n) hF1 true) (fun R hc => zac r rfl znb hc) rfl ?_
  rintro _ w6 ⟨v7, rfl, hb, hr8⟩
  refine ⟨_, rfl, fun fr r => ?_⟩
  have zw6 := hb.size
  have hb1 := keep hb hb1
  obtain ⟨hB, zB⟩ := bon hb hB
  refine zaf (.cells v7.cells 336 (0, 0)) r (fun R => zaq r hr8.shape rfl rfl hb1 zlW rfl) rfl fun fr w9 u10 r => ?_
  have zw9 := u10.size
  have hb1 := u10.at_
  obtain ⟨hB, zB⟩ := u10.on hB (by omega)
  refine wn (wp_ret ?_)
  have hd : D.zbS r_hazard_held c0 c1 c2 a0 = (D.zcY true) := (zao h5).trans (rfl)
  have hs := hr8.shape.cells
  refine zal r rfl rfl hb1 (k := 7) hs.1 zlY ?_
  rw [← hs.2.2, hd]
  exact rfin hF hB hr8 u10 (by omega) (by omega) (by omega)
 ·
  refine wp_skip (wsr (za0 (.agg (zln c1).toArray) r (fun R => za7 r (cs := (zln c1)) (n := 6) rfl (keep hB c1h) ta23 rfl) rfl fun fr r => za0 (I c0) r (fun R => za2 r rfl (keep hB c0h) to3 rfl) rfl fun fr r => za0 (I c2) r (fun R => za2 r rfl (keep hB c2h) to3 rfl) rfl fun fr r => za0 _ r (fun R => zlt r rfl rfl rfl rfl) rfl fun fr r => ?_))
  have hF1 := zlG hF hB b1
  refine za9 r ((ih_hazard_held n (by omega)) (fun b => F b ∨ (w0.heap.size ≤ b ∧ b < w4.heap.size ∧ b ≠ b1)) _ hF1 c1 c0 (W (c2 + 1))) (fun R hc => zac r rfl zmZ hc) rfl ?_
  rintro _ w11 ⟨v12, rfl, hb, hr13⟩
  refine ⟨_, rfl, fun fr r => ?_⟩
  have zw11 := hb.size
  have hb1 := keep hb hb1
  obtain ⟨hB, zB⟩ := bon hb hB
  refine zaf (.cells v12.cells 336 (0, 0)) r (fun R => zaq r hr13.shape rfl rfl hb1 zlW rfl) rfl fun fr w14 u15 r => ?_
  have zw14 := u15.size
  have hb1 := u15.at_
  obtain ⟨hB, zB⟩ := u15.on hB (by omega)
  refine wn (wp_ret ?_)
  have hd : D.zbS r_hazard_held c0 c1 c2 a0 = (r_hazard_held c1 c0 (W (c2 + 1))) := (zah h5).trans (rfl)
  have hs := hr13.shape.cells
  refine zal r rfl rfl hb1 (k := 7) hs.1 zlY ?_
  rw [← hs.2.2, hd]
  exact rfin hF hB hr13 u15 (by omega) (by omega) (by omega)
theorem zhP {n : Nat} {F : Nat → Prop} {r_hazard_held : Plan → Int → Int → T Bool} {w0 : World} (hF : ∀ b, F b → b < w0.heap.size) (ih_hazard_held : ∀ m, m < n → zdH r_hazard_held m)
    (a0 : Plan) (a1 : Int) (a2 : Int) :
    Calls Tryz.prog 387 #[.agg (zln a0).toArray, .int .i64 a1, .int .i64 a2] w0 (zlx Tryz.prog zlH n (D.zbv r_hazard_held a0 a1 a2) F w0) := by
 refine enter Tryz.func387 rfl 21 rfl rfl fun fr r => ?_
 have hB := Below.refl w0.heap.size w0
 refine wsr ?_
 refine zaa (.cells ((zln a0)).toArray 23 (0, 0)) r (fun R => zlC r (v := (.agg (zln a0).toArray)) rfl) rfl fun fr b1 w2 n3 r => ?_
 obtain ⟨eb1, zw2, hb1, hB, zB⟩ := n3.all hB
 refine zaa (.cells #[(I a1)] 3 (0, 0)) r (fun R => zlC r (v := (I a1)) rfl) rfl fun fr b4 w5 n6 r => ?_
 have hb1 := keep n6.below hb1
 obtain ⟨eb4, zw5, hb4, hB, zB⟩ := n6.all hB
 refine zaa (.cells #[(I a2)] 3 (0, 0)) r (fun R => zlC r (v := (I a2)) rfl) rfl fun fr b7 w8 n9 r => ?_
 have hb1 := keep n9.below hb1
 have hb4 := keep n9.below hb4
 obtain ⟨eb7, zw8, hb7, hB, zB⟩ := n9.all hB
 refine zaa (.cells (zlo false zlH.zero 0 0 0 0 .nilFunc) 336 (0, 0)) r (fun R => zar zm2) rfl fun fr b10 w11 n12 r => ?_
 have hb1 := keep n12.below hb1
 have hb4 := keep n12.below hb4
 have hb7 := keep n12.below hb7
 obtain ⟨eb10, zw11, hb10, hB, zB⟩ := n12.all hB
 refine wn (wp_seq (wsr (za0 (I a2) r (fun R => za2 r rfl hb7 to3 rfl) rfl fun fr r => za0 _ r (fun R => za4 r (o := 0) rfl zfI) rfl fun fr r => za0 (I a0.threads) r (fun R => za2 r rfl hb1 to3 rfl) rfl fun fr r => za0 _ r (fun R => zlt r rfl rfl rfl rfl) rfl fun fr r => za0 _ r (fun R => zlt r rfl rfl rfl rfl) rfl fun fr r => wn ?_)))
 refine wp_cond_split (t := (a2 == (W (a0.threads * 3)))) (r.ev rfl) (fun h13 => ?_) (fun h13 => ?_)
 ·
  refine wsr ?_
  have hF1 := zlG hF hB b10
  refine za9 r (zeL (F := (fun b => F b ∨ (w0.heap.size ≤ b ∧ b < w11.heap.size ∧ b ≠ b10))) (n := n) hF1 false) (fun R hc => zac r rfl znb hc) rfl ?_
  rintro _ w14 ⟨v15, rfl, hb, hr16⟩
  refine ⟨_, rfl, fun fr r => ?_⟩
  have zw14 := hb.size
  have hb1 := keep hb hb1
  have hb4 := keep hb hb4
  have hb7 := keep hb hb7
  have hb10 := keep hb hb10
  obtain ⟨hB, zB⟩ := bon hb hB
  refine zaf (.cells v15.cells 336 (0, 0)) r (fun R => zaq r hr16.shape rfl rfl hb10 zlW rfl) rfl fun fr w17 u18 r => ?_
  have zw17 := u18.size
  have hb1 := u18.keep hb1 (by omega)
  have hb4 := u18.keep hb4 (by omega)
  have hb7 := u18.keep hb7 (by omega)
  have hb10 := u18.at_
  obtain ⟨hB, zB⟩ := u18.on hB (by omega)
  refine wn (wp_ret ?_)
  have hd : D.zbv r_hazard_held a0 a1 a2 = (D.zcY false) := (zao h13).trans (rfl)
  have hs := hr16.shape.cells
  refine zal r rfl rfl hb10 (k := 7) hs.1 zlY ?_
  rw [← hs.2.2, hd]
  exact rfin hF hB hr16 u18 (by omega) (by omega) (by omega)
 ·
  refine wp_skip (wsr (za0 (.agg (zln a0).toArray) r (fun R => za7 r (cs := (zln a0)) (n := 6) rfl hb1 ta23 rfl) rfl fun fr r => za0 (I a2) r (fun R => za2 r rfl hb7 to3 rfl) rfl fun fr r => za0 _ r (fun R => zlt r rfl rfl rfl rfl) rfl fun fr r => za0 (I a2) r (fun R => za2 r rfl hb7 to3 rfl) rfl fun fr r => za0 _ r (fun R => zlt r rfl rfl rfl rfl) rfl fun fr r => ?_))
  refine za9 r (zfU w11 a0 (W (a2.tdiv 3)) (a2.tmod 3)) (fun R hc => zac r rfl cl88 hc) rfl ?_
  rintro _ w19 ⟨rfl, hb⟩
  refine ⟨_, rfl, fun fr r => ?_⟩
  have zw19 := hb.size
  have hb1 := keep hb hb1
  have hb4 := keep hb hb4
  have hb7 := keep hb hb7
  have hb10 := keep hb hb10
  obtain ⟨hB, zB⟩ := bon hb hB
  refine za0 (.func (.func 418) #[] #[zp b4, zp b1, zp b7]) r (fun R => zaL r rfl) rfl fun fr r => ?_
  have hF1 := zlG hF hB b10
  have f20 : ((fun b => F b ∨ (w0.heap.size ≤ b ∧ b < w19.heap.size ∧ b ≠ b10))) b4 := (.inr ⟨by omega, by omega, by omega⟩)
  have f21 : ((fun b => F b ∨ (w0.heap.size ≤ b ∧ b < w19.heap.size ∧ b ≠ b10))) b1 := (.inr ⟨by omega, by omega, by omega⟩)
  have f22 : ((fun b => F b ∨ (w0.heap.size ≤ b ∧ b < w19.heap.size ∧ b ≠ b10))) b7 := (.inr ⟨by omega, by omega, by omega⟩)
  refine za9 r (zgA (F := (fun b => F b ∨ (w0.heap.size ≤ b ∧ b < w19.heap.size ∧ b ≠ b10))) (n := n) hF1 (D.zbY a0 (W (a2.tdiv 3)) (a2.tmod 3)) ⟨418, [], [zp b4, zp b1, zp b7], zov, rfl, fun m hm x w' hs hz => zgT (fun b hb => Nat.lt_of_lt_of_le (hF1 b hb) hz) (fun m' hm' => ih_hazard_held m' (by omega)) a1 f20 (hs.at_ f20 hb4) a0 f21 (hs.at_ f21 hb1) a2 f22 (hs.at_ f22 hb7) x⟩) (fun R hc => zac r rfl znO hc) rfl ?_
  rintro _ w23 ⟨v24, rfl, hb, hr25⟩
  refine ⟨_, rfl, fun fr r => ?_⟩
  have zw23 := hb.size
  have hb1 := keep hb hb1
  have hb4 := keep hb hb4
  have hb7 := keep hb hb7
  have hb10 := keep hb hb10
  obtain ⟨hB, zB⟩ := bon hb hB
  refine zaf (.cells v24.cells 336 (0, 0)) r (fun R => zaq r hr25.shape rfl rfl hb10 zlW rfl) rfl fun fr w26 u27 r => ?_
  have zw26 := u27.size
  have hb1 := u27.keep hb1 (by omega)
  have hb4 := u27.keep hb4 (by omega)
  have hb7 := u27.keep hb7 (by omega)
  have hb10 := u27.at_
  obtain ⟨hB, zB⟩ := u27.on hB (by omega)
  refine wn (wp_ret ?_)
  have hd : D.zbv r_hazard_held a0 a1 a2 = (D.zeg (D.zbY a0 (W (a2.tdiv 3)) (a2.tmod 3)) (fun x => (D.zbS r_hazard_held a1 a0 a2 x))) := (zah h13).trans (rfl)
  have hs := hr25.shape.cells
  refine zal r rfl rfl hb10 (k := 7) hs.1 zlY ?_
  rw [← hs.2.2, hd]
  exact rfin hF hB hr25 u27 (by omega) (by omega) (by omega)
theorem zhw {n : Nat} {k : Nat} (hk : n < k) : zdH (D.zbR k) n := by
  induction n using Nat.strongRecOn generalizing k with
  | _ n ih =>
    obtain ⟨k, rfl⟩ : ∃ q, k = q + 1 := ⟨k - 1, by omega⟩
    intro F w0 hF
    have h := @zhP n F (D.zbR k) w0 hF (fun m hm => ih m hm (by omega))
    exact h
def D.zey (j : Nat) (a0 : Plan) (a1 : Int) : T Bool := (D.zbR j a0 a1 0)
theorem zhO {n : Nat} {F : Nat → Prop} {j : Nat} {w0 : World} (hF : ∀ b, F b → b < w0.heap.size) (hj : n < j)
    (a0 : Plan) (a1 : Int) :
    Calls Tryz.prog 322 #[.agg (zln a0).toArray, .int .i64 a1] w0 (zlx Tryz.prog zlH n (D.zey j a0 a1) F w0) := by
 refine enter Tryz.func322 rfl 8 rfl rfl fun fr r => ?_
 have hB := Below.refl w0.heap.size w0
 refine wsr ?_
 refine zaa (.cells ((zln a0)).toArray 23 (0, 0)) r (fun R => zlC r (v := (.agg (zln a0).toArray)) rfl) rfl fun fr b1 w2 n3 r => ?_
 obtain ⟨eb1, zw2, hb1, hB, zB⟩ := n3.all hB
 refine zaa (.cells (zlo false zlH.zero 0 0 0 0 .nilFunc) 336 (0, 0)) r (fun R => zar zm2) rfl fun fr b4 w5 n6 r => ?_
 have hb1 := keep n6.below hb1
 obtain ⟨eb4, zw5, hb4, hB, zB⟩ := n6.all hB
 refine wn (wsr (za0 (.agg (zln a0).toArray) r (fun R => za7 r (cs := (zln a0)) (n := 6) rfl hb1 ta23 rfl) rfl fun fr r => za0 (I a1) r (fun R => za5 r rfl) rfl fun fr r => ?_))
 have hF1 := zlG hF hB b4
 refine za9 r ((zhw (k := j) (n := n) (by omega)) (fun b => F b ∨ (w0.heap.size ≤ b ∧ b < w5.heap.size ∧ b ≠ b4)) _ hF1 a0 a1 0) (fun R hc => zac r rfl zmZ hc) rfl ?_
 rintro _ w7 ⟨v8, rfl, hb, hr9⟩
 refine ⟨_, rfl, fun fr r => ?_⟩
 have zw7 := hb.size
 have hb1 := keep hb hb1
 have hb4 := keep hb hb4
 obtain ⟨hB, zB⟩ := bon hb hB
 refine zaf (.cells v8.cells 336 (0, 0)) r (fun R => zaq r hr9.shape rfl rfl hb4 zlW rfl) rfl fun fr w10 u11 r => ?_
 have zw10 := u11.size
 have hb1 := u11.keep hb1 (by omega)
 have hb4 := u11.at_
 obtain ⟨hB, zB⟩ := u11.on hB (by omega)
 refine wn (wp_ret ?_)
 have hs := hr9.shape.cells
 refine zal r rfl rfl hb4 (k := 7) hs.1 zlY ?_
 rw [← hs.2.2]
 exact rfin hF hB hr9 u11 (by omega) (by omega) (by omega)
end Go.Proofs.YtfpgnmhcfkikkaaGreat
