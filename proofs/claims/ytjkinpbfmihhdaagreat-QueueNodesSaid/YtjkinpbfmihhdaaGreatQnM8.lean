/- Some of our texts, one behind the other. -/
import Derived.Test.YtjkinpbfmihhdaaGreatQnM7
import Derived.Test.YtjkinpbfmihhdaaGreatQnMems
set_option linter.all false
/- Ours. -/
set_option maxRecDepth 20000
set_option maxHeartbeats 2000000
namespace Go.Proofs.YtjkinpbfmihhdaaGreat
open Go.RowKit
theorem zpL : znv Tryz.prog 218 = true := by kernel_rfl
theorem zqh : znv Tryz.prog 320 = true := by kernel_rfl
theorem zpA : znv Tryz.prog 326 = true := by kernel_rfl
theorem zra : znv Tryz.prog 327 = true := by kernel_rfl
theorem zpK : znv Tryz.prog 328 = true := by kernel_rfl
theorem zpZ : znv Tryz.prog 371 = true := by kernel_rfl
theorem zru : znv Tryz.prog 373 = true := by kernel_rfl
theorem zrV : znv Tryz.prog 374 = true := by kernel_rfl
theorem zpB : znv Tryz.prog 389 = true := by kernel_rfl
theorem zq7 : znv Tryz.prog 413 = true := by kernel_rfl
theorem zs6 : znv Tryz.prog 414 = true := by kernel_rfl
theorem zrG : znv Tryz.prog 415 = true := by kernel_rfl
theorem cl52 : znv Tryz.prog 52 = true := by kernel_rfl
def D.zdE (a0 : Int) : Int := (IntKind.u64.wrap (IntKind.i64.wrap (a0 + 1)))
theorem zhz (w0 : World) 
    (a0 : Int) :
    Calls Tryz.prog 320 #[.int .i64 a0] w0 (znL (.int .u64 (D.zdE a0)) w0) := by
 refine enter Tryz.func320 rfl 6 rfl rfl fun fr r => ?_
 have hB := Below.refl w0.heap.size w0
 refine wsr (za0 (U 0) r (fun R => za7 r rfl) rfl fun fr r => wn (wsr (za0 (I a0) r (fun R => za9 r rfl) rfl fun fr r => za0 _ r (fun R => znA r rfl rfl rfl rfl) rfl fun fr r => za0 (U (V (W (a0 + 1)))) r (fun R => zb8 r rfl ti3 ti22) rfl fun fr r => za0 (U (V (W (a0 + 1)))) r (fun R => za7 r rfl) rfl fun fr r => wn (wp_ret ?_))))
 refine zaz r rfl rfl ?_
 exact ⟨rfl, hB⟩
def D.zbX (r_hazard_held : Plan → Int → Int → T Bool) (c0 : Int) (c1 : Plan) (c2 : Int) (a0 : Int) : T Bool := (bif (a0 == (D.zdE c0)) then (D.zdq true) else (r_hazard_held c1 c0 (IntKind.i64.wrap (c2 + 1))))
def D.zbo (r_hazard_held : Plan → Int → Int → T Bool) (a0 : Plan) (a1 : Int) (a2 : Int) : T Bool := (bif (a2 == (IntKind.i64.wrap (a0.threads * 3))) then (D.zdq false) else (D.zfi (D.zbc a0 (IntKind.i64.wrap (a2.tdiv 3)) (a2.tmod 3)) (fun x => (D.zbX r_hazard_held a1 a0 a2 x))))
def D.zbQ : Nat → Plan → Int → Int → T Bool
  | 0, _, _, _ => .cut
  | k + 1, a0, a1, a2 => D.zbo (D.zbQ k) a0 a1 a2
def zes (r : Plan → Int → Int → T Bool) (n : Nat) : Prop := ∀ (F : Nat → Prop) (w0 : World), (∀ b, F b → b < w0.heap.size) → ∀ (a0 : Plan) (a1 : Int) (a2 : Int), Calls Tryz.prog 389 #[.agg (znu a0).toArray, .int .i64 a1, .int .i64 a2] w0 (zny Tryz.prog znP n (r a0 a1 a2) F w0)
theorem ziL {n : Nat} {F : Nat → Prop} {r_hazard_held : Plan → Int → Int → T Bool} {w0 : World} (hF : ∀ b, F b → b < w0.heap.size) (ih_hazard_held : ∀ m, m ≤ n → zes r_hazard_held m)
    (c0 : Int) {c0b : Nat} (c0F : F c0b) (c0h : w0.heap[c0b]? = some (.cells ([(.int .i64 c0)]).toArray 3 (0, 0))) (c1 : Plan) {c1b : Nat} (c1F : F c1b) (c1h : w0.heap[c1b]? = some (.cells ((znu c1)).toArray 25 (0, 0))) (c2 : Int) {c2b : Nat} (c2F : F c2b) (c2h : w0.heap[c2b]? = some (.cells ([(.int .i64 c2)]).toArray 3 (0, 0))) (a0 : Int) :
    Calls Tryz.prog 415 #[.int .u64 a0, zp c0b, zp c1b, zp c2b] w0 (zny Tryz.prog znP n (D.zbX r_hazard_held c0 c1 c2 a0) F w0) := by
 refine enter Tryz.func415 rfl 16 rfl rfl fun fr r => ?_
 have hB := Below.refl w0.heap.size w0
 have lc0b := lt_of_block c0h
 have lc1b := lt_of_block c1h
 have lc2b := lt_of_block c2h
 refine wsr ?_
 refine za5 (.cells (znt false znP.zero 0 0 0 0 .nilFunc) 324 (0, 0)) r (fun R => zag zox) rfl fun fr b1 w2 n3 r => ?_
 obtain ⟨eb1, zw2, hb1, hB, zB⟩ := n3.all hB
 refine wn (wp_seq (wsr (za0 (U a0) r (fun R => za9 r rfl) rfl fun fr r => za0 (I c0) r (fun R => za3 r rfl (keep hB c0h) to3 rfl) rfl fun fr r => ?_)))
 refine za8 r (zhz w2 c0) (fun R hc => zac r rfl zqh hc) rfl ?_
 rintro _ w4 ⟨rfl, hb⟩
 refine ⟨_, rfl, fun fr r => ?_⟩
 have zw4 := hb.size
 have hb1 := keep hb hb1
 obtain ⟨hB, zB⟩ := bon hb hB
 refine za0 _ r (fun R => znA r rfl rfl rfl rfl) rfl fun fr r => wn ?_
 refine wp_cond_split (t := (a0 == (D.zdE c0))) (r.ev rfl) (fun h5 => ?_) (fun h5 => ?_)
 ·
  refine wsr ?_
  have hF1 := znI hF hB b1
  refine za8 r (zg0 (F := (fun b => F b ∨ (w0.heap.size ≤ b ∧ b < w4.heap.size ∧ b ≠ b1))) (n := n) hF1 true) (fun R hc => zac r rfl zq7 hc) rfl ?_
  rintro _ w6 ⟨v7, rfl, hb, hr8⟩
  refine ⟨_, rfl, fun fr r => ?_⟩
  have zw6 := hb.size
  have hb1 := keep hb hb1
  obtain ⟨hB, zB⟩ := bon hb hB
  refine zae (.cells v7.cells 324 (0, 0)) r (fun R => zaf r hr8.shape rfl rfl hb1 zol rfl) rfl fun fr w9 u10 r => ?_
  have zw9 := u10.size
  have hb1 := u10.at_
  obtain ⟨hB, zB⟩ := u10.on hB (by omega)
  refine wn (wp_ret ?_)
  have hd : D.zbX r_hazard_held c0 c1 c2 a0 = (D.zdq true) := (zaq h5).trans (rfl)
  have hs := hr8.shape.cells
  refine zad r rfl rfl hb1 (k := 7) hs.1 zom ?_
  rw [← hs.2.2, hd]
  exact rfin hF hB hr8 u10 (by omega) (by omega) (by omega)
 ·
  refine wp_skip (wsr (za0 (.agg (znu c1).toArray) r (fun R => za6 r (cs := (znu c1)) (n := 6) rfl (keep hB c1h) ta25 rfl) rfl fun fr r => za0 (I c0) r (fun R => za3 r rfl (keep hB c0h) to3 rfl) rfl fun fr r => za0 (I c2) r (fun R => za3 r rfl (keep hB c2h) to3 rfl) rfl fun fr r => za0 _ r (fun R => znA r rfl rfl rfl rfl) rfl fun fr r => ?_))
  have hF1 := znI hF hB b1
  refine za8 r ((ih_hazard_held n (by omega)) (fun b => F b ∨ (w0.heap.size ≤ b ∧ b < w4.heap.size ∧ b ≠ b1)) _ hF1 c1 c0 (W (c2 + 1))) (fun R hc => zac r rfl zpB hc) rfl ?_
  rintro _ w11 ⟨v12, rfl, hb, hr13⟩
  refine ⟨_, rfl, fun fr r => ?_⟩
  have zw11 := hb.size
  have hb1 := keep hb hb1
  obtain ⟨hB, zB⟩ := bon hb hB
  refine zae (.cells v12.cells 324 (0, 0)) r (fun R => zaf r hr13.shape rfl rfl hb1 zol rfl) rfl fun fr w14 u15 r => ?_
  have zw14 := u15.size
  have hb1 := u15.at_
  obtain ⟨hB, zB⟩ := u15.on hB (by omega)
  refine wn (wp_ret ?_)
  have hd : D.zbX r_hazard_held c0 c1 c2 a0 = (r_hazard_held c1 c0 (W (c2 + 1))) := (zak h5).trans (rfl)
  have hs := hr13.shape.cells
  refine zad r rfl rfl hb1 (k := 7) hs.1 zom ?_
  rw [← hs.2.2, hd]
  exact rfin hF hB hr13 u15 (by omega) (by omega) (by omega)
theorem zjE {n : Nat} {F : Nat → Prop} {r_hazard_held : Plan → Int → Int → T Bool} {w0 : World} (hF : ∀ b, F b → b < w0.heap.size) (ih_hazard_held : ∀ m, m < n → zes r_hazard_held m)
    (a0 : Plan) (a1 : Int) (a2 : Int) :
    Calls Tryz.prog 389 #[.agg (znu a0).toArray, .int .i64 a1, .int .i64 a2] w0 (zny Tryz.prog znP n (D.zbo r_hazard_held a0 a1 a2) F w0) := by
 refine enter Tryz.func389 rfl 21 rfl rfl fun fr r => ?_
 have hB := Below.refl w0.heap.size w0
 refine wsr ?_
 refine za5 (.cells ((znu a0)).toArray 25 (0, 0)) r (fun R => znF r (v := (.agg (znu a0).toArray)) rfl) rfl fun fr b1 w2 n3 r => ?_
 obtain ⟨eb1, zw2, hb1, hB, zB⟩ := n3.all hB
 refine za5 (.cells #[(I a1)] 3 (0, 0)) r (fun R => znF r (v := (I a1)) rfl) rfl fun fr b4 w5 n6 r => ?_
 have hb1 := keep n6.below hb1
 obtain ⟨eb4, zw5, hb4, hB, zB⟩ := n6.all hB
 refine za5 (.cells #[(I a2)] 3 (0, 0)) r (fun R => znF r (v := (I a2)) rfl) rfl fun fr b7 w8 n9 r => ?_
 have hb1 := keep n9.below hb1
 have hb4 := keep n9.below hb4
 obtain ⟨eb7, zw8, hb7, hB, zB⟩ := n9.all hB
 refine za5 (.cells (znt false znP.zero 0 0 0 0 .nilFunc) 324 (0, 0)) r (fun R => zag zox) rfl fun fr b10 w11 n12 r => ?_
 have hb1 := keep n12.below hb1
 have hb4 := keep n12.below hb4
 have hb7 := keep n12.below hb7
 obtain ⟨eb10, zw11, hb10, hB, zB⟩ := n12.all hB
 refine wn (wp_seq (wsr (za0 (I a2) r (fun R => za3 r rfl hb7 to3 rfl) rfl fun fr r => za0 _ r (fun R => za4 r (o := 0) rfl zhD) rfl fun fr r => za0 (I a0.threads) r (fun R => za3 r rfl hb1 to3 rfl) rfl fun fr r => za0 _ r (fun R => znA r rfl rfl rfl rfl) rfl fun fr r => za0 _ r (fun R => znA r rfl rfl rfl rfl) rfl fun fr r => wn ?_)))
 refine wp_cond_split (t := (a2 == (W (a0.threads * 3)))) (r.ev rfl) (fun h13 => ?_) (fun h13 => ?_)
 ·
  refine wsr ?_
  have hF1 := znI hF hB b10
  refine za8 r (zg0 (F := (fun b => F b ∨ (w0.heap.size ≤ b ∧ b < w11.heap.size ∧ b ≠ b10))) (n := n) hF1 false) (fun R hc => zac r rfl zq7 hc) rfl ?_
  rintro _ w14 ⟨v15, rfl, hb, hr16⟩
  refine ⟨_, rfl, fun fr r => ?_⟩
  have zw14 := hb.size
  have hb1 := keep hb hb1
  have hb4 := keep hb hb4
  have hb7 := keep hb hb7
  have hb10 := keep hb hb10
  obtain ⟨hB, zB⟩ := bon hb hB
  refine zae (.cells v15.cells 324 (0, 0)) r (fun R => zaf r hr16.shape rfl rfl hb10 zol rfl) rfl fun fr w17 u18 r => ?_
  have zw17 := u18.size
  have hb1 := u18.keep hb1 (by omega)
  have hb4 := u18.keep hb4 (by omega)
  have hb7 := u18.keep hb7 (by omega)
  have hb10 := u18.at_
  obtain ⟨hB, zB⟩ := u18.on hB (by omega)
  refine wn (wp_ret ?_)
  have hd : D.zbo r_hazard_held a0 a1 a2 = (D.zdq false) := (zaq h13).trans (rfl)
  have hs := hr16.shape.cells
  refine zad r rfl rfl hb10 (k := 7) hs.1 zom ?_
  rw [← hs.2.2, hd]
  exact rfin hF hB hr16 u18 (by omega) (by omega) (by omega)
 ·
  refine wp_skip (wsr (za0 (.agg (znu a0).toArray) r (fun R => za6 r (cs := (znu a0)) (n := 6) rfl hb1 ta25 rfl) rfl fun fr r => za0 (I a2) r (fun R => za3 r rfl hb7 to3 rfl) rfl fun fr r => za0 _ r (fun R => znA r rfl rfl rfl rfl) rfl fun fr r => za0 (I a2) r (fun R => za3 r rfl hb7 to3 rfl) rfl fun fr r => za0 _ r (fun R => znA r rfl rfl rfl rfl) rfl fun fr r => ?_))
  refine za8 r (zdP w11 a0 (W (a2.tdiv 3)) (a2.tmod 3)) (fun R hc => zac r rfl cl52 hc) rfl ?_
  rintro _ w19 ⟨rfl, hb⟩
  refine ⟨_, rfl, fun fr r => ?_⟩
  have zw19 := hb.size
  have hb1 := keep hb hb1
  have hb4 := keep hb hb4
  have hb7 := keep hb hb7
  have hb10 := keep hb hb10
  obtain ⟨hB, zB⟩ := bon hb hB
  refine za0 (.func (.func 415) #[] #[zp b4, zp b1, zp b7]) r (fun R => zao r rfl) rfl fun fr r => ?_
  have hF1 := znI hF hB b10
  have f20 : ((fun b => F b ∨ (w0.heap.size ≤ b ∧ b < w19.heap.size ∧ b ≠ b10))) b4 := (.inr ⟨by omega, by omega, by omega⟩)
  have f21 : ((fun b => F b ∨ (w0.heap.size ≤ b ∧ b < w19.heap.size ∧ b ≠ b10))) b1 := (.inr ⟨by omega, by omega, by omega⟩)
  have f22 : ((fun b => F b ∨ (w0.heap.size ≤ b ∧ b < w19.heap.size ∧ b ≠ b10))) b7 := (.inr ⟨by omega, by omega, by omega⟩)
  refine za8 r (zim (F := (fun b => F b ∨ (w0.heap.size ≤ b ∧ b < w19.heap.size ∧ b ≠ b10))) (n := n) hF1 (D.zbc a0 (W (a2.tdiv 3)) (a2.tmod 3)) ⟨415, [], [zp b4, zp b1, zp b7], zrG, rfl, fun m hm x w' hs hz => ziL (fun b hb => Nat.lt_of_lt_of_le (hF1 b hb) hz) (fun m' hm' => ih_hazard_held m' (by omega)) a1 f20 (hs.at_ f20 hb4) a0 f21 (hs.at_ f21 hb1) a2 f22 (hs.at_ f22 hb7) x⟩) (fun R hc => zac r rfl zs6 hc) rfl ?_
  rintro _ w23 ⟨v24, rfl, hb, hr25⟩
  refine ⟨_, rfl, fun fr r => ?_⟩
  have zw23 := hb.size
  have hb1 := keep hb hb1
  have hb4 := keep hb hb4
  have hb7 := keep hb hb7
  have hb10 := keep hb hb10
  obtain ⟨hB, zB⟩ := bon hb hB
  refine zae (.cells v24.cells 324 (0, 0)) r (fun R => zaf r hr25.shape rfl rfl hb10 zol rfl) rfl fun fr w26 u27 r => ?_
  have zw26 := u27.size
  have hb1 := u27.keep hb1 (by omega)
  have hb4 := u27.keep hb4 (by omega)
  have hb7 := u27.keep hb7 (by omega)
  have hb10 := u27.at_
  obtain ⟨hB, zB⟩ := u27.on hB (by omega)
  refine wn (wp_ret ?_)
  have hd : D.zbo r_hazard_held a0 a1 a2 = (D.zfi (D.zbc a0 (W (a2.tdiv 3)) (a2.tmod 3)) (fun x => (D.zbX r_hazard_held a1 a0 a2 x))) := (zak h13).trans (rfl)
  have hs := hr25.shape.cells
  refine zad r rfl rfl hb10 (k := 7) hs.1 zom ?_
  rw [← hs.2.2, hd]
  exact rfin hF hB hr25 u27 (by omega) (by omega) (by omega)
theorem zjH {n : Nat} {k : Nat} (hk : n < k) : zes (D.zbQ k) n := by
  induction n using Nat.strongRecOn generalizing k with
  | _ n ih =>
    obtain ⟨k, rfl⟩ : ∃ q, k = q + 1 := ⟨k - 1, by omega⟩
    intro F w0 hF
    have h := @zjE n F (D.zbQ k) w0 hF (fun m hm => ih m hm (by omega))
    exact h
def D.zfG (j : Nat) (a0 : Plan) (a1 : Int) : T Bool := (D.zbQ j a0 a1 0)
theorem zjX {n : Nat} {F : Nat → Prop} {j : Nat} {w0 : World} (hF : ∀ b, F b → b < w0.heap.size) (hj : n < j)
    (a0 : Plan) (a1 : Int) :
    Calls Tryz.prog 358 #[.agg (znu a0).toArray, .int .i64 a1] w0 (zny Tryz.prog znP n (D.zfG j a0 a1) F w0) := by
 refine enter Tryz.func358 rfl 8 rfl rfl fun fr r => ?_
 have hB := Below.refl w0.heap.size w0
 refine wsr ?_
 refine za5 (.cells ((znu a0)).toArray 25 (0, 0)) r (fun R => znF r (v := (.agg (znu a0).toArray)) rfl) rfl fun fr b1 w2 n3 r => ?_
 obtain ⟨eb1, zw2, hb1, hB, zB⟩ := n3.all hB
 refine za5 (.cells (znt false znP.zero 0 0 0 0 .nilFunc) 324 (0, 0)) r (fun R => zag zox) rfl fun fr b4 w5 n6 r => ?_
 have hb1 := keep n6.below hb1
 obtain ⟨eb4, zw5, hb4, hB, zB⟩ := n6.all hB
 refine wn (wsr (za0 (.agg (znu a0).toArray) r (fun R => za6 r (cs := (znu a0)) (n := 6) rfl hb1 ta25 rfl) rfl fun fr r => za0 (I a1) r (fun R => za9 r rfl) rfl fun fr r => ?_))
 have hF1 := znI hF hB b4
 refine za8 r ((zjH (k := j) (n := n) (by omega)) (fun b => F b ∨ (w0.heap.size ≤ b ∧ b < w5.heap.size ∧ b ≠ b4)) _ hF1 a0 a1 0) (fun R hc => zac r rfl zpB hc) rfl ?_
 rintro _ w7 ⟨v8, rfl, hb, hr9⟩
 refine ⟨_, rfl, fun fr r => ?_⟩
 have zw7 := hb.size
 have hb1 := keep hb hb1
 have hb4 := keep hb hb4
 obtain ⟨hB, zB⟩ := bon hb hB
 refine zae (.cells v8.cells 324 (0, 0)) r (fun R => zaf r hr9.shape rfl rfl hb4 zol rfl) rfl fun fr w10 u11 r => ?_
 have zw10 := u11.size
 have hb1 := u11.keep hb1 (by omega)
 have hb4 := u11.at_
 obtain ⟨hB, zB⟩ := u11.on hB (by omega)
 refine wn (wp_ret ?_)
 have hs := hr9.shape.cells
 refine zad r rfl rfl hb4 (k := 7) hs.1 zom ?_
 rw [← hs.2.2]
 exact rfin hF hB hr9 u11 (by omega) (by omega) (by omega)
def D.zeb (a0 : Plan) (a1 : Int) (a2 : Int) (a3 : Int) : T Unit := (D.zhF (D.zbc a0 a1 a2) (D.zdE a3))
theorem zii {n : Nat} {F : Nat → Prop} {w0 : World} (hF : ∀ b, F b → b < w0.heap.size)
    (a0 : Plan) (a1 : Int) (a2 : Int) (a3 : Int) :
    Calls Tryz.prog 218 #[.agg (znu a0).toArray, .int .i64 a1, .int .i64 a2, .int .i64 a3] w0 (zny Tryz.prog znC n (D.zeb a0 a1 a2 a3) F w0) := by
 refine enter Tryz.func218 rfl 16 rfl rfl fun fr r => ?_
 have hB := Below.refl w0.heap.size w0
 refine wsr ?_
 refine za5 (.cells ((znu a0)).toArray 25 (0, 0)) r (fun R => znF r (v := (.agg (znu a0).toArray)) rfl) rfl fun fr b1 w2 n3 r => ?_
 obtain ⟨eb1, zw2, hb1, hB, zB⟩ := n3.all hB
 refine za5 (.cells (znt false znC.zero 0 0 0 0 .nilFunc) 186 (0, 0)) r (fun R => zag zod) rfl fun fr b4 w5 n6 r => ?_
 have hb1 := keep n6.below hb1
 obtain ⟨eb4, zw5, hb4, hB, zB⟩ := n6.all hB
 refine wn (wsr (za0 (.agg (znu a0).toArray) r (fun R => za6 r (cs := (znu a0)) (n := 6) rfl hb1 ta25 rfl) rfl fun fr r => za0 (I a1) r (fun R => za9 r rfl) rfl fun fr r => za0 (I a2) r (fun R => za9 r rfl) rfl fun fr r => ?_))
 refine za8 r (zdP w5 a0 a1 a2) (fun R hc => zac r rfl cl52 hc) rfl ?_
 rintro _ w7 ⟨rfl, hb⟩
 refine ⟨_, rfl, fun fr r => ?_⟩
 have zw7 := hb.size
 have hb1 := keep hb hb1
 have hb4 := keep hb hb4
 obtain ⟨hB, zB⟩ := bon hb hB
 refine za0 (I a3) r (fun R => za9 r rfl) rfl fun fr r => ?_
 refine za8 r (zhz w7 a3) (fun R hc => zac r rfl zqh hc) rfl ?_
 rintro _ w8 ⟨rfl, hb⟩
 refine ⟨_, rfl, fun fr r => ?_⟩
 have zw8 := hb.size
 have hb1 := keep hb hb1
 have hb4 := keep hb hb4
 obtain ⟨hB, zB⟩ := bon hb hB
 have hF1 := znI hF hB b4
 refine za8 r (zjj (F := (fun b => F b ∨ (w0.heap.size ≤ b ∧ b < w8.heap.size ∧ b ≠ b4))) (n := n) hF1 (D.zbc a0 a1 a2) (D.zdE a3)) (fun R hc => zac r rfl zqb hc) rfl ?_
 rintro _ w9 ⟨v10, rfl, hb, hr11⟩
 refine ⟨_, rfl, fun fr r => ?_⟩
 have zw9 := hb.size
 have hb1 := keep hb hb1
 have hb4 := keep hb hb4
 obtain ⟨hB, zB⟩ := bon hb hB
 refine zae (.cells v10.cells 186 (0, 0)) r (fun R => zaf r hr11.shape rfl rfl hb4 zo6 rfl) rfl fun fr w12 u13 r => ?_
 have zw12 := u13.size
 have hb1 := u13.keep hb1 (by omega)
 have hb4 := u13.at_
 obtain ⟨hB, zB⟩ := u13.on hB (by omega)
 refine wn (wp_ret ?_)
 have hs := hr11.shape.cells
 refine zad r rfl rfl hb4 (k := 6) hs.1 zo2 ?_
 rw [← hs.2.2]
 exact rfin hF hB hr11 u13 (by omega) (by omega) (by omega)
def D.zcR (r_hazard_guard : Plan → Int → Int → Int → Int → Int → T Int) (c0 : Int) (c1 : Plan) (c2 : Int) (c3 : Int) (c4 : Int) (c5 : Int) (a0 : Int) : T Int := (bif (a0 == c0) then (D.zcS c0) else (r_hazard_guard c1 c2 c3 c4 c5 a0))
def D.zef (r_hazard_guard : Plan → Int → Int → Int → Int → Int → T Int) (c0 : Int) (c1 : Int) (c2 : Plan) (c3 : Int) (c4 : Int) (c5 : Int) : T Int := (D.zdu c0 (fun x => (D.zcR r_hazard_guard c1 c2 c3 c4 c0 c5 x)))
def D.zbT (r_hazard_guard : Plan → Int → Int → Int → Int → Int → T Int) (a0 : Plan) (a1 : Int) (a2 : Int) (a3 : Int) (a4 : Int) (a5 : Int) : T Int := (bif (decide ((IntKind.i64.wrap ((IntKind.i64.wrap (shrI .u64 a5 a4)) - 1)) < 0)) then (D.zcS a5) else (T.bind (D.zeb a0 a1 a2 (IntKind.i64.wrap ((IntKind.i64.wrap (shrI .u64 a5 a4)) - 1))) (fun _ => (D.zef r_hazard_guard a3 a5 a0 a1 a2 a4))))
def D.zch : Nat → Plan → Int → Int → Int → Int → Int → T Int
  | 0, _, _, _, _, _, _ => .cut
  | k + 1, a0, a1, a2, a3, a4, a5 => D.zbT (D.zch k) a0 a1 a2 a3 a4 a5
def zdm (r : Plan → Int → Int → Int → Int → Int → T Int) (n : Nat) : Prop := ∀ (F : Nat → Prop) (w0 : World), (∀ b, F b → b < w0.heap.size) → ∀ (a0 : Plan) (a1 : Int) (a2 : Int) (a3 : Int) (a4 : Int) (a5 : Int) (_ : 0 ≤ a4), Calls Tryz.prog 328 #[.agg (znu a0).toArray, .int .i64 a1, .int .i64 a2, .int .i64 a3, .int .i64 a4, .int .u64 a5] w0 (zny Tryz.prog znM n (r a0 a1 a2 a3 a4 a5) F w0)
theorem zhv {n : Nat} {F : Nat → Prop} {r_hazard_guard : Plan → Int → Int → Int → Int → Int → T Int} {w0 : World} (hF : ∀ b, F b → b < w0.heap.size) (ih_hazard_guard : ∀ m, m ≤ n → zdm r_hazard_guard m)
    (c0 : Int) {c0b : Nat} (c0F : F c0b) (c0h : w0.heap[c0b]? = some (.cells ([(.int .u64 c0)]).toArray 22 (0, 0))) (c1 : Plan) {c1b : Nat} (c1F : F c1b) (c1h : w0.heap[c1b]? = some (.cells ((znu c1)).toArray 25 (0, 0))) (c2 : Int) {c2b : Nat} (c2F : F c2b) (c2h : w0.heap[c2b]? = some (.cells ([(.int .i64 c2)]).toArray 3 (0, 0))) (c3 : Int) {c3b : Nat} (c3F : F c3b) (c3h : w0.heap[c3b]? = some (.cells ([(.int .i64 c3)]).toArray 3 (0, 0))) (c4 : Int) {c4b : Nat} (c4F : F c4b) (c4h : w0.heap[c4b]? = some (.cells ([(.int .i64 c4)]).toArray 3 (0, 0))) (c5 : Int) {c5b : Nat} (c5F : F c5b) (c5h : w0.heap[c5b]? = some (.cells ([(.int .i64 c5)]).toArray 3 (0, 0))) (a0 : Int) (pre0 : 0 ≤ c5) :
    Calls Tryz.prog 374 #[.int .u64 a0, zp c0b, zp c1b, zp c2b, zp c3b, zp c4b, zp c5b] w0 (zny Tryz.prog znM n (D.zcR r_hazard_guard c0 c1 c2 c3 c4 c5 a0) F w0) := by
 refine enter Tryz.func374 rfl 21 rfl rfl fun fr r => ?_
 have hB := Below.refl w0.heap.size w0
 have lc0b := lt_of_block c0h
 have lc1b := lt_of_block c1h
 have lc2b := lt_of_block c2h
 have lc3b := lt_of_block c3h
 have lc4b := lt_of_block c4h
 have lc5b := lt_of_block c5h
 refine wsr ?_
 refine za5 (.cells (znt false znM.zero 0 0 0 0 .nilFunc) 283 (0, 0)) r (fun R => zag zof) rfl fun fr b1 w2 n3 r => ?_
 obtain ⟨eb1, zw2, hb1, hB, zB⟩ := n3.all hB
 refine wn (wp_seq (wsr (za0 (U a0) r (fun R => za9 r rfl) rfl fun fr r => za0 (U c0) r (fun R => za3 r rfl (keep hB c0h) to22 rfl) rfl fun fr r => za0 _ r (fun R => znA r rfl rfl rfl rfl) rfl fun fr r => wn ?_)))
 refine wp_cond_split (t := (a0 == c0)) (r.ev rfl) (fun h4 => ?_) (fun h4 => ?_)
 ·
  refine wsr (za0 (U c0) r (fun R => za3 r rfl (keep hB c0h) to22 rfl) rfl fun fr r => ?_)
  have hF1 := znI hF hB b1
  refine za8 r (zf5 (F := (fun b => F b ∨ (w0.heap.size ≤ b ∧ b < w2.heap.size ∧ b ≠ b1))) (n := n) hF1 c0) (fun R hc => zac r rfl zpZ hc) rfl ?_
  rintro _ w5 ⟨v6, rfl, hb, hr7⟩
  refine ⟨_, rfl, fun fr r => ?_⟩
  have zw5 := hb.size
  have hb1 := keep hb hb1
  obtain ⟨hB, zB⟩ := bon hb hB
  refine zae (.cells v6.cells 283 (0, 0)) r (fun R => zaf r hr7.shape rfl rfl hb1 zoc rfl) rfl fun fr w8 u9 r => ?_
  have zw8 := u9.size
  have hb1 := u9.at_
  obtain ⟨hB, zB⟩ := u9.on hB (by omega)
  refine wn (wp_ret ?_)
  have hd : D.zcR r_hazard_guard c0 c1 c2 c3 c4 c5 a0 = (D.zcS c0) := (zaq h4).trans (rfl)
  have hs := hr7.shape.cells
  refine zad r rfl rfl hb1 (k := 7) hs.1 zob ?_
  rw [← hs.2.2, hd]
  exact rfin hF hB hr7 u9 (by omega) (by omega) (by omega)
 ·
  refine wp_skip (wsr (za0 (.agg (znu c1).toArray) r (fun R => za6 r (cs := (znu c1)) (n := 6) rfl (keep hB c1h) ta25 rfl) rfl fun fr r => za0 (I c2) r (fun R => za3 r rfl (keep hB c2h) to3 rfl) rfl fun fr r => za0 (I c3) r (fun R => za3 r rfl (keep hB c3h) to3 rfl) rfl fun fr r => za0 (I c4) r (fun R => za3 r rfl (keep hB c4h) to3 rfl) rfl fun fr r => za0 (I c5) r (fun R => za3 r rfl (keep hB c5h) to3 rfl) rfl fun fr r => za0 (U a0) r (fun R => za9 r rfl) rfl fun fr r => ?_))
  have hF1 := znI hF hB b1
  refine za8 r ((ih_hazard_guard n (by omega)) (fun b => F b ∨ (w0.heap.size ≤ b ∧ b < w2.heap.size ∧ b ≠ b1)) _ hF1 c1 c2 c3 c4 c5 a0 (by first | assumption | decide)) (fun R hc => zac r rfl zpK hc) rfl ?_
  rintro _ w10 ⟨v11, rfl, hb, hr12⟩
  refine ⟨_, rfl, fun fr r => ?_⟩
  have zw10 := hb.size
  have hb1 := keep hb hb1
  obtain ⟨hB, zB⟩ := bon hb hB
  refine zae (.cells v11.cells 283 (0, 0)) r (fun R => zaf r hr12.shape rfl rfl hb1 zoc rfl) rfl fun fr w13 u14 r => ?_
  have zw13 := u14.size
  have hb1 := u14.at_
  obtain ⟨hB, zB⟩ := u14.on hB (by omega)
  refine wn (wp_ret ?_)
  have hd : D.zcR r_hazard_guard c0 c1 c2 c3 c4 c5 a0 = (r_hazard_guard c1 c2 c3 c4 c5 a0) := (zak h4).trans (rfl)
  have hs := hr12.shape.cells
  refine zad r rfl rfl hb1 (k := 7) hs.1 zob ?_
  rw [← hs.2.2, hd]
  exact rfin hF hB hr12 u14 (by omega) (by omega) (by omega)
theorem zit {n : Nat} {F : Nat → Prop} {r_hazard_guard : Plan → Int → Int → Int → Int → Int → T Int} {w0 : World} (hF : ∀ b, F b → b < w0.heap.size) (ih_hazard_guard : ∀ m, m < n → zdm r_hazard_guard m)
    (c0 : Int) {c0b : Nat} (c0F : F c0b) (c0h : w0.heap[c0b]? = some (.cells ([(.int .i64 c0)]).toArray 3 (0, 0))) (c1 : Int) {c1b : Nat} (c1F : F c1b) (c1h : w0.heap[c1b]? = some (.cells ([(.int .u64 c1)]).toArray 22 (0, 0))) (c2 : Plan) {c2b : Nat} (c2F : F c2b) (c2h : w0.heap[c2b]? = some (.cells ((znu c2)).toArray 25 (0, 0))) (c3 : Int) {c3b : Nat} (c3F : F c3b) (c3h : w0.heap[c3b]? = some (.cells ([(.int .i64 c3)]).toArray 3 (0, 0))) (c4 : Int) {c4b : Nat} (c4F : F c4b) (c4h : w0.heap[c4b]? = some (.cells ([(.int .i64 c4)]).toArray 3 (0, 0))) (c5 : Int) {c5b : Nat} (c5F : F c5b) (c5h : w0.heap[c5b]? = some (.cells ([(.int .i64 c5)]).toArray 3 (0, 0))) (pre0 : 0 ≤ c5) :
    Calls Tryz.prog 373 #[.agg #[], zp c0b, zp c1b, zp c2b, zp c3b, zp c4b, zp c5b] w0 (zny Tryz.prog znM n (D.zef r_hazard_guard c0 c1 c2 c3 c4 c5) F w0) := by
 refine enter Tryz.func373 rfl 12 rfl rfl fun fr r => ?_
 have hB := Below.refl w0.heap.size w0
 have lc0b := lt_of_block c0h
 have lc1b := lt_of_block c1h
 have lc2b := lt_of_block c2h
 have lc3b := lt_of_block c3h
 have lc4b := lt_of_block c4h
 have lc5b := lt_of_block c5h
 refine wsr ?_
 refine za5 (.cells #[] 181 (0, 0)) r (fun R => znF r (v := (.agg #[])) rfl) rfl fun fr b1 w2 n3 r => ?_
 obtain ⟨eb1, zw2, hb1, hB, zB⟩ := n3.all hB
 refine za5 (.cells (znt false znM.zero 0 0 0 0 .nilFunc) 283 (0, 0)) r (fun R => zag zof) rfl fun fr b4 w5 n6 r => ?_
 have hb1 := keep n6.below hb1
 obtain ⟨eb4, zw5, hb4, hB, zB⟩ := n6.all hB
 refine wn (wsr (za0 (I c0) r (fun R => za3 r rfl (keep hB c0h) to3 rfl) rfl fun fr r => za0 (.func (.func 374) #[] #[zp c1b, zp c2b, zp c3b, zp c4b, zp c0b, zp c5b]) r (fun R => zao r rfl) rfl fun fr r => ?_))
 have hF1 := znI hF hB b4
 have f7 : ((fun b => F b ∨ (w0.heap.size ≤ b ∧ b < w5.heap.size ∧ b ≠ b4))) c1b := (.inl c1F)
 have f8 : ((fun b => F b ∨ (w0.heap.size ≤ b ∧ b < w5.heap.size ∧ b ≠ b4))) c2b := (.inl c2F)
 have f9 : ((fun b => F b ∨ (w0.heap.size ≤ b ∧ b < w5.heap.size ∧ b ≠ b4))) c3b := (.inl c3F)
 have f10 : ((fun b => F b ∨ (w0.heap.size ≤ b ∧ b < w5.heap.size ∧ b ≠ b4))) c4b := (.inl c4F)
 have f11 : ((fun b => F b ∨ (w0.heap.size ≤ b ∧ b < w5.heap.size ∧ b ≠ b4))) c0b := (.inl c0F)
 have f12 : ((fun b => F b ∨ (w0.heap.size ≤ b ∧ b < w5.heap.size ∧ b ≠ b4))) c5b := (.inl c5F)
 refine za8 r (zfc (F := (fun b => F b ∨ (w0.heap.size ≤ b ∧ b < w5.heap.size ∧ b ≠ b4))) (n := n) hF1 c0 ⟨374, [], [zp c1b, zp c2b, zp c3b, zp c4b, zp c0b, zp c5b], zrV, rfl, fun m hm x w' hs hz => zhv (fun b hb => Nat.lt_of_lt_of_le (hF1 b hb) hz) (fun m' hm' => ih_hazard_guard m' (by omega)) c1 f7 (hs.at_ f7 (keep hB c1h)) c2 f8 (hs.at_ f8 (keep hB c2h)) c3 f9 (hs.at_ f9 (keep hB c3h)) c4 f10 (hs.at_ f10 (keep hB c4h)) c0 f11 (hs.at_ f11 (keep hB c0h)) c5 f12 (hs.at_ f12 (keep hB c5h)) x (by first | assumption | decide)⟩) (fun R hc => zac r rfl zpA hc) rfl ?_
 rintro _ w13 ⟨v14, rfl, hb, hr15⟩
 refine ⟨_, rfl, fun fr r => ?_⟩
 have zw13 := hb.size
 have hb1 := keep hb hb1
 have hb4 := keep hb hb4
 obtain ⟨hB, zB⟩ := bon hb hB
 refine zae (.cells v14.cells 283 (0, 0)) r (fun R => zaf r hr15.shape rfl rfl hb4 zoc rfl) rfl fun fr w16 u17 r => ?_
 have zw16 := u17.size
 have hb1 := u17.keep hb1 (by omega)
 have hb4 := u17.at_
 obtain ⟨hB, zB⟩ := u17.on hB (by omega)
 refine wn (wp_ret ?_)
 have hs := hr15.shape.cells
 refine zad r rfl rfl hb4 (k := 7) hs.1 zob ?_
 rw [← hs.2.2]
 exact rfin hF hB hr15 u17 (by omega) (by omega) (by omega)
theorem zjc {n : Nat} {F : Nat → Prop} {r_hazard_guard : Plan → Int → Int → Int → Int → Int → T Int} {w0 : World} (hF : ∀ b, F b → b < w0.heap.size) (ih_hazard_guard : ∀ m, m < n → zdm r_hazard_guard m)
    (a0 : Plan) (a1 : Int) (a2 : Int) (a3 : Int) (a4 : Int) (a5 : Int) (pre0 : 0 ≤ a4) :
    Calls Tryz.prog 328 #[.agg (znu a0).toArray, .int .i64 a1, .int .i64 a2, .int .i64 a3, .int .i64 a4, .int .u64 a5] w0 (zny Tryz.prog znM n (D.zbT r_hazard_guard a0 a1 a2 a3 a4 a5) F w0) := by
 refine enter Tryz.func328 rfl 30 rfl rfl fun fr r => ?_
 have hB := Below.refl w0.heap.size w0
 refine wsr ?_
 refine za5 (.cells ((znu a0)).toArray 25 (0, 0)) r (fun R => znF r (v := (.agg (znu a0).toArray)) rfl) rfl fun fr b1 w2 n3 r => ?_
 obtain ⟨eb1, zw2, hb1, hB, zB⟩ := n3.all hB
 refine za5 (.cells #[(I a1)] 3 (0, 0)) r (fun R => znF r (v := (I a1)) rfl) rfl fun fr b4 w5 n6 r => ?_
 have hb1 := keep n6.below hb1
 obtain ⟨eb4, zw5, hb4, hB, zB⟩ := n6.all hB
 refine za5 (.cells #[(I a2)] 3 (0, 0)) r (fun R => znF r (v := (I a2)) rfl) rfl fun fr b7 w8 n9 r => ?_
 have hb1 := keep n9.below hb1
 have hb4 := keep n9.below hb4
 obtain ⟨eb7, zw8, hb7, hB, zB⟩ := n9.all hB
 refine za5 (.cells #[(I a3)] 3 (0, 0)) r (fun R => znF r (v := (I a3)) rfl) rfl fun fr b10 w11 n12 r => ?_
 have hb1 := keep n12.below hb1
 have hb4 := keep n12.below hb4
 have hb7 := keep n12.below hb7
 obtain ⟨eb10, zw11, hb10, hB, zB⟩ := n12.all hB
 refine za5 (.cells #[(I a4)] 3 (0, 0)) r (fun R => znF r (v := (I a4)) rfl) rfl fun fr b13 w14 n15 r => ?_
 have hb1 := keep n15.below hb1
 have hb4 := keep n15.below hb4
 have hb7 := keep n15.below hb7
 have hb10 := keep n15.below hb10
 obtain ⟨eb13, zw14, hb13, hB, zB⟩ := n15.all hB
 refine za5 (.cells #[(U a5)] 22 (0, 0)) r (fun R => znF r (v := (U a5)) rfl) rfl fun fr b16 w17 n18 r => ?_
 have hb1 := keep n18.below hb1
 have hb4 := keep n18.below hb4
 have hb7 := keep n18.below hb7
 have hb10 := keep n18.below hb10
 have hb13 := keep n18.below hb13
 obtain ⟨eb16, zw17, hb16, hB, zB⟩ := n18.all hB
 refine za5 (.cells (znt false znM.zero 0 0 0 0 .nilFunc) 283 (0, 0)) r (fun R => zag zof) rfl fun fr b19 w20 n21 r => ?_
 have hb1 := keep n21.below hb1
 have hb4 := keep n21.below hb4
 have hb7 := keep n21.below hb7
 have hb10 := keep n21.below hb10
 have hb13 := keep n21.below hb13
 have hb16 := keep n21.below hb16
 obtain ⟨eb19, zw20, hb19, hB, zB⟩ := n21.all hB
 refine wn (wsr (za0 (U a5) r (fun R => za3 r rfl hb16 to22 rfl) rfl fun fr r => za0 (I a4) r (fun R => za3 r rfl hb13 to3 rfl) rfl fun fr r => za0 _ r (fun R => znA r rfl rfl rfl (zm4 (by first | assumption | decide))) rfl fun fr r => za0 (I (W (shrI .u64 a5 a4))) r (fun R => zb8 r rfl ti22 ti3) rfl fun fr r => za0 _ r (fun R => znA r rfl rfl rfl rfl) rfl fun fr r => za0 (I (W ((W (shrI .u64 a5 a4)) - 1))) r (fun R => za7 r rfl) rfl fun fr r => wn (wp_seq (wsr (za0 (I (W ((W (shrI .u64 a5 a4)) - 1))) r (fun R => za9 r rfl) rfl fun fr r => za0 _ r (fun R => znA r rfl rfl rfl rfl) rfl fun fr r => wn ?_)))))
 refine wp_cond_split (t := (decide ((W ((W (shrI .u64 a5 a4)) - 1)) < 0))) (r.ev rfl) (fun h22 => ?_) (fun h22 => ?_)
 ·
  refine wsr (za0 (U a5) r (fun R => za3 r rfl hb16 to22 rfl) rfl fun fr r => ?_)
  have hF1 := znI hF hB b19
  refine za8 r (zf5 (F := (fun b => F b ∨ (w0.heap.size ≤ b ∧ b < w20.heap.size ∧ b ≠ b19))) (n := n) hF1 a5) (fun R hc => zac r rfl zpZ hc) rfl ?_
  rintro _ w23 ⟨v24, rfl, hb, hr25⟩
  refine ⟨_, rfl, fun fr r => ?_⟩
  have zw23 := hb.size
  have hb1 := keep hb hb1
  have hb4 := keep hb hb4
  have hb7 := keep hb hb7
  have hb10 := keep hb hb10
  have hb13 := keep hb hb13
  have hb16 := keep hb hb16
  have hb19 := keep hb hb19
  obtain ⟨hB, zB⟩ := bon hb hB
  refine zae (.cells v24.cells 283 (0, 0)) r (fun R => zaf r hr25.shape rfl rfl hb19 zoc rfl) rfl fun fr w26 u27 r => ?_
  have zw26 := u27.size
  have hb1 := u27.keep hb1 (by omega)
  have hb4 := u27.keep hb4 (by omega)
  have hb7 := u27.keep hb7 (by omega)
  have hb10 := u27.keep hb10 (by omega)
  have hb13 := u27.keep hb13 (by omega)
  have hb16 := u27.keep hb16 (by omega)
  have hb19 := u27.at_
  obtain ⟨hB, zB⟩ := u27.on hB (by omega)
  refine wn (wp_ret ?_)
  have hd : D.zbT r_hazard_guard a0 a1 a2 a3 a4 a5 = (D.zcS a5) := (zaq h22).trans (rfl)
  have hs := hr25.shape.cells
  refine zad r rfl rfl hb19 (k := 7) hs.1 zob ?_
  rw [← hs.2.2, hd]
  exact rfin hF hB hr25 u27 (by omega) (by omega) (by omega)
 ·
  refine wp_skip (wsr (za0 (.agg (znu a0).toArray) r (fun R => za6 r (cs := (znu a0)) (n := 6) rfl hb1 ta25 rfl) rfl fun fr r => za0 (I a1) r (fun R => za3 r rfl hb4 to3 rfl) rfl fun fr r => za0 (I a2) r (fun R => za3 r rfl hb7 to3 rfl) rfl fun fr r => za0 (I (W ((W (shrI .u64 a5 a4)) - 1))) r (fun R => za9 r rfl) rfl fun fr r => ?_))
  have hF1 := znI hF hB b19
  refine za8 r (zii (F := (fun b => F b ∨ (w0.heap.size ≤ b ∧ b < w20.heap.size ∧ b ≠ b19))) (n := n) hF1 a0 a1 a2 (W ((W (shrI .u64 a5 a4)) - 1))) (fun R hc => zac r rfl zpL hc) rfl ?_
  rintro _ w28 ⟨v29, rfl, hb, hr30⟩
  refine ⟨_, rfl, fun fr r => ?_⟩
  have zw28 := hb.size
  have hb1 := keep hb hb1
  have hb4 := keep hb hb4
  have hb7 := keep hb hb7
  have hb10 := keep hb hb10
  have hb13 := keep hb hb13
  have hb16 := keep hb hb16
  have hb19 := keep hb hb19
  obtain ⟨hB, zB⟩ := bon hb hB
  refine za0 (.func (.func 373) #[] #[zp b10, zp b16, zp b1, zp b4, zp b7, zp b13]) r (fun R => zao r rfl) rfl fun fr r => ?_
  have hF1 := znI hF hB b19
  have f31 : ((fun b => F b ∨ (w0.heap.size ≤ b ∧ b < w28.heap.size ∧ b ≠ b19))) b10 := (.inr ⟨by omega, by omega, by omega⟩)
  have f32 : ((fun b => F b ∨ (w0.heap.size ≤ b ∧ b < w28.heap.size ∧ b ≠ b19))) b16 := (.inr ⟨by omega, by omega, by omega⟩)
  have f33 : ((fun b => F b ∨ (w0.heap.size ≤ b ∧ b < w28.heap.size ∧ b ≠ b19))) b1 := (.inr ⟨by omega, by omega, by omega⟩)
  have f34 : ((fun b => F b ∨ (w0.heap.size ≤ b ∧ b < w28.heap.size ∧ b ≠ b19))) b4 := (.inr ⟨by omega, by omega, by omega⟩)
  have f35 : ((fun b => F b ∨ (w0.heap.size ≤ b ∧ b < w28.heap.size ∧ b ≠ b19))) b7 := (.inr ⟨by omega, by omega, by omega⟩)
  have f36 : ((fun b => F b ∨ (w0.heap.size ≤ b ∧ b < w28.heap.size ∧ b ≠ b19))) b13 := (.inr ⟨by omega, by omega, by omega⟩)
  refine za8 r (zf3 (F := (fun b => F b ∨ (w0.heap.size ≤ b ∧ b < w28.heap.size ∧ b ≠ b19))) (n := n) hF1 (Rep.mono (by rintro b (h | h); (rcases h with h | ⟨h1, h2, h3⟩; exact .inl h; exact .inr ⟨h1, by omega, h3⟩); exact .inr ⟨by omega, by omega, by omega⟩) (Same.refl _ _) (by omega) n _ _ hr30) ⟨373, [], [zp b10, zp b16, zp b1, zp b4, zp b7, zp b13], zru, rfl, fun m hm _ w' hs hz => zit (fun b hb => Nat.lt_of_lt_of_le (hF1 b hb) hz) (fun m' hm' => ih_hazard_guard m' (by omega)) a3 f31 (hs.at_ f31 hb10) a5 f32 (hs.at_ f32 hb16) a0 f33 (hs.at_ f33 hb1) a1 f34 (hs.at_ f34 hb4) a2 f35 (hs.at_ f35 hb7) a4 f36 (hs.at_ f36 hb13) (by first | assumption | decide)⟩) (fun R hc => zac r rfl zq0 hc) rfl ?_
  rintro _ w37 ⟨v38, rfl, hb, hr39⟩
  refine ⟨_, rfl, fun fr r => ?_⟩
  have zw37 := hb.size
  have hb1 := keep hb hb1
  have hb4 := keep hb hb4
  have hb7 := keep hb hb7
  have hb10 := keep hb hb10
  have hb13 := keep hb hb13
  have hb16 := keep hb hb16
  have hb19 := keep hb hb19
  obtain ⟨hB, zB⟩ := bon hb hB
  refine zae (.cells v38.cells 283 (0, 0)) r (fun R => zaf r hr39.shape rfl rfl hb19 zoc rfl) rfl fun fr w40 u41 r => ?_
  have zw40 := u41.size
  have hb1 := u41.keep hb1 (by omega)
  have hb4 := u41.keep hb4 (by omega)
  have hb7 := u41.keep hb7 (by omega)
  have hb10 := u41.keep hb10 (by omega)
  have hb13 := u41.keep hb13 (by omega)
  have hb16 := u41.keep hb16 (by omega)
  have hb19 := u41.at_
  obtain ⟨hB, zB⟩ := u41.on hB (by omega)
  refine wn (wp_ret ?_)
  have hd : D.zbT r_hazard_guard a0 a1 a2 a3 a4 a5 = (T.bind (D.zeb a0 a1 a2 (W ((W (shrI .u64 a5 a4)) - 1))) (fun _ => (D.zef r_hazard_guard a3 a5 a0 a1 a2 a4))) := (zak h22).trans (rfl)
  have hs := hr39.shape.cells
  refine zad r rfl rfl hb19 (k := 7) hs.1 zob ?_
  rw [← hs.2.2, hd]
  exact rfin hF hB hr39 u41 (by omega) (by omega) (by omega)
theorem zj8 {n : Nat} {k : Nat} (hk : n < k) : zdm (D.zch k) n := by
  induction n using Nat.strongRecOn generalizing k with
  | _ n ih =>
    obtain ⟨k, rfl⟩ : ∃ q, k = q + 1 := ⟨k - 1, by omega⟩
    intro F w0 hF
    have h := @zjc n F (D.zch k) w0 hF (fun m hm => ih m hm (by omega))
    exact h
def D.zei (j : Nat) (c0 : Plan) (c1 : Int) (c2 : Int) (c3 : Int) (c4 : Int) (a0 : Int) : T Int := (D.zch j c0 c1 c2 c3 c4 a0)
theorem ziq {n : Nat} {F : Nat → Prop} {j : Nat} {w0 : World} (hF : ∀ b, F b → b < w0.heap.size) (hj : n < j)
    (c0 : Plan) {c0b : Nat} (c0F : F c0b) (c0h : w0.heap[c0b]? = some (.cells ((znu c0)).toArray 25 (0, 0))) (c1 : Int) {c1b : Nat} (c1F : F c1b) (c1h : w0.heap[c1b]? = some (.cells ([(.int .i64 c1)]).toArray 3 (0, 0))) (c2 : Int) {c2b : Nat} (c2F : F c2b) (c2h : w0.heap[c2b]? = some (.cells ([(.int .i64 c2)]).toArray 3 (0, 0))) (c3 : Int) {c3b : Nat} (c3F : F c3b) (c3h : w0.heap[c3b]? = some (.cells ([(.int .i64 c3)]).toArray 3 (0, 0))) (c4 : Int) {c4b : Nat} (c4F : F c4b) (c4h : w0.heap[c4b]? = some (.cells ([(.int .i64 c4)]).toArray 3 (0, 0))) (a0 : Int) (pre0 : 0 ≤ c4) :
    Calls Tryz.prog 327 #[.int .u64 a0, zp c0b, zp c1b, zp c2b, zp c3b, zp c4b] w0 (zny Tryz.prog znM n (D.zei j c0 c1 c2 c3 c4 a0) F w0) := by
 refine enter Tryz.func327 rfl 15 rfl rfl fun fr r => ?_
 have hB := Below.refl w0.heap.size w0
 have lc0b := lt_of_block c0h
 have lc1b := lt_of_block c1h
 have lc2b := lt_of_block c2h
 have lc3b := lt_of_block c3h
 have lc4b := lt_of_block c4h
 refine wsr ?_
 refine za5 (.cells (znt false znM.zero 0 0 0 0 .nilFunc) 283 (0, 0)) r (fun R => zag zof) rfl fun fr b1 w2 n3 r => ?_
 obtain ⟨eb1, zw2, hb1, hB, zB⟩ := n3.all hB
 refine wn (wsr (za0 (.agg (znu c0).toArray) r (fun R => za6 r (cs := (znu c0)) (n := 6) rfl (keep hB c0h) ta25 rfl) rfl fun fr r => za0 (I c1) r (fun R => za3 r rfl (keep hB c1h) to3 rfl) rfl fun fr r => za0 (I c2) r (fun R => za3 r rfl (keep hB c2h) to3 rfl) rfl fun fr r => za0 (I c3) r (fun R => za3 r rfl (keep hB c3h) to3 rfl) rfl fun fr r => za0 (I c4) r (fun R => za3 r rfl (keep hB c4h) to3 rfl) rfl fun fr r => za0 (U a0) r (fun R => za9 r rfl) rfl fun fr r => ?_))
 have hF1 := znI hF hB b1
 refine za8 r ((zj8 (k := j) (n := n) (by omega)) (fun b => F b ∨ (w0.heap.size ≤ b ∧ b < w2.heap.size ∧ b ≠ b1)) _ hF1 c0 c1 c2 c3 c4 a0 (by first | assumption | decide)) (fun R hc => zac r rfl zpK hc) rfl ?_
 rintro _ w4 ⟨v5, rfl, hb, hr6⟩
 refine ⟨_, rfl, fun fr r => ?_⟩
 have zw4 := hb.size
 have hb1 := keep hb hb1
 obtain ⟨hB, zB⟩ := bon hb hB
 refine zae (.cells v5.cells 283 (0, 0)) r (fun R => zaf r hr6.shape rfl rfl hb1 zoc rfl) rfl fun fr w7 u8 r => ?_
 have zw7 := u8.size
 have hb1 := u8.at_
 obtain ⟨hB, zB⟩ := u8.on hB (by omega)
 refine wn (wp_ret ?_)
 have hs := hr6.shape.cells
 refine zad r rfl rfl hb1 (k := 7) hs.1 zob ?_
 rw [← hs.2.2]
 exact rfin hF hB hr6 u8 (by omega) (by omega) (by omega)
def D.zd6 (j : Nat) (a0 : Plan) (a1 : Int) (a2 : Int) (a3 : Int) (a4 : Int) : T Int := (D.zdu a3 (fun x => (D.zei j a0 a1 a2 a3 a4 x)))
theorem zgS {n : Nat} {F : Nat → Prop} {j : Nat} {w0 : World} (hF : ∀ b, F b → b < w0.heap.size) (hj : n < j)
    (a0 : Plan) (a1 : Int) (a2 : Int) (a3 : Int) (a4 : Int) (pre0 : 0 ≤ a4) :
    Calls Tryz.prog 243 #[.agg (znu a0).toArray, .int .i64 a1, .int .i64 a2, .int .i64 a3, .int .i64 a4] w0 (zny Tryz.prog znM n (D.zd6 j a0 a1 a2 a3 a4) F w0) := by
 refine enter Tryz.func243 rfl 14 rfl rfl fun fr r => ?_
 have hB := Below.refl w0.heap.size w0
 refine wsr ?_
 refine za5 (.cells ((znu a0)).toArray 25 (0, 0)) r (fun R => znF r (v := (.agg (znu a0).toArray)) rfl) rfl fun fr b1 w2 n3 r => ?_
 obtain ⟨eb1, zw2, hb1, hB, zB⟩ := n3.all hB
 refine za5 (.cells #[(I a1)] 3 (0, 0)) r (fun R => znF r (v := (I a1)) rfl) rfl fun fr b4 w5 n6 r => ?_
 have hb1 := keep n6.below hb1
 obtain ⟨eb4, zw5, hb4, hB, zB⟩ := n6.all hB
 refine za5 (.cells #[(I a2)] 3 (0, 0)) r (fun R => znF r (v := (I a2)) rfl) rfl fun fr b7 w8 n9 r => ?_
 have hb1 := keep n9.below hb1
 have hb4 := keep n9.below hb4
 obtain ⟨eb7, zw8, hb7, hB, zB⟩ := n9.all hB
 refine za5 (.cells #[(I a3)] 3 (0, 0)) r (fun R => znF r (v := (I a3)) rfl) rfl fun fr b10 w11 n12 r => ?_
 have hb1 := keep n12.below hb1
 have hb4 := keep n12.below hb4
 have hb7 := keep n12.below hb7
 obtain ⟨eb10, zw11, hb10, hB, zB⟩ := n12.all hB
 refine za5 (.cells #[(I a4)] 3 (0, 0)) r (fun R => znF r (v := (I a4)) rfl) rfl fun fr b13 w14 n15 r => ?_
 have hb1 := keep n15.below hb1
 have hb4 := keep n15.below hb4
 have hb7 := keep n15.below hb7
 have hb10 := keep n15.below hb10
 obtain ⟨eb13, zw14, hb13, hB, zB⟩ := n15.all hB
 refine za5 (.cells (znt false znM.zero 0 0 0 0 .nilFunc) 283 (0, 0)) r (fun R => zag zof) rfl fun fr b16 w17 n18 r => ?_
 have hb1 := keep n18.below hb1
 have hb4 := keep n18.below hb4
 have hb7 := keep n18.below hb7
 have hb10 := keep n18.below hb10
 have hb13 := keep n18.below hb13
 obtain ⟨eb16, zw17, hb16, hB, zB⟩ := n18.all hB
 refine wn (wsr (za0 (I a3) r (fun R => za3 r rfl hb10 to3 rfl) rfl fun fr r => za0 (.func (.func 327) #[] #[zp b1, zp b4, zp b7, zp b10, zp b13]) r (fun R => zao r rfl) rfl fun fr r => ?_))
 have hF1 := znI hF hB b16
 have f19 : ((fun b => F b ∨ (w0.heap.size ≤ b ∧ b < w17.heap.size ∧ b ≠ b16))) b1 := (.inr ⟨by omega, by omega, by omega⟩)
 have f20 : ((fun b => F b ∨ (w0.heap.size ≤ b ∧ b < w17.heap.size ∧ b ≠ b16))) b4 := (.inr ⟨by omega, by omega, by omega⟩)
 have f21 : ((fun b => F b ∨ (w0.heap.size ≤ b ∧ b < w17.heap.size ∧ b ≠ b16))) b7 := (.inr ⟨by omega, by omega, by omega⟩)
 have f22 : ((fun b => F b ∨ (w0.heap.size ≤ b ∧ b < w17.heap.size ∧ b ≠ b16))) b10 := (.inr ⟨by omega, by omega, by omega⟩)
 have f23 : ((fun b => F b ∨ (w0.heap.size ≤ b ∧ b < w17.heap.size ∧ b ≠ b16))) b13 := (.inr ⟨by omega, by omega, by omega⟩)
 refine za8 r (zfc (F := (fun b => F b ∨ (w0.heap.size ≤ b ∧ b < w17.heap.size ∧ b ≠ b16))) (n := n) hF1 a3 ⟨327, [], [zp b1, zp b4, zp b7, zp b10, zp b13], zra, rfl, fun m hm x w' hs hz => ziq (j := j) (fun b hb => Nat.lt_of_lt_of_le (hF1 b hb) hz) (by omega) a0 f19 (hs.at_ f19 hb1) a1 f20 (hs.at_ f20 hb4) a2 f21 (hs.at_ f21 hb7) a3 f22 (hs.at_ f22 hb10) a4 f23 (hs.at_ f23 hb13) x (by first | assumption | decide)⟩) (fun R hc => zac r rfl zpA hc) rfl ?_
 rintro _ w24 ⟨v25, rfl, hb, hr26⟩
 refine ⟨_, rfl, fun fr r => ?_⟩
 have zw24 := hb.size
 have hb1 := keep hb hb1
 have hb4 := keep hb hb4
 have hb7 := keep hb hb7
 have hb10 := keep hb hb10
 have hb13 := keep hb hb13
 have hb16 := keep hb hb16
 obtain ⟨hB, zB⟩ := bon hb hB
 refine zae (.cells v25.cells 283 (0, 0)) r (fun R => zaf r hr26.shape rfl rfl hb16 zoc rfl) rfl fun fr w27 u28 r => ?_
 have zw27 := u28.size
 have hb1 := u28.keep hb1 (by omega)
 have hb4 := u28.keep hb4 (by omega)
 have hb7 := u28.keep hb7 (by omega)
 have hb10 := u28.keep hb10 (by omega)
 have hb13 := u28.keep hb13 (by omega)
 have hb16 := u28.at_
 obtain ⟨hB, zB⟩ := u28.on hB (by omega)
 refine wn (wp_ret ?_)
 have hs := hr26.shape.cells
 refine zad r rfl rfl hb16 (k := 7) hs.1 zob ?_
 rw [← hs.2.2]
 exact rfin hF hB hr26 u28 (by omega) (by omega) (by omega)
end Go.Proofs.YtjkinpbfmihhdaaGreat

/- Ours. -/
set_option maxRecDepth 20000
set_option maxHeartbeats 2000000
namespace Go.Proofs.YtjkinpbfmihhdaaGreat
open Go.RowKit
theorem zpV : znv Tryz.prog 135 = true := by kernel_rfl
theorem zqq : znv Tryz.prog 209 = true := by kernel_rfl
theorem cl37 : znv Tryz.prog 37 = true := by kernel_rfl
theorem zpH : sized Tryz.prog 181 0 = true := by kernel_rfl
theorem ts32 : sized Tryz.prog 32 2 = true := by kernel_rfl
theorem zpM : zeroOf Tryz.prog 181 = some (.agg #[]) := by kernel_rfl
theorem tz32 : zeroOf Tryz.prog 32 = some (.agg (resC (⟨0, 0⟩ : Res)).toArray) := by kernel_rfl
def D.zdA (fu : Nat) (a0 : Nat × T Unit) (a1 : Mem) (a2 : Cap) : Option ((Nat × T Unit) × Bool × Mem) := (bif a0.2.znO then (some (a0, false, a1)) else ((D.zco fu a1 a2 (T.acc a0.2)).bind (fun (x16 : Int × Bool × Mem) => (bif (!x16.2.1) then (some (a0, false, x16.2.2)) else ((depthI a0.1).bind (fun (x26 : Nat) => (some ((x26, T.next a0.2 x16.1), true, x16.2.2))))))))
theorem zg9 {fu : Nat} (w0 : World) {a0v : Value} {a0F : List Nat} (a0 : Nat × T Unit) {a1g : MG} (a1 : Mem) (a2 : Cap) (hS : Sep [znK Tryz.prog znC a0 a0v a0F, memK a1g a1] w0) {res : (Nat × T Unit) × Bool × Mem} (hD : D.zdA fu a0 a1 a2 = some res) :
    Calls Tryz.prog 209 #[a0v, zp a1g.mb, .agg (capC a2).toArray] w0 (fun e w' => ∃ (v0 : Value) (F0 : List Nat), e = .returned (.tuple #[v0, (.bool res.2.1)]) ∧ Done (fun b => b ∈ (memK a1g a1).own) (fun b => b ∈ a0F) [memK a1g res.2.2, znK Tryz.prog znC res.1 v0 F0] w0 w') := by
 refine enter Tryz.func209 rfl 28 rfl rfl fun fr r => ?_
 have hP : Post (fun b => b ∈ (memK a1g a1).own) [znK Tryz.prog znC a0 a0v a0F, memK a1g a1] w0 w0 := .start hS (by simp [memK, znK])
 unfold D.zdA at hD
 refine wsr ?_
 refine za5 (.cells a0v.cells 186 (0, 0)) r (fun R => znF r (v := a0v) rfl) rfl fun fr b1 w2 n3 r => ?_
 have hP : Post (fun b => b ∈ (memK a1g a1).own) [znK Tryz.prog znC a0 a0v a0F, memK a1g a1, znw b1 a0v.cells 186] w0 w2 := hP.new n3
 refine za5 (.cells ((capC a2)).toArray 42 (0, 0)) r (fun R => znF r (v := (.agg (capC a2).toArray)) rfl) rfl fun fr b5 w6 n7 r => ?_
 have hP : Post (fun b => b ∈ (memK a1g a1).own) [znK Tryz.prog znC a0 a0v a0F, memK a1g a1, znw b1 a0v.cells 186, znw b5 ((capC a2)).toArray 42] w0 w6 := hP.new n7
 refine za5 (.cells (znt false znC.zero 0 0 0 0 .nilFunc) 186 (0, 0)) r (fun R => zag zod) rfl fun fr b9 w10 n11 r => ?_
 have hP : Post (fun b => b ∈ (memK a1g a1).own) [znK Tryz.prog znC a0 a0v a0F, memK a1g a1, znw b1 a0v.cells 186, znw b5 ((capC a2)).toArray 42, znw b9 (znt false znC.zero 0 0 0 0 .nilFunc) 186] w0 w10 := hP.new n11
 refine za0 (.bool false) r (fun R => za7 r rfl) rfl fun fr r => wn (wp_seq (wsr (za0 _ r (fun R => za4 r (b := b1) (o := 0) (k := 0) rfl zh8) rfl fun fr r => za0 (.bool a0.2.znO) r (fun R => za3 r rfl (hP.cell (i := 2) rfl) to4 (Rep.zhW (hP.prog (i := 0) rfl))) rfl fun fr r => wn ?_)))
 refine wp_cond_split (t := a0.2.znO) (r.ev rfl) (fun h13 => ?_) (fun h13 => ?_)
 ·
  have hD := (zaq h13).symm.trans hD
  refine wsr (za0 a0v r (fun R => zfN r (hP.prog (i := 0) rfl).shape rfl (hP.cell (i := 2) rfl) zo2) rfl fun fr r => ?_)
  refine zae (.cells a0v.cells 186 (0, 0)) r (fun R => zaf r (hP.prog (i := 0) rfl).shape rfl rfl (hP.cell (i := 4) rfl) zo6 rfl) rfl fun fr w14 u15 r => ?_
  have hP : Post (fun b => b ∈ (memK a1g a1).own) [znK Tryz.prog znC a0 a0v a0F, memK a1g a1, znw b1 a0v.cells 186, znw b5 ((capC a2)).toArray 42, znw b9 a0v.cells 186] w0 w14 := hP.upd (i := 4) rfl u15
  refine za0 (.bool false) r (fun R => za7 r rfl) rfl fun fr r => wn (wp_ret ?_)
  have hv : (a0, false, a1) = res := Option.some.inj hD
  try dsimp only [Exit.then, Exit.inBlock]
  have hs := (hP.prog (i := 0) rfl).shape.cells
  refine zck (fn := Tryz.f209) r rfl rfl (v' := (.bool false)) rfl (hP.cell (i := 4) rfl) (k := 6) hs.1 zo2 ?_
  rw [← hs.2.2]
  subst hv
  exact ⟨a0v, a0F, rfl, (hP.pick [1, 0] rfl rfl).done (zbI rfl (zeL (fun b h => .inl h) zca))⟩
 ·
  have hD := (zak h13).symm.trans hD
  refine wp_skip (wsr (za0 (zp a1g.mb) r (fun R => za9 r rfl) rfl fun fr r => za0 (.agg (capC a2).toArray) r (fun R => za6 r (cs := (capC a2)) (n := 2) rfl (hP.cell (i := 3) rfl) ta42 rfl) rfl fun fr r => za0 _ r (fun R => za4 r (b := b1) (o := 0) (k := 1) rfl zkS) rfl fun fr r => za0 (.agg (znE (T.acc a0.2)).toArray) r (fun R => za6 r (cs := (znE (T.acc a0.2))) (n := 4) rfl (hP.cell (i := 2) rfl) ta36 (Rep.zmD (hP.prog (i := 0) rfl) h13)) rfl fun fr r => ?_))
  obtain ⟨x16, hx16, hD⟩ := zap hD
  refine za8 r (zgr w10 a1 a2 (T.acc a0.2) (hP.sep.pk [1] rfl rfl) hx16) (fun R hc => zac r rfl zpV hc) rfl ?_
  rintro _ w17 ⟨rfl, hq⟩
  refine ⟨_, rfl, fun fr r => ?_⟩
  have hP : Post (fun b => b ∈ (memK a1g a1).own) [znK Tryz.prog znC a0 a0v a0F, memK a1g x16.2.2, znw b1 a0v.cells 186, znw b5 ((capC a2)).toArray 42, znw b9 (znt false znC.zero 0 0 0 0 .nilFunc) 186] w0 w17 := hP.setN (i := 1) rfl hq
  refine za0 (.tuple #[(U x16.1), (.bool x16.2.1)]) r (fun R => za9 r rfl) rfl fun fr r => za0 (U x16.1) r (fun R => zb5 r (vs := #[(U x16.1), (.bool x16.2.1)]) rfl rfl) rfl fun fr r => za0 (.bool x16.2.1) r (fun R => zb5 r (vs := #[(U x16.1), (.bool x16.2.1)]) rfl rfl) rfl fun fr r => za0 (U x16.1) r (fun R => za7 r rfl) rfl fun fr r => za0 (.bool x16.2.1) r (fun R => za7 r rfl) rfl fun fr r => wn (wp_seq (wsr (za0 (.bool x16.2.1) r (fun R => za9 r rfl) rfl fun fr r => za0 (.bool (!x16.2.1)) r (fun R => y_un r (u := (.bool x16.2.1)) rfl rfl) rfl fun fr r => wn ?_)))
  refine wp_cond_split (t := (!x16.2.1)) (r.ev rfl) (fun h18 => ?_) (fun h18 => ?_)
  ·
   have hD := (zaq h18).symm.trans hD
   refine wsr (za0 a0v r (fun R => zfN r (hP.prog (i := 0) rfl).shape rfl (hP.cell (i := 2) rfl) zo2) rfl fun fr r => ?_)
   refine zae (.cells a0v.cells 186 (0, 0)) r (fun R => zaf r (hP.prog (i := 0) rfl).shape rfl rfl (hP.cell (i := 4) rfl) zo6 rfl) rfl fun fr w19 u20 r => ?_
   have hP : Post (fun b => b ∈ (memK a1g a1).own) [znK Tryz.prog znC a0 a0v a0F, memK a1g x16.2.2, znw b1 a0v.cells 186, znw b5 ((capC a2)).toArray 42, znw b9 a0v.cells 186] w0 w19 := hP.upd (i := 4) rfl u20
   refine za0 (.bool false) r (fun R => za7 r rfl) rfl fun fr r => wn (wp_ret ?_)
   have hv : (a0, false, x16.2.2) = res := Option.some.inj hD
   try dsimp only [Exit.then, Exit.inBlock]
   have hs := (hP.prog (i := 0) rfl).shape.cells
   refine zck (fn := Tryz.f209) r rfl rfl (v' := (.bool false)) rfl (hP.cell (i := 4) rfl) (k := 6) hs.1 zo2 ?_
   rw [← hs.2.2]
   subst hv
   exact ⟨a0v, a0F, rfl, (hP.pick [1, 0] rfl rfl).done (zbI rfl (zeL (fun b h => .inl h) zca))⟩
  ·
   have hD := (zak h18).symm.trans hD
   refine wp_skip (wsr (za0 _ r (fun R => za4 r (b := b1) (o := 0) (k := 5) rfl zkT) rfl fun fr r => ?_))
   obtain ⟨nf21, n122, n223, hv24, hk25⟩ := Rep.zm0 (hP.prog (i := 0) rfl) h13
   refine za0 (.func (.func nf21) n122.toArray n223.toArray) r (fun R => za3 r rfl (hP.cell (i := 2) rfl) zpd hv24) rfl fun fr r => za0 (U x16.1) r (fun R => za9 r rfl) rfl fun fr r => ?_
   obtain ⟨x26, hx26, hD⟩ := zap hD
   refine za8 r (hk25.at_.2 x26 (by rw [zki hx26]; exact Nat.lt_succ_self _) x16.1 w17 (Same.refl _ _) (Nat.le_refl _)) (fun R hc => zdi r rfl rfl hk25.at_.1 hc) rfl ?_
   rintro _ w27 ⟨v28, rfl, hb, hr29⟩
   refine ⟨_, rfl, fun fr r => ?_⟩
   have zw27 := hP.size
   have hP : Post (fun b => b ∈ (memK a1g a1).own) [znK Tryz.prog znC a0 a0v a0F, memK a1g x16.2.2, znw b1 a0v.cells 186, znw b5 ((capC a2)).toArray 42, znw b9 (znt false znC.zero 0 0 0 0 .nilFunc) 186, znK Tryz.prog znC (x26, T.next a0.2 x16.1) v28 (a0F ++ rg w17.heap.size w27.heap.size)] w0 w27 := hP.addProgF (k := 0) rfl hb hr29
   refine zae (.cells v28.cells 186 (0, 0)) r (fun R => zaf r (hP.prog (i := 5) rfl).shape rfl rfl (hP.cell (i := 4) rfl) zo6 rfl) rfl fun fr w31 u32 r => ?_
   have hP : Post (fun b => b ∈ (memK a1g a1).own) [znK Tryz.prog znC a0 a0v a0F, memK a1g x16.2.2, znw b1 a0v.cells 186, znw b5 ((capC a2)).toArray 42, znw b9 v28.cells 186, znK Tryz.prog znC (x26, T.next a0.2 x16.1) v28 (a0F ++ rg w17.heap.size w27.heap.size)] w0 w31 := hP.upd (i := 4) rfl u32
   refine za0 (.bool true) r (fun R => za7 r rfl) rfl fun fr r => wn (wp_ret ?_)
   have hv : ((x26, T.next a0.2 x16.1), true, x16.2.2) = res := Option.some.inj hD
   try dsimp only [Exit.then, Exit.inBlock]
   have hs := (hP.prog (i := 5) rfl).shape.cells
   refine zck (fn := Tryz.f209) r rfl rfl (v' := (.bool true)) rfl (hP.cell (i := 4) rfl) (k := 6) hs.1 zo2 ?_
   rw [← hs.2.2]
   subst hv
   exact ⟨v28, (a0F ++ rg w17.heap.size w27.heap.size), rfl, (hP.pick [1, 5] rfl rfl).done (zbI rfl (zeL (fun b h => (List.mem_append.1 h).elim .inl (fun h => .inr (by have := (zif.1 h).1; omega))) zca))⟩
def D.zeF (fu : Nat) (a0 : Nat × T Unit) (a1 : Mem) (a2 : Cap) (a3 : Int) : Option (Unit × Int × Bool × Mem) := (loopThen (fun (x13 : Int × Mem × (Nat × T Unit)) => (Option.bind (bif (decide (x13.1 < a3)) then (some (!x13.2.2.2.znO)) else (some false)) (fun (x19 : Bool) => (bif x19 then ((D.zdA fu x13.2.2 x13.2.1 a2).bind (fun (x23 : (Nat × T Unit) × Bool × Mem) => (bif (!x23.2.1) then (some (Lp.brk (x13.1, x23.2.2, x13.2.2))) else (some (Lp.next ((IntKind.i64.wrap (x13.1 + 1)), x23.2.2, x23.1)))))) else (some (Lp.brk (x13.1, x13.2.1, x13.2.2))))))) fu (0, a1, a0) (fun (x37 : Int × Mem × (Nat × T Unit)) => (some ((), x37.1, x37.2.2.2.znO, x37.2.1))))
theorem ziJ {fu : Nat} (w0 : World) {a0v : Value} {a0F : List Nat} (a0 : Nat × T Unit) {a1g : MG} (a1 : Mem) (a2 : Cap) (a3 : Int) (hS : Sep [znK Tryz.prog znC a0 a0v a0F, memK a1g a1] w0) {res : Unit × Int × Bool × Mem} (hD : D.zeF fu a0 a1 a2 a3 = some res) :
    Calls Tryz.prog 110 #[a0v, zp a1g.mb, .agg (capC a2).toArray, .int .i64 a3] w0 (fun e w' => e = .returned (.tuple #[(.agg #[]), (.int .i64 res.2.1), (.bool res.2.2.1)]) ∧ Done (fun b => b ∈ (memK a1g a1).own) No [memK a1g res.2.2.2] w0 w') := by
 refine enter Tryz.func110 rfl 39 rfl rfl fun fr r => ?_
 have hP : Post (fun b => b ∈ (memK a1g a1).own) [znK Tryz.prog znC a0 a0v a0F, memK a1g a1] w0 w0 := .start hS (by simp [memK, znK])
 unfold D.zeF at hD
 refine wsr ?_
 refine za5 (.cells a0v.cells 186 (0, 0)) r (fun R => znF r (v := a0v) rfl) rfl fun fr b1 w2 n3 r => ?_
 have hP : Post (fun b => b ∈ (memK a1g a1).own) [znK Tryz.prog znC a0 a0v a0F, memK a1g a1, znw b1 a0v.cells 186] w0 w2 := hP.new n3
 refine za5 (.cells ((capC a2)).toArray 42 (0, 0)) r (fun R => znF r (v := (.agg (capC a2).toArray)) rfl) rfl fun fr b5 w6 n7 r => ?_
 have hP : Post (fun b => b ∈ (memK a1g a1).own) [znK Tryz.prog znC a0 a0v a0F, memK a1g a1, znw b1 a0v.cells 186, znw b5 ((capC a2)).toArray 42] w0 w6 := hP.new n7
 refine za5 (.cells #[] 181 (0, 0)) r (fun R => zag zpM) rfl fun fr b9 w10 n11 r => ?_
 have hP : Post (fun b => b ∈ (memK a1g a1).own) [znK Tryz.prog znC a0 a0v a0F, memK a1g a1, znw b1 a0v.cells 186, znw b5 ((capC a2)).toArray 42, znw b9 #[] 181] w0 w10 := hP.new n11
 refine za0 (I 0) r (fun R => za7 r rfl) rfl fun fr r => za0 (.bool false) r (fun R => za7 r rfl) rfl fun fr r => wn (wsr (za0 (I 0) r (fun R => za7 r rfl) rfl fun fr r => wn (wp_seq ?_)))
 refine zdd (X := Int × Mem × (Nat × T Unit)) (G := Value × List Nat) (x0 := (0, a1, a0)) (fun x γ => [(0, a0v), (1, (zp a1g.mb)), (2, (.agg (capC a2).toArray)), (3, (I a3)), (4, (zp b1)), (6, (zp b5)), (8, (zp b9)), (9, (I 0)), (10, (.bool false)), (11, (I x.1))]) (fun x γ w => Post (fun b => b ∈ (memK a1g a1).own) [znK Tryz.prog znC x.2.2 γ.1 γ.2, memK a1g x.2.1, znw b1 γ.1.cells 186, znw b5 ((capC a2)).toArray 42, znw b9 #[] 181] w0 w) (a0v, a0F) r (za1 rfl (za1 rfl (za1 rfl (za1 rfl (za1 rfl (za1 rfl (za1 rfl (za1 rfl (za1 rfl (za1 rfl zaJ)))))))))) hP hD ?_ ?_
 ·
  rintro x13 γ14 fr w16 g y15 RPy15 nxy15 bky15 rty15 r hP hD
  have hP : Post (fun b => b ∈ (memK a1g a1).own) [znK Tryz.prog znC x13.2.2 γ14.1 γ14.2, memK a1g x13.2.1, znw b1 γ14.1.cells 186, znw b5 ((capC a2)).toArray 42, znw b9 #[] 181] w0 w16 := hP
  refine wp_seq (wp_seq ?_)
  refine zbU (N := 39) (Y := Bool) (G := Unit) (fun x γ => [(0, a0v), (1, (zp a1g.mb)), (2, (.agg (capC a2).toArray)), (3, (I a3)), (4, (zp b1)), (6, (zp b5)), (8, (zp b9)), (9, (I 0)), (10, (.bool false)), (11, (I x13.1)), (21, (.bool x))]) (fun x γ w => Post (fun b => b ∈ (memK a1g a1).own) [znK Tryz.prog znC x13.2.2 γ14.1 γ14.2, memK a1g x13.2.1, znw b1 γ14.1.cells 186, znw b5 ((capC a2)).toArray 42, znw b9 #[] 181] w0 w) hD ?_ ?_
  ·
   rintro y17 RPy17 nxy17 hD
   refine wp_region_lit (za0 (I x13.1) r (fun R => za9 r rfl) rfl fun fr r => za0 (I a3) r (fun R => za9 r rfl) rfl fun fr r => za0 _ r (fun R => znA r rfl rfl rfl rfl) rfl fun fr r => za0 (.bool (decide (x13.1 < a3))) r (fun R => za9 r rfl) rfl fun fr r => ?_)
   refine zaF (decide (x13.1 < a3)) (fun h18 => ?_) (fun h18 => ?_)
   ·
    have hD := (zaq h18).symm.trans hD
    refine s1 r h18 (za0 _ r (fun R => za4 r (b := b1) (o := 0) (k := 0) rfl zh8) rfl fun fr r => s1 r h18 (za0 (.bool x13.2.2.2.znO) r (fun R => za3 r rfl (hP.cell (i := 2) rfl) to4 (Rep.zhW (hP.prog (i := 0) rfl))) rfl fun fr r => s1 r h18 (za0 (.bool (!x13.2.2.2.znO)) r (fun R => y_un r (u := (.bool x13.2.2.2.znO)) rfl rfl) rfl fun fr r => za0 (.bool (!x13.2.2.2.znO)) r (fun R => zar r (b := true) (congrArg Value.bool h18) rfl) rfl fun fr r => wn ?_)))
    exact nxy17 (!x13.2.2.2.znO) () _ _ _ hD r (za1 rfl (za1 rfl (za1 rfl (za1 rfl (za1 rfl (za1 rfl (za1 rfl (za1 rfl (za1 rfl (za1 rfl (za1 rfl zaJ))))))))))) (hP.pick [0, 1, 2, 3, 4] rfl rfl)
   ·
    have hD := (zak h18).symm.trans hD
    refine s0 r h18 fun fr r => s0 r h18 fun fr r => s0 r h18 fun fr r => za0 (.bool false) r (fun R => zar r (b := false) (congrArg Value.bool h18) rfl) rfl fun fr r => wn ?_
    exact nxy17 false () _ _ _ hD r (za1 rfl (za1 rfl (za1 rfl (za1 rfl (za1 rfl (za1 rfl (za1 rfl (za1 rfl (za1 rfl (za1 rfl (za1 rfl zaJ))))))))))) (hP.pick [0, 1, 2, 3, 4] rfl rfl)
  ·
   rintro x19 γ20 fr w21 g r hP hD
   have hP : Post (fun b => b ∈ (memK a1g a1).own) [znK Tryz.prog znC x13.2.2 γ14.1 γ14.2, memK a1g x13.2.1, znw b1 γ14.1.cells 186, znw b5 ((capC a2)).toArray 42, znw b9 #[] 181] w0 w21 := hP
   refine wp_cond_split (t := x19) (r.ev rfl) (fun h22 => ?_) (fun h22 => ?_)
   ·
    have hD := (zaq h22).symm.trans hD
    refine wp_skip (wp_block (wsr (za0 γ14.1 r (fun R => zfN r (hP.prog (i := 0) rfl).shape rfl (hP.cell (i := 2) rfl) zo2) rfl fun fr r => za0 (zp a1g.mb) r (fun R => za9 r rfl) rfl fun fr r => za0 (.agg (capC a2).toArray) r (fun R => za6 r (cs := (capC a2)) (n := 2) rfl (hP.cell (i := 3) rfl) ta42 rfl) rfl fun fr r => ?_)))
    obtain ⟨x23, hx23, hD⟩ := zap hD
    refine za8 r (zg9 w21 x13.2.2 x13.2.1 a2 (hP.sep.pk [0, 1] rfl rfl) hx23) (fun R hc => zac r rfl zqq hc) rfl ?_
    rintro _ w24 ⟨v25, F26, rfl, hq⟩
    refine ⟨_, rfl, fun fr r => ?_⟩
    have hP : Post (fun b => b ∈ (memK a1g a1).own) [znK Tryz.prog znC x13.2.2 γ14.1 γ14.2, memK a1g x23.2.2, znw b1 γ14.1.cells 186, znw b5 ((capC a2)).toArray 42, znw b9 #[] 181, znK Tryz.prog znC x23.1 v25 F26] w0 w24 := hP.setR (i := 1) (k := 0) rfl rfl rfl hq
    refine za0 (.tuple #[v25, (.bool x23.2.1)]) r (fun R => za9 r rfl) rfl fun fr r => za0 v25 r (fun R => zb5 r (vs := #[v25, (.bool x23.2.1)]) rfl rfl) rfl fun fr r => za0 (.bool x23.2.1) r (fun R => zb5 r (vs := #[v25, (.bool x23.2.1)]) rfl rfl) rfl fun fr r => ?_
    refine za5 (.cells (znt false znC.zero 0 0 0 0 .nilFunc) 186 (0, 0)) r (fun R => zag zod) rfl fun fr b28 w29 n30 r => ?_
    have hP : Post (fun b => b ∈ (memK a1g a1).own) [znK Tryz.prog znC x13.2.2 γ14.1 γ14.2, memK a1g x23.2.2, znw b1 γ14.1.cells 186, znw b5 ((capC a2)).toArray 42, znw b9 #[] 181, znK Tryz.prog znC x23.1 v25 F26, znw b28 (znt false znC.zero 0 0 0 0 .nilFunc) 186] w0 w29 := hP.new n30
    refine zae (.cells v25.cells 186 (0, 0)) r (fun R => zaf r (hP.prog (i := 5) rfl).shape rfl rfl (hP.cell (i := 6) rfl) zo6 rfl) rfl fun fr w32 u33 r => ?_
    have hP : Post (fun b => b ∈ (memK a1g a1).own) [znK Tryz.prog znC x13.2.2 γ14.1 γ14.2, memK a1g x23.2.2, znw b1 γ14.1.cells 186, znw b5 ((capC a2)).toArray 42, znw b9 #[] 181, znK Tryz.prog znC x23.1 v25 F26, znw b28 v25.cells 186] w0 w32 := hP.upd (i := 6) rfl u33
    refine za0 (.bool x23.2.1) r (fun R => za7 r rfl) rfl fun fr r => wn (wp_seq (wsr (za0 (.bool x23.2.1) r (fun R => za9 r rfl) rfl fun fr r => za0 (.bool (!x23.2.1)) r (fun R => y_un r (u := (.bool x23.2.1)) rfl rfl) rfl fun fr r => wn ?_)))
    refine wp_cond_split (t := (!x23.2.1)) (r.ev rfl) (fun h34 => ?_) (fun h34 => ?_)
    ·
     have hD := (zaq h34).symm.trans hD
     refine wp_exit ?_
     exact bky15 (x13.1, x23.2.2, x13.2.2) (γ14.1, γ14.2) _ _ _ hD r (za1 rfl (za1 rfl (za1 rfl (za1 rfl (za1 rfl (za1 rfl (za1 rfl (za1 rfl (za1 rfl (za1 rfl zaJ)))))))))) (hP.pick [0, 1, 2, 3, 4] rfl rfl)
    ·
     have hD := (zak h34).symm.trans hD
     refine wp_skip (wsr (za0 v25 r (fun R => zfN r (hP.prog (i := 5) rfl).shape rfl (hP.cell (i := 6) rfl) zo2) rfl fun fr r => ?_))
     refine zae (.cells v25.cells 186 (0, 0)) r (fun R => zaf r (hP.prog (i := 5) rfl).shape rfl rfl (hP.cell (i := 2) rfl) zo6 (by have h := (hP.prog (i := 0) rfl).shape.cells.1; simpa using h)) rfl fun fr w35 u36 r => ?_
     have hP : Post (fun b => b ∈ (memK a1g a1).own) [znK Tryz.prog znC x13.2.2 γ14.1 γ14.2, memK a1g x23.2.2, znw b1 v25.cells 186, znw b5 ((capC a2)).toArray 42, znw b9 #[] 181, znK Tryz.prog znC x23.1 v25 F26, znw b28 v25.cells 186] w0 w35 := hP.upd (i := 2) rfl u36
     refine wn ?_
     refine wp_region_lit (za0 (I x13.1) r (fun R => za9 r rfl) rfl fun fr r => za0 _ r (fun R => znA r rfl rfl rfl rfl) rfl fun fr r => za0 (I (W (x13.1 + 1))) r (fun R => za7 r rfl) rfl fun fr r => wn ?_)
     exact nxy15 ((W (x13.1 + 1)), x23.2.2, x23.1) (v25, F26) _ _ _ hD r (za1 rfl (za1 rfl (za1 rfl (za1 rfl (za1 rfl (za1 rfl (za1 rfl (za1 rfl (za1 rfl (za1 rfl zaJ)))))))))) (hP.pick [5, 1, 2, 3, 4] rfl rfl)
   ·
    have hD := (zak h22).symm.trans hD
    refine wp_exit ?_
    exact bky15 (x13.1, x13.2.1, x13.2.2) (γ14.1, γ14.2) _ _ _ hD r (za1 rfl (za1 rfl (za1 rfl (za1 rfl (za1 rfl (za1 rfl (za1 rfl (za1 rfl (za1 rfl (za1 rfl zaJ)))))))))) (hP.pick [0, 1, 2, 3, 4] rfl rfl)
 ·
  rintro x37 γ38 fr w39 g r hP hD
  have hP : Post (fun b => b ∈ (memK a1g a1).own) [znK Tryz.prog znC x37.2.2 γ38.1 γ38.2, memK a1g x37.2.1, znw b1 γ38.1.cells 186, znw b5 ((capC a2)).toArray 42, znw b9 #[] 181] w0 w39 := hP
  refine wp_seq ?_
  refine zhj [b9] [.pred (fun v _ _ _ => ∃ sp, v = .pointer (some ⟨b1, 1, sp⟩)) (fun _ _ _ _ _ h _ => h), .val (.agg #[]), .val (I x37.1), .val (zp b1), .val (.bool x37.2.2.2.znO), .eff (EffP w39.heap.size (znw b9 #[] 181) (fun _ : Unit => undef) (fun _ : Unit => [])) (EffP.st _ _ _ _), .val (I x37.1), .val (.bool x37.2.2.2.znO)] mixed r (fun b hb => hP.sep.lt (i := 4) rfl (.inl hb)) (by kernel_rfl) ?_ ?_
  ·
   refine zbk r rfl (by kernel_rfl) (fun fr1 g w' hb' hd r' => ?_) ?_
   · exact zga r' rfl zpg ((hP.below (dr hb')).cell (i := 2) rfl) (fun sp => ⟨Below.refl _ _, sp, rfl⟩)
   refine zbk r rfl (by kernel_rfl) (fun fr1 g w' hb' hd r' => ?_) ?_
   · obtain ⟨sp, hsp⟩ := (hd 0 rfl).1; exact zh0 r' hsp zoF ⟨Below.refl _ _, rfl⟩
   refine zaU r rfl (fun fr1 g w' hk' hd r' => ?_) ?_
   · exact za9 r' (v := (I x37.1)) rfl ⟨Below.refl _ _, rfl⟩
   refine zaU r rfl (fun fr1 g w' hk' hd r' => ?_) ?_
   · exact za4 r' (b := b1) (o := 0) (k := 0) rfl zh8 ⟨Below.refl _ _, rfl⟩
   refine zaU r rfl (fun fr1 g w' hk' hd r' => ?_) ?_
   · exact za3 r' (v := (.bool x37.2.2.2.znO)) (hd 3 rfl).1 (hP.cellK (j := 4) rfl (drK hk') (i := 2) rfl rfl) to4 (Rep.zhW (show Rep _ _ _ _ _ _ _ from hP.okK (j := 4) rfl (drK hk') (i := 0) rfl rfl)) ⟨Below.refl _ _, rfl⟩
   refine zbk r rfl (by kernel_rfl) (fun fr1 g w' hb' hd r' => ?_) ?_
   · exact zaS r' (o := 0) (v := (.agg #[])) rfl (hd 1 rfl).1 ((hP.below (dr hb')).cell (i := 4) rfl) zpH (Nat.le_of_ble_eq_true rfl) rfl rfl (fun w2 u2 => ⟨u2.kept, (), rfl, u2.at_, (fun b hb => hP.sep.lt (i := 4) rfl hb), zkA⟩)
   refine zaU r rfl (fun fr1 g w' hk' hd r' => ?_) ?_
   · exact za7 r' (v := (I x37.1)) (hd 2 rfl).1 ⟨Below.refl _ _, rfl⟩
   refine zaU r rfl (fun fr1 g w' hk' hd r' => ?_) ?_
   · exact za7 r' (v := (.bool x37.2.2.2.znO)) (hd 4 rfl).1 ⟨Below.refl _ _, rfl⟩
   exact zbD
  ·
   intro fr gg w40 hb hΦ hap r
   obtain ⟨⟨⟩, g5, hcE, _, hs5⟩ := (hΦ 5 rfl).1
   have r := r.congr (sc ((hΦ 7 rfl).1) (sc ((hΦ 6 rfl).1) (sc ((hΦ 4 rfl).1) (sc ((hΦ 3 rfl).1) (sc ((hΦ 2 rfl).1) (sc ((hΦ 1 rfl).1) (sc rfl rfl)))))))
   have hP : Post (fun b => b ∈ (memK a1g a1).own) [znK Tryz.prog znC x37.2.2 γ38.1 γ38.2, memK a1g x37.2.1, znw b1 γ38.1.cells 186, znw b5 ((capC a2)).toArray 42, znw b9 #[] 181] w0 w40 := hP.effL (i := 4) (l := []) rfl hb hcE rfl rfl trivial
   refine wp_ret ?_
   have hv : ((), x37.1, x37.2.2.2.znO, x37.2.1) = res := Option.some.inj hD
   try dsimp only [Exit.then, Exit.inBlock]
   refine zhJ (fn := Tryz.f110) r rfl rfl (v' := (I x37.1)) (v2 := (.bool x37.2.2.2.znO)) rfl rfl (hP.cell (i := 4) rfl) (k := 0) rfl zoF ?_
   subst hv
   exact ⟨rfl, (hP.pick [1] rfl rfl).done (zbI rfl zca)⟩
def D.zdO (fu : Nat) (a0 : Nat × T Res) (a1 : Mem) (a2 : Cap) : Option ((Nat × T Res) × Bool × Mem) := (bif a0.2.znO then (some (a0, false, a1)) else ((D.zco fu a1 a2 (T.acc a0.2)).bind (fun (x16 : Int × Bool × Mem) => (bif (!x16.2.1) then (some (a0, false, x16.2.2)) else ((depthI a0.1).bind (fun (x26 : Nat) => (some ((x26, T.next a0.2 x16.1), true, x16.2.2))))))))
theorem zgR {fu : Nat} (w0 : World) {a0v : Value} {a0F : List Nat} (a0 : Nat × T Res) {a1g : MG} (a1 : Mem) (a2 : Cap) (hS : Sep [znK Tryz.prog znx a0 a0v a0F, memK a1g a1] w0) {res : (Nat × T Res) × Bool × Mem} (hD : D.zdO fu a0 a1 a2 = some res) :
    Calls Tryz.prog 37 #[a0v, zp a1g.mb, .agg (capC a2).toArray] w0 (fun e w' => ∃ (v0 : Value) (F0 : List Nat), e = .returned (.tuple #[v0, (.bool res.2.1)]) ∧ Done (fun b => b ∈ (memK a1g a1).own) (fun b => b ∈ a0F) [memK a1g res.2.2, znK Tryz.prog znx res.1 v0 F0] w0 w') := by
 refine enter Tryz.func37 rfl 28 rfl rfl fun fr r => ?_
 have hP : Post (fun b => b ∈ (memK a1g a1).own) [znK Tryz.prog znx a0 a0v a0F, memK a1g a1] w0 w0 := .start hS (by simp [memK, znK])
 unfold D.zdO at hD
 refine wsr ?_
 refine za5 (.cells a0v.cells 39 (0, 0)) r (fun R => znF r (v := a0v) rfl) rfl fun fr b1 w2 n3 r => ?_
 have hP : Post (fun b => b ∈ (memK a1g a1).own) [znK Tryz.prog znx a0 a0v a0F, memK a1g a1, znw b1 a0v.cells 39] w0 w2 := hP.new n3
 refine za5 (.cells ((capC a2)).toArray 42 (0, 0)) r (fun R => znF r (v := (.agg (capC a2).toArray)) rfl) rfl fun fr b5 w6 n7 r => ?_
 have hP : Post (fun b => b ∈ (memK a1g a1).own) [znK Tryz.prog znx a0 a0v a0F, memK a1g a1, znw b1 a0v.cells 39, znw b5 ((capC a2)).toArray 42] w0 w6 := hP.new n7
 refine za5 (.cells (znt false znx.zero 0 0 0 0 .nilFunc) 39 (0, 0)) r (fun R => zag tz39) rfl fun fr b9 w10 n11 r => ?_
 have hP : Post (fun b => b ∈ (memK a1g a1).own) [znK Tryz.prog znx a0 a0v a0F, memK a1g a1, znw b1 a0v.cells 39, znw b5 ((capC a2)).toArray 42, znw b9 (znt false znx.zero 0 0 0 0 .nilFunc) 39] w0 w10 := hP.new n11
 refine za0 (.bool false) r (fun R => za7 r rfl) rfl fun fr r => wn (wp_seq (wsr (za0 _ r (fun R => za4 r (b := b1) (o := 0) (k := 0) rfl zma) rfl fun fr r => za0 (.bool a0.2.znO) r (fun R => za3 r rfl (hP.cell (i := 2) rfl) to4 (Rep.zhW (hP.prog (i := 0) rfl))) rfl fun fr r => wn ?_)))
 refine wp_cond_split (t := a0.2.znO) (r.ev rfl) (fun h13 => ?_) (fun h13 => ?_)
 ·
  have hD := (zaq h13).symm.trans hD
  refine wsr (za0 a0v r (fun R => zfN r (hP.prog (i := 0) rfl).shape rfl (hP.cell (i := 2) rfl) ta39) rfl fun fr r => ?_)
  refine zae (.cells a0v.cells 39 (0, 0)) r (fun R => zaf r (hP.prog (i := 0) rfl).shape rfl rfl (hP.cell (i := 4) rfl) ts39 rfl) rfl fun fr w14 u15 r => ?_
  have hP : Post (fun b => b ∈ (memK a1g a1).own) [znK Tryz.prog znx a0 a0v a0F, memK a1g a1, znw b1 a0v.cells 39, znw b5 ((capC a2)).toArray 42, znw b9 a0v.cells 39] w0 w14 := hP.upd (i := 4) rfl u15
  refine za0 (.bool false) r (fun R => za7 r rfl) rfl fun fr r => wn (wp_ret ?_)
  have hv : (a0, false, a1) = res := Option.some.inj hD
  try dsimp only [Exit.then, Exit.inBlock]
  have hs := (hP.prog (i := 0) rfl).shape.cells
  refine zck (fn := Tryz.f37) r rfl rfl (v' := (.bool false)) rfl (hP.cell (i := 4) rfl) (k := 8) hs.1 ta39 ?_
  rw [← hs.2.2]
  subst hv
  exact ⟨a0v, a0F, rfl, (hP.pick [1, 0] rfl rfl).done (zbI rfl (zeL (fun b h => .inl h) zca))⟩
 ·
  have hD := (zak h13).symm.trans hD
  refine wp_skip (wsr (za0 (zp a1g.mb) r (fun R => za9 r rfl) rfl fun fr r => za0 (.agg (capC a2).toArray) r (fun R => za6 r (cs := (capC a2)) (n := 2) rfl (hP.cell (i := 3) rfl) ta42 rfl) rfl fun fr r => za0 _ r (fun R => za4 r (b := b1) (o := 0) (k := 3) rfl znj) rfl fun fr r => za0 (.agg (znE (T.acc a0.2)).toArray) r (fun R => za6 r (cs := (znE (T.acc a0.2))) (n := 4) rfl (hP.cell (i := 2) rfl) ta36 (Rep.zmD (hP.prog (i := 0) rfl) h13)) rfl fun fr r => ?_))
  obtain ⟨x16, hx16, hD⟩ := zap hD
  refine za8 r (zgr w10 a1 a2 (T.acc a0.2) (hP.sep.pk [1] rfl rfl) hx16) (fun R hc => zac r rfl zpV hc) rfl ?_
  rintro _ w17 ⟨rfl, hq⟩
  refine ⟨_, rfl, fun fr r => ?_⟩
  have hP : Post (fun b => b ∈ (memK a1g a1).own) [znK Tryz.prog znx a0 a0v a0F, memK a1g x16.2.2, znw b1 a0v.cells 39, znw b5 ((capC a2)).toArray 42, znw b9 (znt false znx.zero 0 0 0 0 .nilFunc) 39] w0 w17 := hP.setN (i := 1) rfl hq
  refine za0 (.tuple #[(U x16.1), (.bool x16.2.1)]) r (fun R => za9 r rfl) rfl fun fr r => za0 (U x16.1) r (fun R => zb5 r (vs := #[(U x16.1), (.bool x16.2.1)]) rfl rfl) rfl fun fr r => za0 (.bool x16.2.1) r (fun R => zb5 r (vs := #[(U x16.1), (.bool x16.2.1)]) rfl rfl) rfl fun fr r => za0 (U x16.1) r (fun R => za7 r rfl) rfl fun fr r => za0 (.bool x16.2.1) r (fun R => za7 r rfl) rfl fun fr r => wn (wp_seq (wsr (za0 (.bool x16.2.1) r (fun R => za9 r rfl) rfl fun fr r => za0 (.bool (!x16.2.1)) r (fun R => y_un r (u := (.bool x16.2.1)) rfl rfl) rfl fun fr r => wn ?_)))
  refine wp_cond_split (t := (!x16.2.1)) (r.ev rfl) (fun h18 => ?_) (fun h18 => ?_)
  ·
   have hD := (zaq h18).symm.trans hD
   refine wsr (za0 a0v r (fun R => zfN r (hP.prog (i := 0) rfl).shape rfl (hP.cell (i := 2) rfl) ta39) rfl fun fr r => ?_)
   refine zae (.cells a0v.cells 39 (0, 0)) r (fun R => zaf r (hP.prog (i := 0) rfl).shape rfl rfl (hP.cell (i := 4) rfl) ts39 rfl) rfl fun fr w19 u20 r => ?_
   have hP : Post (fun b => b ∈ (memK a1g a1).own) [znK Tryz.prog znx a0 a0v a0F, memK a1g x16.2.2, znw b1 a0v.cells 39, znw b5 ((capC a2)).toArray 42, znw b9 a0v.cells 39] w0 w19 := hP.upd (i := 4) rfl u20
   refine za0 (.bool false) r (fun R => za7 r rfl) rfl fun fr r => wn (wp_ret ?_)
   have hv : (a0, false, x16.2.2) = res := Option.some.inj hD
   try dsimp only [Exit.then, Exit.inBlock]
   have hs := (hP.prog (i := 0) rfl).shape.cells
   refine zck (fn := Tryz.f37) r rfl rfl (v' := (.bool false)) rfl (hP.cell (i := 4) rfl) (k := 8) hs.1 ta39 ?_
   rw [← hs.2.2]
   subst hv
   exact ⟨a0v, a0F, rfl, (hP.pick [1, 0] rfl rfl).done (zbI rfl (zeL (fun b h => .inl h) zca))⟩
  ·
   have hD := (zak h18).symm.trans hD
   refine wp_skip (wsr (za0 _ r (fun R => za4 r (b := b1) (o := 0) (k := 7) rfl znk) rfl fun fr r => ?_))
   obtain ⟨nf21, n122, n223, hv24, hk25⟩ := Rep.zm0 (hP.prog (i := 0) rfl) h13
   refine za0 (.func (.func nf21) n122.toArray n223.toArray) r (fun R => za3 r rfl (hP.cell (i := 2) rfl) to37 hv24) rfl fun fr r => za0 (U x16.1) r (fun R => za9 r rfl) rfl fun fr r => ?_
   obtain ⟨x26, hx26, hD⟩ := zap hD
   refine za8 r (hk25.at_.2 x26 (by rw [zki hx26]; exact Nat.lt_succ_self _) x16.1 w17 (Same.refl _ _) (Nat.le_refl _)) (fun R hc => zdi r rfl rfl hk25.at_.1 hc) rfl ?_
   rintro _ w27 ⟨v28, rfl, hb, hr29⟩
   refine ⟨_, rfl, fun fr r => ?_⟩
   have zw27 := hP.size
   have hP : Post (fun b => b ∈ (memK a1g a1).own) [znK Tryz.prog znx a0 a0v a0F, memK a1g x16.2.2, znw b1 a0v.cells 39, znw b5 ((capC a2)).toArray 42, znw b9 (znt false znx.zero 0 0 0 0 .nilFunc) 39, znK Tryz.prog znx (x26, T.next a0.2 x16.1) v28 (a0F ++ rg w17.heap.size w27.heap.size)] w0 w27 := hP.addProgF (k := 0) rfl hb hr29
   refine zae (.cells v28.cells 39 (0, 0)) r (fun R => zaf r (hP.prog (i := 5) rfl).shape rfl rfl (hP.cell (i := 4) rfl) ts39 rfl) rfl fun fr w31 u32 r => ?_
   have hP : Post (fun b => b ∈ (memK a1g a1).own) [znK Tryz.prog znx a0 a0v a0F, memK a1g x16.2.2, znw b1 a0v.cells 39, znw b5 ((capC a2)).toArray 42, znw b9 v28.cells 39, znK Tryz.prog znx (x26, T.next a0.2 x16.1) v28 (a0F ++ rg w17.heap.size w27.heap.size)] w0 w31 := hP.upd (i := 4) rfl u32
   refine za0 (.bool true) r (fun R => za7 r rfl) rfl fun fr r => wn (wp_ret ?_)
   have hv : ((x26, T.next a0.2 x16.1), true, x16.2.2) = res := Option.some.inj hD
   try dsimp only [Exit.then, Exit.inBlock]
   have hs := (hP.prog (i := 5) rfl).shape.cells
   refine zck (fn := Tryz.f37) r rfl rfl (v' := (.bool true)) rfl (hP.cell (i := 4) rfl) (k := 8) hs.1 ta39 ?_
   rw [← hs.2.2]
   subst hv
   exact ⟨v28, (a0F ++ rg w17.heap.size w27.heap.size), rfl, (hP.pick [1, 5] rfl rfl).done (zbI rfl (zeL (fun b h => (List.mem_append.1 h).elim .inl (fun h => .inr (by have := (zif.1 h).1; omega))) zca))⟩
def D.zdF (fu : Nat) (a0 : Nat × T Res) (a1 : Mem) (a2 : Cap) (a3 : Int) : Option (Res × Int × Bool × Mem) := (loopThen (fun (x13 : Int × Mem × (Nat × T Res)) => (Option.bind (bif (decide (x13.1 < a3)) then (some (!x13.2.2.2.znO)) else (some false)) (fun (x19 : Bool) => (bif x19 then ((D.zdO fu x13.2.2 x13.2.1 a2).bind (fun (x23 : (Nat × T Res) × Bool × Mem) => (bif (!x23.2.1) then (some (Lp.brk (x13.1, x23.2.2, x13.2.2))) else (some (Lp.next ((IntKind.i64.wrap (x13.1 + 1)), x23.2.2, x23.1)))))) else (some (Lp.brk (x13.1, x13.2.1, x13.2.2))))))) fu (0, a1, a0) (fun (x37 : Int × Mem × (Nat × T Res)) => (some ((T.res (⟨0, 0⟩ : Res) x37.2.2.2), x37.1, x37.2.2.2.znO, x37.2.1))))
theorem zfg {fu : Nat} (w0 : World) {a0v : Value} {a0F : List Nat} (a0 : Nat × T Res) {a1g : MG} (a1 : Mem) (a2 : Cap) (a3 : Int) (hS : Sep [znK Tryz.prog znx a0 a0v a0F, memK a1g a1] w0) {res : Res × Int × Bool × Mem} (hD : D.zdF fu a0 a1 a2 a3 = some res) :
    Calls Tryz.prog 29 #[a0v, zp a1g.mb, .agg (capC a2).toArray, .int .i64 a3] w0 (fun e w' => e = .returned (.tuple #[(.agg (resC res.1).toArray), (.int .i64 res.2.1), (.bool res.2.2.1)]) ∧ Done (fun b => b ∈ (memK a1g a1).own) No [memK a1g res.2.2.2] w0 w') := by
 refine enter Tryz.func29 rfl 39 rfl rfl fun fr r => ?_
 have hP : Post (fun b => b ∈ (memK a1g a1).own) [znK Tryz.prog znx a0 a0v a0F, memK a1g a1] w0 w0 := .start hS (by simp [memK, znK])
 unfold D.zdF at hD
 refine wsr ?_
 refine za5 (.cells a0v.cells 39 (0, 0)) r (fun R => znF r (v := a0v) rfl) rfl fun fr b1 w2 n3 r => ?_
 have hP : Post (fun b => b ∈ (memK a1g a1).own) [znK Tryz.prog znx a0 a0v a0F, memK a1g a1, znw b1 a0v.cells 39] w0 w2 := hP.new n3
 refine za5 (.cells ((capC a2)).toArray 42 (0, 0)) r (fun R => znF r (v := (.agg (capC a2).toArray)) rfl) rfl fun fr b5 w6 n7 r => ?_
 have hP : Post (fun b => b ∈ (memK a1g a1).own) [znK Tryz.prog znx a0 a0v a0F, memK a1g a1, znw b1 a0v.cells 39, znw b5 ((capC a2)).toArray 42] w0 w6 := hP.new n7
 refine za5 (.cells ((resC (⟨0, 0⟩ : Res))).toArray 32 (0, 0)) r (fun R => zag tz32) rfl fun fr b9 w10 n11 r => ?_
 have hP : Post (fun b => b ∈ (memK a1g a1).own) [znK Tryz.prog znx a0 a0v a0F, memK a1g a1, znw b1 a0v.cells 39, znw b5 ((capC a2)).toArray 42, znw b9 ((resC (⟨0, 0⟩ : Res))).toArray 32] w0 w10 := hP.new n11
 refine za0 (I 0) r (fun R => za7 r rfl) rfl fun fr r => za0 (.bool false) r (fun R => za7 r rfl) rfl fun fr r => wn (wsr (za0 (I 0) r (fun R => za7 r rfl) rfl fun fr r => wn (wp_seq ?_)))
 refine zdd (X := Int × Mem × (Nat × T Res)) (G := Value × List Nat) (x0 := (0, a1, a0)) (fun x γ => [(0, a0v), (1, (zp a1g.mb)), (2, (.agg (capC a2).toArray)), (3, (I a3)), (4, (zp b1)), (6, (zp b5)), (8, (zp b9)), (9, (I 0)), (10, (.bool false)), (11, (I x.1))]) (fun x γ w => Post (fun b => b ∈ (memK a1g a1).own) [znK Tryz.prog znx x.2.2 γ.1 γ.2, memK a1g x.2.1, znw b1 γ.1.cells 39, znw b5 ((capC a2)).toArray 42, znw b9 ((resC (⟨0, 0⟩ : Res))).toArray 32] w0 w) (a0v, a0F) r (za1 rfl (za1 rfl (za1 rfl (za1 rfl (za1 rfl (za1 rfl (za1 rfl (za1 rfl (za1 rfl (za1 rfl zaJ)))))))))) hP hD ?_ ?_
 ·
  rintro x13 γ14 fr w16 g y15 RPy15 nxy15 bky15 rty15 r hP hD
  have hP : Post (fun b => b ∈ (memK a1g a1).own) [znK Tryz.prog znx x13.2.2 γ14.1 γ14.2, memK a1g x13.2.1, znw b1 γ14.1.cells 39, znw b5 ((capC a2)).toArray 42, znw b9 ((resC (⟨0, 0⟩ : Res))).toArray 32] w0 w16 := hP
  refine wp_seq (wp_seq ?_)
  refine zbU (N := 39) (Y := Bool) (G := Unit) (fun x γ => [(0, a0v), (1, (zp a1g.mb)), (2, (.agg (capC a2).toArray)), (3, (I a3)), (4, (zp b1)), (6, (zp b5)), (8, (zp b9)), (9, (I 0)), (10, (.bool false)), (11, (I x13.1)), (21, (.bool x))]) (fun x γ w => Post (fun b => b ∈ (memK a1g a1).own) [znK Tryz.prog znx x13.2.2 γ14.1 γ14.2, memK a1g x13.2.1, znw b1 γ14.1.cells 39, znw b5 ((capC a2)).toArray 42, znw b9 ((resC (⟨0, 0⟩ : Res))).toArray 32] w0 w) hD ?_ ?_
  ·
   rintro y17 RPy17 nxy17 hD
   refine wp_region_lit (za0 (I x13.1) r (fun R => za9 r rfl) rfl fun fr r => za0 (I a3) r (fun R => za9 r rfl) rfl fun fr r => za0 _ r (fun R => znA r rfl rfl rfl rfl) rfl fun fr r => za0 (.bool (decide (x13.1 < a3))) r (fun R => za9 r rfl) rfl fun fr r => ?_)
   refine zaF (decide (x13.1 < a3)) (fun h18 => ?_) (fun h18 => ?_)
   ·
    have hD := (zaq h18).symm.trans hD
    refine s1 r h18 (za0 _ r (fun R => za4 r (b := b1) (o := 0) (k := 0) rfl zma) rfl fun fr r => s1 r h18 (za0 (.bool x13.2.2.2.znO) r (fun R => za3 r rfl (hP.cell (i := 2) rfl) to4 (Rep.zhW (hP.prog (i := 0) rfl))) rfl fun fr r => s1 r h18 (za0 (.bool (!x13.2.2.2.znO)) r (fun R => y_un r (u := (.bool x13.2.2.2.znO)) rfl rfl) rfl fun fr r => za0 (.bool (!x13.2.2.2.znO)) r (fun R => zar r (b := true) (congrArg Value.bool h18) rfl) rfl fun fr r => wn ?_)))
    exact nxy17 (!x13.2.2.2.znO) () _ _ _ hD r (za1 rfl (za1 rfl (za1 rfl (za1 rfl (za1 rfl (za1 rfl (za1 rfl (za1 rfl (za1 rfl (za1 rfl (za1 rfl zaJ))))))))))) (hP.pick [0, 1, 2, 3, 4] rfl rfl)
   ·
    have hD := (zak h18).symm.trans hD
    refine s0 r h18 fun fr r => s0 r h18 fun fr r => s0 r h18 fun fr r => za0 (.bool false) r (fun R => zar r (b := false) (congrArg Value.bool h18) rfl) rfl fun fr r => wn ?_
    exact nxy17 false () _ _ _ hD r (za1 rfl (za1 rfl (za1 rfl (za1 rfl (za1 rfl (za1 rfl (za1 rfl (za1 rfl (za1 rfl (za1 rfl (za1 rfl zaJ))))))))))) (hP.pick [0, 1, 2, 3, 4] rfl rfl)
  ·
   rintro x19 γ20 fr w21 g r hP hD
   have hP : Post (fun b => b ∈ (memK a1g a1).own) [znK Tryz.prog znx x13.2.2 γ14.1 γ14.2, memK a1g x13.2.1, znw b1 γ14.1.cells 39, znw b5 ((capC a2)).toArray 42, znw b9 ((resC (⟨0, 0⟩ : Res))).toArray 32] w0 w21 := hP
   refine wp_cond_split (t := x19) (r.ev rfl) (fun h22 => ?_) (fun h22 => ?_)
   ·
    have hD := (zaq h22).symm.trans hD
    refine wp_skip (wp_block (wsr (za0 γ14.1 r (fun R => zfN r (hP.prog (i := 0) rfl).shape rfl (hP.cell (i := 2) rfl) ta39) rfl fun fr r => za0 (zp a1g.mb) r (fun R => za9 r rfl) rfl fun fr r => za0 (.agg (capC a2).toArray) r (fun R => za6 r (cs := (capC a2)) (n := 2) rfl (hP.cell (i := 3) rfl) ta42 rfl) rfl fun fr r => ?_)))
    obtain ⟨x23, hx23, hD⟩ := zap hD
    refine za8 r (zgR w21 x13.2.2 x13.2.1 a2 (hP.sep.pk [0, 1] rfl rfl) hx23) (fun R hc => zac r rfl cl37 hc) rfl ?_
    rintro _ w24 ⟨v25, F26, rfl, hq⟩
    refine ⟨_, rfl, fun fr r => ?_⟩
    have hP : Post (fun b => b ∈ (memK a1g a1).own) [znK Tryz.prog znx x13.2.2 γ14.1 γ14.2, memK a1g x23.2.2, znw b1 γ14.1.cells 39, znw b5 ((capC a2)).toArray 42, znw b9 ((resC (⟨0, 0⟩ : Res))).toArray 32, znK Tryz.prog znx x23.1 v25 F26] w0 w24 := hP.setR (i := 1) (k := 0) rfl rfl rfl hq
    refine za0 (.tuple #[v25, (.bool x23.2.1)]) r (fun R => za9 r rfl) rfl fun fr r => za0 v25 r (fun R => zb5 r (vs := #[v25, (.bool x23.2.1)]) rfl rfl) rfl fun fr r => za0 (.bool x23.2.1) r (fun R => zb5 r (vs := #[v25, (.bool x23.2.1)]) rfl rfl) rfl fun fr r => ?_
    refine za5 (.cells (znt false znx.zero 0 0 0 0 .nilFunc) 39 (0, 0)) r (fun R => zag tz39) rfl fun fr b28 w29 n30 r => ?_
    have hP : Post (fun b => b ∈ (memK a1g a1).own) [znK Tryz.prog znx x13.2.2 γ14.1 γ14.2, memK a1g x23.2.2, znw b1 γ14.1.cells 39, znw b5 ((capC a2)).toArray 42, znw b9 ((resC (⟨0, 0⟩ : Res))).toArray 32, znK Tryz.prog znx x23.1 v25 F26, znw b28 (znt false znx.zero 0 0 0 0 .nilFunc) 39] w0 w29 := hP.new n30
    refine zae (.cells v25.cells 39 (0, 0)) r (fun R => zaf r (hP.prog (i := 5) rfl).shape rfl rfl (hP.cell (i := 6) rfl) ts39 rfl) rfl fun fr w32 u33 r => ?_
    have hP : Post (fun b => b ∈ (memK a1g a1).own) [znK Tryz.prog znx x13.2.2 γ14.1 γ14.2, memK a1g x23.2.2, znw b1 γ14.1.cells 39, znw b5 ((capC a2)).toArray 42, znw b9 ((resC (⟨0, 0⟩ : Res))).toArray 32, znK Tryz.prog znx x23.1 v25 F26, znw b28 v25.cells 39] w0 w32 := hP.upd (i := 6) rfl u33
    refine za0 (.bool x23.2.1) r (fun R => za7 r rfl) rfl fun fr r => wn (wp_seq (wsr (za0 (.bool x23.2.1) r (fun R => za9 r rfl) rfl fun fr r => za0 (.bool (!x23.2.1)) r (fun R => y_un r (u := (.bool x23.2.1)) rfl rfl) rfl fun fr r => wn ?_)))
    refine wp_cond_split (t := (!x23.2.1)) (r.ev rfl) (fun h34 => ?_) (fun h34 => ?_)
    ·
     have hD := (zaq h34).symm.trans hD
     refine wp_exit ?_
     exact bky15 (x13.1, x23.2.2, x13.2.2) (γ14.1, γ14.2) _ _ _ hD r (za1 rfl (za1 rfl (za1 rfl (za1 rfl (za1 rfl (za1 rfl (za1 rfl (za1 rfl (za1 rfl (za1 rfl zaJ)))))))))) (hP.pick [0, 1, 2, 3, 4] rfl rfl)
    ·
     have hD := (zak h34).symm.trans hD
     refine wp_skip (wsr (za0 v25 r (fun R => zfN r (hP.prog (i := 5) rfl).shape rfl (hP.cell (i := 6) rfl) ta39) rfl fun fr r => ?_))
     refine zae (.cells v25.cells 39 (0, 0)) r (fun R => zaf r (hP.prog (i := 5) rfl).shape rfl rfl (hP.cell (i := 2) rfl) ts39 (by have h := (hP.prog (i := 0) rfl).shape.cells.1; simpa using h)) rfl fun fr w35 u36 r => ?_
     have hP : Post (fun b => b ∈ (memK a1g a1).own) [znK Tryz.prog znx x13.2.2 γ14.1 γ14.2, memK a1g x23.2.2, znw b1 v25.cells 39, znw b5 ((capC a2)).toArray 42, znw b9 ((resC (⟨0, 0⟩ : Res))).toArray 32, znK Tryz.prog znx x23.1 v25 F26, znw b28 v25.cells 39] w0 w35 := hP.upd (i := 2) rfl u36
     refine wn ?_
     refine wp_region_lit (za0 (I x13.1) r (fun R => za9 r rfl) rfl fun fr r => za0 _ r (fun R => znA r rfl rfl rfl rfl) rfl fun fr r => za0 (I (W (x13.1 + 1))) r (fun R => za7 r rfl) rfl fun fr r => wn ?_)
     exact nxy15 ((W (x13.1 + 1)), x23.2.2, x23.1) (v25, F26) _ _ _ hD r (za1 rfl (za1 rfl (za1 rfl (za1 rfl (za1 rfl (za1 rfl (za1 rfl (za1 rfl (za1 rfl (za1 rfl zaJ)))))))))) (hP.pick [5, 1, 2, 3, 4] rfl rfl)
   ·
    have hD := (zak h22).symm.trans hD
    refine wp_exit ?_
    exact bky15 (x13.1, x13.2.1, x13.2.2) (γ14.1, γ14.2) _ _ _ hD r (za1 rfl (za1 rfl (za1 rfl (za1 rfl (za1 rfl (za1 rfl (za1 rfl (za1 rfl (za1 rfl (za1 rfl zaJ)))))))))) (hP.pick [0, 1, 2, 3, 4] rfl rfl)
 ·
  rintro x37 γ38 fr w39 g r hP hD
  have hP : Post (fun b => b ∈ (memK a1g a1).own) [znK Tryz.prog znx x37.2.2 γ38.1 γ38.2, memK a1g x37.2.1, znw b1 γ38.1.cells 39, znw b5 ((capC a2)).toArray 42, znw b9 ((resC (⟨0, 0⟩ : Res))).toArray 32] w0 w39 := hP
  refine wp_seq ?_
  refine zhj [b9] [.val (.pointer (some ⟨b1, 1, none⟩)), .val (.agg (resC (T.res (⟨0, 0⟩ : Res) x37.2.2.2)).toArray), .val (I x37.1), .val (zp b1), .val (.bool x37.2.2.2.znO), .eff (EffP w39.heap.size (znw b9 ((resC (T.res (⟨0, 0⟩ : Res) x37.2.2.2))).toArray 32) (fun _ : Unit => undef) (fun _ : Unit => [])) (EffP.st _ _ _ _), .val (I x37.1), .val (.bool x37.2.2.2.znO)] mixed r (fun b hb => hP.sep.lt (i := 4) rfl (.inl hb)) (by kernel_rfl) ?_ ?_
  ·
   refine zbk r rfl (by kernel_rfl) (fun fr1 g w' hb' hd r' => ?_) ?_
   · exact za4 r' (b := b1) (o := 0) (k := 1) rfl znq ⟨Below.refl _ _, rfl⟩
   refine zbk r rfl (by kernel_rfl) (fun fr1 g w' hb' hd r' => ?_) ?_
   · exact za6 r' (cs := (resC (T.res (⟨0, 0⟩ : Res) x37.2.2.2))) (n := 2) (hd 0 rfl).1 ((hP.below (dr hb')).cell (i := 2) rfl) ta32 (Rep.zns (d := (⟨0, 0⟩ : Res)) rfl ((hP.below (dr hb')).prog (i := 0) rfl)) ⟨Below.refl _ _, rfl⟩
   refine zaU r rfl (fun fr1 g w' hk' hd r' => ?_) ?_
   · exact za9 r' (v := (I x37.1)) rfl ⟨Below.refl _ _, rfl⟩
   refine zaU r rfl (fun fr1 g w' hk' hd r' => ?_) ?_
   · exact za4 r' (b := b1) (o := 0) (k := 0) rfl zma ⟨Below.refl _ _, rfl⟩
   refine zaU r rfl (fun fr1 g w' hk' hd r' => ?_) ?_
   · exact za3 r' (v := (.bool x37.2.2.2.znO)) (hd 3 rfl).1 (hP.cellK (j := 4) rfl (drK hk') (i := 2) rfl rfl) to4 (Rep.zhW (show Rep _ _ _ _ _ _ _ from hP.okK (j := 4) rfl (drK hk') (i := 0) rfl rfl)) ⟨Below.refl _ _, rfl⟩
   refine zbk r rfl (by kernel_rfl) (fun fr1 g w' hb' hd r' => ?_) ?_
   · exact zaS r' (o := 0) (v := (.agg (resC (T.res (⟨0, 0⟩ : Res) x37.2.2.2)).toArray)) rfl (hd 1 rfl).1 ((hP.below (dr hb')).cell (i := 4) rfl) ts32 (Nat.le_of_ble_eq_true rfl) rfl rfl (fun w2 u2 => ⟨u2.kept, (), rfl, u2.at_, (fun b hb => hP.sep.lt (i := 4) rfl hb), zkA⟩)
   refine zaU r rfl (fun fr1 g w' hk' hd r' => ?_) ?_
   · exact za7 r' (v := (I x37.1)) (hd 2 rfl).1 ⟨Below.refl _ _, rfl⟩
   refine zaU r rfl (fun fr1 g w' hk' hd r' => ?_) ?_
   · exact za7 r' (v := (.bool x37.2.2.2.znO)) (hd 4 rfl).1 ⟨Below.refl _ _, rfl⟩
   exact zbD
  ·
   intro fr gg w40 hb hΦ hap r
   obtain ⟨⟨⟩, g5, hcE, _, hs5⟩ := (hΦ 5 rfl).1
   have r := r.congr (sc ((hΦ 7 rfl).1) (sc ((hΦ 6 rfl).1) (sc ((hΦ 4 rfl).1) (sc ((hΦ 3 rfl).1) (sc ((hΦ 2 rfl).1) (sc ((hΦ 1 rfl).1) (sc ((hΦ 0 rfl).1) rfl)))))))
   have hP : Post (fun b => b ∈ (memK a1g a1).own) [znK Tryz.prog znx x37.2.2 γ38.1 γ38.2, memK a1g x37.2.1, znw b1 γ38.1.cells 39, znw b5 ((capC a2)).toArray 42, znw b9 ((resC (T.res (⟨0, 0⟩ : Res) x37.2.2.2))).toArray 32] w0 w40 := hP.effL (i := 4) (l := []) rfl hb hcE rfl rfl trivial
   refine wp_ret ?_
   have hv : ((T.res (⟨0, 0⟩ : Res) x37.2.2.2), x37.1, x37.2.2.2.znO, x37.2.1) = res := Option.some.inj hD
   try dsimp only [Exit.then, Exit.inBlock]
   refine zhJ (fn := Tryz.f29) r rfl rfl (v' := (I x37.1)) (v2 := (.bool x37.2.2.2.znO)) rfl rfl (hP.cell (i := 4) rfl) (k := 2) rfl ta32 ?_
   subst hv
   exact ⟨rfl, (hP.pick [1] rfl rfl).done (zbI rfl zca)⟩
end Go.Proofs.YtjkinpbfmihhdaaGreat

/- Ours. -/
set_option maxRecDepth 20000
set_option maxHeartbeats 2000000
namespace Go.Proofs.YtjkinpbfmihhdaaGreat
open Go.RowKit
theorem zqW : znv Tryz.prog 108 = true := by kernel_rfl
theorem zrI : znv Tryz.prog 109 = true := by kernel_rfl
theorem zqy : znv Tryz.prog 110 = true := by kernel_rfl
theorem zs8 : znv Tryz.prog 111 = true := by kernel_rfl
theorem cl31 : znv Tryz.prog 31 = true := by kernel_rfl
def D.zcF (fu : Nat) (a0 : Plan) : Option (Mem) := ((D.ziZ fu ([(D.zaA a0)])).bind (fun (x10 : Mem × Int) => (Option.bind (bif (x10.2 != 0) then (some true) else (some false)) (fun (x16 : Bool) => (bif x16 then none else ((D.zcr fu x10.1 0).bind (fun (x21 : Cap) => ((D.zeF fu (fu, (D.zea (fu + 1) a0)) x10.1 x21 (IntKind.i64.wrap (a0.nodes + 1))).bind (fun (x22 : Unit × Int × Bool × Mem) => (bif (!x22.2.2.1) then none else (some x22.2.2.2)))))))))))
theorem zh6 {fu : Nat} (w0 : World) (a0 : Plan) {res : Mem} (hD : D.zcF fu a0 = some res) :
    Calls Tryz.prog 28 #[.agg (znu a0).toArray] w0 (fun e w' => ∃ (g0 : MG), e = .returned (zp g0.mb) ∧ Done No No [memK g0 res] w0 w') := by
 refine enter Tryz.func28 rfl 37 rfl rfl fun fr r => ?_
 have hP : Post No [] w0 w0 := Post.nil w0
 unfold D.zcF at hD
 refine wsr ?_
 refine za5 (.cells ((znu a0)).toArray 25 (0, 0)) r (fun R => znF r (v := (.agg (znu a0).toArray)) rfl) rfl fun fr b1 w2 n3 r => ?_
 have hP : Post No [znw b1 ((znu a0)).toArray 25] w0 w2 := hP.new n3
 refine za0 (.pointer none) r (fun R => za7 r rfl) rfl fun fr r => wn (wsr (za0 (.agg (znu a0).toArray) r (fun R => za6 r (cs := (znu a0)) (n := 6) rfl (hP.cell (i := 0) rfl) ta25 rfl) rfl fun fr r => ?_))
 refine za8 r (zil w2 a0) (fun R hc => zac r rfl zrI hc) rfl ?_
 rintro _ w5 ⟨rfl, hb⟩
 refine ⟨_, rfl, fun fr r => ?_⟩
 have hP : Post No [znw b1 ((znu a0)).toArray 25] w0 w5 := hP.below hb
 refine zgz (.cells (([(D.zaA a0)]).flatMap i64).toArray 3 (0, 0)) 1 r (fun R => zcv r (by kernel_rfl)) rfl fun fr b6 w7 n8 r => ?_
 have hP : Post No [znw b1 ((znu a0)).toArray 25, rowK 3 1 i64 (.slice (some ⟨b6, 0, none⟩) 1 1) ([(D.zaA a0)])] w0 w7 := hP.newRow n8 (fun _ => rfl) rfl
 obtain ⟨x10, hx10, hD⟩ := zap hD
 refine za8 r (zm6 w7 ([(D.zaA a0)]) (hP.row (i := 1) rfl).ro hx10) (fun R hc => zac r rfl zqW hc) rfl ?_
 rintro _ w11 ⟨mg12, rfl, hq⟩
 refine ⟨_, rfl, fun fr r => ?_⟩
 have hP : Post No [znw b1 ((znu a0)).toArray 25, rowK 3 1 i64 (.slice (some ⟨b6, 0, none⟩) 1 1) ([(D.zaA a0)]), memK mg12 x10.1] w0 w11 := hP.add hq
 refine za0 (.tuple #[(zp mg12.mb), (I x10.2)]) r (fun R => za9 r rfl) rfl fun fr r => za0 (zp mg12.mb) r (fun R => zb5 r (vs := #[(zp mg12.mb), (I x10.2)]) rfl rfl) rfl fun fr r => za0 (I x10.2) r (fun R => zb5 r (vs := #[(zp mg12.mb), (I x10.2)]) rfl rfl) rfl fun fr r => za0 (zp mg12.mb) r (fun R => za7 r rfl) rfl fun fr r => za0 (I x10.2) r (fun R => za7 r rfl) rfl fun fr r => wn (wp_seq (wp_seq ?_))
 have hP : Post No [znw b1 ((znu a0)).toArray 25, memK mg12 x10.1] w0 w11 := hP.pick [0, 2] rfl rfl
 refine zbU (N := 37) (Y := Bool) (G := Unit) (fun x γ => [(0, (.agg (znu a0).toArray)), (1, (zp b1)), (2, (.pointer none)), (3, (zp mg12.mb)), (4, (I x10.2)), (20, (.bool x))]) (fun x γ w => Post No [znw b1 ((znu a0)).toArray 25, memK mg12 x10.1] w0 w) hD ?_ ?_
 ·
  rintro y14 RPy14 nxy14 hD
  refine wp_region_lit (za0 (I x10.2) r (fun R => za9 r rfl) rfl fun fr r => za0 _ r (fun R => znA r rfl rfl rfl rfl) rfl fun fr r => za0 (.bool (x10.2 != 0)) r (fun R => za9 r rfl) rfl fun fr r => ?_)
  refine zaF (x10.2 != 0) (fun h15 => ?_) (fun h15 => ?_)
  ·
   have hD := (zaq h15).symm.trans hD
   refine s0 r h15 fun fr r => s0 r h15 fun fr r => za0 (.bool true) r (fun R => zar r (b := true) (congrArg Value.bool h15) rfl) rfl fun fr r => wn ?_
   exact nxy14 true () _ _ _ hD r (za1 rfl (za1 rfl (za1 rfl (za1 rfl (za1 rfl (za1 rfl zaJ)))))) (hP.pick [0, 1] rfl rfl)
  ·
   have hD := (zak h15).symm.trans hD
   refine s1 r h15 (za0 (zp mg12.mb) r (fun R => za9 r rfl) rfl fun fr r => s1 r h15 (za0 _ r (fun R => znA r rfl rfl rfl rfl) rfl fun fr r => za0 (.bool false) r (fun R => zar r (b := false) (congrArg Value.bool h15) rfl) rfl fun fr r => wn ?_))
   exact nxy14 false () _ _ _ hD r (za1 rfl (za1 rfl (za1 rfl (za1 rfl (za1 rfl (za1 rfl zaJ)))))) (hP.pick [0, 1] rfl rfl)
 ·
  rintro x16 γ17 fr w18 g r hP hD
  have hP : Post No [znw b1 ((znu a0)).toArray 25, memK mg12 x10.1] w0 w18 := hP
  refine wp_cond_split (t := x16) (r.ev rfl) (fun h19 => ?_) (fun h19 => ?_)
  ·
   have hD := (zaq h19).symm.trans hD
   refine wsr (za0 (.pointer none) r (fun R => za7 r rfl) rfl fun fr r => wn (wp_ret ?_))
   exact nomatch hD
  ·
   have hD := (zak h19).symm.trans hD
   refine wp_skip (wp_seq ?_)
   obtain ⟨x21, hx21, hD⟩ := zap hD
   obtain ⟨x22, hx22, hD⟩ := zap hD
   refine zhj mg12.bs [.val (.agg (znu a0).toArray), .pred (PrP Tryz.prog znC (fu, (D.zea (fu + 1) a0))) (PrP.st _), .val (zp mg12.mb), .val (zp mg12.mb), .val (.agg (capC x21).toArray), .val (zp b1), .val (I a0.nodes), .val (I (W (a0.nodes + 1))), .eff (EffP w18.heap.size (memK mg12 x22.2.2.2) (fun _ : Unit => (.tuple #[(.agg #[]), (I x22.2.1), (.bool x22.2.2.1)])) (fun _ : Unit => [])) (EffP.st _ _ _ _), .val (.tuple #[(.agg #[]), (I x22.2.1), (.bool x22.2.2.1)]), .val (.agg #[]), .val (I x22.2.1), .val (.bool x22.2.2.1), .cell 181 0, .stored 13 #[] 181 0 rfl, .val (I x22.2.1), .val (.bool x22.2.2.1)] mixed r (fun b hb => hP.sep.lt (i := 1) rfl (.inl hb)) (by kernel_rfl) ?_ ?_
   ·
    refine zaU r rfl (fun fr1 g w' hk' hd r' => ?_) ?_
    · exact za6 r' (cs := (znu a0)) (n := 6) rfl (hP.cellK (j := 1) rfl (drK hk') (i := 0) rfl rfl) ta25 rfl ⟨Below.refl _ _, rfl⟩
    refine zbk r rfl (by kernel_rfl) (fun fr1 g w' hb' hd r' => ?_) ?_
    · exact zac r' (args := [(.agg (znu a0).toArray)]) (lc (hd 0 rfl).1 l0) zs8 ((zks (F := No) (n := fu) (j := fu + 1) (fun _ h => h.elim) (by omega) a0).mono (by rintro _ w2 ⟨y, rfl, hb2, hr2⟩; exact ⟨_, rfl, hb2, zhL hr2⟩))
    refine zbk r rfl (by kernel_rfl) (fun fr1 g w' hb' hd r' => ?_) ?_
    · exact za9 r' (v := (zp mg12.mb)) rfl ⟨Below.refl _ _, rfl⟩
    refine zaU r rfl (fun fr1 g w' hk' hd r' => ?_) ?_
    · exact za9 r' (v := (zp mg12.mb)) rfl ⟨Below.refl _ _, rfl⟩
    refine zbk r rfl (by kernel_rfl) (fun fr1 g w' hb' hd r' => ?_) ?_
    · exact zac r' (args := [(zp mg12.mb), (I 0)]) (lc (hd 3 rfl).1 (lc rfl l0)) cl31 ((zdw _ x10.1 ((hP.below (dr hb')).mem (i := 1) rfl) 0 hx21).mono (by rintro _ w2 ⟨rfl, hb2⟩; exact ⟨_, rfl, hb2, rfl⟩))
    refine zaU r rfl (fun fr1 g w' hk' hd r' => ?_) ?_
    · exact za4 r' (b := b1) (o := 0) (k := 0) rfl zeD ⟨Below.refl _ _, rfl⟩
    refine zaU r rfl (fun fr1 g w' hk' hd r' => ?_) ?_
    · exact za3 r' (v := (I a0.nodes)) (hd 5 rfl).1 (hP.cellK (j := 1) rfl (drK hk') (i := 0) rfl rfl) to3 rfl ⟨Below.refl _ _, rfl⟩
    refine zbk r rfl (by kernel_rfl) (fun fr1 g w' hb' hd r' => ?_) ?_
    · exact znA r' (u := (I a0.nodes)) (u' := (I 1)) (v := (I (W (a0.nodes + 1)))) (hd 6 rfl).1 rfl rfl rfl ⟨Below.refl _ _, rfl⟩
    refine zbk r rfl (by kernel_rfl) (fun fr1 g w' hb' hd r' => ?_) ?_
    · exact zac r' (args := [(g 1).v, (zp mg12.mb), (.agg (capC x21).toArray), (I (W (a0.nodes + 1)))]) (lc rfl (lc (hd 2 rfl).1 (lc (hd 4 rfl).1 (lc (hd 7 rfl).1 l0)))) zqy ((ziJ _ (fu, (D.zea (fu + 1) a0)) x10.1 x21 (W (a0.nodes + 1)) (Sep.beside (hd 1 rfl).1 ((hP.below (dr hb')).sep.pk [1] rfl rfl) (by intro c hc b hb; simp only [List.mem_cons, List.not_mem_nil, or_false] at hc; rcases hc with rfl; exact hP.sep.lt (i := 1) rfl hb) (hd 1 rfl).2.1) hx22).mono (by rintro _ w2 ⟨rfl, hq⟩; exact ⟨_, rfl, hq.chg.kept, EffP.of () hq rfl (fun b hb => hP.sep.lt (i := 1) rfl hb)⟩))
    refine zaU r rfl (fun fr1 g w' hk' hd r' => ?_) ?_
    · exact za9 r' (v := (.tuple #[(.agg #[]), (I x22.2.1), (.bool x22.2.2.1)])) (EffP.val (hd 8 rfl).1) ⟨Below.refl _ _, rfl⟩
    refine zaU r rfl (fun fr1 g w' hk' hd r' => ?_) ?_
    · exact zb5 r' (vs := #[(.agg #[]), (I x22.2.1), (.bool x22.2.2.1)]) (hd 9 rfl).1 rfl ⟨Below.refl _ _, rfl⟩
    refine zaU r rfl (fun fr1 g w' hk' hd r' => ?_) ?_
    · exact zb5 r' (vs := #[(.agg #[]), (I x22.2.1), (.bool x22.2.2.1)]) (hd 9 rfl).1 rfl ⟨Below.refl _ _, rfl⟩
    refine zaU r rfl (fun fr1 g w' hk' hd r' => ?_) ?_
    · exact zb5 r' (vs := #[(.agg #[]), (I x22.2.1), (.bool x22.2.2.1)]) (hd 9 rfl).1 rfl ⟨Below.refl _ _, rfl⟩
    refine zaU r rfl (fun fr1 g w' hk' hd r' => ?_) ?_
    · exact zag zpM (fun b w2 n2 => ⟨n2.below, b, rfl, n2.eq, _, n2.at_, rfl⟩)
    refine zaU r rfl (fun fr1 g w' hk' hd r' => ?_) ?_
    · obtain ⟨hp, _, c, hc, hn⟩ := (hd 13 rfl).1; exact zaS r' (o := 0) (c := c) (v := (.agg #[])) hp (hd 10 rfl).1 hc zpH (by rw [hn]; exact Nat.le_of_ble_eq_true rfl) rfl (zjA (hn.trans rfl)) (fun w2 u2 => ⟨u2, rfl⟩)
    refine zaU r rfl (fun fr1 g w' hk' hd r' => ?_) ?_
    · exact za7 r' (v := (I x22.2.1)) (hd 11 rfl).1 ⟨Below.refl _ _, rfl⟩
    refine zaU r rfl (fun fr1 g w' hk' hd r' => ?_) ?_
    · exact za7 r' (v := (.bool x22.2.2.1)) (hd 12 rfl).1 ⟨Below.refl _ _, rfl⟩
    exact zbD
   ·
    intro fr gg w24 hb hΦ hap r
    obtain ⟨v20, hv1⟩ : ∃ v, v = (gg 1).v := ⟨_, rfl⟩
    have g1 : (gg 1).v = v20 := hv1.symm
    have hs1 : Fresh [znK Tryz.prog znC (fu, (D.zea (fu + 1) a0)) v20 (rg (gg 1).lo (gg 1).hi)] (gg 1).lo (gg 1).hi w24 := by subst hv1; exact (hΦ 1 rfl).1
    obtain ⟨⟨⟩, g8, hcE, _, hs8⟩ := (hΦ 8 rfl).1
    obtain ⟨b23, ee_b23⟩ : ∃ b, b = (gg 13).lo := ⟨_, rfl⟩
    have g13 : (gg 13).v = (zp b23) := by rw [ee_b23]; exact (hΦ 13 rfl).1.1
    have h_b23 : w24.heap[b23]? = some (.cells #[] 181 (0, 0)) := by rw [ee_b23]; exact (hΦ 14 rfl).1.2
    have hs13 : Fresh [znw b23 #[] 181] (gg 13).lo (gg 13).hi w24 := by subst ee_b23; exact Fresh.cell (hΦ 13 rfl).1.2.1 h_b23
    have r := r.congr (sc ((hΦ 16 rfl).1) (sc ((hΦ 15 rfl).1) (sc g13 (sc ((hΦ 12 rfl).1) (sc ((hΦ 11 rfl).1) (sc ((hΦ 10 rfl).1) (sc ((hΦ 9 rfl).1) (sc g8 (sc ((hΦ 7 rfl).1) (sc ((hΦ 6 rfl).1) (sc ((hΦ 5 rfl).1) (sc ((hΦ 4 rfl).1) (sc ((hΦ 3 rfl).1) (sc ((hΦ 2 rfl).1) (sc g1 (sc ((hΦ 0 rfl).1) rfl))))))))))))))))
    have hP : Post No [znw b1 ((znu a0)).toArray 25, memK mg12 x22.2.2.2, znK Tryz.prog znC (fu, (D.zea (fu + 1) a0)) v20 (rg (gg 1).lo (gg 1).hi), znw b23 #[] 181] w0 w24 := hP.effL (i := 1) (l := [([znK Tryz.prog znC (fu, (D.zea (fu + 1) a0)) v20 (rg (gg 1).lo (gg 1).hi)], (gg 1).lo, (gg 1).hi), ([znw b23 #[] 181], (gg 13).lo, (gg 13).hi)]) rfl hb hcE rfl rfl ⟨hs1, (hΦ 1 rfl).2.1, (zhr (hap 1 13 rfl) zeh), ⟨hs13, (hΦ 13 rfl).2.1, zeh, trivial⟩⟩
    refine wp_seq (wsr (za0 (.bool x22.2.2.1) r (fun R => za9 r rfl) rfl fun fr r => za0 (.bool (!x22.2.2.1)) r (fun R => y_un r (u := (.bool x22.2.2.1)) rfl rfl) rfl fun fr r => wn ?_))
    refine wp_cond_split (t := (!x22.2.2.1)) (r.ev rfl) (fun h25 => ?_) (fun h25 => ?_)
    ·
     have hD := (zaq h25).symm.trans hD
     refine wsr (za0 (.pointer none) r (fun R => za7 r rfl) rfl fun fr r => wn (wp_ret ?_))
     exact nomatch hD
    ·
     have hD := (zak h25).symm.trans hD
     refine wp_skip (wsr (za0 (zp mg12.mb) r (fun R => za9 r rfl) rfl fun fr r => za0 (zp mg12.mb) r (fun R => za7 r rfl) rfl fun fr r => wn (wp_ret ?_)))
     have hv : x22.2.2.2 = res := Option.some.inj hD
     try dsimp only [Exit.then, Exit.inBlock]
     refine zaz (fn := Tryz.f28) r (t := 2) rfl (v := (zp mg12.mb)) rfl ?_
     subst hv
     exact ⟨mg12, rfl, (hP.pick [1] rfl rfl).done (zbI rfl zca)⟩
end Go.Proofs.YtjkinpbfmihhdaaGreat

/- Ours. -/
set_option maxRecDepth 20000
set_option maxHeartbeats 2000000
namespace Go.Proofs.YtjkinpbfmihhdaaGreat
open Go.RowKit
theorem cl51 : znv Tryz.prog 51 = true := by kernel_rfl
theorem rt72 : rowTy Tryz.prog 72 3 1 = true := by kernel_rfl
def D.zgm (fu : Nat) (a0 : Plan) (a1 : Mem) (a2 : Int) : Option (List Int) := ((D.zb0 fu a1 a2 (D.zaW a0)).bind (fun (x5 : Int) => (loopThen (fun (x8 : List Int × Int) => (Option.bind (bif (decide ((x8.1.length : Int) < a0.nodes)) then (bif (decide (x8.2 > 0)) then (some (decide (x8.2 ≤ (IntKind.u64.wrap a0.nodes)))) else (some false)) else (some false)) (fun (x15 : Bool) => (bif x15 then ((appD x8.1 ([(IntKind.i64.wrap ((IntKind.i64.wrap x8.2) - 1))])).bind (fun (x23 : List Int) => ((D.zb0 fu a1 a2 (D.zb2 a0 (IntKind.i64.wrap ((IntKind.i64.wrap x8.2) - 1)))).bind (fun (x28 : Int) => (some (Lp.next (x23, x28))))))) else (some (Lp.brk (x8.1, x8.2))))))) fu ([], (D.zah D.zaO x5)) (fun (x30 : List Int × Int) => (some x30.1)))))
theorem zkX {fu : Nat} (w0 : World) (a0 : Plan) {a1g : MG} (a1 : Mem) (a1h : MemAt a1g a1 w0) (a2 : Int) {res : List Int} (hD : D.zgm fu a0 a1 a2 = some res) :
    Calls Tryz.prog 69 #[.agg (znu a0).toArray, zp a1g.mb, .int .i64 a2] w0 (fun e w' => ∃ (v0 : Value), e = .returned v0 ∧ Done No No [rowK 3 1 i64 v0 res] w0 w') := by
 refine enter Tryz.func69 rfl 47 rfl rfl fun fr r => ?_
 have hP : Post No [] w0 w0 := Post.nil w0
 have hP : Post No [memR a1g a1] w0 w0 := hP.addRo zd2 a1h rfl a1h.lt
 unfold D.zgm at hD
 refine wsr ?_
 refine za5 (.cells ((znu a0)).toArray 25 (0, 0)) r (fun R => znF r (v := (.agg (znu a0).toArray)) rfl) rfl fun fr b1 w2 n3 r => ?_
 have hP : Post No [memR a1g a1, znw b1 ((znu a0)).toArray 25] w0 w2 := hP.new n3
 refine za0 (Value.slice none 0 0) r (fun R => za7 r rfl) rfl fun fr r => wn (wsr (za0 (Value.slice none 0 0) r (fun R => za7 r rfl) rfl fun fr r => wn (wp_seq ?_)))
 obtain ⟨x5, hx5, hD⟩ := zap hD
 refine zdg [.val (.agg (znB D.zaO).toArray), .val (zp a1g.mb), .val (I a2), .val (.agg (znu a0).toArray), .val (I (D.zaW a0)), .val (U x5), .val (U (D.zah D.zaO x5)), .val (U (D.zah D.zaO x5))] mixed r (by kernel_rfl) ?_ ?_
 ·
  refine fc r (fun fr1 g w' hb' hd r' => zac r' (args := []) (l0) zoO ((zfP _ ).mono (by rintro _ w2 ⟨rfl, hb2⟩; exact ⟨_, rfl, hb2, rfl⟩))) ?_
  refine fc r (fun fr1 g w' hb' hd r' => za9 r' rfl bz) ?_
  refine fc r (fun fr1 g w' hb' hd r' => za9 r' rfl bz) ?_
  refine fc r (fun fr1 g w' hb' hd r' => za6 r' (cs := (znu a0)) (n := 6) rfl ((hP.below (dr hb')).cell (i := 1) rfl) ta25 rfl bz) ?_
  refine fc r (fun fr1 g w' hb' hd r' => zac r' (args := [(.agg (znu a0).toArray)]) (lc (hd 3 rfl).1 l0) zov ((zcg _ a0).mono (by rintro _ w2 ⟨rfl, hb2⟩; exact ⟨_, rfl, hb2, rfl⟩))) ?_
  refine fc r (fun fr1 g w' hb' hd r' => zac r' (args := [(zp a1g.mb), (I a2), (I (D.zaW a0))]) (lc (hd 1 rfl).1 (lc (hd 2 rfl).1 (lc (hd 4 rfl).1 l0))) cl51 ((zbr _ a1 ((hP.below (dr hb')).memr (i := 0) rfl) a2 (D.zaW a0) hx5).mono (by rintro _ w2 ⟨rfl, hb2⟩; exact ⟨_, rfl, hb2, rfl⟩))) ?_
  refine fc r (fun fr1 g w' hb' hd r' => zac r' (args := [(.agg (znB D.zaO).toArray), (U x5)]) (lc (hd 0 rfl).1 (lc (hd 5 rfl).1 l0)) zou ((zcA _ D.zaO x5).mono (by rintro _ w2 ⟨rfl, hb2⟩; exact ⟨_, rfl, hb2, rfl⟩))) ?_
  refine fc r (fun fr1 g w' hb' hd r' => za7 r' (hd 6 rfl).1 bz) ?_
  exact zbD
 ·
  intro fr gg w6 hb hΦ hap r
  have r := r.congr (sc ((hΦ 7 rfl).1) (sc ((hΦ 6 rfl).1) (sc ((hΦ 5 rfl).1) (sc ((hΦ 4 rfl).1) (sc ((hΦ 3 rfl).1) (sc ((hΦ 2 rfl).1) (sc ((hΦ 1 rfl).1) (sc ((hΦ 0 rfl).1) rfl))))))))
  have hP : Post No [memR a1g a1, znw b1 ((znu a0)).toArray 25] w0 w6 := hP.below hb
  refine wp_seq ?_
  have hP : Post No [memR a1g a1, znw b1 ((znu a0)).toArray 25, rowK 3 1 i64 (Value.slice none 0 0) ([])] w0 w6 := hP.nilRow 3 1 i64
  refine zdd (X := List Int × Int) (G := Value) (x0 := ([], (D.zah D.zaO x5))) (fun x γ => [(0, (.agg (znu a0).toArray)), (1, (zp a1g.mb)), (2, (I a2)), (3, (zp b1)), (6, (Value.slice none 0 0)), (7, γ), (8, (U x.2))]) (fun x γ w => Post No [memR a1g a1, znw b1 ((znu a0)).toArray 25, rowK 3 1 i64 γ x.1] w0 w) (Value.slice none 0 0) r (za1 rfl (za1 rfl (za1 rfl (za1 rfl (za1 rfl (za1 rfl (za1 rfl zaJ))))))) hP hD ?_ ?_
  ·
   rintro x8 γ9 fr w11 g y10 RPy10 nxy10 bky10 rty10 r hP hD
   have hP : Post No [memR a1g a1, znw b1 ((znu a0)).toArray 25, rowK 3 1 i64 γ9 x8.1] w0 w11 := hP
   refine wp_seq (wp_seq ?_)
   refine zbU (N := 47) (Y := Bool) (G := Unit) (fun x γ => [(0, (.agg (znu a0).toArray)), (1, (zp a1g.mb)), (2, (I a2)), (3, (zp b1)), (6, (Value.slice none 0 0)), (7, γ9), (8, (U x8.2)), (32, (.bool x))]) (fun x γ w => Post No [memR a1g a1, znw b1 ((znu a0)).toArray 25, rowK 3 1 i64 γ9 x8.1] w0 w) hD ?_ ?_
   ·
    rintro y12 RPy12 nxy12 hD
    refine wp_region_lit (za0 γ9 r (fun R => za9 r rfl) rfl fun fr r => za0 (I (x8.1.length : Int)) r (fun R => zcu r (hP.row (i := 2) rfl).ro is72 rfl) rfl fun fr r => za0 _ r (fun R => za4 r (o := 0) rfl zeD) rfl fun fr r => za0 (I a0.nodes) r (fun R => za3 r rfl (hP.cell (i := 1) rfl) to3 rfl) rfl fun fr r => za0 _ r (fun R => znA r rfl rfl rfl rfl) rfl fun fr r => za0 (.bool (decide ((x8.1.length : Int) < a0.nodes))) r (fun R => za9 r rfl) rfl fun fr r => ?_)
    refine zaF (decide ((x8.1.length : Int) < a0.nodes)) (fun h13 => ?_) (fun h13 => ?_)
    ·
     have hD := (zaq h13).symm.trans hD
     refine s1 r h13 (za0 (U x8.2) r (fun R => za9 r rfl) rfl fun fr r => s1 r h13 (za0 _ r (fun R => znA r rfl rfl rfl rfl) rfl fun fr r => za0 (.bool (decide (x8.2 > 0))) r (fun R => zar r (b := true) (congrArg Value.bool h13) rfl) rfl fun fr r => za0 (.bool (decide (x8.2 > 0))) r (fun R => za9 r rfl) rfl fun fr r => ?_))
     refine zaF (decide (x8.2 > 0)) (fun h14 => ?_) (fun h14 => ?_)
     ·
      have hD := (zaq h14).symm.trans hD
      refine s1 r h14 (za0 (U x8.2) r (fun R => za9 r rfl) rfl fun fr r => s1 r h14 (za0 _ r (fun R => za4 r (o := 0) rfl zeD) rfl fun fr r => s1 r h14 (za0 (I a0.nodes) r (fun R => za3 r rfl (hP.cell (i := 1) rfl) to3 rfl) rfl fun fr r => s1 r h14 (za0 (U (V a0.nodes)) r (fun R => zb8 r rfl ti3 ti22) rfl fun fr r => s1 r h14 (za0 _ r (fun R => znA r rfl rfl rfl rfl) rfl fun fr r => za0 (.bool (decide (x8.2 ≤ (V a0.nodes)))) r (fun R => zar r (b := true) (congrArg Value.bool h14) rfl) rfl fun fr r => wn ?_)))))
      exact nxy12 (decide (x8.2 ≤ (V a0.nodes))) () _ _ _ hD r (za1 rfl (za1 rfl (za1 rfl (za1 rfl (za1 rfl (za1 rfl (za1 rfl (za1 rfl zaJ)))))))) (hP.pick [0, 1, 2] rfl rfl)
     ·
      have hD := (zak h14).symm.trans hD
      refine s0 r h14 fun fr r => s0 r h14 fun fr r => s0 r h14 fun fr r => s0 r h14 fun fr r => s0 r h14 fun fr r => za0 (.bool false) r (fun R => zar r (b := false) (congrArg Value.bool h14) rfl) rfl fun fr r => wn ?_
      exact nxy12 false () _ _ _ hD r (za1 rfl (za1 rfl (za1 rfl (za1 rfl (za1 rfl (za1 rfl (za1 rfl (za1 rfl zaJ)))))))) (hP.pick [0, 1, 2] rfl rfl)
    ·
     have hD := (zak h13).symm.trans hD
     refine s0 r h13 fun fr r => s0 r h13 fun fr r => za0 (.bool false) r (fun R => zar r (b := false) (congrArg Value.bool h13) rfl) rfl fun fr r => za0 (.bool false) r (fun R => za9 r rfl) rfl fun fr r => s0 r (rfl : false = _) fun fr r => s0 r (rfl : false = _) fun fr r => s0 r (rfl : false = _) fun fr r => s0 r (rfl : false = _) fun fr r => s0 r (rfl : false = _) fun fr r => za0 (.bool false) r (fun R => zar r (b := false) (congrArg Value.bool (rfl : false = _)) rfl) rfl fun fr r => wn ?_
     exact nxy12 false () _ _ _ hD r (za1 rfl (za1 rfl (za1 rfl (za1 rfl (za1 rfl (za1 rfl (za1 rfl (za1 rfl zaJ)))))))) (hP.pick [0, 1, 2] rfl rfl)
   ·
    rintro x15 γ16 fr w17 g r hP hD
    have hP : Post No [memR a1g a1, znw b1 ((znu a0)).toArray 25, rowK 3 1 i64 γ9 x8.1] w0 w17 := hP
    refine wp_cond_split (t := x15) (r.ev rfl) (fun h18 => ?_) (fun h18 => ?_)
    ·
     have hD := (zaq h18).symm.trans hD
     refine wp_skip (wp_block (wsr (za0 (U x8.2) r (fun R => za9 r rfl) rfl fun fr r => za0 (I (W x8.2)) r (fun R => zb8 r rfl ti22 ti3) rfl fun fr r => za0 _ r (fun R => znA r rfl rfl rfl rfl) rfl fun fr r => za0 (I (W ((W x8.2) - 1))) r (fun R => za7 r rfl) rfl fun fr r => wn (wsr (za0 γ9 r (fun R => za9 r rfl) rfl fun fr r => za0 (I (W ((W x8.2) - 1))) r (fun R => za9 r rfl) rfl fun fr r => ?_)))))
     refine zgz (.cells (([(W ((W x8.2) - 1))]).flatMap i64).toArray 3 (0, 0)) 1 r (fun R => zcv r (by kernel_rfl)) rfl fun fr b19 w20 n21 r => ?_
     have hP : Post No [memR a1g a1, znw b1 ((znu a0)).toArray 25, rowK 3 1 i64 γ9 x8.1, rowK 3 1 i64 (.slice (some ⟨b19, 0, none⟩) 1 1) ([(W ((W x8.2) - 1))])] w0 w20 := hP.newRow n21 (fun _ => rfl) rfl
     obtain ⟨x23, hx23, hD⟩ := zap hD
     refine zk3 3 1 i64 γ9 r (fun R => ziF r rt72 (fun _ => rfl) (fun _ => rfl) (hP.row (i := 2) rfl) (hP.row (i := 3) rfl).ro hx23 rfl rfl) rfl fun fr v24 w25 ha26 r => ?_
     have hP : Post No [memR a1g a1, znw b1 ((znu a0)).toArray 25, rowK 3 1 i64 v24 x23, rowK 3 1 i64 (.slice (some ⟨b19, 0, none⟩) 1 1) ([(W ((W x8.2) - 1))])] w0 w25 := hP.append (i := 2) rfl ha26
     refine za0 v24 r (fun R => za7 r rfl) rfl fun fr r => wn ?_
     refine wp_region_lit (za0 (zp a1g.mb) r (fun R => za9 r rfl) rfl fun fr r => za0 (I a2) r (fun R => za9 r rfl) rfl fun fr r => za0 (.agg (znu a0).toArray) r (fun R => za6 r (cs := (znu a0)) (n := 6) rfl (hP.cell (i := 1) rfl) ta25 rfl) rfl fun fr r => za0 (I (W ((W x8.2) - 1))) r (fun R => za9 r rfl) rfl fun fr r => ?_)
     refine za8 r (zcP w25 a0 (W ((W x8.2) - 1))) (fun R hc => zac r rfl zoI hc) rfl ?_
     rintro _ w27 ⟨rfl, hb⟩
     refine ⟨_, rfl, fun fr r => ?_⟩
     have hP : Post No [memR a1g a1, znw b1 ((znu a0)).toArray 25, rowK 3 1 i64 v24 x23, rowK 3 1 i64 (.slice (some ⟨b19, 0, none⟩) 1 1) ([(W ((W x8.2) - 1))])] w0 w27 := hP.below hb
     obtain ⟨x28, hx28, hD⟩ := zap hD
     refine za8 r (zbr w27 a1 (hP.memr (i := 0) rfl) a2 (D.zb2 a0 (W ((W x8.2) - 1))) hx28) (fun R hc => zac r rfl cl51 hc) rfl ?_
     rintro _ w29 ⟨rfl, hb⟩
     refine ⟨_, rfl, fun fr r => ?_⟩
     have hP : Post No [memR a1g a1, znw b1 ((znu a0)).toArray 25, rowK 3 1 i64 v24 x23, rowK 3 1 i64 (.slice (some ⟨b19, 0, none⟩) 1 1) ([(W ((W x8.2) - 1))])] w0 w29 := hP.below hb
     refine za0 (U x28) r (fun R => za7 r rfl) rfl fun fr r => wn ?_
     exact nxy10 (x23, x28) v24 _ _ _ hD r (za1 rfl (za1 rfl (za1 rfl (za1 rfl (za1 rfl (za1 rfl (za1 rfl zaJ))))))) (hP.pick [0, 1, 2] rfl rfl)
    ·
     have hD := (zak h18).symm.trans hD
     refine wp_exit ?_
     exact bky10 (x8.1, x8.2) γ9 _ _ _ hD r (za1 rfl (za1 rfl (za1 rfl (za1 rfl (za1 rfl (za1 rfl (za1 rfl zaJ))))))) (hP.pick [0, 1, 2] rfl rfl)
  ·
   rintro x30 γ31 fr w32 g r hP hD
   have hP : Post No [memR a1g a1, znw b1 ((znu a0)).toArray 25, rowK 3 1 i64 γ31 x30.1] w0 w32 := hP
   refine wsr (za0 γ31 r (fun R => za9 r rfl) rfl fun fr r => za0 γ31 r (fun R => za7 r rfl) rfl fun fr r => wn (wp_ret ?_))
   have hv : x30.1 = res := Option.some.inj hD
   try dsimp only [Exit.then, Exit.inBlock]
   refine zaz (fn := Tryz.f69) r (t := 6) rfl (v := γ31) rfl ?_
   subst hv
   exact ⟨γ31, rfl, (hP.pick [2] rfl rfl).done (zbI rfl zca)⟩
end Go.Proofs.YtjkinpbfmihhdaaGreat
