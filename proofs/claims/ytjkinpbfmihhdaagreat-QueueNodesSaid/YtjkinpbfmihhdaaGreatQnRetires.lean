/- Ours. -/
import Derived.Test.YtjkinpbfmihhdaaGreatQnM4
import Derived.Test.YtjkinpbfmihhdaaGreatQnM8
set_option linter.all false
set_option maxRecDepth 20000
set_option maxHeartbeats 2000000
namespace Go.Proofs.YtjkinpbfmihhdaaGreat
open Go.RowKit
theorem zop : znv Tryz.prog 150 = true := by kernel_rfl
theorem zoB : znv Tryz.prog 164 = true := by kernel_rfl
theorem zoz : znv Tryz.prog 165 = true := by kernel_rfl
theorem zr8 : znv Tryz.prog 267 = true := by kernel_rfl
theorem zrX : znv Tryz.prog 293 = true := by kernel_rfl
theorem zoH : znv Tryz.prog 294 = true := by kernel_rfl
theorem zrj : znv Tryz.prog 322 = true := by kernel_rfl
theorem zrF : znv Tryz.prog 323 = true := by kernel_rfl
theorem zqr : znv Tryz.prog 324 = true := by kernel_rfl
theorem zqe : znv Tryz.prog 338 = true := by kernel_rfl
theorem zs4 : znv Tryz.prog 339 = true := by kernel_rfl
theorem zs1 : znv Tryz.prog 340 = true := by kernel_rfl
theorem zqF : znv Tryz.prog 341 = true := by kernel_rfl
theorem zse : znv Tryz.prog 342 = true := by kernel_rfl
theorem zs5 : znv Tryz.prog 356 = true := by kernel_rfl
theorem zqV : znv Tryz.prog 358 = true := by kernel_rfl
theorem zrS : znv Tryz.prog 359 = true := by kernel_rfl
theorem zsh : znv Tryz.prog 360 = true := by kernel_rfl
theorem zrW : znv Tryz.prog 378 = true := by kernel_rfl
theorem zpz : znv Tryz.prog 390 = true := by kernel_rfl
theorem zqR : znv Tryz.prog 391 = true := by kernel_rfl
theorem zrC : znv Tryz.prog 392 = true := by kernel_rfl
theorem zro : znv Tryz.prog 393 = true := by kernel_rfl
theorem cl67 : znv Tryz.prog 67 = true := by kernel_rfl
theorem cl68 : znv Tryz.prog 68 = true := by kernel_rfl
theorem cl91 : znv Tryz.prog 91 = true := by kernel_rfl
theorem zhY : znH Tryz.prog 300 0 0 = true := by kernel_rfl
theorem zlE : znH Tryz.prog 300 1 1 = true := by kernel_rfl
theorem zkC : znH Tryz.prog 300 2 2 = true := by kernel_rfl
theorem zoU : tyA Tryz.prog 300 3 = true := by kernel_rfl
theorem zqB : sized Tryz.prog 257 1 = true := by kernel_rfl
theorem zrQ : sized Tryz.prog 300 3 = true := by kernel_rfl
theorem zsl : zeroOf Tryz.prog 257 = some .nilFunc := by kernel_rfl
theorem zqH : zeroOf Tryz.prog 300 = some (.agg (znZ (⟨0, 0, 0⟩ : Scan)).toArray) := by kernel_rfl
def D.zfD (r_retire_zero : Plan → Int → Int → (Unit → T Int) → T Int) (c0 : Plan) (c1 : Int) (c2 : Int) (c3 : (Unit → T Int)) : T Int := (r_retire_zero c0 c1 (IntKind.i64.wrap (c2 + 1)) c3)
def D.zbn (r_retire_zero : Plan → Int → Int → (Unit → T Int) → T Int) (a0 : Plan) (a1 : Int) (a2 : Int) (a3 : (Unit → T Int)) : T Int := (bif (a2 == 3) then (a3 ()) else (D.zbe (D.zaw a0 a1 a2) 0 (fun _ => (D.zfD r_retire_zero a0 a1 a2 a3))))
def D.zc5 : Nat → Plan → Int → Int → (Unit → T Int) → T Int
  | 0, _, _, _, _ => .cut
  | k + 1, a0, a1, a2, a3 => D.zbn (D.zc5 k) a0 a1 a2 a3
def zey (r : Plan → Int → Int → (Unit → T Int) → T Int) (n : Nat) : Prop := ∀ (F : Nat → Prop) (w0 : World), (∀ b, F b → b < w0.heap.size) → ∀ (a0 : Plan) (a1 : Int) (a2 : Int) {a3f : FuncId} {a3_1 a3_2 : List Value} {a3 : (Unit → T Int)} (a3n : FnT Tryz.prog znz unitE (n + 1) F w0 (.func (.func a3f) a3_1.toArray a3_2.toArray) a3), Calls Tryz.prog 338 #[.agg (znu a0).toArray, .int .i64 a1, .int .i64 a2, .func (.func a3f) a3_1.toArray a3_2.toArray] w0 (zny Tryz.prog znz n (r a0 a1 a2 a3) F w0)
theorem ziW {n : Nat} {F : Nat → Prop} {r_retire_zero : Plan → Int → Int → (Unit → T Int) → T Int} {w0 : World} (hF : ∀ b, F b → b < w0.heap.size) (ih_retire_zero : ∀ m, m ≤ n → zey r_retire_zero m)
    (c0 : Plan) {c0b : Nat} (c0F : F c0b) (c0h : w0.heap[c0b]? = some (.cells ((znu c0)).toArray 25 (0, 0))) (c1 : Int) {c1b : Nat} (c1F : F c1b) (c1h : w0.heap[c1b]? = some (.cells ([(.int .i64 c1)]).toArray 3 (0, 0))) (c2 : Int) {c2b : Nat} (c2F : F c2b) (c2h : w0.heap[c2b]? = some (.cells ([(.int .i64 c2)]).toArray 3 (0, 0))) {c3f : FuncId} {c3_1 c3_2 : List Value} {c3 : (Unit → T Int)} {c3b : Nat} (c3F : F c3b) (c3h : w0.heap[c3b]? = some (.cells #[.func (.func c3f) c3_1.toArray c3_2.toArray] 257 (0, 0))) (c3n : FnT Tryz.prog znz unitE (n + 1) F w0 (.func (.func c3f) c3_1.toArray c3_2.toArray) c3) :
    Calls Tryz.prog 378 #[zp c0b, zp c1b, zp c2b, zp c3b] w0 (zny Tryz.prog znz n (D.zfD r_retire_zero c0 c1 c2 c3) F w0) := by
 refine enter Tryz.func378 rfl 11 rfl rfl fun fr r => ?_
 have hB := Below.refl w0.heap.size w0
 have lc0b := lt_of_block c0h
 have lc1b := lt_of_block c1h
 have lc2b := lt_of_block c2h
 have lc3b := lt_of_block c3h
 refine wsr ?_
 refine za5 (.cells (znt false znz.zero 0 0 0 0 .nilFunc) 167 (0, 0)) r (fun R => zag znV) rfl fun fr b1 w2 n3 r => ?_
 obtain ⟨e_b1, z_w2, h_b1, hB, zB⟩ := n3.all hB
 refine wn (wsr (za0 (.agg (znu c0).toArray) r (fun R => za6 r (cs := (znu c0)) (n := 6) rfl (keep hB c0h) ta25 rfl) rfl fun fr r => za0 (I c1) r (fun R => za3 r rfl (keep hB c1h) to3 rfl) rfl fun fr r => za0 (I c2) r (fun R => za3 r rfl (keep hB c2h) to3 rfl) rfl fun fr r => za0 _ r (fun R => znA r rfl rfl rfl rfl) rfl fun fr r => za0 (.func (.func c3f) c3_1.toArray c3_2.toArray) r (fun R => za3 r rfl (keep hB c3h) zoy rfl) rfl fun fr r => ?_))
 have hF1 := znI hF hB b1
 refine za8 r ((ih_retire_zero n (by omega)) (fun b => F b ∨ (w0.heap.size ≤ b ∧ b < w2.heap.size ∧ b ≠ b1)) _ hF1 c0 c1 (W (c2 + 1)) (c3n.mono (by omega) (fun b h => .inl h) (Same.below hB hF) hB.size)) (fun R hc => zac r rfl zqe hc) rfl ?_
 rintro _ w4 ⟨v5, rfl, hb, hr6⟩
 refine ⟨_, rfl, fun fr r => ?_⟩
 have z_w4 := hb.size
 have h_b1 := keep hb h_b1
 obtain ⟨hB, zB⟩ := bon hb hB
 refine zae (.cells v5.cells 167 (0, 0)) r (fun R => zaf r hr6.shape rfl rfl h_b1 znT rfl) rfl fun fr w7 u8 r => ?_
 have z_w7 := u8.size
 have h_b1 := u8.at_
 obtain ⟨hB, zB⟩ := u8.on hB (by omega)
 refine wn (wp_ret ?_)
 have hs := hr6.shape.cells
 refine zad r rfl rfl h_b1 (k := 7) hs.1 znS ?_
 rw [← hs.2.2]
 exact rfin hF hB hr6 u8 (by omega) (by omega) (by omega)
theorem zk0 {n : Nat} {F : Nat → Prop} {r_retire_zero : Plan → Int → Int → (Unit → T Int) → T Int} {w0 : World} (hF : ∀ b, F b → b < w0.heap.size) (ih_retire_zero : ∀ m, m < n → zey r_retire_zero m)
    (a0 : Plan) (a1 : Int) (a2 : Int) {a3f : FuncId} {a3_1 a3_2 : List Value} {a3 : (Unit → T Int)} (a3n : FnT Tryz.prog znz unitE (n + 1) F w0 (.func (.func a3f) a3_1.toArray a3_2.toArray) a3) :
    Calls Tryz.prog 338 #[.agg (znu a0).toArray, .int .i64 a1, .int .i64 a2, .func (.func a3f) a3_1.toArray a3_2.toArray] w0 (zny Tryz.prog znz n (D.zbn r_retire_zero a0 a1 a2 a3) F w0) := by
 refine enter Tryz.func338 rfl 19 rfl rfl fun fr r => ?_
 have hB := Below.refl w0.heap.size w0
 refine wsr ?_
 refine za5 (.cells ((znu a0)).toArray 25 (0, 0)) r (fun R => znF r (v := (.agg (znu a0).toArray)) rfl) rfl fun fr b1 w2 n3 r => ?_
 obtain ⟨e_b1, z_w2, h_b1, hB, zB⟩ := n3.all hB
 refine za5 (.cells #[(I a1)] 3 (0, 0)) r (fun R => znF r (v := (I a1)) rfl) rfl fun fr b4 w5 n6 r => ?_
 have h_b1 := keep n6.below h_b1
 obtain ⟨e_b4, z_w5, h_b4, hB, zB⟩ := n6.all hB
 refine za5 (.cells #[(I a2)] 3 (0, 0)) r (fun R => znF r (v := (I a2)) rfl) rfl fun fr b7 w8 n9 r => ?_
 have h_b1 := keep n9.below h_b1
 have h_b4 := keep n9.below h_b4
 obtain ⟨e_b7, z_w8, h_b7, hB, zB⟩ := n9.all hB
 refine za5 (.cells #[.func (.func a3f) a3_1.toArray a3_2.toArray] 257 (0, 0)) r (fun R => znF r (v := (.func (.func a3f) a3_1.toArray a3_2.toArray)) rfl) rfl fun fr b10 w11 n12 r => ?_
 have h_b1 := keep n12.below h_b1
 have h_b4 := keep n12.below h_b4
 have h_b7 := keep n12.below h_b7
 obtain ⟨e_b10, z_w11, h_b10, hB, zB⟩ := n12.all hB
 refine za5 (.cells (znt false znz.zero 0 0 0 0 .nilFunc) 167 (0, 0)) r (fun R => zag znV) rfl fun fr b13 w14 n15 r => ?_
 have h_b1 := keep n15.below h_b1
 have h_b4 := keep n15.below h_b4
 have h_b7 := keep n15.below h_b7
 have h_b10 := keep n15.below h_b10
 obtain ⟨e_b13, z_w14, h_b13, hB, zB⟩ := n15.all hB
 refine wn (wp_seq (wsr (za0 (I a2) r (fun R => za3 r rfl h_b7 to3 rfl) rfl fun fr r => za0 _ r (fun R => znA r rfl rfl rfl rfl) rfl fun fr r => wn ?_)))
 refine wp_cond_split (t := (a2 == 3)) (r.ev rfl) (fun h16 => ?_) (fun h16 => ?_)
 ·
  refine wsr (za0 (.func (.func a3f) a3_1.toArray a3_2.toArray) r (fun R => za3 r rfl h_b10 zoy rfl) rfl fun fr r => ?_)
  refine za8 r (a3n.at_.2 n (Nat.lt_succ_self n) () w14 (Same.below hB hF) hB.size) (fun R hc => zfF r rfl a3n.at_.1 hc) rfl ?_
  rintro _ w17 ⟨v18, rfl, hb, hr19⟩
  refine ⟨_, rfl, fun fr r => ?_⟩
  have z_w17 := hb.size
  have h_b1 := keep hb h_b1
  have h_b4 := keep hb h_b4
  have h_b7 := keep hb h_b7
  have h_b10 := keep hb h_b10
  have h_b13 := keep hb h_b13
  obtain ⟨hB, zB⟩ := bon hb hB
  refine zae (.cells v18.cells 167 (0, 0)) r (fun R => zaf r hr19.shape rfl rfl h_b13 znT rfl) rfl fun fr w20 u21 r => ?_
  have z_w20 := u21.size
  have h_b1 := u21.keep h_b1 (by omega)
  have h_b4 := u21.keep h_b4 (by omega)
  have h_b7 := u21.keep h_b7 (by omega)
  have h_b10 := u21.keep h_b10 (by omega)
  have h_b13 := u21.at_
  obtain ⟨hB, zB⟩ := u21.on hB (by omega)
  refine wn (wp_ret ?_)
  have hd : D.zbn r_retire_zero a0 a1 a2 a3 = (a3 ()) := (zaq h16).trans (rfl)
  have hs := hr19.shape.cells
  refine zad r rfl rfl h_b13 (k := 7) hs.1 znS ?_
  rw [← hs.2.2, hd]
  exact zny.fin hB hr19 u21 (fun b hb => .inl hb) (fun h => by have := hF _ h; omega) (by omega) (by omega) (by omega)
 ·
  refine wp_skip (wsr (za0 (.agg (znu a0).toArray) r (fun R => za6 r (cs := (znu a0)) (n := 6) rfl h_b1 ta25 rfl) rfl fun fr r => za0 (I a1) r (fun R => za3 r rfl h_b4 to3 rfl) rfl fun fr r => za0 (I a2) r (fun R => za3 r rfl h_b7 to3 rfl) rfl fun fr r => ?_))
  refine za8 r (zbP w14 a0 a1 a2) (fun R hc => zac r rfl zop hc) rfl ?_
  rintro _ w22 ⟨rfl, hb⟩
  refine ⟨_, rfl, fun fr r => ?_⟩
  have z_w22 := hb.size
  have h_b1 := keep hb h_b1
  have h_b4 := keep hb h_b4
  have h_b7 := keep hb h_b7
  have h_b10 := keep hb h_b10
  have h_b13 := keep hb h_b13
  obtain ⟨hB, zB⟩ := bon hb hB
  refine za0 (.func (.func 378) #[] #[zp b1, zp b4, zp b7, zp b10]) r (fun R => zao r rfl) rfl fun fr r => ?_
  have hF1 := znI hF hB b13
  have f23 : ((fun b => F b ∨ (w0.heap.size ≤ b ∧ b < w22.heap.size ∧ b ≠ b13))) b1 := (.inr ⟨by omega, by omega, by omega⟩)
  have f24 : ((fun b => F b ∨ (w0.heap.size ≤ b ∧ b < w22.heap.size ∧ b ≠ b13))) b4 := (.inr ⟨by omega, by omega, by omega⟩)
  have f25 : ((fun b => F b ∨ (w0.heap.size ≤ b ∧ b < w22.heap.size ∧ b ≠ b13))) b7 := (.inr ⟨by omega, by omega, by omega⟩)
  have f26 : ((fun b => F b ∨ (w0.heap.size ≤ b ∧ b < w22.heap.size ∧ b ≠ b13))) b10 := (.inr ⟨by omega, by omega, by omega⟩)
  refine za8 r (zbK (F := (fun b => F b ∨ (w0.heap.size ≤ b ∧ b < w22.heap.size ∧ b ≠ b13))) (n := n) hF1 (D.zaw a0 a1 a2) 0 ⟨378, [], [zp b1, zp b4, zp b7, zp b10], zrW, rfl, fun m hm _ w' hs hz => ziW (fun b hb => Nat.lt_of_lt_of_le (hF1 b hb) hz) (fun m' hm' => ih_retire_zero m' (by omega)) a0 f23 (hs.at_ f23 h_b1) a1 f24 (hs.at_ f24 h_b4) a2 f25 (hs.at_ f25 h_b7) f26 (hs.at_ f26 h_b10) (a3n.mono (by omega) (fun b h => .inl h) ((Same.below hB hF).trans (hs.sub (fun b h => .inl h))) (Nat.le_trans hB.size hz))⟩) (fun R hc => zac r rfl zon hc) rfl ?_
  rintro _ w27 ⟨v28, rfl, hb, hr29⟩
  refine ⟨_, rfl, fun fr r => ?_⟩
  have z_w27 := hb.size
  have h_b1 := keep hb h_b1
  have h_b4 := keep hb h_b4
  have h_b7 := keep hb h_b7
  have h_b10 := keep hb h_b10
  have h_b13 := keep hb h_b13
  obtain ⟨hB, zB⟩ := bon hb hB
  refine zae (.cells v28.cells 167 (0, 0)) r (fun R => zaf r hr29.shape rfl rfl h_b13 znT rfl) rfl fun fr w30 u31 r => ?_
  have z_w30 := u31.size
  have h_b1 := u31.keep h_b1 (by omega)
  have h_b4 := u31.keep h_b4 (by omega)
  have h_b7 := u31.keep h_b7 (by omega)
  have h_b10 := u31.keep h_b10 (by omega)
  have h_b13 := u31.at_
  obtain ⟨hB, zB⟩ := u31.on hB (by omega)
  refine wn (wp_ret ?_)
  have hd : D.zbn r_retire_zero a0 a1 a2 a3 = (D.zbe (D.zaw a0 a1 a2) 0 (fun _ => (D.zfD r_retire_zero a0 a1 a2 a3))) := (zak h16).trans (rfl)
  have hs := hr29.shape.cells
  refine zad r rfl rfl h_b13 (k := 7) hs.1 znS ?_
  rw [← hs.2.2, hd]
  exact rfin hF hB hr29 u31 (by omega) (by omega) (by omega)
theorem zjL {n : Nat} {k : Nat} (hk : n < k) : zey (D.zc5 k) n := by
  induction n using Nat.strongRecOn generalizing k with
  | _ n ih =>
    obtain ⟨k, rfl⟩ : ∃ q, k = q + 1 := ⟨k - 1, by omega⟩
    intro F w0 hF
    have h := @zk0 n F (D.zc5 k) w0 hF (fun m hm => ih m hm (by omega))
    exact h
def D.zbf (j : Nat) (c0 : State) (c1 : Plan) (c2 : Int) : T Int := (bif (c0.mode == 3) then (D.zaY (-1)) else (D.zd5 j c1 c2))
theorem zg2 {n : Nat} {F : Nat → Prop} {j : Nat} {w0 : World} (hF : ∀ b, F b → b < w0.heap.size) (hj : n < j)
    (c0 : State) {c0b : Nat} (c0F : F c0b) (c0h : w0.heap[c0b]? = some (.cells ((znD c0)).toArray 118 (0, 0))) (c1 : Plan) {c1b : Nat} (c1F : F c1b) (c1h : w0.heap[c1b]? = some (.cells ((znu c1)).toArray 25 (0, 0))) (c2 : Int) {c2b : Nat} (c2F : F c2b) (c2h : w0.heap[c2b]? = some (.cells ([(.int .i64 c2)]).toArray 3 (0, 0))) :
    Calls Tryz.prog 342 #[zp c0b, zp c1b, zp c2b] w0 (zny Tryz.prog znz n (D.zbf j c0 c1 c2) F w0) := by
 refine enter Tryz.func342 rfl 11 rfl rfl fun fr r => ?_
 have hB := Below.refl w0.heap.size w0
 have lc0b := lt_of_block c0h
 have lc1b := lt_of_block c1h
 have lc2b := lt_of_block c2h
 refine wsr ?_
 refine za5 (.cells (znt false znz.zero 0 0 0 0 .nilFunc) 167 (0, 0)) r (fun R => zag znV) rfl fun fr b1 w2 n3 r => ?_
 obtain ⟨e_b1, z_w2, h_b1, hB, zB⟩ := n3.all hB
 refine wn (wp_seq (wsr (za0 _ r (fun R => za4 r (o := 0) rfl zi1) rfl fun fr r => za0 (I c0.mode) r (fun R => za3 r rfl (keep hB c0h) to3 rfl) rfl fun fr r => za0 _ r (fun R => znA r rfl rfl rfl rfl) rfl fun fr r => wn ?_)))
 refine wp_cond_split (t := (c0.mode == 3)) (r.ev rfl) (fun h4 => ?_) (fun h4 => ?_)
 ·
  refine wsr ?_
  have hF1 := znI hF hB b1
  refine za8 r (zbm (F := (fun b => F b ∨ (w0.heap.size ≤ b ∧ b < w2.heap.size ∧ b ≠ b1))) (n := n) hF1 (-1)) (fun R hc => zac r rfl zoe hc) rfl ?_
  rintro _ w5 ⟨v6, rfl, hb, hr7⟩
  refine ⟨_, rfl, fun fr r => ?_⟩
  have z_w5 := hb.size
  have h_b1 := keep hb h_b1
  obtain ⟨hB, zB⟩ := bon hb hB
  refine zae (.cells v6.cells 167 (0, 0)) r (fun R => zaf r hr7.shape rfl rfl h_b1 znT rfl) rfl fun fr w8 u9 r => ?_
  have z_w8 := u9.size
  have h_b1 := u9.at_
  obtain ⟨hB, zB⟩ := u9.on hB (by omega)
  refine wn (wp_ret ?_)
  have hd : D.zbf j c0 c1 c2 = (D.zaY (-1)) := (zaq h4).trans (rfl)
  have hs := hr7.shape.cells
  refine zad r rfl rfl h_b1 (k := 7) hs.1 znS ?_
  rw [← hs.2.2, hd]
  exact rfin hF hB hr7 u9 (by omega) (by omega) (by omega)
 ·
  refine wp_skip (wsr (za0 (.agg (znu c1).toArray) r (fun R => za6 r (cs := (znu c1)) (n := 6) rfl (keep hB c1h) ta25 rfl) rfl fun fr r => za0 (I c2) r (fun R => za3 r rfl (keep hB c2h) to3 rfl) rfl fun fr r => ?_))
  have hF1 := znI hF hB b1
  refine za8 r ((zkY (k := j) (n := n) (by omega)) (fun b => F b ∨ (w0.heap.size ≤ b ∧ b < w2.heap.size ∧ b ≠ b1)) _ hF1 c1 c2) (fun R hc => zac r rfl zpW hc) rfl ?_
  rintro _ w10 ⟨v11, rfl, hb, hr12⟩
  refine ⟨_, rfl, fun fr r => ?_⟩
  have z_w10 := hb.size
  have h_b1 := keep hb h_b1
  obtain ⟨hB, zB⟩ := bon hb hB
  refine zae (.cells v11.cells 167 (0, 0)) r (fun R => zaf r hr12.shape rfl rfl h_b1 znT rfl) rfl fun fr w13 u14 r => ?_
  have z_w13 := u14.size
  have h_b1 := u14.at_
  obtain ⟨hB, zB⟩ := u14.on hB (by omega)
  refine wn (wp_ret ?_)
  have hd : D.zbf j c0 c1 c2 = (D.zd5 j c1 c2) := (zak h4).trans (rfl)
  have hs := hr12.shape.cells
  refine zad r rfl rfl h_b1 (k := 7) hs.1 znS ?_
  rw [← hs.2.2, hd]
  exact rfin hF hB hr12 u14 (by omega) (by omega) (by omega)
def D.ze3 (j : Nat) (c0 : Plan) (c1 : Int) (a0 : Int) : T Int := (D.zbe (D.zaH c0 c1) (D.zas (D.zai ((D.zan a0).1) c0.gen)) (fun _ => (D.zbf j (D.zai ((D.zan a0).1) c0.gen) c0 c1)))
theorem zgK {n : Nat} {F : Nat → Prop} {j : Nat} {w0 : World} (hF : ∀ b, F b → b < w0.heap.size) (hj : n < j)
    (c0 : Plan) {c0b : Nat} (c0F : F c0b) (c0h : w0.heap[c0b]? = some (.cells ((znu c0)).toArray 25 (0, 0))) (c1 : Int) {c1b : Nat} (c1F : F c1b) (c1h : w0.heap[c1b]? = some (.cells ([(.int .i64 c1)]).toArray 3 (0, 0))) (a0 : Int) :
    Calls Tryz.prog 340 #[.int .u64 a0, zp c0b, zp c1b] w0 (zny Tryz.prog znz n (D.ze3 j c0 c1 a0) F w0) := by
 refine enter Tryz.func340 rfl 24 rfl rfl fun fr r => ?_
 have hB := Below.refl w0.heap.size w0
 have lc0b := lt_of_block c0h
 have lc1b := lt_of_block c1h
 refine wsr ?_
 refine za5 (.cells (znt false znz.zero 0 0 0 0 .nilFunc) 167 (0, 0)) r (fun R => zag znV) rfl fun fr b1 w2 n3 r => ?_
 obtain ⟨e_b1, z_w2, h_b1, hB, zB⟩ := n3.all hB
 refine wn (wsr (za0 (U a0) r (fun R => za9 r rfl) rfl fun fr r => ?_))
 refine za8 r (zeK w2 a0) (fun R hc => zac r rfl cl67 hc) rfl ?_
 rintro _ w4 ⟨rfl, hb⟩
 refine ⟨_, rfl, fun fr r => ?_⟩
 have z_w4 := hb.size
 have h_b1 := keep hb h_b1
 obtain ⟨hB, zB⟩ := bon hb hB
 refine za0 (.tuple #[(.agg (znD (D.zan a0).1).toArray), (.bool (D.zan a0).2)]) r (fun R => za9 r rfl) rfl fun fr r => za0 (.agg (znD (D.zan a0).1).toArray) r (fun R => zb5 r (vs := #[(.agg (znD (D.zan a0).1).toArray), (.bool (D.zan a0).2)]) rfl rfl) rfl fun fr r => za0 (.bool (D.zan a0).2) r (fun R => zb5 r (vs := #[(.agg (znD (D.zan a0).1).toArray), (.bool (D.zan a0).2)]) rfl rfl) rfl fun fr r => ?_
 refine za5 (.cells ((znD (⟨0, 0, 0⟩ : State))).toArray 118 (0, 0)) r (fun R => zag zoh) rfl fun fr b5 w6 n7 r => ?_
 have h_b1 := keep n7.below h_b1
 obtain ⟨e_b5, z_w6, h_b5, hB, zB⟩ := n7.all hB
 refine zae (.cells ((znD ((D.zan a0).1))).toArray 118 (0, 0)) r (fun R => zaS r (o := 0) (v := (.agg (znD (D.zan a0).1).toArray)) rfl rfl h_b5 zoa (Nat.le_of_ble_eq_true rfl) rfl rfl) rfl fun fr w8 u9 r => ?_
 have z_w8 := u9.size
 have h_b1 := u9.keep h_b1 (by omega)
 have h_b5 := u9.at_
 obtain ⟨hB, zB⟩ := u9.on hB (by omega)
 refine za0 (.bool (D.zan a0).2) r (fun R => za7 r rfl) rfl fun fr r => wn (wsr (za0 (.agg (znD (D.zan a0).1).toArray) r (fun R => za6 r (cs := (znD ((D.zan a0).1))) (n := 3) rfl h_b5 zo8 rfl) rfl fun fr r => za0 _ r (fun R => za4 r (o := 0) rfl zlf) rfl fun fr r => za0 (I c0.gen) r (fun R => za3 r rfl (keep hB c0h) to3 rfl) rfl fun fr r => ?_))
 refine za8 r (zh4 w8 ((D.zan a0).1) c0.gen) (fun R hc => zac r rfl zqF hc) rfl ?_
 rintro _ w10 ⟨rfl, hb⟩
 refine ⟨_, rfl, fun fr r => ?_⟩
 have z_w10 := hb.size
 have h_b1 := keep hb h_b1
 have h_b5 := keep hb h_b5
 obtain ⟨hB, zB⟩ := bon hb hB
 refine za5 (.cells ((znD (⟨0, 0, 0⟩ : State))).toArray 118 (0, 0)) r (fun R => zag zoh) rfl fun fr b11 w12 n13 r => ?_
 have h_b1 := keep n13.below h_b1
 have h_b5 := keep n13.below h_b5
 obtain ⟨e_b11, z_w12, h_b11, hB, zB⟩ := n13.all hB
 refine zae (.cells ((znD (D.zai ((D.zan a0).1) c0.gen))).toArray 118 (0, 0)) r (fun R => zaS r (o := 0) (v := (.agg (znD (D.zai ((D.zan a0).1) c0.gen)).toArray)) rfl rfl h_b11 zoa (Nat.le_of_ble_eq_true rfl) rfl rfl) rfl fun fr w14 u15 r => ?_
 have z_w14 := u15.size
 have h_b1 := u15.keep h_b1 (by omega)
 have h_b5 := u15.keep h_b5 (by omega)
 have h_b11 := u15.at_
 obtain ⟨hB, zB⟩ := u15.on hB (by omega)
 refine wn (wp_seq ?_)
 refine zaI 6 [.val (.agg (znu c0).toArray), .val (I c1), .val (I (D.zaH c0 c1)), .val (.agg (znD (D.zai ((D.zan a0).1) c0.gen)).toArray), .val (U (D.zas (D.zai ((D.zan a0).1) c0.gen))), .val (.func (.func 342) #[] #[zp b11, zp c0b, zp c1b])] mixed r (by kernel_rfl) (za2 (by exact trivial) (za2 (by exact trivial) (za2 (by exact trivial) (za2 (by exact trivial) (za2 (by exact trivial) (za2 (by exact trivial) zaC)))))) ?_ ?_
 ·
  refine ec r (fun _ u _ b d s => za6 s (cs := (znu c0)) (n := 6) rfl (znU hB b c0h) ta25 rfl bz) (ec r (fun _ u _ b d s => za3 s rfl (znU hB b c1h) to3 rfl bz) (ec r (fun fr1 u w' hb' hd r' => zac r' (args := [(.agg (znu c0).toArray), (I c1)]) (lc hd.1 (lc hd.2.1 l0)) cl68 ((zbO _ c0 c1).mono (by rintro _ w2 ⟨rfl, hb2⟩; exact ⟨_, rfl, hb2, rfl⟩))) (ec r (fun _ u _ b d s => za6 s (cs := (znD (D.zai ((D.zan a0).1) c0.gen))) (n := 3) rfl (keep b h_b11) zo8 rfl bz) (ec r (fun fr1 u w' hb' hd r' => zac r' (args := [(.agg (znD (D.zai ((D.zan a0).1) c0.gen)).toArray)]) (lc hd.1 l0) cl91 ((zcm _ (D.zai ((D.zan a0).1) c0.gen)).mono (by rintro _ w2 ⟨rfl, hb2⟩; exact ⟨_, rfl, hb2, rfl⟩))) (ec r (fun _ u _ b d s => zao s (v := (.func (.func 342) #[] #[zp b11, zp c0b, zp c1b])) rfl bz) ?_)))))
  exact zaV
 ·
  intro fr u w16 hb hΦ hne r
  have r := r.congr (sc (hΦ 5 (by decide)) (sc (hΦ 4 (by decide)) (sc (hΦ 3 (by decide)) (sc (hΦ 2 (by decide)) (sc (hΦ 1 (by decide)) (sc (hΦ 0 (by decide)) rfl))))))
  have z_w16 := hb.size
  have h_b1 := keep hb h_b1
  have h_b5 := keep hb h_b5
  have h_b11 := keep hb h_b11
  obtain ⟨hB, zB⟩ := bon hb hB
  have hF1 := znI hF hB b1
  have f17 : ((fun b => F b ∨ (w0.heap.size ≤ b ∧ b < w16.heap.size ∧ b ≠ b1))) b11 := (.inr ⟨by omega, by omega, by omega⟩)
  have f18 : ((fun b => F b ∨ (w0.heap.size ≤ b ∧ b < w16.heap.size ∧ b ≠ b1))) c0b := (.inl c0F)
  have f19 : ((fun b => F b ∨ (w0.heap.size ≤ b ∧ b < w16.heap.size ∧ b ≠ b1))) c1b := (.inl c1F)
  refine za8 r (zbK (F := (fun b => F b ∨ (w0.heap.size ≤ b ∧ b < w16.heap.size ∧ b ≠ b1))) (n := n) hF1 (D.zaH c0 c1) (D.zas (D.zai ((D.zan a0).1) c0.gen)) ⟨342, [], [zp b11, zp c0b, zp c1b], zse, rfl, fun m hm _ w' hs hz => zg2 (j := j) (fun b hb => Nat.lt_of_lt_of_le (hF1 b hb) hz) (by omega) (D.zai ((D.zan a0).1) c0.gen) f17 (hs.at_ f17 h_b11) c0 f18 (hs.at_ f18 (keep hB c0h)) c1 f19 (hs.at_ f19 (keep hB c1h))⟩) (fun R hc => zac r rfl zon hc) rfl ?_
  rintro _ w20 ⟨v21, rfl, hb, hr22⟩
  refine ⟨_, rfl, fun fr r => ?_⟩
  have z_w20 := hb.size
  have h_b1 := keep hb h_b1
  have h_b5 := keep hb h_b5
  have h_b11 := keep hb h_b11
  obtain ⟨hB, zB⟩ := bon hb hB
  refine zae (.cells v21.cells 167 (0, 0)) r (fun R => zaf r hr22.shape rfl rfl h_b1 znT rfl) rfl fun fr w23 u24 r => ?_
  have z_w23 := u24.size
  have h_b5 := u24.keep h_b5 (by omega)
  have h_b11 := u24.keep h_b11 (by omega)
  have h_b1 := u24.at_
  obtain ⟨hB, zB⟩ := u24.on hB (by omega)
  refine wn (wp_ret ?_)
  have hs := hr22.shape.cells
  refine zad r rfl rfl h_b1 (k := 7) hs.1 znS ?_
  rw [← hs.2.2]
  exact rfin hF hB hr22 u24 (by omega) (by omega) (by omega)
def D.zeA (j : Nat) (c0 : Plan) (c1 : Int) : T Int := (D.zb9 (D.zaH c0 c1) (fun x => (D.ze3 j c0 c1 x)))
theorem zhk {n : Nat} {F : Nat → Prop} {j : Nat} {w0 : World} (hF : ∀ b, F b → b < w0.heap.size) (hj : n < j)
    (c0 : Plan) {c0b : Nat} (c0F : F c0b) (c0h : w0.heap[c0b]? = some (.cells ((znu c0)).toArray 25 (0, 0))) (c1 : Int) {c1b : Nat} (c1F : F c1b) (c1h : w0.heap[c1b]? = some (.cells ([(.int .i64 c1)]).toArray 3 (0, 0))) :
    Calls Tryz.prog 339 #[zp c0b, zp c1b] w0 (zny Tryz.prog znz n (D.zeA j c0 c1) F w0) := by
 refine enter Tryz.func339 rfl 8 rfl rfl fun fr r => ?_
 have hB := Below.refl w0.heap.size w0
 have lc0b := lt_of_block c0h
 have lc1b := lt_of_block c1h
 refine wsr ?_
 refine za5 (.cells (znt false znz.zero 0 0 0 0 .nilFunc) 167 (0, 0)) r (fun R => zag znV) rfl fun fr b1 w2 n3 r => ?_
 obtain ⟨e_b1, z_w2, h_b1, hB, zB⟩ := n3.all hB
 refine wn (wsr (za0 (.agg (znu c0).toArray) r (fun R => za6 r (cs := (znu c0)) (n := 6) rfl (keep hB c0h) ta25 rfl) rfl fun fr r => za0 (I c1) r (fun R => za3 r rfl (keep hB c1h) to3 rfl) rfl fun fr r => ?_))
 refine za8 r (zbO w2 c0 c1) (fun R hc => zac r rfl cl68 hc) rfl ?_
 rintro _ w4 ⟨rfl, hb⟩
 refine ⟨_, rfl, fun fr r => ?_⟩
 have z_w4 := hb.size
 have h_b1 := keep hb h_b1
 obtain ⟨hB, zB⟩ := bon hb hB
 refine za0 (.func (.func 340) #[] #[zp c0b, zp c1b]) r (fun R => zao r rfl) rfl fun fr r => ?_
 have hF1 := znI hF hB b1
 have f5 : ((fun b => F b ∨ (w0.heap.size ≤ b ∧ b < w4.heap.size ∧ b ≠ b1))) c0b := (.inl c0F)
 have f6 : ((fun b => F b ∨ (w0.heap.size ≤ b ∧ b < w4.heap.size ∧ b ≠ b1))) c1b := (.inl c1F)
 refine za8 r (zbG (F := (fun b => F b ∨ (w0.heap.size ≤ b ∧ b < w4.heap.size ∧ b ≠ b1))) (n := n) hF1 (D.zaH c0 c1) ⟨340, [], [zp c0b, zp c1b], zs1, rfl, fun m hm x w' hs hz => zgK (j := j) (fun b hb => Nat.lt_of_lt_of_le (hF1 b hb) hz) (by omega) c0 f5 (hs.at_ f5 (keep hB c0h)) c1 f6 (hs.at_ f6 (keep hB c1h)) x⟩) (fun R hc => zac r rfl zoj hc) rfl ?_
 rintro _ w7 ⟨v8, rfl, hb, hr9⟩
 refine ⟨_, rfl, fun fr r => ?_⟩
 have z_w7 := hb.size
 have h_b1 := keep hb h_b1
 obtain ⟨hB, zB⟩ := bon hb hB
 refine zae (.cells v8.cells 167 (0, 0)) r (fun R => zaf r hr9.shape rfl rfl h_b1 znT rfl) rfl fun fr w10 u11 r => ?_
 have z_w10 := u11.size
 have h_b1 := u11.at_
 obtain ⟨hB, zB⟩ := u11.on hB (by omega)
 refine wn (wp_ret ?_)
 have hs := hr9.shape.cells
 refine zad r rfl rfl h_b1 (k := 7) hs.1 znS ?_
 rw [← hs.2.2]
 exact rfin hF hB hr9 u11 (by omega) (by omega) (by omega)
def D.zej (j : Nat) (a0 : Plan) (a1 : Int) : T Int := (D.zc5 j a0 a1 0 (fun _ => (D.zeA j a0 a1)))
theorem zin {n : Nat} {F : Nat → Prop} {j : Nat} {w0 : World} (hF : ∀ b, F b → b < w0.heap.size) (hj : n < j)
    (a0 : Plan) (a1 : Int) :
    Calls Tryz.prog 267 #[.agg (znu a0).toArray, .int .i64 a1] w0 (zny Tryz.prog znz n (D.zej j a0 a1) F w0) := by
 refine enter Tryz.func267 rfl 9 rfl rfl fun fr r => ?_
 have hB := Below.refl w0.heap.size w0
 refine wsr ?_
 refine za5 (.cells ((znu a0)).toArray 25 (0, 0)) r (fun R => znF r (v := (.agg (znu a0).toArray)) rfl) rfl fun fr b1 w2 n3 r => ?_
 obtain ⟨e_b1, z_w2, h_b1, hB, zB⟩ := n3.all hB
 refine za5 (.cells #[(I a1)] 3 (0, 0)) r (fun R => znF r (v := (I a1)) rfl) rfl fun fr b4 w5 n6 r => ?_
 have h_b1 := keep n6.below h_b1
 obtain ⟨e_b4, z_w5, h_b4, hB, zB⟩ := n6.all hB
 refine za5 (.cells (znt false znz.zero 0 0 0 0 .nilFunc) 167 (0, 0)) r (fun R => zag znV) rfl fun fr b7 w8 n9 r => ?_
 have h_b1 := keep n9.below h_b1
 have h_b4 := keep n9.below h_b4
 obtain ⟨e_b7, z_w8, h_b7, hB, zB⟩ := n9.all hB
 refine wn (wsr (za0 (.agg (znu a0).toArray) r (fun R => za6 r (cs := (znu a0)) (n := 6) rfl h_b1 ta25 rfl) rfl fun fr r => za0 (I a1) r (fun R => za3 r rfl h_b4 to3 rfl) rfl fun fr r => za0 (.func (.func 339) #[] #[zp b1, zp b4]) r (fun R => zao r rfl) rfl fun fr r => ?_))
 have hF1 := znI hF hB b7
 have f10 : ((fun b => F b ∨ (w0.heap.size ≤ b ∧ b < w8.heap.size ∧ b ≠ b7))) b1 := (.inr ⟨by omega, by omega, by omega⟩)
 have f11 : ((fun b => F b ∨ (w0.heap.size ≤ b ∧ b < w8.heap.size ∧ b ≠ b7))) b4 := (.inr ⟨by omega, by omega, by omega⟩)
 refine za8 r ((zjL (k := j) (n := n) (by omega)) (fun b => F b ∨ (w0.heap.size ≤ b ∧ b < w8.heap.size ∧ b ≠ b7)) _ hF1 a0 a1 0 ⟨339, [], [zp b1, zp b4], zs4, rfl, fun m hm _ w' hs hz => zhk (j := j) (fun b hb => Nat.lt_of_lt_of_le (hF1 b hb) hz) (by omega) a0 f10 (hs.at_ f10 h_b1) a1 f11 (hs.at_ f11 h_b4)⟩) (fun R hc => zac r rfl zqe hc) rfl ?_
 rintro _ w12 ⟨v13, rfl, hb, hr14⟩
 refine ⟨_, rfl, fun fr r => ?_⟩
 have z_w12 := hb.size
 have h_b1 := keep hb h_b1
 have h_b4 := keep hb h_b4
 have h_b7 := keep hb h_b7
 obtain ⟨hB, zB⟩ := bon hb hB
 refine zae (.cells v13.cells 167 (0, 0)) r (fun R => zaf r hr14.shape rfl rfl h_b7 znT rfl) rfl fun fr w15 u16 r => ?_
 have z_w15 := u16.size
 have h_b1 := u16.keep h_b1 (by omega)
 have h_b4 := u16.keep h_b4 (by omega)
 have h_b7 := u16.at_
 obtain ⟨hB, zB⟩ := u16.on hB (by omega)
 refine wn (wp_ret ?_)
 have hs := hr14.shape.cells
 refine zad r rfl rfl h_b7 (k := 7) hs.1 znS ?_
 rw [← hs.2.2]
 exact rfin hF hB hr14 u16 (by omega) (by omega) (by omega)
def D.zdx (c0 : Plan) (c1 : Int) (c2 : Scan) (c3 : (Unit → T Int)) (a0 : Int) : T Int := (D.zbe (D.zaL c0 c1 c2.at_) a0 c3)
theorem zho {n : Nat} {F : Nat → Prop} {w0 : World} (hF : ∀ b, F b → b < w0.heap.size)
    (c0 : Plan) {c0b : Nat} (c0F : F c0b) (c0h : w0.heap[c0b]? = some (.cells ((znu c0)).toArray 25 (0, 0))) (c1 : Int) {c1b : Nat} (c1F : F c1b) (c1h : w0.heap[c1b]? = some (.cells ([(.int .i64 c1)]).toArray 3 (0, 0))) (c2 : Scan) {c2b : Nat} (c2F : F c2b) (c2h : w0.heap[c2b]? = some (.cells ((znZ c2)).toArray 300 (0, 0))) {c3f : FuncId} {c3_1 c3_2 : List Value} {c3 : (Unit → T Int)} {c3b : Nat} (c3F : F c3b) (c3h : w0.heap[c3b]? = some (.cells #[.func (.func c3f) c3_1.toArray c3_2.toArray] 257 (0, 0))) (c3n : FnT Tryz.prog znz unitE (n + 1) F w0 (.func (.func c3f) c3_1.toArray c3_2.toArray) c3) (a0 : Int) :
    Calls Tryz.prog 393 #[.int .u64 a0, zp c0b, zp c1b, zp c2b, zp c3b] w0 (zny Tryz.prog znz n (D.zdx c0 c1 c2 c3 a0) F w0) := by
 refine enter Tryz.func393 rfl 15 rfl rfl fun fr r => ?_
 have hB := Below.refl w0.heap.size w0
 have lc0b := lt_of_block c0h
 have lc1b := lt_of_block c1h
 have lc2b := lt_of_block c2h
 have lc3b := lt_of_block c3h
 refine wsr ?_
 refine za5 (.cells (znt false znz.zero 0 0 0 0 .nilFunc) 167 (0, 0)) r (fun R => zag znV) rfl fun fr b1 w2 n3 r => ?_
 obtain ⟨e_b1, z_w2, h_b1, hB, zB⟩ := n3.all hB
 refine wn (wp_seq ?_)
 refine zaI 7 [.val (.agg (znu c0).toArray), .val (I c1), .val (zp c2b), .val (I c2.at_), .val (I (D.zaL c0 c1 c2.at_)), .val (U a0), .val (.func (.func c3f) c3_1.toArray c3_2.toArray)] mixed r (by kernel_rfl) (za2 (by exact trivial) (za2 (by exact trivial) (za2 (by exact trivial) (za2 (by exact trivial) (za2 (by exact trivial) (za2 (by exact trivial) (za2 (by exact trivial) zaC))))))) ?_ ?_
 ·
  refine ec r (fun _ u _ b d s => za6 s (cs := (znu c0)) (n := 6) rfl (znU hB b c0h) ta25 rfl bz) (ec r (fun _ u _ b d s => za3 s rfl (znU hB b c1h) to3 rfl bz) (ec r (fun _ u _ b d s => za4 s (b := c2b) (o := 0) rfl zhY bz) (ec r (fun _ u _ b d s => za3 s d.1 (znU hB b c2h) to3 rfl bz) (ec r (fun fr1 u w' hb' hd r' => zac r' (args := [(.agg (znu c0).toArray), (I c1), (I c2.at_)]) (lc hd.1 (lc hd.2.1 (lc hd.2.2.1 l0))) zoz ((zcd _ c0 c1 c2.at_).mono (by rintro _ w2 ⟨rfl, hb2⟩; exact ⟨_, rfl, hb2, rfl⟩))) (ec r (fun _ u _ b d s => za9 s rfl bz) (ec r (fun _ u _ b d s => za3 s rfl (znU hB b c3h) zoy rfl bz) ?_))))))
  exact zaV
 ·
  intro fr u w4 hb hΦ hne r
  have r := r.congr (sc (hΦ 6 (by decide)) (sc (hΦ 5 (by decide)) (sc (hΦ 4 (by decide)) (sc (hΦ 3 (by decide)) (sc (hΦ 2 (by decide)) (sc (hΦ 1 (by decide)) (sc (hΦ 0 (by decide)) rfl)))))))
  have z_w4 := hb.size
  have h_b1 := keep hb h_b1
  obtain ⟨hB, zB⟩ := bon hb hB
  have hF1 := znI hF hB b1
  refine za8 r (zbK (F := (fun b => F b ∨ (w0.heap.size ≤ b ∧ b < w4.heap.size ∧ b ≠ b1))) (n := n) hF1 (D.zaL c0 c1 c2.at_) a0 (c3n.mono (by omega) (fun b h => .inl h) (Same.below hB hF) hB.size)) (fun R hc => zac r rfl zon hc) rfl ?_
  rintro _ w5 ⟨v6, rfl, hb, hr7⟩
  refine ⟨_, rfl, fun fr r => ?_⟩
  have z_w5 := hb.size
  have h_b1 := keep hb h_b1
  obtain ⟨hB, zB⟩ := bon hb hB
  refine zae (.cells v6.cells 167 (0, 0)) r (fun R => zaf r hr7.shape rfl rfl h_b1 znT rfl) rfl fun fr w8 u9 r => ?_
  have z_w8 := u9.size
  have h_b1 := u9.at_
  obtain ⟨hB, zB⟩ := u9.on hB (by omega)
  refine wn (wp_ret ?_)
  have hs := hr7.shape.cells
  refine zad r rfl rfl h_b1 (k := 7) hs.1 znS ?_
  rw [← hs.2.2]
  exact rfin hF hB hr7 u9 (by omega) (by omega) (by omega)
def D.zcw (j : Nat) (r_retire_scanned : Plan → Int → Scan → T Int) (c0 : Plan) (c1 : Int) (c2 : Scan) (c3 : Int) (a0 : Int) : T Int := (r_retire_scanned c0 c1 (⟨(IntKind.i64.wrap (c2.at_ - 1)), c3, (IntKind.i64.wrap (c2.done + 1))⟩ : Scan))
def D.zdT (j : Nat) (r_retire_scanned : Plan → Int → Scan → T Int) (c0 : Plan) (c1 : Int) (c2 : Int) (c3 : Scan) (c4 : Int) : T Int := (T.bind (D.zej j c0 c1) (fun x => (D.zcw j r_retire_scanned c0 c2 c3 c4 x)))
def D.zbz (j : Nat) (r_retire_scanned : Plan → Int → Scan → T Int) (c0 : Plan) (c1 : Int) (c2 : Int) (c3 : Int) (c4 : Scan) : T Int := (D.zbe (D.zaZ c0 c1) (IntKind.u64.wrap c2) (fun _ => (D.zdT j r_retire_scanned c0 c3 c1 c4 c2)))
def D.zcq (j : Nat) (r_retire_scanned : Plan → Int → Scan → T Int) (a0 : Plan) (a1 : Int) (a2 : Scan) (a3 : Int) : T Int := (bif (a2.at_ == (IntKind.i64.wrap (a2.left - 1))) then ((fun _ => (D.zbz j r_retire_scanned a0 a1 (IntKind.i64.wrap (a2.left - 1)) a3 a2)) ()) else (D.zb9 (D.zaL a0 a1 (IntKind.i64.wrap (a2.left - 1))) (fun x => (D.zdx a0 a1 a2 (fun _ => (D.zbz j r_retire_scanned a0 a1 (IntKind.i64.wrap (a2.left - 1)) a3 a2)) x))))
def D.zbh (j : Nat) (r_retire_scanned : Plan → Int → Scan → T Int) (c0 : Plan) (c1 : Int) (c2 : Scan) (c3 : Scan) (c4 : Int) (a0 : Bool) : T Int := (bif a0 then (r_retire_scanned c0 c1 c2) else (D.zcq j r_retire_scanned c0 c1 c3 (IntKind.i64.wrap ((IntKind.i64.wrap c4) - 1))))
def D.zc6 (j : Nat) (r_retire_scanned : Plan → Int → Scan → T Int) (c0 : Plan) (c1 : Int) (c2 : Scan) (c3 : Scan) (a0 : Int) : T Int := (bif (decide (a0 < 1)) then (r_retire_scanned c0 c1 c2) else (bif (decide (a0 > (IntKind.u64.wrap c0.nodes))) then (r_retire_scanned c0 c1 c2) else (T.bind (D.zfG j c0 (IntKind.i64.wrap ((IntKind.i64.wrap a0) - 1))) (fun x => (D.zbh j r_retire_scanned c0 c1 c2 c3 a0 x)))))
def D.zbj (j : Nat) (r_retire_scanned : Plan → Int → Scan → T Int) (a0 : Plan) (a1 : Int) (a2 : Scan) : T Int := (bif (decide (a2.at_ < 0)) then (D.zaY a2.done) else (D.zb9 (D.zaL a0 a1 a2.at_) (fun x => (D.zc6 j r_retire_scanned a0 a1 (⟨(IntKind.i64.wrap (a2.at_ - 1)), a2.left, a2.done⟩ : Scan) a2 x))))
def D.zbd (j : Nat) : Nat → Plan → Int → Scan → T Int
  | 0, _, _, _ => .cut
  | k + 1, a0, a1, a2 => D.zbj j (D.zbd j k) a0 a1 a2
def zbi (r : Plan → Int → Scan → T Int) (n : Nat) : Prop := ∀ (F : Nat → Prop) (w0 : World), (∀ b, F b → b < w0.heap.size) → ∀ (a0 : Plan) (a1 : Int) (a2 : Scan), Calls Tryz.prog 294 #[.agg (znu a0).toArray, .int .i64 a1, .agg (znZ a2).toArray] w0 (zny Tryz.prog znz n (r a0 a1 a2) F w0)
theorem zg7 {n : Nat} {F : Nat → Prop} {j : Nat} {r_retire_scanned : Plan → Int → Scan → T Int} {w0 : World} (hF : ∀ b, F b → b < w0.heap.size) (hj : n < j) (ih_retire_scanned : ∀ m, m ≤ n → zbi r_retire_scanned m)
    (c0 : Plan) {c0b : Nat} (c0F : F c0b) (c0h : w0.heap[c0b]? = some (.cells ((znu c0)).toArray 25 (0, 0))) (c1 : Int) {c1b : Nat} (c1F : F c1b) (c1h : w0.heap[c1b]? = some (.cells ([(.int .i64 c1)]).toArray 3 (0, 0))) (c2 : Scan) {c2b : Nat} (c2F : F c2b) (c2h : w0.heap[c2b]? = some (.cells ((znZ c2)).toArray 300 (0, 0))) (c3 : Int) {c3b : Nat} (c3F : F c3b) (c3h : w0.heap[c3b]? = some (.cells ([(.int .i64 c3)]).toArray 3 (0, 0))) (a0 : Int) :
    Calls Tryz.prog 392 #[.int .i64 a0, zp c0b, zp c1b, zp c2b, zp c3b] w0 (zny Tryz.prog znz n (D.zcw j r_retire_scanned c0 c1 c2 c3 a0) F w0) := by
 refine enter Tryz.func392 rfl 18 rfl rfl fun fr r => ?_
 have hB := Below.refl w0.heap.size w0
 have lc0b := lt_of_block c0h
 have lc1b := lt_of_block c1h
 have lc2b := lt_of_block c2h
 have lc3b := lt_of_block c3h
 refine wsr ?_
 refine za5 (.cells (znt false znz.zero 0 0 0 0 .nilFunc) 167 (0, 0)) r (fun R => zag znV) rfl fun fr b1 w2 n3 r => ?_
 obtain ⟨e_b1, z_w2, h_b1, hB, zB⟩ := n3.all hB
 refine wn (wsr (za0 (.agg (znu c0).toArray) r (fun R => za6 r (cs := (znu c0)) (n := 6) rfl (keep hB c0h) ta25 rfl) rfl fun fr r => za0 (I c1) r (fun R => za3 r rfl (keep hB c1h) to3 rfl) rfl fun fr r => za0 _ r (fun R => za4 r (o := 0) rfl zhY) rfl fun fr r => za0 (I c2.at_) r (fun R => za3 r rfl (keep hB c2h) to3 rfl) rfl fun fr r => za0 _ r (fun R => znA r rfl rfl rfl rfl) rfl fun fr r => za0 (I c3) r (fun R => za3 r rfl (keep hB c3h) to3 rfl) rfl fun fr r => za0 _ r (fun R => za4 r (o := 0) rfl zkC) rfl fun fr r => za0 (I c2.done) r (fun R => za3 r rfl (keep hB c2h) to3 rfl) rfl fun fr r => za0 _ r (fun R => znA r rfl rfl rfl rfl) rfl fun fr r => za0 (.agg (znZ (⟨(W (c2.at_ - 1)), c3, (W (c2.done + 1))⟩ : Scan)).toArray) r (fun R => zaQ r (by kernel_rfl)) rfl fun fr r => ?_))
 have hF1 := znI hF hB b1
 refine za8 r ((ih_retire_scanned n (by omega)) (fun b => F b ∨ (w0.heap.size ≤ b ∧ b < w2.heap.size ∧ b ≠ b1)) _ hF1 c0 c1 (⟨(W (c2.at_ - 1)), c3, (W (c2.done + 1))⟩ : Scan)) (fun R hc => zac r rfl zoH hc) rfl ?_
 rintro _ w4 ⟨v5, rfl, hb, hr6⟩
 refine ⟨_, rfl, fun fr r => ?_⟩
 have z_w4 := hb.size
 have h_b1 := keep hb h_b1
 obtain ⟨hB, zB⟩ := bon hb hB
 refine zae (.cells v5.cells 167 (0, 0)) r (fun R => zaf r hr6.shape rfl rfl h_b1 znT rfl) rfl fun fr w7 u8 r => ?_
 have z_w7 := u8.size
 have h_b1 := u8.at_
 obtain ⟨hB, zB⟩ := u8.on hB (by omega)
 refine wn (wp_ret ?_)
 have hs := hr6.shape.cells
 refine zad r rfl rfl h_b1 (k := 7) hs.1 znS ?_
 rw [← hs.2.2]
 exact rfin hF hB hr6 u8 (by omega) (by omega) (by omega)
theorem zgJ {n : Nat} {F : Nat → Prop} {j : Nat} {r_retire_scanned : Plan → Int → Scan → T Int} {w0 : World} (hF : ∀ b, F b → b < w0.heap.size) (hj : n < j) (ih_retire_scanned : ∀ m, m < n → zbi r_retire_scanned m)
    (c0 : Plan) {c0b : Nat} (c0F : F c0b) (c0h : w0.heap[c0b]? = some (.cells ((znu c0)).toArray 25 (0, 0))) (c1 : Int) {c1b : Nat} (c1F : F c1b) (c1h : w0.heap[c1b]? = some (.cells ([(.int .i64 c1)]).toArray 3 (0, 0))) (c2 : Int) {c2b : Nat} (c2F : F c2b) (c2h : w0.heap[c2b]? = some (.cells ([(.int .i64 c2)]).toArray 3 (0, 0))) (c3 : Scan) {c3b : Nat} (c3F : F c3b) (c3h : w0.heap[c3b]? = some (.cells ((znZ c3)).toArray 300 (0, 0))) (c4 : Int) {c4b : Nat} (c4F : F c4b) (c4h : w0.heap[c4b]? = some (.cells ([(.int .i64 c4)]).toArray 3 (0, 0))) :
    Calls Tryz.prog 391 #[zp c0b, zp c1b, zp c2b, zp c3b, zp c4b] w0 (zny Tryz.prog znz n (D.zdT j r_retire_scanned c0 c1 c2 c3 c4) F w0) := by
 refine enter Tryz.func391 rfl 11 rfl rfl fun fr r => ?_
 have hB := Below.refl w0.heap.size w0
 have lc0b := lt_of_block c0h
 have lc1b := lt_of_block c1h
 have lc2b := lt_of_block c2h
 have lc3b := lt_of_block c3h
 have lc4b := lt_of_block c4h
 refine wsr ?_
 refine za5 (.cells (znt false znz.zero 0 0 0 0 .nilFunc) 167 (0, 0)) r (fun R => zag znV) rfl fun fr b1 w2 n3 r => ?_
 obtain ⟨e_b1, z_w2, h_b1, hB, zB⟩ := n3.all hB
 refine wn (wsr (za0 (.agg (znu c0).toArray) r (fun R => za6 r (cs := (znu c0)) (n := 6) rfl (keep hB c0h) ta25 rfl) rfl fun fr r => za0 (I c1) r (fun R => za3 r rfl (keep hB c1h) to3 rfl) rfl fun fr r => ?_))
 have hF1 := znI hF hB b1
 refine za8 r (zin (j := j) (F := (fun b => F b ∨ (w0.heap.size ≤ b ∧ b < w2.heap.size ∧ b ≠ b1))) (n := n) hF1 (by omega) c0 c1) (fun R hc => zac r rfl zr8 hc) rfl ?_
 rintro _ w4 ⟨v5, rfl, hb, hr6⟩
 refine ⟨_, rfl, fun fr r => ?_⟩
 have z_w4 := hb.size
 have h_b1 := keep hb h_b1
 obtain ⟨hB, zB⟩ := bon hb hB
 refine za0 (.func (.func 392) #[] #[zp c0b, zp c2b, zp c3b, zp c4b]) r (fun R => zao r rfl) rfl fun fr r => ?_
 have hF1 := znI hF hB b1
 have f7 : ((fun b => F b ∨ (w0.heap.size ≤ b ∧ b < w4.heap.size ∧ b ≠ b1))) c0b := (.inl c0F)
 have f8 : ((fun b => F b ∨ (w0.heap.size ≤ b ∧ b < w4.heap.size ∧ b ≠ b1))) c2b := (.inl c2F)
 have f9 : ((fun b => F b ∨ (w0.heap.size ≤ b ∧ b < w4.heap.size ∧ b ≠ b1))) c3b := (.inl c3F)
 have f10 : ((fun b => F b ∨ (w0.heap.size ≤ b ∧ b < w4.heap.size ∧ b ≠ b1))) c4b := (.inl c4F)
 refine za8 r (zg5 (F := (fun b => F b ∨ (w0.heap.size ≤ b ∧ b < w4.heap.size ∧ b ≠ b1))) (n := n) hF1 (Rep.mono (by rintro b (h | h); (rcases h with h | ⟨h1, h2, h3⟩; exact .inl h; exact .inr ⟨h1, by omega, h3⟩); exact .inr ⟨by omega, by omega, by omega⟩) (Same.refl _ _) (by omega) n _ _ hr6) ⟨392, [], [zp c0b, zp c2b, zp c3b, zp c4b], zrC, rfl, fun m hm x w' hs hz => zg7 (j := j) (fun b hb => Nat.lt_of_lt_of_le (hF1 b hb) hz) (by omega) (fun m' hm' => ih_retire_scanned m' (by omega)) c0 f7 (hs.at_ f7 (keep hB c0h)) c2 f8 (hs.at_ f8 (keep hB c2h)) c3 f9 (hs.at_ f9 (keep hB c3h)) c4 f10 (hs.at_ f10 (keep hB c4h)) x⟩ (by first | rfl | (cases j with | zero => omega | succ q => rfl))) (fun R hc => zac r rfl zoK hc) rfl ?_
 rintro _ w11 ⟨v12, rfl, hb, hr13⟩
 refine ⟨_, rfl, fun fr r => ?_⟩
 have z_w11 := hb.size
 have h_b1 := keep hb h_b1
 obtain ⟨hB, zB⟩ := bon hb hB
 refine zae (.cells v12.cells 167 (0, 0)) r (fun R => zaf r hr13.shape rfl rfl h_b1 znT rfl) rfl fun fr w14 u15 r => ?_
 have z_w14 := u15.size
 have h_b1 := u15.at_
 obtain ⟨hB, zB⟩ := u15.on hB (by omega)
 refine wn (wp_ret ?_)
 have hs := hr13.shape.cells
 refine zad r rfl rfl h_b1 (k := 7) hs.1 znS ?_
 rw [← hs.2.2]
 exact rfin hF hB hr13 u15 (by omega) (by omega) (by omega)
theorem zf6 {n : Nat} {F : Nat → Prop} {j : Nat} {r_retire_scanned : Plan → Int → Scan → T Int} {w0 : World} (hF : ∀ b, F b → b < w0.heap.size) (hj : n < j) (ih_retire_scanned : ∀ m, m < n → zbi r_retire_scanned m)
    (c0 : Plan) {c0b : Nat} (c0F : F c0b) (c0h : w0.heap[c0b]? = some (.cells ((znu c0)).toArray 25 (0, 0))) (c1 : Int) {c1b : Nat} (c1F : F c1b) (c1h : w0.heap[c1b]? = some (.cells ([(.int .i64 c1)]).toArray 3 (0, 0))) (c2 : Int) {c2b : Nat} (c2F : F c2b) (c2h : w0.heap[c2b]? = some (.cells ([(.int .i64 c2)]).toArray 3 (0, 0))) (c3 : Int) {c3b : Nat} (c3F : F c3b) (c3h : w0.heap[c3b]? = some (.cells ([(.int .i64 c3)]).toArray 3 (0, 0))) (c4 : Scan) {c4b : Nat} (c4F : F c4b) (c4h : w0.heap[c4b]? = some (.cells ((znZ c4)).toArray 300 (0, 0))) :
    Calls Tryz.prog 390 #[zp c0b, zp c1b, zp c2b, zp c3b, zp c4b] w0 (zny Tryz.prog znz n (D.zbz j r_retire_scanned c0 c1 c2 c3 c4) F w0) := by
 refine enter Tryz.func390 rfl 13 rfl rfl fun fr r => ?_
 have hB := Below.refl w0.heap.size w0
 have lc0b := lt_of_block c0h
 have lc1b := lt_of_block c1h
 have lc2b := lt_of_block c2h
 have lc3b := lt_of_block c3h
 have lc4b := lt_of_block c4h
 refine wsr ?_
 refine za5 (.cells (znt false znz.zero 0 0 0 0 .nilFunc) 167 (0, 0)) r (fun R => zag znV) rfl fun fr b1 w2 n3 r => ?_
 obtain ⟨e_b1, z_w2, h_b1, hB, zB⟩ := n3.all hB
 refine wn (wp_seq ?_)
 refine zaI 6 [.val (.agg (znu c0).toArray), .val (I c1), .val (I (D.zaZ c0 c1)), .val (I c2), .val (U (V c2)), .val (.func (.func 391) #[] #[zp c0b, zp c3b, zp c1b, zp c4b, zp c2b])] mixed r (by kernel_rfl) (za2 (by exact trivial) (za2 (by exact trivial) (za2 (by exact trivial) (za2 (by exact trivial) (za2 (by exact trivial) (za2 (by exact trivial) zaC)))))) ?_ ?_
 ·
  refine ec r (fun _ u _ b d s => za6 s (cs := (znu c0)) (n := 6) rfl (znU hB b c0h) ta25 rfl bz) (ec r (fun _ u _ b d s => za3 s rfl (znU hB b c1h) to3 rfl bz) (ec r (fun fr1 u w' hb' hd r' => zac r' (args := [(.agg (znu c0).toArray), (I c1)]) (lc hd.1 (lc hd.2.1 l0)) zoB ((zcE _ c0 c1).mono (by rintro _ w2 ⟨rfl, hb2⟩; exact ⟨_, rfl, hb2, rfl⟩))) (ec r (fun _ u _ b d s => za3 s rfl (znU hB b c2h) to3 rfl bz) (ec r (fun _ u _ b d s => zb8 s (n := c2) d.1 ti3 ti22 bz) (ec r (fun _ u _ b d s => zao s (v := (.func (.func 391) #[] #[zp c0b, zp c3b, zp c1b, zp c4b, zp c2b])) rfl bz) ?_)))))
  exact zaV
 ·
  intro fr u w4 hb hΦ hne r
  have r := r.congr (sc (hΦ 5 (by decide)) (sc (hΦ 4 (by decide)) (sc (hΦ 3 (by decide)) (sc (hΦ 2 (by decide)) (sc (hΦ 1 (by decide)) (sc (hΦ 0 (by decide)) rfl))))))
  have z_w4 := hb.size
  have h_b1 := keep hb h_b1
  obtain ⟨hB, zB⟩ := bon hb hB
  have hF1 := znI hF hB b1
  have f5 : ((fun b => F b ∨ (w0.heap.size ≤ b ∧ b < w4.heap.size ∧ b ≠ b1))) c0b := (.inl c0F)
  have f6 : ((fun b => F b ∨ (w0.heap.size ≤ b ∧ b < w4.heap.size ∧ b ≠ b1))) c3b := (.inl c3F)
  have f7 : ((fun b => F b ∨ (w0.heap.size ≤ b ∧ b < w4.heap.size ∧ b ≠ b1))) c1b := (.inl c1F)
  have f8 : ((fun b => F b ∨ (w0.heap.size ≤ b ∧ b < w4.heap.size ∧ b ≠ b1))) c4b := (.inl c4F)
  have f9 : ((fun b => F b ∨ (w0.heap.size ≤ b ∧ b < w4.heap.size ∧ b ≠ b1))) c2b := (.inl c2F)
  refine za8 r (zbK (F := (fun b => F b ∨ (w0.heap.size ≤ b ∧ b < w4.heap.size ∧ b ≠ b1))) (n := n) hF1 (D.zaZ c0 c1) (V c2) ⟨391, [], [zp c0b, zp c3b, zp c1b, zp c4b, zp c2b], zqR, rfl, fun m hm _ w' hs hz => zgJ (j := j) (fun b hb => Nat.lt_of_lt_of_le (hF1 b hb) hz) (by omega) (fun m' hm' => ih_retire_scanned m' (by omega)) c0 f5 (hs.at_ f5 (keep hB c0h)) c3 f6 (hs.at_ f6 (keep hB c3h)) c1 f7 (hs.at_ f7 (keep hB c1h)) c4 f8 (hs.at_ f8 (keep hB c4h)) c2 f9 (hs.at_ f9 (keep hB c2h))⟩) (fun R hc => zac r rfl zon hc) rfl ?_
  rintro _ w10 ⟨v11, rfl, hb, hr12⟩
  refine ⟨_, rfl, fun fr r => ?_⟩
  have z_w10 := hb.size
  have h_b1 := keep hb h_b1
  obtain ⟨hB, zB⟩ := bon hb hB
  refine zae (.cells v11.cells 167 (0, 0)) r (fun R => zaf r hr12.shape rfl rfl h_b1 znT rfl) rfl fun fr w13 u14 r => ?_
  have z_w13 := u14.size
  have h_b1 := u14.at_
  obtain ⟨hB, zB⟩ := u14.on hB (by omega)
  refine wn (wp_ret ?_)
  have hs := hr12.shape.cells
  refine zad r rfl rfl h_b1 (k := 7) hs.1 znS ?_
  rw [← hs.2.2]
  exact rfin hF hB hr12 u14 (by omega) (by omega) (by omega)
theorem ziv {n : Nat} {F : Nat → Prop} {j : Nat} {r_retire_scanned : Plan → Int → Scan → T Int} {w0 : World} (hF : ∀ b, F b → b < w0.heap.size) (hj : n < j) (ih_retire_scanned : ∀ m, m < n → zbi r_retire_scanned m)
    (a0 : Plan) (a1 : Int) (a2 : Scan) (a3 : Int) :
    Calls Tryz.prog 360 #[.agg (znu a0).toArray, .int .i64 a1, .agg (znZ a2).toArray, .int .i64 a3] w0 (zny Tryz.prog znz n (D.zcq j r_retire_scanned a0 a1 a2 a3) F w0) := by
 refine enter Tryz.func360 rfl 27 rfl rfl fun fr r => ?_
 have hB := Below.refl w0.heap.size w0
 refine wsr ?_
 refine za5 (.cells ((znu a0)).toArray 25 (0, 0)) r (fun R => znF r (v := (.agg (znu a0).toArray)) rfl) rfl fun fr b1 w2 n3 r => ?_
 obtain ⟨e_b1, z_w2, h_b1, hB, zB⟩ := n3.all hB
 refine za5 (.cells #[(I a1)] 3 (0, 0)) r (fun R => znF r (v := (I a1)) rfl) rfl fun fr b4 w5 n6 r => ?_
 have h_b1 := keep n6.below h_b1
 obtain ⟨e_b4, z_w5, h_b4, hB, zB⟩ := n6.all hB
 refine za5 (.cells ((znZ a2)).toArray 300 (0, 0)) r (fun R => znF r (v := (.agg (znZ a2).toArray)) rfl) rfl fun fr b7 w8 n9 r => ?_
 have h_b1 := keep n9.below h_b1
 have h_b4 := keep n9.below h_b4
 obtain ⟨e_b7, z_w8, h_b7, hB, zB⟩ := n9.all hB
 refine za5 (.cells #[(I a3)] 3 (0, 0)) r (fun R => znF r (v := (I a3)) rfl) rfl fun fr b10 w11 n12 r => ?_
 have h_b1 := keep n12.below h_b1
 have h_b4 := keep n12.below h_b4
 have h_b7 := keep n12.below h_b7
 obtain ⟨e_b10, z_w11, h_b10, hB, zB⟩ := n12.all hB
 refine za5 (.cells (znt false znz.zero 0 0 0 0 .nilFunc) 167 (0, 0)) r (fun R => zag znV) rfl fun fr b13 w14 n15 r => ?_
 have h_b1 := keep n15.below h_b1
 have h_b4 := keep n15.below h_b4
 have h_b7 := keep n15.below h_b7
 have h_b10 := keep n15.below h_b10
 obtain ⟨e_b13, z_w14, h_b13, hB, zB⟩ := n15.all hB
 refine wn (wsr (za0 _ r (fun R => za4 r (o := 0) rfl zlE) rfl fun fr r => za0 (I a2.left) r (fun R => za3 r rfl h_b7 to3 rfl) rfl fun fr r => za0 _ r (fun R => znA r rfl rfl rfl rfl) rfl fun fr r => ?_))
 refine za5 (.cells #[(I 0)] 3 (0, 0)) r (fun R => zag tz3) rfl fun fr b16 w17 n18 r => ?_
 have h_b1 := keep n18.below h_b1
 have h_b4 := keep n18.below h_b4
 have h_b7 := keep n18.below h_b7
 have h_b10 := keep n18.below h_b10
 have h_b13 := keep n18.below h_b13
 obtain ⟨e_b16, z_w17, h_b16, hB, zB⟩ := n18.all hB
 refine zae (.cells #[(I (W (a2.left - 1)))] 3 (0, 0)) r (fun R => zaS r (o := 0) (v := (I (W (a2.left - 1)))) rfl rfl h_b16 ts3 (Nat.le_of_ble_eq_true rfl) rfl rfl) rfl fun fr w19 u20 r => ?_
 have z_w19 := u20.size
 have h_b1 := u20.keep h_b1 (by omega)
 have h_b4 := u20.keep h_b4 (by omega)
 have h_b7 := u20.keep h_b7 (by omega)
 have h_b10 := u20.keep h_b10 (by omega)
 have h_b13 := u20.keep h_b13 (by omega)
 have h_b16 := u20.at_
 obtain ⟨hB, zB⟩ := u20.on hB (by omega)
 refine wn (wsr (za0 (.func (.func 390) #[] #[zp b1, zp b4, zp b16, zp b10, zp b7]) r (fun R => zao r rfl) rfl fun fr r => ?_))
 refine za5 (.cells #[.nilFunc] 257 (0, 0)) r (fun R => zag zsl) rfl fun fr b21 w22 n23 r => ?_
 have h_b1 := keep n23.below h_b1
 have h_b4 := keep n23.below h_b4
 have h_b7 := keep n23.below h_b7
 have h_b10 := keep n23.below h_b10
 have h_b13 := keep n23.below h_b13
 have h_b16 := keep n23.below h_b16
 obtain ⟨e_b21, z_w22, h_b21, hB, zB⟩ := n23.all hB
 refine zae (.cells #[.func (.func 390) #[] #[zp b1, zp b4, zp b16, zp b10, zp b7]] 257 (0, 0)) r (fun R => zaS r (o := 0) (v := (.func (.func 390) #[] #[zp b1, zp b4, zp b16, zp b10, zp b7])) rfl rfl h_b21 zqB (Nat.le_of_ble_eq_true rfl) rfl rfl) rfl fun fr w24 u25 r => ?_
 have z_w24 := u25.size
 have h_b1 := u25.keep h_b1 (by omega)
 have h_b4 := u25.keep h_b4 (by omega)
 have h_b7 := u25.keep h_b7 (by omega)
 have h_b10 := u25.keep h_b10 (by omega)
 have h_b13 := u25.keep h_b13 (by omega)
 have h_b16 := u25.keep h_b16 (by omega)
 have h_b21 := u25.at_
 obtain ⟨hB, zB⟩ := u25.on hB (by omega)
 refine wn (wp_seq (wsr (za0 _ r (fun R => za4 r (o := 0) rfl zhY) rfl fun fr r => za0 (I a2.at_) r (fun R => za3 r rfl h_b7 to3 rfl) rfl fun fr r => za0 (I (W (a2.left - 1))) r (fun R => za3 r rfl h_b16 to3 rfl) rfl fun fr r => za0 _ r (fun R => znA r rfl rfl rfl rfl) rfl fun fr r => wn ?_)))
 refine wp_cond_split (t := (a2.at_ == (W (a2.left - 1)))) (r.ev rfl) (fun h26 => ?_) (fun h26 => ?_)
 ·
  refine wsr (za0 (.func (.func 390) #[] #[zp b1, zp b4, zp b16, zp b10, zp b7]) r (fun R => za3 r rfl h_b21 zoy rfl) rfl fun fr r => ?_)
  have hF1 := znI hF hB b13
  have f27 : ((fun b => F b ∨ (w0.heap.size ≤ b ∧ b < w24.heap.size ∧ b ≠ b13))) b1 := (.inr ⟨by omega, by omega, by omega⟩)
  have f28 : ((fun b => F b ∨ (w0.heap.size ≤ b ∧ b < w24.heap.size ∧ b ≠ b13))) b4 := (.inr ⟨by omega, by omega, by omega⟩)
  have f29 : ((fun b => F b ∨ (w0.heap.size ≤ b ∧ b < w24.heap.size ∧ b ≠ b13))) b16 := (.inr ⟨by omega, by omega, by omega⟩)
  have f30 : ((fun b => F b ∨ (w0.heap.size ≤ b ∧ b < w24.heap.size ∧ b ≠ b13))) b10 := (.inr ⟨by omega, by omega, by omega⟩)
  have f31 : ((fun b => F b ∨ (w0.heap.size ≤ b ∧ b < w24.heap.size ∧ b ≠ b13))) b7 := (.inr ⟨by omega, by omega, by omega⟩)
  have q32 : FnT Tryz.prog znz unitE (n + 1) (fun b => F b ∨ (w0.heap.size ≤ b ∧ b < w24.heap.size ∧ b ≠ b13)) w24 (.func (.func 390) #[] #[zp b1, zp b4, zp b16, zp b10, zp b7]) (fun _ => (D.zbz j r_retire_scanned a0 a1 (W (a2.left - 1)) a3 a2)) := ⟨390, [], [zp b1, zp b4, zp b16, zp b10, zp b7], zpz, rfl, fun m hm _ w' hs hz => zf6 (j := j) (fun b hb => Nat.lt_of_lt_of_le (hF1 b hb) hz) (by omega) (fun m' hm' => ih_retire_scanned m' (by omega)) a0 f27 (hs.at_ f27 h_b1) a1 f28 (hs.at_ f28 h_b4) (W (a2.left - 1)) f29 (hs.at_ f29 h_b16) a3 f30 (hs.at_ f30 h_b10) a2 f31 (hs.at_ f31 h_b7)⟩
  refine za8 r (q32.at_.2 n (Nat.lt_succ_self n) () w24 (Same.refl _ _) (Nat.le_refl _)) (fun R hc => zfF r rfl q32.at_.1 hc) rfl ?_
  rintro _ w33 ⟨v34, rfl, hb, hr35⟩
  refine ⟨_, rfl, fun fr r => ?_⟩
  have z_w33 := hb.size
  have h_b1 := keep hb h_b1
  have h_b4 := keep hb h_b4
  have h_b7 := keep hb h_b7
  have h_b10 := keep hb h_b10
  have h_b13 := keep hb h_b13
  have h_b16 := keep hb h_b16
  have h_b21 := keep hb h_b21
  obtain ⟨hB, zB⟩ := bon hb hB
  refine zae (.cells v34.cells 167 (0, 0)) r (fun R => zaf r hr35.shape rfl rfl h_b13 znT rfl) rfl fun fr w36 u37 r => ?_
  have z_w36 := u37.size
  have h_b1 := u37.keep h_b1 (by omega)
  have h_b4 := u37.keep h_b4 (by omega)
  have h_b7 := u37.keep h_b7 (by omega)
  have h_b10 := u37.keep h_b10 (by omega)
  have h_b16 := u37.keep h_b16 (by omega)
  have h_b21 := u37.keep h_b21 (by omega)
  have h_b13 := u37.at_
  obtain ⟨hB, zB⟩ := u37.on hB (by omega)
  refine wn (wp_ret ?_)
  have hd : D.zcq j r_retire_scanned a0 a1 a2 a3 = ((fun _ => (D.zbz j r_retire_scanned a0 a1 (W (a2.left - 1)) a3 a2)) ()) := (zaq h26).trans (rfl)
  have hs := hr35.shape.cells
  refine zad r rfl rfl h_b13 (k := 7) hs.1 znS ?_
  rw [← hs.2.2, hd]
  exact rfin hF hB hr35 u37 (by omega) (by omega) (by omega)
 ·
  refine wp_skip (wsr (za0 (.agg (znu a0).toArray) r (fun R => za6 r (cs := (znu a0)) (n := 6) rfl h_b1 ta25 rfl) rfl fun fr r => za0 (I a1) r (fun R => za3 r rfl h_b4 to3 rfl) rfl fun fr r => za0 (I (W (a2.left - 1))) r (fun R => za3 r rfl h_b16 to3 rfl) rfl fun fr r => ?_))
  refine za8 r (zcd w24 a0 a1 (W (a2.left - 1))) (fun R hc => zac r rfl zoz hc) rfl ?_
  rintro _ w38 ⟨rfl, hb⟩
  refine ⟨_, rfl, fun fr r => ?_⟩
  have z_w38 := hb.size
  have h_b1 := keep hb h_b1
  have h_b4 := keep hb h_b4
  have h_b7 := keep hb h_b7
  have h_b10 := keep hb h_b10
  have h_b13 := keep hb h_b13
  have h_b16 := keep hb h_b16
  have h_b21 := keep hb h_b21
  obtain ⟨hB, zB⟩ := bon hb hB
  refine za0 (.func (.func 393) #[] #[zp b1, zp b4, zp b7, zp b21]) r (fun R => zao r rfl) rfl fun fr r => ?_
  have hF1 := znI hF hB b13
  have f39 : ((fun b => F b ∨ (w0.heap.size ≤ b ∧ b < w38.heap.size ∧ b ≠ b13))) b1 := (.inr ⟨by omega, by omega, by omega⟩)
  have f40 : ((fun b => F b ∨ (w0.heap.size ≤ b ∧ b < w38.heap.size ∧ b ≠ b13))) b4 := (.inr ⟨by omega, by omega, by omega⟩)
  have f41 : ((fun b => F b ∨ (w0.heap.size ≤ b ∧ b < w38.heap.size ∧ b ≠ b13))) b7 := (.inr ⟨by omega, by omega, by omega⟩)
  have f42 : ((fun b => F b ∨ (w0.heap.size ≤ b ∧ b < w38.heap.size ∧ b ≠ b13))) b21 := (.inr ⟨by omega, by omega, by omega⟩)
  have f44 : ((fun b => F b ∨ (w0.heap.size ≤ b ∧ b < w38.heap.size ∧ b ≠ b13))) b1 := (.inr ⟨by omega, by omega, by omega⟩)
  have f45 : ((fun b => F b ∨ (w0.heap.size ≤ b ∧ b < w38.heap.size ∧ b ≠ b13))) b4 := (.inr ⟨by omega, by omega, by omega⟩)
  have f46 : ((fun b => F b ∨ (w0.heap.size ≤ b ∧ b < w38.heap.size ∧ b ≠ b13))) b16 := (.inr ⟨by omega, by omega, by omega⟩)
  have f47 : ((fun b => F b ∨ (w0.heap.size ≤ b ∧ b < w38.heap.size ∧ b ≠ b13))) b10 := (.inr ⟨by omega, by omega, by omega⟩)
  have f48 : ((fun b => F b ∨ (w0.heap.size ≤ b ∧ b < w38.heap.size ∧ b ≠ b13))) b7 := (.inr ⟨by omega, by omega, by omega⟩)
  have q43 : FnT Tryz.prog znz unitE (n) (fun b => F b ∨ (w0.heap.size ≤ b ∧ b < w38.heap.size ∧ b ≠ b13)) w38 (.func (.func 390) #[] #[zp b1, zp b4, zp b16, zp b10, zp b7]) (fun _ => (D.zbz j r_retire_scanned a0 a1 (W (a2.left - 1)) a3 a2)) := ⟨390, [], [zp b1, zp b4, zp b16, zp b10, zp b7], zpz, rfl, fun m hm _ w' hs hz => zf6 (j := j) (fun b hb => Nat.lt_of_lt_of_le (hF1 b hb) hz) (by omega) (fun m' hm' => ih_retire_scanned m' (by omega)) a0 f44 (hs.at_ f44 h_b1) a1 f45 (hs.at_ f45 h_b4) (W (a2.left - 1)) f46 (hs.at_ f46 h_b16) a3 f47 (hs.at_ f47 h_b10) a2 f48 (hs.at_ f48 h_b7)⟩
  refine za8 r (zbG (F := (fun b => F b ∨ (w0.heap.size ≤ b ∧ b < w38.heap.size ∧ b ≠ b13))) (n := n) hF1 (D.zaL a0 a1 (W (a2.left - 1))) ⟨393, [], [zp b1, zp b4, zp b7, zp b21], zro, rfl, fun m hm x w' hs hz => zho (fun b hb => Nat.lt_of_lt_of_le (hF1 b hb) hz) a0 f39 (hs.at_ f39 h_b1) a1 f40 (hs.at_ f40 h_b4) a2 f41 (hs.at_ f41 h_b7) f42 (hs.at_ f42 h_b21) (q43.mono (by omega) (fun b h => h) hs hz) x⟩) (fun R hc => zac r rfl zoj hc) rfl ?_
  rintro _ w49 ⟨v50, rfl, hb, hr51⟩
  refine ⟨_, rfl, fun fr r => ?_⟩
  have z_w49 := hb.size
  have h_b1 := keep hb h_b1
  have h_b4 := keep hb h_b4
  have h_b7 := keep hb h_b7
  have h_b10 := keep hb h_b10
  have h_b13 := keep hb h_b13
  have h_b16 := keep hb h_b16
  have h_b21 := keep hb h_b21
  obtain ⟨hB, zB⟩ := bon hb hB
  refine zae (.cells v50.cells 167 (0, 0)) r (fun R => zaf r hr51.shape rfl rfl h_b13 znT rfl) rfl fun fr w52 u53 r => ?_
  have z_w52 := u53.size
  have h_b1 := u53.keep h_b1 (by omega)
  have h_b4 := u53.keep h_b4 (by omega)
  have h_b7 := u53.keep h_b7 (by omega)
  have h_b10 := u53.keep h_b10 (by omega)
  have h_b16 := u53.keep h_b16 (by omega)
  have h_b21 := u53.keep h_b21 (by omega)
  have h_b13 := u53.at_
  obtain ⟨hB, zB⟩ := u53.on hB (by omega)
  refine wn (wp_ret ?_)
  have hd : D.zcq j r_retire_scanned a0 a1 a2 a3 = (D.zb9 (D.zaL a0 a1 (W (a2.left - 1))) (fun x => (D.zdx a0 a1 a2 (fun _ => (D.zbz j r_retire_scanned a0 a1 (W (a2.left - 1)) a3 a2)) x))) := (zak h26).trans (rfl)
  have hs := hr51.shape.cells
  refine zad r rfl rfl h_b13 (k := 7) hs.1 znS ?_
  rw [← hs.2.2, hd]
  exact rfin hF hB hr51 u53 (by omega) (by omega) (by omega)
theorem zgL {n : Nat} {F : Nat → Prop} {j : Nat} {r_retire_scanned : Plan → Int → Scan → T Int} {w0 : World} (hF : ∀ b, F b → b < w0.heap.size) (hj : n < j) (ih_retire_scanned : ∀ m, m ≤ n → zbi r_retire_scanned m)
    (c0 : Plan) {c0b : Nat} (c0F : F c0b) (c0h : w0.heap[c0b]? = some (.cells ((znu c0)).toArray 25 (0, 0))) (c1 : Int) {c1b : Nat} (c1F : F c1b) (c1h : w0.heap[c1b]? = some (.cells ([(.int .i64 c1)]).toArray 3 (0, 0))) (c2 : Scan) {c2b : Nat} (c2F : F c2b) (c2h : w0.heap[c2b]? = some (.cells ((znZ c2)).toArray 300 (0, 0))) (c3 : Scan) {c3b : Nat} (c3F : F c3b) (c3h : w0.heap[c3b]? = some (.cells ((znZ c3)).toArray 300 (0, 0))) (c4 : Int) {c4b : Nat} (c4F : F c4b) (c4h : w0.heap[c4b]? = some (.cells ([(.int .u64 c4)]).toArray 22 (0, 0))) (a0 : Bool) :
    Calls Tryz.prog 359 #[.bool a0, zp c0b, zp c1b, zp c2b, zp c3b, zp c4b] w0 (zny Tryz.prog znz n (D.zbh j r_retire_scanned c0 c1 c2 c3 c4 a0) F w0) := by
 refine enter Tryz.func359 rfl 20 rfl rfl fun fr r => ?_
 have hB := Below.refl w0.heap.size w0
 have lc0b := lt_of_block c0h
 have lc1b := lt_of_block c1h
 have lc2b := lt_of_block c2h
 have lc3b := lt_of_block c3h
 have lc4b := lt_of_block c4h
 refine wsr ?_
 refine za5 (.cells (znt false znz.zero 0 0 0 0 .nilFunc) 167 (0, 0)) r (fun R => zag znV) rfl fun fr b1 w2 n3 r => ?_
 obtain ⟨e_b1, z_w2, h_b1, hB, zB⟩ := n3.all hB
 refine wn (wp_seq (wsr (za0 (.bool a0) r (fun R => za9 r rfl) rfl fun fr r => wn ?_)))
 refine wp_cond_split (t := a0) (r.ev rfl) (fun h4 => ?_) (fun h4 => ?_)
 ·
  refine wsr (za0 (.agg (znu c0).toArray) r (fun R => za6 r (cs := (znu c0)) (n := 6) rfl (keep hB c0h) ta25 rfl) rfl fun fr r => za0 (I c1) r (fun R => za3 r rfl (keep hB c1h) to3 rfl) rfl fun fr r => za0 (.agg (znZ c2).toArray) r (fun R => za6 r (cs := (znZ c2)) (n := 3) rfl (keep hB c2h) zoU rfl) rfl fun fr r => ?_)
  have hF1 := znI hF hB b1
  refine za8 r ((ih_retire_scanned n (by omega)) (fun b => F b ∨ (w0.heap.size ≤ b ∧ b < w2.heap.size ∧ b ≠ b1)) _ hF1 c0 c1 c2) (fun R hc => zac r rfl zoH hc) rfl ?_
  rintro _ w5 ⟨v6, rfl, hb, hr7⟩
  refine ⟨_, rfl, fun fr r => ?_⟩
  have z_w5 := hb.size
  have h_b1 := keep hb h_b1
  obtain ⟨hB, zB⟩ := bon hb hB
  refine zae (.cells v6.cells 167 (0, 0)) r (fun R => zaf r hr7.shape rfl rfl h_b1 znT rfl) rfl fun fr w8 u9 r => ?_
  have z_w8 := u9.size
  have h_b1 := u9.at_
  obtain ⟨hB, zB⟩ := u9.on hB (by omega)
  refine wn (wp_ret ?_)
  have hd : D.zbh j r_retire_scanned c0 c1 c2 c3 c4 a0 = (r_retire_scanned c0 c1 c2) := (zaq h4).trans (rfl)
  have hs := hr7.shape.cells
  refine zad r rfl rfl h_b1 (k := 7) hs.1 znS ?_
  rw [← hs.2.2, hd]
  exact rfin hF hB hr7 u9 (by omega) (by omega) (by omega)
 ·
  refine wp_skip (wsr (za0 (.agg (znu c0).toArray) r (fun R => za6 r (cs := (znu c0)) (n := 6) rfl (keep hB c0h) ta25 rfl) rfl fun fr r => za0 (I c1) r (fun R => za3 r rfl (keep hB c1h) to3 rfl) rfl fun fr r => za0 (.agg (znZ c3).toArray) r (fun R => za6 r (cs := (znZ c3)) (n := 3) rfl (keep hB c3h) zoU rfl) rfl fun fr r => za0 (U c4) r (fun R => za3 r rfl (keep hB c4h) to22 rfl) rfl fun fr r => za0 (I (W c4)) r (fun R => zb8 r rfl ti22 ti3) rfl fun fr r => za0 _ r (fun R => znA r rfl rfl rfl rfl) rfl fun fr r => ?_))
  have hF1 := znI hF hB b1
  refine za8 r (ziv (j := j) (F := (fun b => F b ∨ (w0.heap.size ≤ b ∧ b < w2.heap.size ∧ b ≠ b1))) (n := n) hF1 (by omega) (fun m' hm' => ih_retire_scanned m' (by omega)) c0 c1 c3 (W ((W c4) - 1))) (fun R hc => zac r rfl zsh hc) rfl ?_
  rintro _ w10 ⟨v11, rfl, hb, hr12⟩
  refine ⟨_, rfl, fun fr r => ?_⟩
  have z_w10 := hb.size
  have h_b1 := keep hb h_b1
  obtain ⟨hB, zB⟩ := bon hb hB
  refine zae (.cells v11.cells 167 (0, 0)) r (fun R => zaf r hr12.shape rfl rfl h_b1 znT rfl) rfl fun fr w13 u14 r => ?_
  have z_w13 := u14.size
  have h_b1 := u14.at_
  obtain ⟨hB, zB⟩ := u14.on hB (by omega)
  refine wn (wp_ret ?_)
  have hd : D.zbh j r_retire_scanned c0 c1 c2 c3 c4 a0 = (D.zcq j r_retire_scanned c0 c1 c3 (W ((W c4) - 1))) := (zak h4).trans (rfl)
  have hs := hr12.shape.cells
  refine zad r rfl rfl h_b1 (k := 7) hs.1 znS ?_
  rw [← hs.2.2, hd]
  exact rfin hF hB hr12 u14 (by omega) (by omega) (by omega)
theorem zhi {n : Nat} {F : Nat → Prop} {j : Nat} {r_retire_scanned : Plan → Int → Scan → T Int} {w0 : World} (hF : ∀ b, F b → b < w0.heap.size) (hj : n < j) (ih_retire_scanned : ∀ m, m ≤ n → zbi r_retire_scanned m)
    (c0 : Plan) {c0b : Nat} (c0F : F c0b) (c0h : w0.heap[c0b]? = some (.cells ((znu c0)).toArray 25 (0, 0))) (c1 : Int) {c1b : Nat} (c1F : F c1b) (c1h : w0.heap[c1b]? = some (.cells ([(.int .i64 c1)]).toArray 3 (0, 0))) (c2 : Scan) {c2b : Nat} (c2F : F c2b) (c2h : w0.heap[c2b]? = some (.cells ((znZ c2)).toArray 300 (0, 0))) (c3 : Scan) {c3b : Nat} (c3F : F c3b) (c3h : w0.heap[c3b]? = some (.cells ((znZ c3)).toArray 300 (0, 0))) (a0 : Int) :
    Calls Tryz.prog 356 #[.int .u64 a0, zp c0b, zp c1b, zp c2b, zp c3b] w0 (zny Tryz.prog znz n (D.zc6 j r_retire_scanned c0 c1 c2 c3 a0) F w0) := by
 refine enter Tryz.func356 rfl 27 rfl rfl fun fr r => ?_
 have hB := Below.refl w0.heap.size w0
 have lc0b := lt_of_block c0h
 have lc1b := lt_of_block c1h
 have lc2b := lt_of_block c2h
 have lc3b := lt_of_block c3h
 refine wsr ?_
 refine za5 (.cells #[(U a0)] 22 (0, 0)) r (fun R => znF r (v := (U a0)) rfl) rfl fun fr b1 w2 n3 r => ?_
 obtain ⟨e_b1, z_w2, h_b1, hB, zB⟩ := n3.all hB
 refine za5 (.cells (znt false znz.zero 0 0 0 0 .nilFunc) 167 (0, 0)) r (fun R => zag znV) rfl fun fr b4 w5 n6 r => ?_
 have h_b1 := keep n6.below h_b1
 obtain ⟨e_b4, z_w5, h_b4, hB, zB⟩ := n6.all hB
 refine wn (wp_seq (wsr (za0 (U a0) r (fun R => za3 r rfl h_b1 to22 rfl) rfl fun fr r => za0 _ r (fun R => znA r rfl rfl rfl rfl) rfl fun fr r => za0 (.bool (decide (a0 < 1))) r (fun R => za9 r rfl) rfl fun fr r => ?_)))
 refine zaF (decide (a0 < 1)) (fun h7 => ?_) (fun h7 => ?_)
 ·
  refine s0 r h7 fun fr r => s0 r h7 fun fr r => s0 r h7 fun fr r => s0 r h7 fun fr r => s0 r h7 fun fr r => za0 (.bool true) r (fun R => zar r (b := true) (congrArg Value.bool h7) rfl) rfl fun fr r => wn ?_
  refine wp_cond_split (t := true) (r.ev rfl) (fun _ => ?_) (fun h => absurd ((rfl : true = _).symm.trans h) (by decide))
  refine wsr (za0 (.agg (znu c0).toArray) r (fun R => za6 r (cs := (znu c0)) (n := 6) rfl (keep hB c0h) ta25 rfl) rfl fun fr r => za0 (I c1) r (fun R => za3 r rfl (keep hB c1h) to3 rfl) rfl fun fr r => za0 (.agg (znZ c2).toArray) r (fun R => za6 r (cs := (znZ c2)) (n := 3) rfl (keep hB c2h) zoU rfl) rfl fun fr r => ?_)
  have hF1 := znI hF hB b4
  refine za8 r ((ih_retire_scanned n (by omega)) (fun b => F b ∨ (w0.heap.size ≤ b ∧ b < w5.heap.size ∧ b ≠ b4)) _ hF1 c0 c1 c2) (fun R hc => zac r rfl zoH hc) rfl ?_
  rintro _ w8 ⟨v9, rfl, hb, hr10⟩
  refine ⟨_, rfl, fun fr r => ?_⟩
  have z_w8 := hb.size
  have h_b1 := keep hb h_b1
  have h_b4 := keep hb h_b4
  obtain ⟨hB, zB⟩ := bon hb hB
  refine zae (.cells v9.cells 167 (0, 0)) r (fun R => zaf r hr10.shape rfl rfl h_b4 znT rfl) rfl fun fr w11 u12 r => ?_
  have z_w11 := u12.size
  have h_b1 := u12.keep h_b1 (by omega)
  have h_b4 := u12.at_
  obtain ⟨hB, zB⟩ := u12.on hB (by omega)
  refine wn (wp_ret ?_)
  have hd : D.zc6 j r_retire_scanned c0 c1 c2 c3 a0 = (r_retire_scanned c0 c1 c2) := (zaq h7).trans (rfl)
  have hs := hr10.shape.cells
  refine zad r rfl rfl h_b4 (k := 7) hs.1 znS ?_
  rw [← hs.2.2, hd]
  exact rfin hF hB hr10 u12 (by omega) (by omega) (by omega)
 ·
  refine s1 r h7 (za0 (U a0) r (fun R => za3 r rfl h_b1 to22 rfl) rfl fun fr r => s1 r h7 (za0 _ r (fun R => za4 r (o := 0) rfl zeD) rfl fun fr r => s1 r h7 (za0 (I c0.nodes) r (fun R => za3 r rfl (keep hB c0h) to3 rfl) rfl fun fr r => s1 r h7 (za0 (U (V c0.nodes)) r (fun R => zb8 r rfl ti3 ti22) rfl fun fr r => s1 r h7 (za0 _ r (fun R => znA r rfl rfl rfl rfl) rfl fun fr r => za0 (.bool (decide (a0 > (V c0.nodes)))) r (fun R => zar r (b := false) (congrArg Value.bool h7) rfl) rfl fun fr r => wn ?_)))))
  refine wp_cond_split (t := (decide (a0 > (V c0.nodes)))) (r.ev rfl) (fun h13 => ?_) (fun h13 => ?_)
  ·
   refine wsr (za0 (.agg (znu c0).toArray) r (fun R => za6 r (cs := (znu c0)) (n := 6) rfl (keep hB c0h) ta25 rfl) rfl fun fr r => za0 (I c1) r (fun R => za3 r rfl (keep hB c1h) to3 rfl) rfl fun fr r => za0 (.agg (znZ c2).toArray) r (fun R => za6 r (cs := (znZ c2)) (n := 3) rfl (keep hB c2h) zoU rfl) rfl fun fr r => ?_)
   have hF1 := znI hF hB b4
   refine za8 r ((ih_retire_scanned n (by omega)) (fun b => F b ∨ (w0.heap.size ≤ b ∧ b < w5.heap.size ∧ b ≠ b4)) _ hF1 c0 c1 c2) (fun R hc => zac r rfl zoH hc) rfl ?_
   rintro _ w14 ⟨v15, rfl, hb, hr16⟩
   refine ⟨_, rfl, fun fr r => ?_⟩
   have z_w14 := hb.size
   have h_b1 := keep hb h_b1
   have h_b4 := keep hb h_b4
   obtain ⟨hB, zB⟩ := bon hb hB
   refine zae (.cells v15.cells 167 (0, 0)) r (fun R => zaf r hr16.shape rfl rfl h_b4 znT rfl) rfl fun fr w17 u18 r => ?_
   have z_w17 := u18.size
   have h_b1 := u18.keep h_b1 (by omega)
   have h_b4 := u18.at_
   obtain ⟨hB, zB⟩ := u18.on hB (by omega)
   refine wn (wp_ret ?_)
   have hd : D.zc6 j r_retire_scanned c0 c1 c2 c3 a0 = (r_retire_scanned c0 c1 c2) := (zak h7).trans ((zaq h13).trans (rfl))
   have hs := hr16.shape.cells
   refine zad r rfl rfl h_b4 (k := 7) hs.1 znS ?_
   rw [← hs.2.2, hd]
   exact rfin hF hB hr16 u18 (by omega) (by omega) (by omega)
  ·
   refine wp_skip (wsr (za0 (.agg (znu c0).toArray) r (fun R => za6 r (cs := (znu c0)) (n := 6) rfl (keep hB c0h) ta25 rfl) rfl fun fr r => za0 (U a0) r (fun R => za3 r rfl h_b1 to22 rfl) rfl fun fr r => za0 (I (W a0)) r (fun R => zb8 r rfl ti22 ti3) rfl fun fr r => za0 _ r (fun R => znA r rfl rfl rfl rfl) rfl fun fr r => ?_))
   have hF1 := znI hF hB b4
   refine za8 r (zjX (j := j) (F := (fun b => F b ∨ (w0.heap.size ≤ b ∧ b < w5.heap.size ∧ b ≠ b4))) (n := n) hF1 (by omega) c0 (W ((W a0) - 1))) (fun R hc => zac r rfl zqV hc) rfl ?_
   rintro _ w19 ⟨v20, rfl, hb, hr21⟩
   refine ⟨_, rfl, fun fr r => ?_⟩
   have z_w19 := hb.size
   have h_b1 := keep hb h_b1
   have h_b4 := keep hb h_b4
   obtain ⟨hB, zB⟩ := bon hb hB
   refine za0 (.func (.func 359) #[] #[zp c0b, zp c1b, zp c2b, zp c3b, zp b1]) r (fun R => zao r rfl) rfl fun fr r => ?_
   have hF1 := znI hF hB b4
   have f22 : ((fun b => F b ∨ (w0.heap.size ≤ b ∧ b < w19.heap.size ∧ b ≠ b4))) c0b := (.inl c0F)
   have f23 : ((fun b => F b ∨ (w0.heap.size ≤ b ∧ b < w19.heap.size ∧ b ≠ b4))) c1b := (.inl c1F)
   have f24 : ((fun b => F b ∨ (w0.heap.size ≤ b ∧ b < w19.heap.size ∧ b ≠ b4))) c2b := (.inl c2F)
   have f25 : ((fun b => F b ∨ (w0.heap.size ≤ b ∧ b < w19.heap.size ∧ b ≠ b4))) c3b := (.inl c3F)
   have f26 : ((fun b => F b ∨ (w0.heap.size ≤ b ∧ b < w19.heap.size ∧ b ≠ b4))) b1 := (.inr ⟨by omega, by omega, by omega⟩)
   refine za8 r (zfH (F := (fun b => F b ∨ (w0.heap.size ≤ b ∧ b < w19.heap.size ∧ b ≠ b4))) (n := n) hF1 (Rep.mono (by rintro b (h | h); (rcases h with h | ⟨h1, h2, h3⟩; exact .inl h; exact .inr ⟨h1, by omega, h3⟩); exact .inr ⟨by omega, by omega, by omega⟩) (Same.refl _ _) (by omega) n _ _ hr21) ⟨359, [], [zp c0b, zp c1b, zp c2b, zp c3b, zp b1], zrS, rfl, fun m hm x w' hs hz => zgL (j := j) (fun b hb => Nat.lt_of_lt_of_le (hF1 b hb) hz) (by omega) (fun m' hm' => ih_retire_scanned m' (by omega)) c0 f22 (hs.at_ f22 (keep hB c0h)) c1 f23 (hs.at_ f23 (keep hB c1h)) c2 f24 (hs.at_ f24 (keep hB c2h)) c3 f25 (hs.at_ f25 (keep hB c3h)) a0 f26 (hs.at_ f26 h_b1) x⟩) (fun R hc => zac r rfl zpF hc) rfl ?_
   rintro _ w27 ⟨v28, rfl, hb, hr29⟩
   refine ⟨_, rfl, fun fr r => ?_⟩
   have z_w27 := hb.size
   have h_b1 := keep hb h_b1
   have h_b4 := keep hb h_b4
   obtain ⟨hB, zB⟩ := bon hb hB
   refine zae (.cells v28.cells 167 (0, 0)) r (fun R => zaf r hr29.shape rfl rfl h_b4 znT rfl) rfl fun fr w30 u31 r => ?_
   have z_w30 := u31.size
   have h_b1 := u31.keep h_b1 (by omega)
   have h_b4 := u31.at_
   obtain ⟨hB, zB⟩ := u31.on hB (by omega)
   refine wn (wp_ret ?_)
   have hd : D.zc6 j r_retire_scanned c0 c1 c2 c3 a0 = (T.bind (D.zfG j c0 (W ((W a0) - 1))) (fun x => (D.zbh j r_retire_scanned c0 c1 c2 c3 a0 x))) := (zak h7).trans ((zak h13).trans (rfl))
   have hs := hr29.shape.cells
   refine zad r rfl rfl h_b4 (k := 7) hs.1 znS ?_
   rw [← hs.2.2, hd]
   exact rfin hF hB hr29 u31 (by omega) (by omega) (by omega)
theorem ziu {n : Nat} {F : Nat → Prop} {j : Nat} {r_retire_scanned : Plan → Int → Scan → T Int} {w0 : World} (hF : ∀ b, F b → b < w0.heap.size) (hj : n < j) (ih_retire_scanned : ∀ m, m < n → zbi r_retire_scanned m)
    (a0 : Plan) (a1 : Int) (a2 : Scan) :
    Calls Tryz.prog 294 #[.agg (znu a0).toArray, .int .i64 a1, .agg (znZ a2).toArray] w0 (zny Tryz.prog znz n (D.zbj j r_retire_scanned a0 a1 a2) F w0) := by
 refine enter Tryz.func294 rfl 29 rfl rfl fun fr r => ?_
 have hB := Below.refl w0.heap.size w0
 refine wsr ?_
 refine za5 (.cells ((znu a0)).toArray 25 (0, 0)) r (fun R => znF r (v := (.agg (znu a0).toArray)) rfl) rfl fun fr b1 w2 n3 r => ?_
 obtain ⟨e_b1, z_w2, h_b1, hB, zB⟩ := n3.all hB
 refine za5 (.cells #[(I a1)] 3 (0, 0)) r (fun R => znF r (v := (I a1)) rfl) rfl fun fr b4 w5 n6 r => ?_
 have h_b1 := keep n6.below h_b1
 obtain ⟨e_b4, z_w5, h_b4, hB, zB⟩ := n6.all hB
 refine za5 (.cells ((znZ a2)).toArray 300 (0, 0)) r (fun R => znF r (v := (.agg (znZ a2).toArray)) rfl) rfl fun fr b7 w8 n9 r => ?_
 have h_b1 := keep n9.below h_b1
 have h_b4 := keep n9.below h_b4
 obtain ⟨e_b7, z_w8, h_b7, hB, zB⟩ := n9.all hB
 refine za5 (.cells (znt false znz.zero 0 0 0 0 .nilFunc) 167 (0, 0)) r (fun R => zag znV) rfl fun fr b10 w11 n12 r => ?_
 have h_b1 := keep n12.below h_b1
 have h_b4 := keep n12.below h_b4
 have h_b7 := keep n12.below h_b7
 obtain ⟨e_b10, z_w11, h_b10, hB, zB⟩ := n12.all hB
 refine wn (wp_seq (wsr (za0 _ r (fun R => za4 r (o := 0) rfl zhY) rfl fun fr r => za0 (I a2.at_) r (fun R => za3 r rfl h_b7 to3 rfl) rfl fun fr r => za0 _ r (fun R => znA r rfl rfl rfl rfl) rfl fun fr r => wn ?_)))
 refine wp_cond_split (t := (decide (a2.at_ < 0))) (r.ev rfl) (fun h13 => ?_) (fun h13 => ?_)
 ·
  refine wsr (za0 _ r (fun R => za4 r (o := 0) rfl zkC) rfl fun fr r => za0 (I a2.done) r (fun R => za3 r rfl h_b7 to3 rfl) rfl fun fr r => ?_)
  have hF1 := znI hF hB b10
  refine za8 r (zbm (F := (fun b => F b ∨ (w0.heap.size ≤ b ∧ b < w11.heap.size ∧ b ≠ b10))) (n := n) hF1 a2.done) (fun R hc => zac r rfl zoe hc) rfl ?_
  rintro _ w14 ⟨v15, rfl, hb, hr16⟩
  refine ⟨_, rfl, fun fr r => ?_⟩
  have z_w14 := hb.size
  have h_b1 := keep hb h_b1
  have h_b4 := keep hb h_b4
  have h_b7 := keep hb h_b7
  have h_b10 := keep hb h_b10
  obtain ⟨hB, zB⟩ := bon hb hB
  refine zae (.cells v15.cells 167 (0, 0)) r (fun R => zaf r hr16.shape rfl rfl h_b10 znT rfl) rfl fun fr w17 u18 r => ?_
  have z_w17 := u18.size
  have h_b1 := u18.keep h_b1 (by omega)
  have h_b4 := u18.keep h_b4 (by omega)
  have h_b7 := u18.keep h_b7 (by omega)
  have h_b10 := u18.at_
  obtain ⟨hB, zB⟩ := u18.on hB (by omega)
  refine wn (wp_ret ?_)
  have hd : D.zbj j r_retire_scanned a0 a1 a2 = (D.zaY a2.done) := (zaq h13).trans (rfl)
  have hs := hr16.shape.cells
  refine zad r rfl rfl h_b10 (k := 7) hs.1 znS ?_
  rw [← hs.2.2, hd]
  exact rfin hF hB hr16 u18 (by omega) (by omega) (by omega)
 ·
  refine wp_skip (wsr (za0 _ r (fun R => za4 r (o := 0) rfl zhY) rfl fun fr r => za0 (I a2.at_) r (fun R => za3 r rfl h_b7 to3 rfl) rfl fun fr r => za0 _ r (fun R => znA r rfl rfl rfl rfl) rfl fun fr r => za0 _ r (fun R => za4 r (o := 0) rfl zlE) rfl fun fr r => za0 (I a2.left) r (fun R => za3 r rfl h_b7 to3 rfl) rfl fun fr r => za0 _ r (fun R => za4 r (o := 0) rfl zkC) rfl fun fr r => za0 (I a2.done) r (fun R => za3 r rfl h_b7 to3 rfl) rfl fun fr r => za0 (.agg (znZ (⟨(W (a2.at_ - 1)), a2.left, a2.done⟩ : Scan)).toArray) r (fun R => zaQ r (by kernel_rfl)) rfl fun fr r => ?_))
  refine za5 (.cells ((znZ (⟨0, 0, 0⟩ : Scan))).toArray 300 (0, 0)) r (fun R => zag zqH) rfl fun fr b19 w20 n21 r => ?_
  have h_b1 := keep n21.below h_b1
  have h_b4 := keep n21.below h_b4
  have h_b7 := keep n21.below h_b7
  have h_b10 := keep n21.below h_b10
  obtain ⟨e_b19, z_w20, h_b19, hB, zB⟩ := n21.all hB
  refine zae (.cells ((znZ (⟨(W (a2.at_ - 1)), a2.left, a2.done⟩ : Scan))).toArray 300 (0, 0)) r (fun R => zaS r (o := 0) (v := (.agg (znZ (⟨(W (a2.at_ - 1)), a2.left, a2.done⟩ : Scan)).toArray)) rfl rfl h_b19 zrQ (Nat.le_of_ble_eq_true rfl) rfl rfl) rfl fun fr w22 u23 r => ?_
  have z_w22 := u23.size
  have h_b1 := u23.keep h_b1 (by omega)
  have h_b4 := u23.keep h_b4 (by omega)
  have h_b7 := u23.keep h_b7 (by omega)
  have h_b10 := u23.keep h_b10 (by omega)
  have h_b19 := u23.at_
  obtain ⟨hB, zB⟩ := u23.on hB (by omega)
  refine wn (wsr (za0 (.agg (znu a0).toArray) r (fun R => za6 r (cs := (znu a0)) (n := 6) rfl h_b1 ta25 rfl) rfl fun fr r => za0 (I a1) r (fun R => za3 r rfl h_b4 to3 rfl) rfl fun fr r => za0 _ r (fun R => za4 r (o := 0) rfl zhY) rfl fun fr r => za0 (I a2.at_) r (fun R => za3 r rfl h_b7 to3 rfl) rfl fun fr r => ?_))
  refine za8 r (zcd w22 a0 a1 a2.at_) (fun R hc => zac r rfl zoz hc) rfl ?_
  rintro _ w24 ⟨rfl, hb⟩
  refine ⟨_, rfl, fun fr r => ?_⟩
  have z_w24 := hb.size
  have h_b1 := keep hb h_b1
  have h_b4 := keep hb h_b4
  have h_b7 := keep hb h_b7
  have h_b10 := keep hb h_b10
  have h_b19 := keep hb h_b19
  obtain ⟨hB, zB⟩ := bon hb hB
  refine za0 (.func (.func 356) #[] #[zp b1, zp b4, zp b19, zp b7]) r (fun R => zao r rfl) rfl fun fr r => ?_
  have hF1 := znI hF hB b10
  have f25 : ((fun b => F b ∨ (w0.heap.size ≤ b ∧ b < w24.heap.size ∧ b ≠ b10))) b1 := (.inr ⟨by omega, by omega, by omega⟩)
  have f26 : ((fun b => F b ∨ (w0.heap.size ≤ b ∧ b < w24.heap.size ∧ b ≠ b10))) b4 := (.inr ⟨by omega, by omega, by omega⟩)
  have f27 : ((fun b => F b ∨ (w0.heap.size ≤ b ∧ b < w24.heap.size ∧ b ≠ b10))) b19 := (.inr ⟨by omega, by omega, by omega⟩)
  have f28 : ((fun b => F b ∨ (w0.heap.size ≤ b ∧ b < w24.heap.size ∧ b ≠ b10))) b7 := (.inr ⟨by omega, by omega, by omega⟩)
  refine za8 r (zbG (F := (fun b => F b ∨ (w0.heap.size ≤ b ∧ b < w24.heap.size ∧ b ≠ b10))) (n := n) hF1 (D.zaL a0 a1 a2.at_) ⟨356, [], [zp b1, zp b4, zp b19, zp b7], zs5, rfl, fun m hm x w' hs hz => zhi (j := j) (fun b hb => Nat.lt_of_lt_of_le (hF1 b hb) hz) (by omega) (fun m' hm' => ih_retire_scanned m' (by omega)) a0 f25 (hs.at_ f25 h_b1) a1 f26 (hs.at_ f26 h_b4) (⟨(W (a2.at_ - 1)), a2.left, a2.done⟩ : Scan) f27 (hs.at_ f27 h_b19) a2 f28 (hs.at_ f28 h_b7) x⟩) (fun R hc => zac r rfl zoj hc) rfl ?_
  rintro _ w29 ⟨v30, rfl, hb, hr31⟩
  refine ⟨_, rfl, fun fr r => ?_⟩
  have z_w29 := hb.size
  have h_b1 := keep hb h_b1
  have h_b4 := keep hb h_b4
  have h_b7 := keep hb h_b7
  have h_b10 := keep hb h_b10
  have h_b19 := keep hb h_b19
  obtain ⟨hB, zB⟩ := bon hb hB
  refine zae (.cells v30.cells 167 (0, 0)) r (fun R => zaf r hr31.shape rfl rfl h_b10 znT rfl) rfl fun fr w32 u33 r => ?_
  have z_w32 := u33.size
  have h_b1 := u33.keep h_b1 (by omega)
  have h_b4 := u33.keep h_b4 (by omega)
  have h_b7 := u33.keep h_b7 (by omega)
  have h_b19 := u33.keep h_b19 (by omega)
  have h_b10 := u33.at_
  obtain ⟨hB, zB⟩ := u33.on hB (by omega)
  refine wn (wp_ret ?_)
  have hd : D.zbj j r_retire_scanned a0 a1 a2 = (D.zb9 (D.zaL a0 a1 a2.at_) (fun x => (D.zc6 j r_retire_scanned a0 a1 (⟨(W (a2.at_ - 1)), a2.left, a2.done⟩ : Scan) a2 x))) := (zak h13).trans (rfl)
  have hs := hr31.shape.cells
  refine zad r rfl rfl h_b10 (k := 7) hs.1 znS ?_
  rw [← hs.2.2, hd]
  exact rfin hF hB hr31 u33 (by omega) (by omega) (by omega)
theorem zio {n : Nat} {j : Nat} (hj : n < j) {k : Nat} (hk : n < k) : zbi (D.zbd j k) n := by
  induction n using Nat.strongRecOn generalizing k with
  | _ n ih =>
    obtain ⟨k, rfl⟩ : ∃ q, k = q + 1 := ⟨k - 1, by omega⟩
    intro F w0 hF
    have h := @ziu n F j (D.zbd j k) w0 hF hj (fun m hm => ih m hm (by omega) (by omega))
    exact h
def D.zfW (j : Nat) (c0 : Plan) (c1 : Int) (a0 : Int) : T Int := (D.zbd j j c0 c1 (⟨(IntKind.i64.wrap ((IntKind.i64.wrap (minI a0 (IntKind.u64.wrap c0.retire))) - 1)), (IntKind.i64.wrap (minI a0 (IntKind.u64.wrap c0.retire))), 0⟩ : Scan))
theorem ziO {n : Nat} {F : Nat → Prop} {j : Nat} {w0 : World} (hF : ∀ b, F b → b < w0.heap.size) (hj : n < j)
    (c0 : Plan) {c0b : Nat} (c0F : F c0b) (c0h : w0.heap[c0b]? = some (.cells ((znu c0)).toArray 25 (0, 0))) (c1 : Int) {c1b : Nat} (c1F : F c1b) (c1h : w0.heap[c1b]? = some (.cells ([(.int .i64 c1)]).toArray 3 (0, 0))) (a0 : Int) :
    Calls Tryz.prog 293 #[.int .u64 a0, zp c0b, zp c1b] w0 (zny Tryz.prog znz n (D.zfW j c0 c1 a0) F w0) := by
 refine enter Tryz.func293 rfl 19 rfl rfl fun fr r => ?_
 have hB := Below.refl w0.heap.size w0
 have lc0b := lt_of_block c0h
 have lc1b := lt_of_block c1h
 refine wsr ?_
 refine za5 (.cells (znt false znz.zero 0 0 0 0 .nilFunc) 167 (0, 0)) r (fun R => zag znV) rfl fun fr b1 w2 n3 r => ?_
 obtain ⟨e_b1, z_w2, h_b1, hB, zB⟩ := n3.all hB
 refine wn (wsr (za0 (U a0) r (fun R => za9 r rfl) rfl fun fr r => za0 _ r (fun R => za4 r (o := 0) rfl zgl) rfl fun fr r => za0 (I c0.retire) r (fun R => za3 r rfl (keep hB c0h) to3 rfl) rfl fun fr r => za0 (U (V c0.retire)) r (fun R => zb8 r rfl ti3 ti22) rfl fun fr r => za0 (U (minI a0 (V c0.retire))) r (fun R => zpY r (m := a0) (n := (V c0.retire)) rfl rfl) rfl fun fr r => za0 (I (W (minI a0 (V c0.retire)))) r (fun R => zb8 r rfl ti22 ti3) rfl fun fr r => za0 (I (W (minI a0 (V c0.retire)))) r (fun R => za7 r rfl) rfl fun fr r => wn (wsr (za0 (.agg (znu c0).toArray) r (fun R => za6 r (cs := (znu c0)) (n := 6) rfl (keep hB c0h) ta25 rfl) rfl fun fr r => za0 (I c1) r (fun R => za3 r rfl (keep hB c1h) to3 rfl) rfl fun fr r => za0 (I (W (minI a0 (V c0.retire)))) r (fun R => za9 r rfl) rfl fun fr r => za0 _ r (fun R => znA r rfl rfl rfl rfl) rfl fun fr r => za0 (I (W (minI a0 (V c0.retire)))) r (fun R => za9 r rfl) rfl fun fr r => za0 (.agg (znZ (⟨(W ((W (minI a0 (V c0.retire))) - 1)), (W (minI a0 (V c0.retire))), 0⟩ : Scan)).toArray) r (fun R => zaQ r (by kernel_rfl)) rfl fun fr r => ?_))))
 have hF1 := znI hF hB b1
 refine za8 r ((zio (j := j) (k := j) (n := n) (by omega) (by omega)) (fun b => F b ∨ (w0.heap.size ≤ b ∧ b < w2.heap.size ∧ b ≠ b1)) _ hF1 c0 c1 (⟨(W ((W (minI a0 (V c0.retire))) - 1)), (W (minI a0 (V c0.retire))), 0⟩ : Scan)) (fun R hc => zac r rfl zoH hc) rfl ?_
 rintro _ w4 ⟨v5, rfl, hb, hr6⟩
 refine ⟨_, rfl, fun fr r => ?_⟩
 have z_w4 := hb.size
 have h_b1 := keep hb h_b1
 obtain ⟨hB, zB⟩ := bon hb hB
 refine zae (.cells v5.cells 167 (0, 0)) r (fun R => zaf r hr6.shape rfl rfl h_b1 znT rfl) rfl fun fr w7 u8 r => ?_
 have z_w7 := u8.size
 have h_b1 := u8.at_
 obtain ⟨hB, zB⟩ := u8.on hB (by omega)
 refine wn (wp_ret ?_)
 have hs := hr6.shape.cells
 refine zad r rfl rfl h_b1 (k := 7) hs.1 znS ?_
 rw [← hs.2.2]
 exact rfin hF hB hr6 u8 (by omega) (by omega) (by omega)
def D.zd9 (j : Nat) (a0 : Plan) (a1 : Int) : T Int := (D.zb9 (D.zaZ a0 a1) (fun x => (D.zfW j a0 a1 x)))
theorem zhB {n : Nat} {F : Nat → Prop} {j : Nat} {w0 : World} (hF : ∀ b, F b → b < w0.heap.size) (hj : n < j)
    (a0 : Plan) (a1 : Int) :
    Calls Tryz.prog 193 #[.agg (znu a0).toArray, .int .i64 a1] w0 (zny Tryz.prog znz n (D.zd9 j a0 a1) F w0) := by
 refine enter Tryz.func193 rfl 10 rfl rfl fun fr r => ?_
 have hB := Below.refl w0.heap.size w0
 refine wsr ?_
 refine za5 (.cells ((znu a0)).toArray 25 (0, 0)) r (fun R => znF r (v := (.agg (znu a0).toArray)) rfl) rfl fun fr b1 w2 n3 r => ?_
 obtain ⟨e_b1, z_w2, h_b1, hB, zB⟩ := n3.all hB
 refine za5 (.cells #[(I a1)] 3 (0, 0)) r (fun R => znF r (v := (I a1)) rfl) rfl fun fr b4 w5 n6 r => ?_
 have h_b1 := keep n6.below h_b1
 obtain ⟨e_b4, z_w5, h_b4, hB, zB⟩ := n6.all hB
 refine za5 (.cells (znt false znz.zero 0 0 0 0 .nilFunc) 167 (0, 0)) r (fun R => zag znV) rfl fun fr b7 w8 n9 r => ?_
 have h_b1 := keep n9.below h_b1
 have h_b4 := keep n9.below h_b4
 obtain ⟨e_b7, z_w8, h_b7, hB, zB⟩ := n9.all hB
 refine wn (wsr (za0 (.agg (znu a0).toArray) r (fun R => za6 r (cs := (znu a0)) (n := 6) rfl h_b1 ta25 rfl) rfl fun fr r => za0 (I a1) r (fun R => za3 r rfl h_b4 to3 rfl) rfl fun fr r => ?_))
 refine za8 r (zcE w8 a0 a1) (fun R hc => zac r rfl zoB hc) rfl ?_
 rintro _ w10 ⟨rfl, hb⟩
 refine ⟨_, rfl, fun fr r => ?_⟩
 have z_w10 := hb.size
 have h_b1 := keep hb h_b1
 have h_b4 := keep hb h_b4
 have h_b7 := keep hb h_b7
 obtain ⟨hB, zB⟩ := bon hb hB
 refine za0 (.func (.func 293) #[] #[zp b1, zp b4]) r (fun R => zao r rfl) rfl fun fr r => ?_
 have hF1 := znI hF hB b7
 have f11 : ((fun b => F b ∨ (w0.heap.size ≤ b ∧ b < w10.heap.size ∧ b ≠ b7))) b1 := (.inr ⟨by omega, by omega, by omega⟩)
 have f12 : ((fun b => F b ∨ (w0.heap.size ≤ b ∧ b < w10.heap.size ∧ b ≠ b7))) b4 := (.inr ⟨by omega, by omega, by omega⟩)
 refine za8 r (zbG (F := (fun b => F b ∨ (w0.heap.size ≤ b ∧ b < w10.heap.size ∧ b ≠ b7))) (n := n) hF1 (D.zaZ a0 a1) ⟨293, [], [zp b1, zp b4], zrX, rfl, fun m hm x w' hs hz => ziO (j := j) (fun b hb => Nat.lt_of_lt_of_le (hF1 b hb) hz) (by omega) a0 f11 (hs.at_ f11 h_b1) a1 f12 (hs.at_ f12 h_b4) x⟩) (fun R hc => zac r rfl zoj hc) rfl ?_
 rintro _ w13 ⟨v14, rfl, hb, hr15⟩
 refine ⟨_, rfl, fun fr r => ?_⟩
 have z_w13 := hb.size
 have h_b1 := keep hb h_b1
 have h_b4 := keep hb h_b4
 have h_b7 := keep hb h_b7
 obtain ⟨hB, zB⟩ := bon hb hB
 refine zae (.cells v14.cells 167 (0, 0)) r (fun R => zaf r hr15.shape rfl rfl h_b7 znT rfl) rfl fun fr w16 u17 r => ?_
 have z_w16 := u17.size
 have h_b1 := u17.keep h_b1 (by omega)
 have h_b4 := u17.keep h_b4 (by omega)
 have h_b7 := u17.at_
 obtain ⟨hB, zB⟩ := u17.on hB (by omega)
 refine wn (wp_ret ?_)
 have hs := hr15.shape.cells
 refine zad r rfl rfl h_b7 (k := 7) hs.1 znS ?_
 rw [← hs.2.2]
 exact rfin hF hB hr15 u17 (by omega) (by omega) (by omega)
def D.zex (c0 : Int) : T Int := (D.zaY (IntKind.i64.wrap ((IntKind.i64.wrap c0) + 1)))
theorem zhA {n : Nat} {F : Nat → Prop} {w0 : World} (hF : ∀ b, F b → b < w0.heap.size)
    (c0 : Int) {c0b : Nat} (c0F : F c0b) (c0h : w0.heap[c0b]? = some (.cells ([(.int .u64 c0)]).toArray 22 (0, 0))) :
    Calls Tryz.prog 324 #[zp c0b] w0 (zny Tryz.prog znz n (D.zex c0) F w0) := by
 refine enter Tryz.func324 rfl 6 rfl rfl fun fr r => ?_
 have hB := Below.refl w0.heap.size w0
 have lc0b := lt_of_block c0h
 refine wsr ?_
 refine za5 (.cells (znt false znz.zero 0 0 0 0 .nilFunc) 167 (0, 0)) r (fun R => zag znV) rfl fun fr b1 w2 n3 r => ?_
 obtain ⟨e_b1, z_w2, h_b1, hB, zB⟩ := n3.all hB
 refine wn (wsr (za0 (U c0) r (fun R => za3 r rfl (keep hB c0h) to22 rfl) rfl fun fr r => za0 (I (W c0)) r (fun R => zb8 r rfl ti22 ti3) rfl fun fr r => za0 _ r (fun R => znA r rfl rfl rfl rfl) rfl fun fr r => ?_))
 have hF1 := znI hF hB b1
 refine za8 r (zbm (F := (fun b => F b ∨ (w0.heap.size ≤ b ∧ b < w2.heap.size ∧ b ≠ b1))) (n := n) hF1 (W ((W c0) + 1))) (fun R hc => zac r rfl zoe hc) rfl ?_
 rintro _ w4 ⟨v5, rfl, hb, hr6⟩
 refine ⟨_, rfl, fun fr r => ?_⟩
 have z_w4 := hb.size
 have h_b1 := keep hb h_b1
 obtain ⟨hB, zB⟩ := bon hb hB
 refine zae (.cells v5.cells 167 (0, 0)) r (fun R => zaf r hr6.shape rfl rfl h_b1 znT rfl) rfl fun fr w7 u8 r => ?_
 have z_w7 := u8.size
 have h_b1 := u8.at_
 obtain ⟨hB, zB⟩ := u8.on hB (by omega)
 refine wn (wp_ret ?_)
 have hs := hr6.shape.cells
 refine zad r rfl rfl h_b1 (k := 7) hs.1 znS ?_
 rw [← hs.2.2]
 exact rfin hF hB hr6 u8 (by omega) (by omega) (by omega)
def D.zeg (c0 : Plan) (c1 : Int) (c2 : Int) : T Int := (D.zbe (D.zaZ c0 c1) (IntKind.u64.wrap (c2 + 1)) (fun _ => (D.zex c2)))
theorem zir {n : Nat} {F : Nat → Prop} {w0 : World} (hF : ∀ b, F b → b < w0.heap.size)
    (c0 : Plan) {c0b : Nat} (c0F : F c0b) (c0h : w0.heap[c0b]? = some (.cells ((znu c0)).toArray 25 (0, 0))) (c1 : Int) {c1b : Nat} (c1F : F c1b) (c1h : w0.heap[c1b]? = some (.cells ([(.int .i64 c1)]).toArray 3 (0, 0))) (c2 : Int) {c2b : Nat} (c2F : F c2b) (c2h : w0.heap[c2b]? = some (.cells ([(.int .u64 c2)]).toArray 22 (0, 0))) :
    Calls Tryz.prog 323 #[zp c0b, zp c1b, zp c2b] w0 (zny Tryz.prog znz n (D.zeg c0 c1 c2) F w0) := by
 refine enter Tryz.func323 rfl 11 rfl rfl fun fr r => ?_
 have hB := Below.refl w0.heap.size w0
 have lc0b := lt_of_block c0h
 have lc1b := lt_of_block c1h
 have lc2b := lt_of_block c2h
 refine wsr ?_
 refine za5 (.cells (znt false znz.zero 0 0 0 0 .nilFunc) 167 (0, 0)) r (fun R => zag znV) rfl fun fr b1 w2 n3 r => ?_
 obtain ⟨e_b1, z_w2, h_b1, hB, zB⟩ := n3.all hB
 refine wn (wp_seq ?_)
 refine zaI 6 [.val (.agg (znu c0).toArray), .val (I c1), .val (I (D.zaZ c0 c1)), .val (U c2), .val (U (V (c2 + 1))), .val (.func (.func 324) #[] #[zp c2b])] mixed r (by kernel_rfl) (za2 (by exact trivial) (za2 (by exact trivial) (za2 (by exact trivial) (za2 (by exact trivial) (za2 (by exact trivial) (za2 (by exact trivial) zaC)))))) ?_ ?_
 ·
  refine ec r (fun _ u _ b d s => za6 s (cs := (znu c0)) (n := 6) rfl (znU hB b c0h) ta25 rfl bz) (ec r (fun _ u _ b d s => za3 s rfl (znU hB b c1h) to3 rfl bz) (ec r (fun fr1 u w' hb' hd r' => zac r' (args := [(.agg (znu c0).toArray), (I c1)]) (lc hd.1 (lc hd.2.1 l0)) zoB ((zcE _ c0 c1).mono (by rintro _ w2 ⟨rfl, hb2⟩; exact ⟨_, rfl, hb2, rfl⟩))) (ec r (fun _ u _ b d s => za3 s rfl (znU hB b c2h) to22 rfl bz) (ec r (fun _ u _ b d s => znA s d.1 rfl rfl rfl bz) (ec r (fun _ u _ b d s => zao s (v := (.func (.func 324) #[] #[zp c2b])) rfl bz) ?_)))))
  exact zaV
 ·
  intro fr u w4 hb hΦ hne r
  have r := r.congr (sc (hΦ 5 (by decide)) (sc (hΦ 4 (by decide)) (sc (hΦ 3 (by decide)) (sc (hΦ 2 (by decide)) (sc (hΦ 1 (by decide)) (sc (hΦ 0 (by decide)) rfl))))))
  have z_w4 := hb.size
  have h_b1 := keep hb h_b1
  obtain ⟨hB, zB⟩ := bon hb hB
  have hF1 := znI hF hB b1
  have f5 : ((fun b => F b ∨ (w0.heap.size ≤ b ∧ b < w4.heap.size ∧ b ≠ b1))) c2b := (.inl c2F)
  refine za8 r (zbK (F := (fun b => F b ∨ (w0.heap.size ≤ b ∧ b < w4.heap.size ∧ b ≠ b1))) (n := n) hF1 (D.zaZ c0 c1) (V (c2 + 1)) ⟨324, [], [zp c2b], zqr, rfl, fun m hm _ w' hs hz => zhA (fun b hb => Nat.lt_of_lt_of_le (hF1 b hb) hz) c2 f5 (hs.at_ f5 (keep hB c2h))⟩) (fun R hc => zac r rfl zon hc) rfl ?_
  rintro _ w6 ⟨v7, rfl, hb, hr8⟩
  refine ⟨_, rfl, fun fr r => ?_⟩
  have z_w6 := hb.size
  have h_b1 := keep hb h_b1
  obtain ⟨hB, zB⟩ := bon hb hB
  refine zae (.cells v7.cells 167 (0, 0)) r (fun R => zaf r hr8.shape rfl rfl h_b1 znT rfl) rfl fun fr w9 u10 r => ?_
  have z_w9 := u10.size
  have h_b1 := u10.at_
  obtain ⟨hB, zB⟩ := u10.on hB (by omega)
  refine wn (wp_ret ?_)
  have hs := hr8.shape.cells
  refine zad r rfl rfl h_b1 (k := 7) hs.1 znS ?_
  rw [← hs.2.2]
  exact rfin hF hB hr8 u10 (by omega) (by omega) (by omega)
def D.zdK (c0 : Plan) (c1 : Int) (c2 : Int) (a0 : Int) : T Int := (bif (decide (a0 ≥ (IntKind.u64.wrap c0.retire))) then (D.zaY (-1)) else (D.zbe (D.zaL c0 c1 (IntKind.i64.wrap a0)) (IntKind.u64.wrap (IntKind.i64.wrap (c2 + 1))) (fun _ => (D.zeg c0 c1 a0))))
theorem zje {n : Nat} {F : Nat → Prop} {w0 : World} (hF : ∀ b, F b → b < w0.heap.size)
    (c0 : Plan) {c0b : Nat} (c0F : F c0b) (c0h : w0.heap[c0b]? = some (.cells ((znu c0)).toArray 25 (0, 0))) (c1 : Int) {c1b : Nat} (c1F : F c1b) (c1h : w0.heap[c1b]? = some (.cells ([(.int .i64 c1)]).toArray 3 (0, 0))) (c2 : Int) {c2b : Nat} (c2F : F c2b) (c2h : w0.heap[c2b]? = some (.cells ([(.int .i64 c2)]).toArray 3 (0, 0))) (a0 : Int) :
    Calls Tryz.prog 322 #[.int .u64 a0, zp c0b, zp c1b, zp c2b] w0 (zny Tryz.prog znz n (D.zdK c0 c1 c2 a0) F w0) := by
 refine enter Tryz.func322 rfl 22 rfl rfl fun fr r => ?_
 have hB := Below.refl w0.heap.size w0
 have lc0b := lt_of_block c0h
 have lc1b := lt_of_block c1h
 have lc2b := lt_of_block c2h
 refine wsr ?_
 refine za5 (.cells #[(U a0)] 22 (0, 0)) r (fun R => znF r (v := (U a0)) rfl) rfl fun fr b1 w2 n3 r => ?_
 obtain ⟨e_b1, z_w2, h_b1, hB, zB⟩ := n3.all hB
 refine za5 (.cells (znt false znz.zero 0 0 0 0 .nilFunc) 167 (0, 0)) r (fun R => zag znV) rfl fun fr b4 w5 n6 r => ?_
 have h_b1 := keep n6.below h_b1
 obtain ⟨e_b4, z_w5, h_b4, hB, zB⟩ := n6.all hB
 refine wn (wp_seq (wsr (za0 (U a0) r (fun R => za3 r rfl h_b1 to22 rfl) rfl fun fr r => za0 _ r (fun R => za4 r (o := 0) rfl zgl) rfl fun fr r => za0 (I c0.retire) r (fun R => za3 r rfl (keep hB c0h) to3 rfl) rfl fun fr r => za0 (U (V c0.retire)) r (fun R => zb8 r rfl ti3 ti22) rfl fun fr r => za0 _ r (fun R => znA r rfl rfl rfl rfl) rfl fun fr r => wn ?_)))
 refine wp_cond_split (t := (decide (a0 ≥ (V c0.retire)))) (r.ev rfl) (fun h7 => ?_) (fun h7 => ?_)
 ·
  refine wsr ?_
  have hF1 := znI hF hB b4
  refine za8 r (zbm (F := (fun b => F b ∨ (w0.heap.size ≤ b ∧ b < w5.heap.size ∧ b ≠ b4))) (n := n) hF1 (-1)) (fun R hc => zac r rfl zoe hc) rfl ?_
  rintro _ w8 ⟨v9, rfl, hb, hr10⟩
  refine ⟨_, rfl, fun fr r => ?_⟩
  have z_w8 := hb.size
  have h_b1 := keep hb h_b1
  have h_b4 := keep hb h_b4
  obtain ⟨hB, zB⟩ := bon hb hB
  refine zae (.cells v9.cells 167 (0, 0)) r (fun R => zaf r hr10.shape rfl rfl h_b4 znT rfl) rfl fun fr w11 u12 r => ?_
  have z_w11 := u12.size
  have h_b1 := u12.keep h_b1 (by omega)
  have h_b4 := u12.at_
  obtain ⟨hB, zB⟩ := u12.on hB (by omega)
  refine wn (wp_ret ?_)
  have hd : D.zdK c0 c1 c2 a0 = (D.zaY (-1)) := (zaq h7).trans (rfl)
  have hs := hr10.shape.cells
  refine zad r rfl rfl h_b4 (k := 7) hs.1 znS ?_
  rw [← hs.2.2, hd]
  exact rfin hF hB hr10 u12 (by omega) (by omega) (by omega)
 ·
  refine wp_skip (wp_seq ?_)
  refine zaI 9 [.val (.agg (znu c0).toArray), .val (I c1), .val (U a0), .val (I (W a0)), .val (I (D.zaL c0 c1 (W a0))), .val (I c2), .val (I (W (c2 + 1))), .val (U (V (W (c2 + 1)))), .val (.func (.func 323) #[] #[zp c0b, zp c1b, zp b1])] mixed r (by kernel_rfl) (za2 (by exact trivial) (za2 (by exact trivial) (za2 (by exact trivial) (za2 (by exact trivial) (za2 (by exact trivial) (za2 (by exact trivial) (za2 (by exact trivial) (za2 (by exact trivial) (za2 (by exact trivial) zaC))))))))) ?_ ?_
  ·
   refine ec r (fun _ u _ b d s => za6 s (cs := (znu c0)) (n := 6) rfl (znU hB b c0h) ta25 rfl bz) (ec r (fun _ u _ b d s => za3 s rfl (znU hB b c1h) to3 rfl bz) (ec r (fun _ u _ b d s => za3 s rfl (keep b h_b1) to22 rfl bz) (ec r (fun _ u _ b d s => zb8 s (n := a0) d.1 ti22 ti3 bz) (ec r (fun fr1 u w' hb' hd r' => zac r' (args := [(.agg (znu c0).toArray), (I c1), (I (W a0))]) (lc hd.1 (lc hd.2.1 (lc hd.2.2.1 l0))) zoz ((zcd _ c0 c1 (W a0)).mono (by rintro _ w2 ⟨rfl, hb2⟩; exact ⟨_, rfl, hb2, rfl⟩))) (ec r (fun _ u _ b d s => za3 s rfl (znU hB b c2h) to3 rfl bz) (ec r (fun _ u _ b d s => znA s d.1 rfl rfl rfl bz) (ec r (fun _ u _ b d s => zb8 s (n := (W (c2 + 1))) d.1 ti3 ti22 bz) (ec r (fun _ u _ b d s => zao s (v := (.func (.func 323) #[] #[zp c0b, zp c1b, zp b1])) rfl bz) ?_))))))))
   exact zaV
  ·
   intro fr u w13 hb hΦ hne r
   have r := r.congr (sc (hΦ 8 (by decide)) (sc (hΦ 7 (by decide)) (sc (hΦ 6 (by decide)) (sc (hΦ 5 (by decide)) (sc (hΦ 4 (by decide)) (sc (hΦ 3 (by decide)) (sc (hΦ 2 (by decide)) (sc (hΦ 1 (by decide)) (sc (hΦ 0 (by decide)) rfl)))))))))
   have z_w13 := hb.size
   have h_b1 := keep hb h_b1
   have h_b4 := keep hb h_b4
   obtain ⟨hB, zB⟩ := bon hb hB
   have hF1 := znI hF hB b4
   have f14 : ((fun b => F b ∨ (w0.heap.size ≤ b ∧ b < w13.heap.size ∧ b ≠ b4))) c0b := (.inl c0F)
   have f15 : ((fun b => F b ∨ (w0.heap.size ≤ b ∧ b < w13.heap.size ∧ b ≠ b4))) c1b := (.inl c1F)
   have f16 : ((fun b => F b ∨ (w0.heap.size ≤ b ∧ b < w13.heap.size ∧ b ≠ b4))) b1 := (.inr ⟨by omega, by omega, by omega⟩)
   refine za8 r (zbK (F := (fun b => F b ∨ (w0.heap.size ≤ b ∧ b < w13.heap.size ∧ b ≠ b4))) (n := n) hF1 (D.zaL c0 c1 (W a0)) (V (W (c2 + 1))) ⟨323, [], [zp c0b, zp c1b, zp b1], zrF, rfl, fun m hm _ w' hs hz => zir (fun b hb => Nat.lt_of_lt_of_le (hF1 b hb) hz) c0 f14 (hs.at_ f14 (keep hB c0h)) c1 f15 (hs.at_ f15 (keep hB c1h)) a0 f16 (hs.at_ f16 h_b1)⟩) (fun R hc => zac r rfl zon hc) rfl ?_
   rintro _ w17 ⟨v18, rfl, hb, hr19⟩
   refine ⟨_, rfl, fun fr r => ?_⟩
   have z_w17 := hb.size
   have h_b1 := keep hb h_b1
   have h_b4 := keep hb h_b4
   obtain ⟨hB, zB⟩ := bon hb hB
   refine zae (.cells v18.cells 167 (0, 0)) r (fun R => zaf r hr19.shape rfl rfl h_b4 znT rfl) rfl fun fr w20 u21 r => ?_
   have z_w20 := u21.size
   have h_b1 := u21.keep h_b1 (by omega)
   have h_b4 := u21.at_
   obtain ⟨hB, zB⟩ := u21.on hB (by omega)
   refine wn (wp_ret ?_)
   have hd : D.zdK c0 c1 c2 a0 = (D.zbe (D.zaL c0 c1 (W a0)) (V (W (c2 + 1))) (fun _ => (D.zeg c0 c1 a0))) := (zak h7).trans (rfl)
   have hs := hr19.shape.cells
   refine zad r rfl rfl h_b4 (k := 7) hs.1 znS ?_
   rw [← hs.2.2, hd]
   exact rfin hF hB hr19 u21 (by omega) (by omega) (by omega)
def D.zdI (a0 : Plan) (a1 : Int) (a2 : Int) : T Int := (D.zb9 (D.zaZ a0 a1) (fun x => (D.zdK a0 a1 a2 x)))
theorem zie {n : Nat} {F : Nat → Prop} {w0 : World} (hF : ∀ b, F b → b < w0.heap.size)
    (a0 : Plan) (a1 : Int) (a2 : Int) :
    Calls Tryz.prog 231 #[.agg (znu a0).toArray, .int .i64 a1, .int .i64 a2] w0 (zny Tryz.prog znz n (D.zdI a0 a1 a2) F w0) := by
 refine enter Tryz.func231 rfl 12 rfl rfl fun fr r => ?_
 have hB := Below.refl w0.heap.size w0
 refine wsr ?_
 refine za5 (.cells ((znu a0)).toArray 25 (0, 0)) r (fun R => znF r (v := (.agg (znu a0).toArray)) rfl) rfl fun fr b1 w2 n3 r => ?_
 obtain ⟨e_b1, z_w2, h_b1, hB, zB⟩ := n3.all hB
 refine za5 (.cells #[(I a1)] 3 (0, 0)) r (fun R => znF r (v := (I a1)) rfl) rfl fun fr b4 w5 n6 r => ?_
 have h_b1 := keep n6.below h_b1
 obtain ⟨e_b4, z_w5, h_b4, hB, zB⟩ := n6.all hB
 refine za5 (.cells #[(I a2)] 3 (0, 0)) r (fun R => znF r (v := (I a2)) rfl) rfl fun fr b7 w8 n9 r => ?_
 have h_b1 := keep n9.below h_b1
 have h_b4 := keep n9.below h_b4
 obtain ⟨e_b7, z_w8, h_b7, hB, zB⟩ := n9.all hB
 refine za5 (.cells (znt false znz.zero 0 0 0 0 .nilFunc) 167 (0, 0)) r (fun R => zag znV) rfl fun fr b10 w11 n12 r => ?_
 have h_b1 := keep n12.below h_b1
 have h_b4 := keep n12.below h_b4
 have h_b7 := keep n12.below h_b7
 obtain ⟨e_b10, z_w11, h_b10, hB, zB⟩ := n12.all hB
 refine wn (wsr (za0 (.agg (znu a0).toArray) r (fun R => za6 r (cs := (znu a0)) (n := 6) rfl h_b1 ta25 rfl) rfl fun fr r => za0 (I a1) r (fun R => za3 r rfl h_b4 to3 rfl) rfl fun fr r => ?_))
 refine za8 r (zcE w11 a0 a1) (fun R hc => zac r rfl zoB hc) rfl ?_
 rintro _ w13 ⟨rfl, hb⟩
 refine ⟨_, rfl, fun fr r => ?_⟩
 have z_w13 := hb.size
 have h_b1 := keep hb h_b1
 have h_b4 := keep hb h_b4
 have h_b7 := keep hb h_b7
 have h_b10 := keep hb h_b10
 obtain ⟨hB, zB⟩ := bon hb hB
 refine za0 (.func (.func 322) #[] #[zp b1, zp b4, zp b7]) r (fun R => zao r rfl) rfl fun fr r => ?_
 have hF1 := znI hF hB b10
 have f14 : ((fun b => F b ∨ (w0.heap.size ≤ b ∧ b < w13.heap.size ∧ b ≠ b10))) b1 := (.inr ⟨by omega, by omega, by omega⟩)
 have f15 : ((fun b => F b ∨ (w0.heap.size ≤ b ∧ b < w13.heap.size ∧ b ≠ b10))) b4 := (.inr ⟨by omega, by omega, by omega⟩)
 have f16 : ((fun b => F b ∨ (w0.heap.size ≤ b ∧ b < w13.heap.size ∧ b ≠ b10))) b7 := (.inr ⟨by omega, by omega, by omega⟩)
 refine za8 r (zbG (F := (fun b => F b ∨ (w0.heap.size ≤ b ∧ b < w13.heap.size ∧ b ≠ b10))) (n := n) hF1 (D.zaZ a0 a1) ⟨322, [], [zp b1, zp b4, zp b7], zrj, rfl, fun m hm x w' hs hz => zje (fun b hb => Nat.lt_of_lt_of_le (hF1 b hb) hz) a0 f14 (hs.at_ f14 h_b1) a1 f15 (hs.at_ f15 h_b4) a2 f16 (hs.at_ f16 h_b7) x⟩) (fun R hc => zac r rfl zoj hc) rfl ?_
 rintro _ w17 ⟨v18, rfl, hb, hr19⟩
 refine ⟨_, rfl, fun fr r => ?_⟩
 have z_w17 := hb.size
 have h_b1 := keep hb h_b1
 have h_b4 := keep hb h_b4
 have h_b7 := keep hb h_b7
 have h_b10 := keep hb h_b10
 obtain ⟨hB, zB⟩ := bon hb hB
 refine zae (.cells v18.cells 167 (0, 0)) r (fun R => zaf r hr19.shape rfl rfl h_b10 znT rfl) rfl fun fr w20 u21 r => ?_
 have z_w20 := u21.size
 have h_b1 := u21.keep h_b1 (by omega)
 have h_b4 := u21.keep h_b4 (by omega)
 have h_b7 := u21.keep h_b7 (by omega)
 have h_b10 := u21.at_
 obtain ⟨hB, zB⟩ := u21.on hB (by omega)
 refine wn (wp_ret ?_)
 have hs := hr19.shape.cells
 refine zad r rfl rfl h_b10 (k := 7) hs.1 znS ?_
 rw [← hs.2.2]
 exact rfin hF hB hr19 u21 (by omega) (by omega) (by omega)
def D.zeX (fu : Nat) (a0 : Plan) (a1 : Mem) (a2 : Int) (a3 : Int) : Option (List Int) := ((D.zb0 fu a1 a2 (D.zaZ a0 a3)).bind (fun (x5 : Int) => (loopThen (fun (x8 : List Int × Int) => (bif (decide (x8.2 < (IntKind.i64.wrap (minI x5 (IntKind.u64.wrap (maxI a0.retire 0)))))) then ((D.zb0 fu a1 a2 (D.zaL a0 a3 x8.2)).bind (fun (x14 : Int) => (Option.bind (bif (decide (x14 ≥ 1)) then (some (decide (x14 ≤ (IntKind.u64.wrap a0.nodes)))) else (some false)) (fun (x18 : Bool) => (Option.bind (bif x18 then ((appD x8.1 ([(IntKind.i64.wrap ((IntKind.i64.wrap x14) - 1))])).bind (fun (x27 : List Int) => (some x27))) else (some x8.1)) (fun (x31 : List Int) => (some (Lp.next (x31, (IntKind.i64.wrap (x8.2 + 1))))))))))) else (some (Lp.brk (x8.1, x8.2))))) fu ([], 0) (fun (x34 : List Int × Int) => (some x34.1)))))
theorem zjY {fu : Nat} (w0 : World) (a0 : Plan) {a1g : MG} (a1 : Mem) (a1h : MemAt a1g a1 w0) (a2 : Int) (a3 : Int) {res : List Int} (hD : D.zeX fu a0 a1 a2 a3 = some res) :
    Calls Tryz.prog 70 #[.agg (znu a0).toArray, zp a1g.mb, .int .i64 a2, .int .i64 a3] w0 (fun e w' => ∃ (v0 : Value), e = .returned v0 ∧ Done No No [rowK 3 1 i64 v0 res] w0 w') := by
 refine enter Tryz.func70 rfl 53 rfl rfl fun fr r => ?_
 have hP : Post No [] w0 w0 := Post.nil w0
 have hP : Post No [memR a1g a1] w0 w0 := hP.addRo zd2 a1h rfl a1h.lt
 unfold D.zeX at hD
 refine wsr ?_
 refine za5 (.cells ((znu a0)).toArray 25 (0, 0)) r (fun R => znF r (v := (.agg (znu a0).toArray)) rfl) rfl fun fr b1 w2 n3 r => ?_
 have hP : Post No [memR a1g a1, znw b1 ((znu a0)).toArray 25] w0 w2 := hP.new n3
 refine za0 (Value.slice none 0 0) r (fun R => za7 r rfl) rfl fun fr r => wn (wsr (za0 (Value.slice none 0 0) r (fun R => za7 r rfl) rfl fun fr r => wn (wp_seq ?_)))
 obtain ⟨x5, hx5, hD⟩ := zap hD
 refine zdg [.val (zp a1g.mb), .val (I a2), .val (.agg (znu a0).toArray), .val (I a3), .val (I (D.zaZ a0 a3)), .val (U x5), .val (.pointer (some ⟨b1, 2, none⟩)), .val (I a0.retire), .val (I (maxI a0.retire 0)), .val (U (V (maxI a0.retire 0))), .val (U (minI x5 (V (maxI a0.retire 0)))), .val (U (minI x5 (V (maxI a0.retire 0))))] mixed r (by kernel_rfl) ?_ ?_
 ·
  refine fc r (fun fr1 g w' hb' hd r' => za9 r' rfl bz) ?_
  refine fc r (fun fr1 g w' hb' hd r' => za9 r' rfl bz) ?_
  refine fc r (fun fr1 g w' hb' hd r' => za6 r' (cs := (znu a0)) (n := 6) rfl ((hP.below (dr hb')).cell (i := 1) rfl) ta25 rfl bz) ?_
  refine fc r (fun fr1 g w' hb' hd r' => za9 r' rfl bz) ?_
  refine fc r (fun fr1 g w' hb' hd r' => zac r' (args := [(.agg (znu a0).toArray), (I a3)]) (lc (hd 2 rfl).1 (lc (hd 3 rfl).1 l0)) zoB ((zcE _ a0 a3).mono (by rintro _ w2 ⟨rfl, hb2⟩; exact ⟨_, rfl, hb2, rfl⟩))) ?_
  refine fc r (fun fr1 g w' hb' hd r' => zac r' (args := [(zp a1g.mb), (I a2), (I (D.zaZ a0 a3))]) (lc (hd 0 rfl).1 (lc (hd 1 rfl).1 (lc (hd 4 rfl).1 l0))) cl51 ((zbr _ a1 ((hP.below (dr hb')).memr (i := 0) rfl) a2 (D.zaZ a0 a3) hx5).mono (by rintro _ w2 ⟨rfl, hb2⟩; exact ⟨_, rfl, hb2, rfl⟩))) ?_
  refine fc r (fun fr1 g w' hb' hd r' => za4 r' (b := b1) (o := 0) rfl zgl bz) ?_
  refine fc r (fun fr1 g w' hb' hd r' => za3 r' (hd 6 rfl).1 ((hP.below (dr hb')).cell (i := 1) rfl) to3 rfl bz) ?_
  refine fc r (fun fr1 g w' hb' hd r' => zpD r' (m := a0.retire) (n := 0) (hd 7 rfl).1 rfl bz) ?_
  refine fc r (fun fr1 g w' hb' hd r' => zb8 r' (n := (maxI a0.retire 0)) (hd 8 rfl).1 ti3 ti22 bz) ?_
  refine fc r (fun fr1 g w' hb' hd r' => zpY r' (m := x5) (n := (V (maxI a0.retire 0))) (hd 5 rfl).1 (hd 9 rfl).1 bz) ?_
  refine fc r (fun fr1 g w' hb' hd r' => za7 r' (hd 10 rfl).1 bz) ?_
  exact zbD
 ·
  intro fr gg w6 hb hΦ hap r
  have r := r.congr (sc ((hΦ 11 rfl).1) (sc ((hΦ 10 rfl).1) (sc ((hΦ 9 rfl).1) (sc ((hΦ 8 rfl).1) (sc ((hΦ 7 rfl).1) (sc ((hΦ 6 rfl).1) (sc ((hΦ 5 rfl).1) (sc ((hΦ 4 rfl).1) (sc ((hΦ 3 rfl).1) (sc ((hΦ 2 rfl).1) (sc ((hΦ 1 rfl).1) (sc ((hΦ 0 rfl).1) rfl))))))))))))
  have hP : Post No [memR a1g a1, znw b1 ((znu a0)).toArray 25] w0 w6 := hP.below hb
  refine wp_seq (wsr (za0 (U (minI x5 (V (maxI a0.retire 0)))) r (fun R => za9 r rfl) rfl fun fr r => za0 (I (W (minI x5 (V (maxI a0.retire 0))))) r (fun R => zb8 r rfl ti22 ti3) rfl fun fr r => za0 (I 0) r (fun R => za9 r rfl) rfl fun fr r => wn ?_))
  have hP : Post No [memR a1g a1, znw b1 ((znu a0)).toArray 25, rowK 3 1 i64 (Value.slice none 0 0) ([])] w0 w6 := hP.nilRow 3 1 i64
  refine zdd (X := List Int × Int) (G := Value) (x0 := ([], 0)) (fun x γ => [(0, (.agg (znu a0).toArray)), (1, (zp a1g.mb)), (2, (I a2)), (3, (I a3)), (4, (zp b1)), (8, (Value.slice none 0 0)), (10, (U (minI x5 (V (maxI a0.retire 0))))), (25, (I (W (minI x5 (V (maxI a0.retire 0)))))), (9, γ), (26, (I x.2))]) (fun x γ w => Post No [memR a1g a1, znw b1 ((znu a0)).toArray 25, rowK 3 1 i64 γ x.1] w0 w) (Value.slice none 0 0) r (za1 rfl (za1 rfl (za1 rfl (za1 rfl (za1 rfl (za1 rfl (za1 rfl (za1 rfl (za1 rfl (za1 rfl zaJ)))))))))) hP hD ?_ ?_
  ·
   rintro x8 γ9 fr w11 g y10 RPy10 nxy10 bky10 rty10 r hP hD
   have hP : Post No [memR a1g a1, znw b1 ((znu a0)).toArray 25, rowK 3 1 i64 γ9 x8.1] w0 w11 := hP
   refine wsr (za0 _ r (fun R => znA r rfl rfl rfl rfl) rfl fun fr r => wn (wp_seq ?_))
   refine wp_cond_split (t := (decide (x8.2 < (W (minI x5 (V (maxI a0.retire 0))))))) (r.ev rfl) (fun h12 => ?_) (fun h12 => ?_)
   ·
    have hD := (zaq h12).symm.trans hD
    refine wp_skip (wp_seq (wp_block (wsr (za0 (I x8.2) r (fun R => za9 r rfl) rfl fun fr r => za0 (I x8.2) r (fun R => za7 r rfl) rfl fun fr r => wn (wsr (za0 (zp a1g.mb) r (fun R => za9 r rfl) rfl fun fr r => za0 (I a2) r (fun R => za9 r rfl) rfl fun fr r => za0 (.agg (znu a0).toArray) r (fun R => za6 r (cs := (znu a0)) (n := 6) rfl (hP.cell (i := 1) rfl) ta25 rfl) rfl fun fr r => za0 (I a3) r (fun R => za9 r rfl) rfl fun fr r => za0 (I x8.2) r (fun R => za9 r rfl) rfl fun fr r => ?_))))))
    refine za8 r (zcd w11 a0 a3 x8.2) (fun R hc => zac r rfl zoz hc) rfl ?_
    rintro _ w13 ⟨rfl, hb⟩
    refine ⟨_, rfl, fun fr r => ?_⟩
    have hP : Post No [memR a1g a1, znw b1 ((znu a0)).toArray 25, rowK 3 1 i64 γ9 x8.1] w0 w13 := hP.below hb
    obtain ⟨x14, hx14, hD⟩ := zap hD
    refine za8 r (zbr w13 a1 (hP.memr (i := 0) rfl) a2 (D.zaL a0 a3 x8.2) hx14) (fun R hc => zac r rfl cl51 hc) rfl ?_
    rintro _ w15 ⟨rfl, hb⟩
    refine ⟨_, rfl, fun fr r => ?_⟩
    have hP : Post No [memR a1g a1, znw b1 ((znu a0)).toArray 25, rowK 3 1 i64 γ9 x8.1] w0 w15 := hP.below hb
    refine za0 (U x14) r (fun R => za7 r rfl) rfl fun fr r => wn (wp_seq ?_)
    refine zbU (N := 53) (Y := Bool) (G := Unit) (fun x γ => [(0, (.agg (znu a0).toArray)), (1, (zp a1g.mb)), (2, (I a2)), (3, (I a3)), (4, (zp b1)), (8, (Value.slice none 0 0)), (10, (U (minI x5 (V (maxI a0.retire 0))))), (25, (I (W (minI x5 (V (maxI a0.retire 0)))))), (9, γ9), (26, (I x8.2)), (27, (.bool (decide (x8.2 < (W (minI x5 (V (maxI a0.retire 0)))))))), (11, (I x8.2)), (12, (U x14)), (44, (.bool x))]) (fun x γ w => Post No [memR a1g a1, znw b1 ((znu a0)).toArray 25, rowK 3 1 i64 γ9 x8.1] w0 w) hD ?_ ?_
    ·
     rintro y16 RPy16 nxy16 hD
     refine wp_region_lit (za0 (U x14) r (fun R => za9 r rfl) rfl fun fr r => za0 _ r (fun R => znA r rfl rfl rfl rfl) rfl fun fr r => za0 (.bool (decide (x14 ≥ 1))) r (fun R => za9 r rfl) rfl fun fr r => ?_)
     refine zaF (decide (x14 ≥ 1)) (fun h17 => ?_) (fun h17 => ?_)
     ·
      have hD := (zaq h17).symm.trans hD
      refine s1 r h17 (za0 (U x14) r (fun R => za9 r rfl) rfl fun fr r => s1 r h17 (za0 _ r (fun R => za4 r (o := 0) rfl zeD) rfl fun fr r => s1 r h17 (za0 (I a0.nodes) r (fun R => za3 r rfl (hP.cell (i := 1) rfl) to3 rfl) rfl fun fr r => s1 r h17 (za0 (U (V a0.nodes)) r (fun R => zb8 r rfl ti3 ti22) rfl fun fr r => s1 r h17 (za0 _ r (fun R => znA r rfl rfl rfl rfl) rfl fun fr r => za0 (.bool (decide (x14 ≤ (V a0.nodes)))) r (fun R => zar r (b := true) (congrArg Value.bool h17) rfl) rfl fun fr r => wn ?_)))))
      exact nxy16 (decide (x14 ≤ (V a0.nodes))) () _ _ _ hD r (za1 rfl (za1 rfl (za1 rfl (za1 rfl (za1 rfl (za1 rfl (za1 rfl (za1 rfl (za1 rfl (za1 rfl (za1 rfl (za1 rfl (za1 rfl (za1 rfl zaJ)))))))))))))) (hP.pick [0, 1, 2] rfl rfl)
     ·
      have hD := (zak h17).symm.trans hD
      refine s0 r h17 fun fr r => s0 r h17 fun fr r => s0 r h17 fun fr r => s0 r h17 fun fr r => s0 r h17 fun fr r => za0 (.bool false) r (fun R => zar r (b := false) (congrArg Value.bool h17) rfl) rfl fun fr r => wn ?_
      exact nxy16 false () _ _ _ hD r (za1 rfl (za1 rfl (za1 rfl (za1 rfl (za1 rfl (za1 rfl (za1 rfl (za1 rfl (za1 rfl (za1 rfl (za1 rfl (za1 rfl (za1 rfl (za1 rfl zaJ)))))))))))))) (hP.pick [0, 1, 2] rfl rfl)
    ·
     rintro x18 γ19 fr w20 g r hP hD
     have hP : Post No [memR a1g a1, znw b1 ((znu a0)).toArray 25, rowK 3 1 i64 γ9 x8.1] w0 w20 := hP
     refine zbU (N := 53) (Y := List Int) (G := Value) (fun x γ => [(0, (.agg (znu a0).toArray)), (1, (zp a1g.mb)), (2, (I a2)), (3, (I a3)), (4, (zp b1)), (8, (Value.slice none 0 0)), (10, (U (minI x5 (V (maxI a0.retire 0))))), (25, (I (W (minI x5 (V (maxI a0.retire 0)))))), (26, (I x8.2)), (27, (.bool (decide (x8.2 < (W (minI x5 (V (maxI a0.retire 0)))))))), (11, (I x8.2)), (12, (U x14)), (44, (.bool x18)), (9, γ)]) (fun x γ w => Post No [memR a1g a1, znw b1 ((znu a0)).toArray 25, rowK 3 1 i64 γ x] w0 w) hD ?_ ?_
     ·
      rintro y21 RPy21 nxy21 hD
      refine wp_cond_split (t := x18) (r.ev rfl) (fun h22 => ?_) (fun h22 => ?_)
      ·
       have hD := (zaq h22).symm.trans hD
       refine wp_region_lit (za0 γ9 r (fun R => za9 r rfl) rfl fun fr r => za0 (U x14) r (fun R => za9 r rfl) rfl fun fr r => za0 (I (W x14)) r (fun R => zb8 r rfl ti22 ti3) rfl fun fr r => za0 _ r (fun R => znA r rfl rfl rfl rfl) rfl fun fr r => ?_)
       refine zgz (.cells (([(W ((W x14) - 1))]).flatMap i64).toArray 3 (0, 0)) 1 r (fun R => zcv r (by kernel_rfl)) rfl fun fr b23 w24 n25 r => ?_
       have hP : Post No [memR a1g a1, znw b1 ((znu a0)).toArray 25, rowK 3 1 i64 γ9 x8.1, rowK 3 1 i64 (.slice (some ⟨b23, 0, none⟩) 1 1) ([(W ((W x14) - 1))])] w0 w24 := hP.newRow n25 (fun _ => rfl) rfl
       obtain ⟨x27, hx27, hD⟩ := zap hD
       refine zk3 3 1 i64 γ9 r (fun R => ziF r rt72 (fun _ => rfl) (fun _ => rfl) (hP.row (i := 2) rfl) (hP.row (i := 3) rfl).ro hx27 rfl rfl) rfl fun fr v28 w29 ha30 r => ?_
       have hP : Post No [memR a1g a1, znw b1 ((znu a0)).toArray 25, rowK 3 1 i64 v28 x27, rowK 3 1 i64 (.slice (some ⟨b23, 0, none⟩) 1 1) ([(W ((W x14) - 1))])] w0 w29 := hP.append (i := 2) rfl ha30
       refine za0 v28 r (fun R => za7 r rfl) rfl fun fr r => wn ?_
       exact nxy21 x27 v28 _ _ _ hD r (za1 rfl (za1 rfl (za1 rfl (za1 rfl (za1 rfl (za1 rfl (za1 rfl (za1 rfl (za1 rfl (za1 rfl (za1 rfl (za1 rfl (za1 rfl (za1 rfl zaJ)))))))))))))) (hP.pick [0, 1, 2] rfl rfl)
      ·
       have hD := (zak h22).symm.trans hD
       refine wp_skip ?_
       exact nxy21 x8.1 γ9 _ _ _ hD r (za1 rfl (za1 rfl (za1 rfl (za1 rfl (za1 rfl (za1 rfl (za1 rfl (za1 rfl (za1 rfl (za1 rfl (za1 rfl (za1 rfl (za1 rfl (za1 rfl zaJ)))))))))))))) (hP.pick [0, 1, 2] rfl rfl)
     ·
      rintro x31 γ32 fr w33 g r hP hD
      have hP : Post No [memR a1g a1, znw b1 ((znu a0)).toArray 25, rowK 3 1 i64 γ32 x31] w0 w33 := hP
      refine wp_region_lit (za0 _ r (fun R => znA r rfl rfl rfl rfl) rfl fun fr r => za0 (I (W (x8.2 + 1))) r (fun R => za9 r rfl) rfl fun fr r => wn ?_)
      exact nxy10 (x31, (W (x8.2 + 1))) γ32 _ _ _ hD r (za1 rfl (za1 rfl (za1 rfl (za1 rfl (za1 rfl (za1 rfl (za1 rfl (za1 rfl (za1 rfl (za1 rfl zaJ)))))))))) (hP.pick [0, 1, 2] rfl rfl)
   ·
    have hD := (zak h12).symm.trans hD
    refine wp_exit ?_
    exact bky10 (x8.1, x8.2) γ9 _ _ _ hD r (za1 rfl (za1 rfl (za1 rfl (za1 rfl (za1 rfl (za1 rfl (za1 rfl (za1 rfl (za1 rfl (za1 rfl zaJ)))))))))) (hP.pick [0, 1, 2] rfl rfl)
  ·
   rintro x34 γ35 fr w36 g r hP hD
   have hP : Post No [memR a1g a1, znw b1 ((znu a0)).toArray 25, rowK 3 1 i64 γ35 x34.1] w0 w36 := hP
   refine wsr (za0 γ35 r (fun R => za9 r rfl) rfl fun fr r => za0 γ35 r (fun R => za7 r rfl) rfl fun fr r => wn (wp_ret ?_))
   have hv : x34.1 = res := Option.some.inj hD
   try dsimp only [Exit.then, Exit.inBlock]
   refine zaz (fn := Tryz.f70) r (t := 8) rfl (v := γ35) rfl ?_
   subst hv
   exact ⟨γ35, rfl, (hP.pick [2] rfl rfl).done (zbI rfl zca)⟩
end Go.Proofs.YtjkinpbfmihhdaaGreat
