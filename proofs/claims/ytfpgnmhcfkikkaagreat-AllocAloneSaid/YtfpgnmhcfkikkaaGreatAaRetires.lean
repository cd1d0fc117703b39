/- Ours. -/
import Derived.Test.YtfpgnmhcfkikkaaGreatAaM4
import Derived.Test.YtfpgnmhcfkikkaaGreatAaM8
set_option linter.all false
set_option maxRecDepth 20000
set_option maxHeartbeats 2000000
namespace Go.Proofs.YtfpgnmhcfkikkaaGreat
open Go.RowKit
theorem zma : zlp Tryz.prog 137 = true := by kernel_rfl
theorem zme : zlp Tryz.prog 138 = true := by kernel_rfl
theorem zo5 : zlp Tryz.prog 140 = true := by kernel_rfl
theorem znJ : zlp Tryz.prog 218 = true := by kernel_rfl
theorem zm8 : zlp Tryz.prog 219 = true := by kernel_rfl
theorem zod : zlp Tryz.prog 289 = true := by kernel_rfl
theorem cl31 : zlp Tryz.prog 31 = true := by kernel_rfl
theorem cl32 : zlp Tryz.prog 32 = true := by kernel_rfl
theorem zoR : zlp Tryz.prog 320 = true := by kernel_rfl
theorem zoo : zlp Tryz.prog 322 = true := by kernel_rfl
theorem zo1 : zlp Tryz.prog 323 = true := by kernel_rfl
theorem zoT : zlp Tryz.prog 324 = true := by kernel_rfl
theorem znZ : zlp Tryz.prog 326 = true := by kernel_rfl
theorem zof : zlp Tryz.prog 327 = true := by kernel_rfl
theorem znT : zlp Tryz.prog 328 = true := by kernel_rfl
theorem zmR : zlp Tryz.prog 357 = true := by kernel_rfl
theorem zo7 : zlp Tryz.prog 358 = true := by kernel_rfl
theorem znU : zlp Tryz.prog 359 = true := by kernel_rfl
theorem zoP : zlp Tryz.prog 360 = true := by kernel_rfl
theorem znu : zlp Tryz.prog 361 = true := by kernel_rfl
theorem znm : zlp Tryz.prog 388 = true := by kernel_rfl
theorem zoF : zlp Tryz.prog 389 = true := by kernel_rfl
theorem zoS : zlp Tryz.prog 390 = true := by kernel_rfl
theorem zoj : zlp Tryz.prog 391 = true := by kernel_rfl
theorem zo2 : zlp Tryz.prog 401 = true := by kernel_rfl
theorem cl87 : zlp Tryz.prog 87 = true := by kernel_rfl
theorem zgc : zlB Tryz.prog 297 0 0 = true := by kernel_rfl
theorem zjs : zlB Tryz.prog 297 1 1 = true := by kernel_rfl
theorem ziK : zlB Tryz.prog 297 2 2 = true := by kernel_rfl
theorem zmp : tyA Tryz.prog 297 3 = true := by kernel_rfl
theorem zoM : sized Tryz.prog 228 1 = true := by kernel_rfl
theorem znX : sized Tryz.prog 297 3 = true := by kernel_rfl
theorem znH : zeroOf Tryz.prog 228 = some .nilFunc := by kernel_rfl
theorem zoh : zeroOf Tryz.prog 297 = some (.agg (zlL (⟨0, 0, 0⟩ : Scan)).toArray) := by kernel_rfl
def D.zeH (r_retire_zero : Plan → Int → Int → (Unit → T Int) → T Int) (c0 : Plan) (c1 : Int) (c2 : Int) (c3 : (Unit → T Int)) : T Int := (r_retire_zero c0 c1 (IntKind.i64.wrap (c2 + 1)) c3)
def D.zbu (r_retire_zero : Plan → Int → Int → (Unit → T Int) → T Int) (a0 : Plan) (a1 : Int) (a2 : Int) (a3 : (Unit → T Int)) : T Int := (bif (a2 == 3) then (a3 ()) else (D.zbd (D.zc9 a0 a1 a2) 0 (fun _ => (D.zeH r_retire_zero a0 a1 a2 a3))))
def D.zbZ : Nat → Plan → Int → Int → (Unit → T Int) → T Int
  | 0, _, _, _, _ => .cut
  | k + 1, a0, a1, a2, a3 => D.zbu (D.zbZ k) a0 a1 a2 a3
def zdE (r : Plan → Int → Int → (Unit → T Int) → T Int) (n : Nat) : Prop := ∀ (F : Nat → Prop) (w0 : World), (∀ b, F b → b < w0.heap.size) → ∀ (a0 : Plan) (a1 : Int) (a2 : Int) {a3f : FuncId} {a3_1 a3_2 : List Value} {a3 : (Unit → T Int)} (a3n : FnT Tryz.prog zlq unitE (n + 1) F w0 (.func (.func a3f) a3_1.toArray a3_2.toArray) a3), Calls Tryz.prog 357 #[.agg (zln a0).toArray, .int .i64 a1, .int .i64 a2, .func (.func a3f) a3_1.toArray a3_2.toArray] w0 (zlx Tryz.prog zlq n (r a0 a1 a2 a3) F w0)
theorem zgN {n : Nat} {F : Nat → Prop} {r_retire_zero : Plan → Int → Int → (Unit → T Int) → T Int} {w0 : World} (hF : ∀ b, F b → b < w0.heap.size) (ih_retire_zero : ∀ m, m ≤ n → zdE r_retire_zero m)
    (c0 : Plan) {c0b : Nat} (c0F : F c0b) (c0h : w0.heap[c0b]? = some (.cells ((zln c0)).toArray 23 (0, 0))) (c1 : Int) {c1b : Nat} (c1F : F c1b) (c1h : w0.heap[c1b]? = some (.cells ([(.int .i64 c1)]).toArray 3 (0, 0))) (c2 : Int) {c2b : Nat} (c2F : F c2b) (c2h : w0.heap[c2b]? = some (.cells ([(.int .i64 c2)]).toArray 3 (0, 0))) {c3f : FuncId} {c3_1 c3_2 : List Value} {c3 : (Unit → T Int)} {c3b : Nat} (c3F : F c3b) (c3h : w0.heap[c3b]? = some (.cells #[.func (.func c3f) c3_1.toArray c3_2.toArray] 228 (0, 0))) (c3n : FnT Tryz.prog zlq unitE (n + 1) F w0 (.func (.func c3f) c3_1.toArray c3_2.toArray) c3) :
    Calls Tryz.prog 401 #[zp c0b, zp c1b, zp c2b, zp c3b] w0 (zlx Tryz.prog zlq n (D.zeH r_retire_zero c0 c1 c2 c3) F w0) := by
 refine enter Tryz.func401 rfl 11 rfl rfl fun fr r => ?_
 have hB := Below.refl w0.heap.size w0
 have lc0b := lt_of_block c0h
 have lc1b := lt_of_block c1h
 have lc2b := lt_of_block c2h
 have lc3b := lt_of_block c3h
 refine wsr ?_
 refine zaa (.cells (zlo false zlq.zero 0 0 0 0 .nilFunc) 61 (0, 0)) r (fun R => zar tz61) rfl fun fr b1 w2 n3 r => ?_
 obtain ⟨e_b1, z_w2, h_b1, hB, zB⟩ := n3.all hB
 refine wn (wsr (za0 (.agg (zln c0).toArray) r (fun R => za7 r (cs := (zln c0)) (n := 6) rfl (keep hB c0h) ta23 rfl) rfl fun fr r => za0 (I c1) r (fun R => za2 r rfl (keep hB c1h) to3 rfl) rfl fun fr r => za0 (I c2) r (fun R => za2 r rfl (keep hB c2h) to3 rfl) rfl fun fr r => za0 _ r (fun R => zlt r rfl rfl rfl rfl) rfl fun fr r => za0 (.func (.func c3f) c3_1.toArray c3_2.toArray) r (fun R => za2 r rfl (keep hB c3h) zmg rfl) rfl fun fr r => ?_))
 have hF1 := zlG hF hB b1
 refine za9 r ((ih_retire_zero n (by omega)) (fun b => F b ∨ (w0.heap.size ≤ b ∧ b < w2.heap.size ∧ b ≠ b1)) _ hF1 c0 c1 (W (c2 + 1)) (c3n.mono (by omega) (fun b h => .inl h) (Same.below hB hF) hB.size)) (fun R hc => zac r rfl zmR hc) rfl ?_
 rintro _ w4 ⟨v5, rfl, hb, hr6⟩
 refine ⟨_, rfl, fun fr r => ?_⟩
 have z_w4 := hb.size
 have h_b1 := keep hb h_b1
 obtain ⟨hB, zB⟩ := bon hb hB
 refine zaf (.cells v5.cells 61 (0, 0)) r (fun R => zaq r hr6.shape rfl rfl h_b1 ts61 rfl) rfl fun fr w7 u8 r => ?_
 have z_w7 := u8.size
 have h_b1 := u8.at_
 obtain ⟨hB, zB⟩ := u8.on hB (by omega)
 refine wn (wp_ret ?_)
 have hs := hr6.shape.cells
 refine zal r rfl rfl h_b1 (k := 7) hs.1 ta61 ?_
 rw [← hs.2.2]
 exact rfin hF hB hr6 u8 (by omega) (by omega) (by omega)
theorem zhJ {n : Nat} {F : Nat → Prop} {r_retire_zero : Plan → Int → Int → (Unit → T Int) → T Int} {w0 : World} (hF : ∀ b, F b → b < w0.heap.size) (ih_retire_zero : ∀ m, m < n → zdE r_retire_zero m)
    (a0 : Plan) (a1 : Int) (a2 : Int) {a3f : FuncId} {a3_1 a3_2 : List Value} {a3 : (Unit → T Int)} (a3n : FnT Tryz.prog zlq unitE (n + 1) F w0 (.func (.func a3f) a3_1.toArray a3_2.toArray) a3) :
    Calls Tryz.prog 357 #[.agg (zln a0).toArray, .int .i64 a1, .int .i64 a2, .func (.func a3f) a3_1.toArray a3_2.toArray] w0 (zlx Tryz.prog zlq n (D.zbu r_retire_zero a0 a1 a2 a3) F w0) := by
 refine enter Tryz.func357 rfl 19 rfl rfl fun fr r => ?_
 have hB := Below.refl w0.heap.size w0
 refine wsr ?_
 refine zaa (.cells ((zln a0)).toArray 23 (0, 0)) r (fun R => zlC r (v := (.agg (zln a0).toArray)) rfl) rfl fun fr b1 w2 n3 r => ?_
 obtain ⟨e_b1, z_w2, h_b1, hB, zB⟩ := n3.all hB
 refine zaa (.cells #[(I a1)] 3 (0, 0)) r (fun R => zlC r (v := (I a1)) rfl) rfl fun fr b4 w5 n6 r => ?_
 have h_b1 := keep n6.below h_b1
 obtain ⟨e_b4, z_w5, h_b4, hB, zB⟩ := n6.all hB
 refine zaa (.cells #[(I a2)] 3 (0, 0)) r (fun R => zlC r (v := (I a2)) rfl) rfl fun fr b7 w8 n9 r => ?_
 have h_b1 := keep n9.below h_b1
 have h_b4 := keep n9.below h_b4
 obtain ⟨e_b7, z_w8, h_b7, hB, zB⟩ := n9.all hB
 refine zaa (.cells #[.func (.func a3f) a3_1.toArray a3_2.toArray] 228 (0, 0)) r (fun R => zlC r (v := (.func (.func a3f) a3_1.toArray a3_2.toArray)) rfl) rfl fun fr b10 w11 n12 r => ?_
 have h_b1 := keep n12.below h_b1
 have h_b4 := keep n12.below h_b4
 have h_b7 := keep n12.below h_b7
 obtain ⟨e_b10, z_w11, h_b10, hB, zB⟩ := n12.all hB
 refine zaa (.cells (zlo false zlq.zero 0 0 0 0 .nilFunc) 61 (0, 0)) r (fun R => zar tz61) rfl fun fr b13 w14 n15 r => ?_
 have h_b1 := keep n15.below h_b1
 have h_b4 := keep n15.below h_b4
 have h_b7 := keep n15.below h_b7
 have h_b10 := keep n15.below h_b10
 obtain ⟨e_b13, z_w14, h_b13, hB, zB⟩ := n15.all hB
 refine wn (wp_seq (wsr (za0 (I a2) r (fun R => za2 r rfl h_b7 to3 rfl) rfl fun fr r => za0 _ r (fun R => zlt r rfl rfl rfl rfl) rfl fun fr r => wn ?_)))
 refine wp_cond_split (t := (a2 == 3)) (r.ev rfl) (fun h16 => ?_) (fun h16 => ?_)
 ·
  refine wsr (za0 (.func (.func a3f) a3_1.toArray a3_2.toArray) r (fun R => za2 r rfl h_b10 zmg rfl) rfl fun fr r => ?_)
  refine za9 r (a3n.at_.2 n (Nat.lt_succ_self n) () w14 (Same.below hB hF) hB.size) (fun R hc => zfS r rfl a3n.at_.1 hc) rfl ?_
  rintro _ w17 ⟨v18, rfl, hb, hr19⟩
  refine ⟨_, rfl, fun fr r => ?_⟩
  have z_w17 := hb.size
  have h_b1 := keep hb h_b1
  have h_b4 := keep hb h_b4
  have h_b7 := keep hb h_b7
  have h_b10 := keep hb h_b10
  have h_b13 := keep hb h_b13
  obtain ⟨hB, zB⟩ := bon hb hB
  refine zaf (.cells v18.cells 61 (0, 0)) r (fun R => zaq r hr19.shape rfl rfl h_b13 ts61 rfl) rfl fun fr w20 u21 r => ?_
  have z_w20 := u21.size
  have h_b1 := u21.keep h_b1 (by omega)
  have h_b4 := u21.keep h_b4 (by omega)
  have h_b7 := u21.keep h_b7 (by omega)
  have h_b10 := u21.keep h_b10 (by omega)
  have h_b13 := u21.at_
  obtain ⟨hB, zB⟩ := u21.on hB (by omega)
  refine wn (wp_ret ?_)
  have hd : D.zbu r_retire_zero a0 a1 a2 a3 = (a3 ()) := (zao h16).trans (rfl)
  have hs := hr19.shape.cells
  refine zal r rfl rfl h_b13 (k := 7) hs.1 ta61 ?_
  rw [← hs.2.2, hd]
  exact zlx.fin hB hr19 u21 (fun b hb => .inl hb) (fun h => by have := hF _ h; omega) (by omega) (by omega) (by omega)
 ·
  refine wp_skip (wsr (za0 (.agg (zln a0).toArray) r (fun R => za7 r (cs := (zln a0)) (n := 6) rfl h_b1 ta23 rfl) rfl fun fr r => za0 (I a1) r (fun R => za2 r rfl h_b4 to3 rfl) rfl fun fr r => za0 (I a2) r (fun R => za2 r rfl h_b7 to3 rfl) rfl fun fr r => ?_))
  refine za9 r (zgf w14 a0 a1 a2) (fun R hc => zac r rfl zo5 hc) rfl ?_
  rintro _ w22 ⟨rfl, hb⟩
  refine ⟨_, rfl, fun fr r => ?_⟩
  have z_w22 := hb.size
  have h_b1 := keep hb h_b1
  have h_b4 := keep hb h_b4
  have h_b7 := keep hb h_b7
  have h_b10 := keep hb h_b10
  have h_b13 := keep hb h_b13
  obtain ⟨hB, zB⟩ := bon hb hB
  refine za0 (.func (.func 401) #[] #[zp b1, zp b4, zp b7, zp b10]) r (fun R => zaL r rfl) rfl fun fr r => ?_
  have hF1 := zlG hF hB b13
  have f23 : ((fun b => F b ∨ (w0.heap.size ≤ b ∧ b < w22.heap.size ∧ b ≠ b13))) b1 := (.inr ⟨by omega, by omega, by omega⟩)
  have f24 : ((fun b => F b ∨ (w0.heap.size ≤ b ∧ b < w22.heap.size ∧ b ≠ b13))) b4 := (.inr ⟨by omega, by omega, by omega⟩)
  have f25 : ((fun b => F b ∨ (w0.heap.size ≤ b ∧ b < w22.heap.size ∧ b ≠ b13))) b7 := (.inr ⟨by omega, by omega, by omega⟩)
  have f26 : ((fun b => F b ∨ (w0.heap.size ≤ b ∧ b < w22.heap.size ∧ b ≠ b13))) b10 := (.inr ⟨by omega, by omega, by omega⟩)
  refine za9 r (zbK (F := (fun b => F b ∨ (w0.heap.size ≤ b ∧ b < w22.heap.size ∧ b ≠ b13))) (n := n) hF1 (D.zc9 a0 a1 a2) 0 ⟨401, [], [zp b1, zp b4, zp b7, zp b10], zo2, rfl, fun m hm _ w' hs hz => zgN (fun b hb => Nat.lt_of_lt_of_le (hF1 b hb) hz) (fun m' hm' => ih_retire_zero m' (by omega)) a0 f23 (hs.at_ f23 h_b1) a1 f24 (hs.at_ f24 h_b4) a2 f25 (hs.at_ f25 h_b7) f26 (hs.at_ f26 h_b10) (a3n.mono (by omega) (fun b h => .inl h) ((Same.below hB hF).trans (hs.sub (fun b h => .inl h))) (Nat.le_trans hB.size hz))⟩) (fun R hc => zac r rfl zlX hc) rfl ?_
  rintro _ w27 ⟨v28, rfl, hb, hr29⟩
  refine ⟨_, rfl, fun fr r => ?_⟩
  have z_w27 := hb.size
  have h_b1 := keep hb h_b1
  have h_b4 := keep hb h_b4
  have h_b7 := keep hb h_b7
  have h_b10 := keep hb h_b10
  have h_b13 := keep hb h_b13
  obtain ⟨hB, zB⟩ := bon hb hB
  refine zaf (.cells v28.cells 61 (0, 0)) r (fun R => zaq r hr29.shape rfl rfl h_b13 ts61 rfl) rfl fun fr w30 u31 r => ?_
  have z_w30 := u31.size
  have h_b1 := u31.keep h_b1 (by omega)
  have h_b4 := u31.keep h_b4 (by omega)
  have h_b7 := u31.keep h_b7 (by omega)
  have h_b10 := u31.keep h_b10 (by omega)
  have h_b13 := u31.at_
  obtain ⟨hB, zB⟩ := u31.on hB (by omega)
  refine wn (wp_ret ?_)
  have hd : D.zbu r_retire_zero a0 a1 a2 a3 = (D.zbd (D.zc9 a0 a1 a2) 0 (fun _ => (D.zeH r_retire_zero a0 a1 a2 a3))) := (zah h16).trans (rfl)
  have hs := hr29.shape.cells
  refine zal r rfl rfl h_b13 (k := 7) hs.1 ta61 ?_
  rw [← hs.2.2, hd]
  exact rfin hF hB hr29 u31 (by omega) (by omega) (by omega)
theorem zhC {n : Nat} {k : Nat} (hk : n < k) : zdE (D.zbZ k) n := by
  induction n using Nat.strongRecOn generalizing k with
  | _ n ih =>
    obtain ⟨k, rfl⟩ : ∃ q, k = q + 1 := ⟨k - 1, by omega⟩
    intro F w0 hF
    have h := @zhJ n F (D.zbZ k) w0 hF (fun m hm => ih m hm (by omega))
    exact h
def D.zbh (j : Nat) (c0 : State) (c1 : Plan) (c2 : Int) : T Int := (bif (c0.mode == 3) then (D.zaW (-1)) else (D.zcM j c1 c2))
theorem zeN {n : Nat} {F : Nat → Prop} {j : Nat} {w0 : World} (hF : ∀ b, F b → b < w0.heap.size) (hj : n < j)
    (c0 : State) {c0b : Nat} (c0F : F c0b) (c0h : w0.heap[c0b]? = some (.cells ((zlw c0)).toArray 55 (0, 0))) (c1 : Plan) {c1b : Nat} (c1F : F c1b) (c1h : w0.heap[c1b]? = some (.cells ((zln c1)).toArray 23 (0, 0))) (c2 : Int) {c2b : Nat} (c2F : F c2b) (c2h : w0.heap[c2b]? = some (.cells ([(.int .i64 c2)]).toArray 3 (0, 0))) :
    Calls Tryz.prog 361 #[zp c0b, zp c1b, zp c2b] w0 (zlx Tryz.prog zlq n (D.zbh j c0 c1 c2) F w0) := by
 refine enter Tryz.func361 rfl 11 rfl rfl fun fr r => ?_
 have hB := Below.refl w0.heap.size w0
 have lc0b := lt_of_block c0h
 have lc1b := lt_of_block c1h
 have lc2b := lt_of_block c2h
 refine wsr ?_
 refine zaa (.cells (zlo false zlq.zero 0 0 0 0 .nilFunc) 61 (0, 0)) r (fun R => zar tz61) rfl fun fr b1 w2 n3 r => ?_
 obtain ⟨e_b1, z_w2, h_b1, hB, zB⟩ := n3.all hB
 refine wn (wp_seq (wsr (za0 _ r (fun R => za4 r (o := 0) rfl zih) rfl fun fr r => za0 (I c0.mode) r (fun R => za2 r rfl (keep hB c0h) to3 rfl) rfl fun fr r => za0 _ r (fun R => zlt r rfl rfl rfl rfl) rfl fun fr r => wn ?_)))
 refine wp_cond_split (t := (c0.mode == 3)) (r.ev rfl) (fun h4 => ?_) (fun h4 => ?_)
 ·
  refine wsr ?_
  have hF1 := zlG hF hB b1
  refine za9 r (zbs (F := (fun b => F b ∨ (w0.heap.size ≤ b ∧ b < w2.heap.size ∧ b ≠ b1))) (n := n) hF1 (-1)) (fun R hc => zac r rfl zlS hc) rfl ?_
  rintro _ w5 ⟨v6, rfl, hb, hr7⟩
  refine ⟨_, rfl, fun fr r => ?_⟩
  have z_w5 := hb.size
  have h_b1 := keep hb h_b1
  obtain ⟨hB, zB⟩ := bon hb hB
  refine zaf (.cells v6.cells 61 (0, 0)) r (fun R => zaq r hr7.shape rfl rfl h_b1 ts61 rfl) rfl fun fr w8 u9 r => ?_
  have z_w8 := u9.size
  have h_b1 := u9.at_
  obtain ⟨hB, zB⟩ := u9.on hB (by omega)
  refine wn (wp_ret ?_)
  have hd : D.zbh j c0 c1 c2 = (D.zaW (-1)) := (zao h4).trans (rfl)
  have hs := hr7.shape.cells
  refine zal r rfl rfl h_b1 (k := 7) hs.1 ta61 ?_
  rw [← hs.2.2, hd]
  exact rfin hF hB hr7 u9 (by omega) (by omega) (by omega)
 ·
  refine wp_skip (wsr (za0 (.agg (zln c1).toArray) r (fun R => za7 r (cs := (zln c1)) (n := 6) rfl (keep hB c1h) ta23 rfl) rfl fun fr r => za0 (I c2) r (fun R => za2 r rfl (keep hB c2h) to3 rfl) rfl fun fr r => ?_))
  have hF1 := zlG hF hB b1
  refine za9 r ((ziJ (k := j) (n := n) (by omega)) (fun b => F b ∨ (w0.heap.size ≤ b ∧ b < w2.heap.size ∧ b ≠ b1)) _ hF1 c1 c2) (fun R hc => zac r rfl zn4 hc) rfl ?_
  rintro _ w10 ⟨v11, rfl, hb, hr12⟩
  refine ⟨_, rfl, fun fr r => ?_⟩
  have z_w10 := hb.size
  have h_b1 := keep hb h_b1
  obtain ⟨hB, zB⟩ := bon hb hB
  refine zaf (.cells v11.cells 61 (0, 0)) r (fun R => zaq r hr12.shape rfl rfl h_b1 ts61 rfl) rfl fun fr w13 u14 r => ?_
  have z_w13 := u14.size
  have h_b1 := u14.at_
  obtain ⟨hB, zB⟩ := u14.on hB (by omega)
  refine wn (wp_ret ?_)
  have hd : D.zbh j c0 c1 c2 = (D.zcM j c1 c2) := (zah h4).trans (rfl)
  have hs := hr12.shape.cells
  refine zal r rfl rfl h_b1 (k := 7) hs.1 ta61 ?_
  rw [← hs.2.2, hd]
  exact rfin hF hB hr12 u14 (by omega) (by omega) (by omega)
def D.zdf (j : Nat) (c0 : Plan) (c1 : Int) (a0 : Int) : T Int := (D.zbd (D.zaI c0 c1) (D.zan (D.zas ((D.zau a0).1) c0.gen)) (fun _ => (D.zbh j (D.zas ((D.zau a0).1) c0.gen) c0 c1)))
theorem zfe {n : Nat} {F : Nat → Prop} {j : Nat} {w0 : World} (hF : ∀ b, F b → b < w0.heap.size) (hj : n < j)
    (c0 : Plan) {c0b : Nat} (c0F : F c0b) (c0h : w0.heap[c0b]? = some (.cells ((zln c0)).toArray 23 (0, 0))) (c1 : Int) {c1b : Nat} (c1F : F c1b) (c1h : w0.heap[c1b]? = some (.cells ([(.int .i64 c1)]).toArray 3 (0, 0))) (a0 : Int) :
    Calls Tryz.prog 359 #[.int .u64 a0, zp c0b, zp c1b] w0 (zlx Tryz.prog zlq n (D.zdf j c0 c1 a0) F w0) := by
 refine enter Tryz.func359 rfl 24 rfl rfl fun fr r => ?_
 have hB := Below.refl w0.heap.size w0
 have lc0b := lt_of_block c0h
 have lc1b := lt_of_block c1h
 refine wsr ?_
 refine zaa (.cells (zlo false zlq.zero 0 0 0 0 .nilFunc) 61 (0, 0)) r (fun R => zar tz61) rfl fun fr b1 w2 n3 r => ?_
 obtain ⟨e_b1, z_w2, h_b1, hB, zB⟩ := n3.all hB
 refine wn (wsr (za0 (U a0) r (fun R => za5 r rfl) rfl fun fr r => ?_))
 refine za9 r (zeo w2 a0) (fun R hc => zac r rfl cl87 hc) rfl ?_
 rintro _ w4 ⟨rfl, hb⟩
 refine ⟨_, rfl, fun fr r => ?_⟩
 have z_w4 := hb.size
 have h_b1 := keep hb h_b1
 obtain ⟨hB, zB⟩ := bon hb hB
 refine za0 (.tuple #[(.agg (zlw (D.zau a0).1).toArray), (.bool (D.zau a0).2)]) r (fun R => za5 r rfl) rfl fun fr r => za0 (.agg (zlw (D.zau a0).1).toArray) r (fun R => zaQ r (vs := #[(.agg (zlw (D.zau a0).1).toArray), (.bool (D.zau a0).2)]) rfl rfl) rfl fun fr r => za0 (.bool (D.zau a0).2) r (fun R => zaQ r (vs := #[(.agg (zlw (D.zau a0).1).toArray), (.bool (D.zau a0).2)]) rfl rfl) rfl fun fr r => ?_
 refine zaa (.cells ((zlw (⟨0, 0, 0⟩ : State))).toArray 55 (0, 0)) r (fun R => zar tz55) rfl fun fr b5 w6 n7 r => ?_
 have h_b1 := keep n7.below h_b1
 obtain ⟨e_b5, z_w6, h_b5, hB, zB⟩ := n7.all hB
 refine zaf (.cells ((zlw ((D.zau a0).1))).toArray 55 (0, 0)) r (fun R => zb0 r (o := 0) (v := (.agg (zlw (D.zau a0).1).toArray)) rfl rfl h_b5 ts55 (Nat.le_of_ble_eq_true rfl) rfl rfl) rfl fun fr w8 u9 r => ?_
 have z_w8 := u9.size
 have h_b1 := u9.keep h_b1 (by omega)
 have h_b5 := u9.at_
 obtain ⟨hB, zB⟩ := u9.on hB (by omega)
 refine za0 (.bool (D.zau a0).2) r (fun R => za6 r rfl) rfl fun fr r => wn (wsr (za0 (.agg (zlw (D.zau a0).1).toArray) r (fun R => za7 r (cs := (zlw ((D.zau a0).1))) (n := 3) rfl h_b5 ta55 rfl) rfl fun fr r => za0 _ r (fun R => za4 r (o := 0) rfl zi9) rfl fun fr r => za0 (I c0.gen) r (fun R => za2 r rfl (keep hB c0h) to3 rfl) rfl fun fr r => ?_))
 refine za9 r (zft w8 ((D.zau a0).1) c0.gen) (fun R hc => zac r rfl zoP hc) rfl ?_
 rintro _ w10 ⟨rfl, hb⟩
 refine ⟨_, rfl, fun fr r => ?_⟩
 have z_w10 := hb.size
 have h_b1 := keep hb h_b1
 have h_b5 := keep hb h_b5
 obtain ⟨hB, zB⟩ := bon hb hB
 refine zaa (.cells ((zlw (⟨0, 0, 0⟩ : State))).toArray 55 (0, 0)) r (fun R => zar tz55) rfl fun fr b11 w12 n13 r => ?_
 have h_b1 := keep n13.below h_b1
 have h_b5 := keep n13.below h_b5
 obtain ⟨e_b11, z_w12, h_b11, hB, zB⟩ := n13.all hB
 refine zaf (.cells ((zlw (D.zas ((D.zau a0).1) c0.gen))).toArray 55 (0, 0)) r (fun R => zb0 r (o := 0) (v := (.agg (zlw (D.zas ((D.zau a0).1) c0.gen)).toArray)) rfl rfl h_b11 ts55 (Nat.le_of_ble_eq_true rfl) rfl rfl) rfl fun fr w14 u15 r => ?_
 have z_w14 := u15.size
 have h_b1 := u15.keep h_b1 (by omega)
 have h_b5 := u15.keep h_b5 (by omega)
 have h_b11 := u15.at_
 obtain ⟨hB, zB⟩ := u15.on hB (by omega)
 refine wn (wp_seq ?_)
 refine zb5 6 [.val (.agg (zln c0).toArray), .val (I c1), .val (I (D.zaI c0 c1)), .val (.agg (zlw (D.zas ((D.zau a0).1) c0.gen)).toArray), .val (U (D.zan (D.zas ((D.zau a0).1) c0.gen))), .val (.func (.func 361) #[] #[zp b11, zp c0b, zp c1b])] mixed r (by kernel_rfl) (za3 (by exact trivial) (za3 (by exact trivial) (za3 (by exact trivial) (za3 (by exact trivial) (za3 (by exact trivial) (za3 (by exact trivial) zaV)))))) ?_ ?_
 ·
  refine ec r (fun _ u _ b d s => za7 s (cs := (zln c0)) (n := 6) rfl (zlK hB b c0h) ta23 rfl bz) (ec r (fun _ u _ b d s => za2 s rfl (zlK hB b c1h) to3 rfl bz) (ec r (fun fr1 u w' hb' hd r' => zac r' (args := [(.agg (zln c0).toArray), (I c1)]) (lc hd.1 (lc hd.2.1 l0)) cl31 ((zbQ _ c0 c1).mono (by rintro _ w2 ⟨rfl, hb2⟩; exact ⟨_, rfl, hb2, rfl⟩))) (ec r (fun _ u _ b d s => za7 s (cs := (zlw (D.zas ((D.zau a0).1) c0.gen))) (n := 3) rfl (keep b h_b11) ta55 rfl bz) (ec r (fun fr1 u w' hb' hd r' => zac r' (args := [(.agg (zlw (D.zas ((D.zau a0).1) c0.gen)).toArray)]) (lc hd.1 l0) cl32 ((zbX _ (D.zas ((D.zau a0).1) c0.gen)).mono (by rintro _ w2 ⟨rfl, hb2⟩; exact ⟨_, rfl, hb2, rfl⟩))) (ec r (fun _ u _ b d s => zaL s (v := (.func (.func 361) #[] #[zp b11, zp c0b, zp c1b])) rfl bz) ?_)))))
  exact zbc
 ·
  intro fr u w16 hb hΦ hne r
  have r := r.congr (sc (hΦ 5 (by decide)) (sc (hΦ 4 (by decide)) (sc (hΦ 3 (by decide)) (sc (hΦ 2 (by decide)) (sc (hΦ 1 (by decide)) (sc (hΦ 0 (by decide)) rfl))))))
  have z_w16 := hb.size
  have h_b1 := keep hb h_b1
  have h_b5 := keep hb h_b5
  have h_b11 := keep hb h_b11
  obtain ⟨hB, zB⟩ := bon hb hB
  have hF1 := zlG hF hB b1
  have f17 : ((fun b => F b ∨ (w0.heap.size ≤ b ∧ b < w16.heap.size ∧ b ≠ b1))) b11 := (.inr ⟨by omega, by omega, by omega⟩)
  have f18 : ((fun b => F b ∨ (w0.heap.size ≤ b ∧ b < w16.heap.size ∧ b ≠ b1))) c0b := (.inl c0F)
  have f19 : ((fun b => F b ∨ (w0.heap.size ≤ b ∧ b < w16.heap.size ∧ b ≠ b1))) c1b := (.inl c1F)
  refine za9 r (zbK (F := (fun b => F b ∨ (w0.heap.size ≤ b ∧ b < w16.heap.size ∧ b ≠ b1))) (n := n) hF1 (D.zaI c0 c1) (D.zan (D.zas ((D.zau a0).1) c0.gen)) ⟨361, [], [zp b11, zp c0b, zp c1b], znu, rfl, fun m hm _ w' hs hz => zeN (j := j) (fun b hb => Nat.lt_of_lt_of_le (hF1 b hb) hz) (by omega) (D.zas ((D.zau a0).1) c0.gen) f17 (hs.at_ f17 h_b11) c0 f18 (hs.at_ f18 (keep hB c0h)) c1 f19 (hs.at_ f19 (keep hB c1h))⟩) (fun R hc => zac r rfl zlX hc) rfl ?_
  rintro _ w20 ⟨v21, rfl, hb, hr22⟩
  refine ⟨_, rfl, fun fr r => ?_⟩
  have z_w20 := hb.size
  have h_b1 := keep hb h_b1
  have h_b5 := keep hb h_b5
  have h_b11 := keep hb h_b11
  obtain ⟨hB, zB⟩ := bon hb hB
  refine zaf (.cells v21.cells 61 (0, 0)) r (fun R => zaq r hr22.shape rfl rfl h_b1 ts61 rfl) rfl fun fr w23 u24 r => ?_
  have z_w23 := u24.size
  have h_b5 := u24.keep h_b5 (by omega)
  have h_b11 := u24.keep h_b11 (by omega)
  have h_b1 := u24.at_
  obtain ⟨hB, zB⟩ := u24.on hB (by omega)
  refine wn (wp_ret ?_)
  have hs := hr22.shape.cells
  refine zal r rfl rfl h_b1 (k := 7) hs.1 ta61 ?_
  rw [← hs.2.2]
  exact rfin hF hB hr22 u24 (by omega) (by omega) (by omega)
def D.zdJ (j : Nat) (c0 : Plan) (c1 : Int) : T Int := (D.zb7 (D.zaI c0 c1) (fun x => (D.zdf j c0 c1 x)))
theorem zfH {n : Nat} {F : Nat → Prop} {j : Nat} {w0 : World} (hF : ∀ b, F b → b < w0.heap.size) (hj : n < j)
    (c0 : Plan) {c0b : Nat} (c0F : F c0b) (c0h : w0.heap[c0b]? = some (.cells ((zln c0)).toArray 23 (0, 0))) (c1 : Int) {c1b : Nat} (c1F : F c1b) (c1h : w0.heap[c1b]? = some (.cells ([(.int .i64 c1)]).toArray 3 (0, 0))) :
    Calls Tryz.prog 358 #[zp c0b, zp c1b] w0 (zlx Tryz.prog zlq n (D.zdJ j c0 c1) F w0) := by
 refine enter Tryz.func358 rfl 8 rfl rfl fun fr r => ?_
 have hB := Below.refl w0.heap.size w0
 have lc0b := lt_of_block c0h
 have lc1b := lt_of_block c1h
 refine wsr ?_
 refine zaa (.cells (zlo false zlq.zero 0 0 0 0 .nilFunc) 61 (0, 0)) r (fun R => zar tz61) rfl fun fr b1 w2 n3 r => ?_
 obtain ⟨e_b1, z_w2, h_b1, hB, zB⟩ := n3.all hB
 refine wn (wsr (za0 (.agg (zln c0).toArray) r (fun R => za7 r (cs := (zln c0)) (n := 6) rfl (keep hB c0h) ta23 rfl) rfl fun fr r => za0 (I c1) r (fun R => za2 r rfl (keep hB c1h) to3 rfl) rfl fun fr r => ?_))
 refine za9 r (zbQ w2 c0 c1) (fun R hc => zac r rfl cl31 hc) rfl ?_
 rintro _ w4 ⟨rfl, hb⟩
 refine ⟨_, rfl, fun fr r => ?_⟩
 have z_w4 := hb.size
 have h_b1 := keep hb h_b1
 obtain ⟨hB, zB⟩ := bon hb hB
 refine za0 (.func (.func 359) #[] #[zp c0b, zp c1b]) r (fun R => zaL r rfl) rfl fun fr r => ?_
 have hF1 := zlG hF hB b1
 have f5 : ((fun b => F b ∨ (w0.heap.size ≤ b ∧ b < w4.heap.size ∧ b ≠ b1))) c0b := (.inl c0F)
 have f6 : ((fun b => F b ∨ (w0.heap.size ≤ b ∧ b < w4.heap.size ∧ b ≠ b1))) c1b := (.inl c1F)
 refine za9 r (zbG (F := (fun b => F b ∨ (w0.heap.size ≤ b ∧ b < w4.heap.size ∧ b ≠ b1))) (n := n) hF1 (D.zaI c0 c1) ⟨359, [], [zp c0b, zp c1b], znU, rfl, fun m hm x w' hs hz => zfe (j := j) (fun b hb => Nat.lt_of_lt_of_le (hF1 b hb) hz) (by omega) c0 f5 (hs.at_ f5 (keep hB c0h)) c1 f6 (hs.at_ f6 (keep hB c1h)) x⟩) (fun R hc => zac r rfl zlV hc) rfl ?_
 rintro _ w7 ⟨v8, rfl, hb, hr9⟩
 refine ⟨_, rfl, fun fr r => ?_⟩
 have z_w7 := hb.size
 have h_b1 := keep hb h_b1
 obtain ⟨hB, zB⟩ := bon hb hB
 refine zaf (.cells v8.cells 61 (0, 0)) r (fun R => zaq r hr9.shape rfl rfl h_b1 ts61 rfl) rfl fun fr w10 u11 r => ?_
 have z_w10 := u11.size
 have h_b1 := u11.at_
 obtain ⟨hB, zB⟩ := u11.on hB (by omega)
 refine wn (wp_ret ?_)
 have hs := hr9.shape.cells
 refine zal r rfl rfl h_b1 (k := 7) hs.1 ta61 ?_
 rw [← hs.2.2]
 exact rfin hF hB hr9 u11 (by omega) (by omega) (by omega)
def D.zdx (j : Nat) (a0 : Plan) (a1 : Int) : T Int := (D.zbZ j a0 a1 0 (fun _ => (D.zdJ j a0 a1)))
theorem zgt {n : Nat} {F : Nat → Prop} {j : Nat} {w0 : World} (hF : ∀ b, F b → b < w0.heap.size) (hj : n < j)
    (a0 : Plan) (a1 : Int) :
    Calls Tryz.prog 289 #[.agg (zln a0).toArray, .int .i64 a1] w0 (zlx Tryz.prog zlq n (D.zdx j a0 a1) F w0) := by
 refine enter Tryz.func289 rfl 9 rfl rfl fun fr r => ?_
 have hB := Below.refl w0.heap.size w0
 refine wsr ?_
 refine zaa (.cells ((zln a0)).toArray 23 (0, 0)) r (fun R => zlC r (v := (.agg (zln a0).toArray)) rfl) rfl fun fr b1 w2 n3 r => ?_
 obtain ⟨e_b1, z_w2, h_b1, hB, zB⟩ := n3.all hB
 refine zaa (.cells #[(I a1)] 3 (0, 0)) r (fun R => zlC r (v := (I a1)) rfl) rfl fun fr b4 w5 n6 r => ?_
 have h_b1 := keep n6.below h_b1
 obtain ⟨e_b4, z_w5, h_b4, hB, zB⟩ := n6.all hB
 refine zaa (.cells (zlo false zlq.zero 0 0 0 0 .nilFunc) 61 (0, 0)) r (fun R => zar tz61) rfl fun fr b7 w8 n9 r => ?_
 have h_b1 := keep n9.below h_b1
 have h_b4 := keep n9.below h_b4
 obtain ⟨e_b7, z_w8, h_b7, hB, zB⟩ := n9.all hB
 refine wn (wsr (za0 (.agg (zln a0).toArray) r (fun R => za7 r (cs := (zln a0)) (n := 6) rfl h_b1 ta23 rfl) rfl fun fr r => za0 (I a1) r (fun R => za2 r rfl h_b4 to3 rfl) rfl fun fr r => za0 (.func (.func 358) #[] #[zp b1, zp b4]) r (fun R => zaL r rfl) rfl fun fr r => ?_))
 have hF1 := zlG hF hB b7
 have f10 : ((fun b => F b ∨ (w0.heap.size ≤ b ∧ b < w8.heap.size ∧ b ≠ b7))) b1 := (.inr ⟨by omega, by omega, by omega⟩)
 have f11 : ((fun b => F b ∨ (w0.heap.size ≤ b ∧ b < w8.heap.size ∧ b ≠ b7))) b4 := (.inr ⟨by omega, by omega, by omega⟩)
 refine za9 r ((zhC (k := j) (n := n) (by omega)) (fun b => F b ∨ (w0.heap.size ≤ b ∧ b < w8.heap.size ∧ b ≠ b7)) _ hF1 a0 a1 0 ⟨358, [], [zp b1, zp b4], zo7, rfl, fun m hm _ w' hs hz => zfH (j := j) (fun b hb => Nat.lt_of_lt_of_le (hF1 b hb) hz) (by omega) a0 f10 (hs.at_ f10 h_b1) a1 f11 (hs.at_ f11 h_b4)⟩) (fun R hc => zac r rfl zmR hc) rfl ?_
 rintro _ w12 ⟨v13, rfl, hb, hr14⟩
 refine ⟨_, rfl, fun fr r => ?_⟩
 have z_w12 := hb.size
 have h_b1 := keep hb h_b1
 have h_b4 := keep hb h_b4
 have h_b7 := keep hb h_b7
 obtain ⟨hB, zB⟩ := bon hb hB
 refine zaf (.cells v13.cells 61 (0, 0)) r (fun R => zaq r hr14.shape rfl rfl h_b7 ts61 rfl) rfl fun fr w15 u16 r => ?_
 have z_w15 := u16.size
 have h_b1 := u16.keep h_b1 (by omega)
 have h_b4 := u16.keep h_b4 (by omega)
 have h_b7 := u16.at_
 obtain ⟨hB, zB⟩ := u16.on hB (by omega)
 refine wn (wp_ret ?_)
 have hs := hr14.shape.cells
 refine zal r rfl rfl h_b7 (k := 7) hs.1 ta61 ?_
 rw [← hs.2.2]
 exact rfin hF hB hr14 u16 (by omega) (by omega) (by omega)
def D.zcZ (c0 : Plan) (c1 : Int) (c2 : Scan) (c3 : (Unit → T Int)) (a0 : Int) : T Int := (D.zbd (D.zaK c0 c1 c2.at_) a0 c3)
theorem zfW {n : Nat} {F : Nat → Prop} {w0 : World} (hF : ∀ b, F b → b < w0.heap.size)
    (c0 : Plan) {c0b : Nat} (c0F : F c0b) (c0h : w0.heap[c0b]? = some (.cells ((zln c0)).toArray 23 (0, 0))) (c1 : Int) {c1b : Nat} (c1F : F c1b) (c1h : w0.heap[c1b]? = some (.cells ([(.int .i64 c1)]).toArray 3 (0, 0))) (c2 : Scan) {c2b : Nat} (c2F : F c2b) (c2h : w0.heap[c2b]? = some (.cells ((zlL c2)).toArray 297 (0, 0))) {c3f : FuncId} {c3_1 c3_2 : List Value} {c3 : (Unit → T Int)} {c3b : Nat} (c3F : F c3b) (c3h : w0.heap[c3b]? = some (.cells #[.func (.func c3f) c3_1.toArray c3_2.toArray] 228 (0, 0))) (c3n : FnT Tryz.prog zlq unitE (n + 1) F w0 (.func (.func c3f) c3_1.toArray c3_2.toArray) c3) (a0 : Int) :
    Calls Tryz.prog 391 #[.int .u64 a0, zp c0b, zp c1b, zp c2b, zp c3b] w0 (zlx Tryz.prog zlq n (D.zcZ c0 c1 c2 c3 a0) F w0) := by
 refine enter Tryz.func391 rfl 15 rfl rfl fun fr r => ?_
 have hB := Below.refl w0.heap.size w0
 have lc0b := lt_of_block c0h
 have lc1b := lt_of_block c1h
 have lc2b := lt_of_block c2h
 have lc3b := lt_of_block c3h
 refine wsr ?_
 refine zaa (.cells (zlo false zlq.zero 0 0 0 0 .nilFunc) 61 (0, 0)) r (fun R => zar tz61) rfl fun fr b1 w2 n3 r => ?_
 obtain ⟨e_b1, z_w2, h_b1, hB, zB⟩ := n3.all hB
 refine wn (wp_seq ?_)
 refine zb5 7 [.val (.agg (zln c0).toArray), .val (I c1), .val (zp c2b), .val (I c2.at_), .val (I (D.zaK c0 c1 c2.at_)), .val (U a0), .val (.func (.func c3f) c3_1.toArray c3_2.toArray)] mixed r (by kernel_rfl) (za3 (by exact trivial) (za3 (by exact trivial) (za3 (by exact trivial) (za3 (by exact trivial) (za3 (by exact trivial) (za3 (by exact trivial) (za3 (by exact trivial) zaV))))))) ?_ ?_
 ·
  refine ec r (fun _ u _ b d s => za7 s (cs := (zln c0)) (n := 6) rfl (zlK hB b c0h) ta23 rfl bz) (ec r (fun _ u _ b d s => za2 s rfl (zlK hB b c1h) to3 rfl bz) (ec r (fun _ u _ b d s => za4 s (b := c2b) (o := 0) rfl zgc bz) (ec r (fun _ u _ b d s => za2 s d.1 (zlK hB b c2h) to3 rfl bz) (ec r (fun fr1 u w' hb' hd r' => zac r' (args := [(.agg (zln c0).toArray), (I c1), (I c2.at_)]) (lc hd.1 (lc hd.2.1 (lc hd.2.2.1 l0))) zme ((zc8 _ c0 c1 c2.at_).mono (by rintro _ w2 ⟨rfl, hb2⟩; exact ⟨_, rfl, hb2, rfl⟩))) (ec r (fun _ u _ b d s => za5 s rfl bz) (ec r (fun _ u _ b d s => za2 s rfl (zlK hB b c3h) zmg rfl bz) ?_))))))
  exact zbc
 ·
  intro fr u w4 hb hΦ hne r
  have r := r.congr (sc (hΦ 6 (by decide)) (sc (hΦ 5 (by decide)) (sc (hΦ 4 (by decide)) (sc (hΦ 3 (by decide)) (sc (hΦ 2 (by decide)) (sc (hΦ 1 (by decide)) (sc (hΦ 0 (by decide)) rfl)))))))
  have z_w4 := hb.size
  have h_b1 := keep hb h_b1
  obtain ⟨hB, zB⟩ := bon hb hB
  have hF1 := zlG hF hB b1
  refine za9 r (zbK (F := (fun b => F b ∨ (w0.heap.size ≤ b ∧ b < w4.heap.size ∧ b ≠ b1))) (n := n) hF1 (D.zaK c0 c1 c2.at_) a0 (c3n.mono (by omega) (fun b h => .inl h) (Same.below hB hF) hB.size)) (fun R hc => zac r rfl zlX hc) rfl ?_
  rintro _ w5 ⟨v6, rfl, hb, hr7⟩
  refine ⟨_, rfl, fun fr r => ?_⟩
  have z_w5 := hb.size
  have h_b1 := keep hb h_b1
  obtain ⟨hB, zB⟩ := bon hb hB
  refine zaf (.cells v6.cells 61 (0, 0)) r (fun R => zaq r hr7.shape rfl rfl h_b1 ts61 rfl) rfl fun fr w8 u9 r => ?_
  have z_w8 := u9.size
  have h_b1 := u9.at_
  obtain ⟨hB, zB⟩ := u9.on hB (by omega)
  refine wn (wp_ret ?_)
  have hs := hr7.shape.cells
  refine zal r rfl rfl h_b1 (k := 7) hs.1 ta61 ?_
  rw [← hs.2.2]
  exact rfin hF hB hr7 u9 (by omega) (by omega) (by omega)
def D.zci (j : Nat) (r_retire_scanned : Plan → Int → Scan → T Int) (c0 : Plan) (c1 : Int) (c2 : Scan) (c3 : Int) (a0 : Int) : T Int := (r_retire_scanned c0 c1 (⟨(IntKind.i64.wrap (c2.at_ - 1)), c3, (IntKind.i64.wrap (c2.done + 1))⟩ : Scan))
def D.zdc (j : Nat) (r_retire_scanned : Plan → Int → Scan → T Int) (c0 : Plan) (c1 : Int) (c2 : Int) (c3 : Scan) (c4 : Int) : T Int := (T.bind (D.zdx j c0 c1) (fun x => (D.zci j r_retire_scanned c0 c2 c3 c4 x)))
def D.zby (j : Nat) (r_retire_scanned : Plan → Int → Scan → T Int) (c0 : Plan) (c1 : Int) (c2 : Int) (c3 : Int) (c4 : Scan) : T Int := (D.zbd (D.zaX c0 c1) (IntKind.u64.wrap c2) (fun _ => (D.zdc j r_retire_scanned c0 c3 c1 c4 c2)))
def D.zcg (j : Nat) (r_retire_scanned : Plan → Int → Scan → T Int) (a0 : Plan) (a1 : Int) (a2 : Scan) (a3 : Int) : T Int := (bif (a2.at_ == (IntKind.i64.wrap (a2.left - 1))) then ((fun _ => (D.zby j r_retire_scanned a0 a1 (IntKind.i64.wrap (a2.left - 1)) a3 a2)) ()) else (D.zb7 (D.zaK a0 a1 (IntKind.i64.wrap (a2.left - 1))) (fun x => (D.zcZ a0 a1 a2 (fun _ => (D.zby j r_retire_scanned a0 a1 (IntKind.i64.wrap (a2.left - 1)) a3 a2)) x))))
def D.zbm (j : Nat) (r_retire_scanned : Plan → Int → Scan → T Int) (c0 : Plan) (c1 : Int) (c2 : Scan) (c3 : Scan) (c4 : Int) (a0 : Bool) : T Int := (bif a0 then (r_retire_scanned c0 c1 c2) else (D.zcg j r_retire_scanned c0 c1 c3 (IntKind.i64.wrap ((IntKind.i64.wrap c4) - 1))))
def D.zc0 (j : Nat) (r_retire_scanned : Plan → Int → Scan → T Int) (c0 : Plan) (c1 : Int) (c2 : Scan) (c3 : Scan) (a0 : Int) : T Int := (bif (decide (a0 < 1)) then (r_retire_scanned c0 c1 c2) else (bif (decide (a0 > (IntKind.u64.wrap c0.nodes))) then (r_retire_scanned c0 c1 c2) else (T.bind (D.zey j c0 (IntKind.i64.wrap ((IntKind.i64.wrap a0) - 1))) (fun x => (D.zbm j r_retire_scanned c0 c1 c2 c3 a0 x)))))
def D.zbp (j : Nat) (r_retire_scanned : Plan → Int → Scan → T Int) (a0 : Plan) (a1 : Int) (a2 : Scan) : T Int := (bif (decide (a2.at_ < 0)) then (D.zaW a2.done) else (D.zb7 (D.zaK a0 a1 a2.at_) (fun x => (D.zc0 j r_retire_scanned a0 a1 (⟨(IntKind.i64.wrap (a2.at_ - 1)), a2.left, a2.done⟩ : Scan) a2 x))))
def D.zbb (j : Nat) : Nat → Plan → Int → Scan → T Int
  | 0, _, _, _ => .cut
  | k + 1, a0, a1, a2 => D.zbp j (D.zbb j k) a0 a1 a2
def zbr (r : Plan → Int → Scan → T Int) (n : Nat) : Prop := ∀ (F : Nat → Prop) (w0 : World), (∀ b, F b → b < w0.heap.size) → ∀ (a0 : Plan) (a1 : Int) (a2 : Scan), Calls Tryz.prog 219 #[.agg (zln a0).toArray, .int .i64 a1, .agg (zlL a2).toArray] w0 (zlx Tryz.prog zlq n (r a0 a1 a2) F w0)
theorem zeP {n : Nat} {F : Nat → Prop} {j : Nat} {r_retire_scanned : Plan → Int → Scan → T Int} {w0 : World} (hF : ∀ b, F b → b < w0.heap.size) (hj : n < j) (ih_retire_scanned : ∀ m, m ≤ n → zbr r_retire_scanned m)
    (c0 : Plan) {c0b : Nat} (c0F : F c0b) (c0h : w0.heap[c0b]? = some (.cells ((zln c0)).toArray 23 (0, 0))) (c1 : Int) {c1b : Nat} (c1F : F c1b) (c1h : w0.heap[c1b]? = some (.cells ([(.int .i64 c1)]).toArray 3 (0, 0))) (c2 : Scan) {c2b : Nat} (c2F : F c2b) (c2h : w0.heap[c2b]? = some (.cells ((zlL c2)).toArray 297 (0, 0))) (c3 : Int) {c3b : Nat} (c3F : F c3b) (c3h : w0.heap[c3b]? = some (.cells ([(.int .i64 c3)]).toArray 3 (0, 0))) (a0 : Int) :
    Calls Tryz.prog 390 #[.int .i64 a0, zp c0b, zp c1b, zp c2b, zp c3b] w0 (zlx Tryz.prog zlq n (D.zci j r_retire_scanned c0 c1 c2 c3 a0) F w0) := by
 refine enter Tryz.func390 rfl 18 rfl rfl fun fr r => ?_
 have hB := Below.refl w0.heap.size w0
 have lc0b := lt_of_block c0h
 have lc1b := lt_of_block c1h
 have lc2b := lt_of_block c2h
 have lc3b := lt_of_block c3h
 refine wsr ?_
 refine zaa (.cells (zlo false zlq.zero 0 0 0 0 .nilFunc) 61 (0, 0)) r (fun R => zar tz61) rfl fun fr b1 w2 n3 r => ?_
 obtain ⟨e_b1, z_w2, h_b1, hB, zB⟩ := n3.all hB
 refine wn (wsr (za0 (.agg (zln c0).toArray) r (fun R => za7 r (cs := (zln c0)) (n := 6) rfl (keep hB c0h) ta23 rfl) rfl fun fr r => za0 (I c1) r (fun R => za2 r rfl (keep hB c1h) to3 rfl) rfl fun fr r => za0 _ r (fun R => za4 r (o := 0) rfl zgc) rfl fun fr r => za0 (I c2.at_) r (fun R => za2 r rfl (keep hB c2h) to3 rfl) rfl fun fr r => za0 _ r (fun R => zlt r rfl rfl rfl rfl) rfl fun fr r => za0 (I c3) r (fun R => za2 r rfl (keep hB c3h) to3 rfl) rfl fun fr r => za0 _ r (fun R => za4 r (o := 0) rfl ziK) rfl fun fr r => za0 (I c2.done) r (fun R => za2 r rfl (keep hB c2h) to3 rfl) rfl fun fr r => za0 _ r (fun R => zlt r rfl rfl rfl rfl) rfl fun fr r => za0 (.agg (zlL (⟨(W (c2.at_ - 1)), c3, (W (c2.done + 1))⟩ : Scan)).toArray) r (fun R => zb4 r (by kernel_rfl)) rfl fun fr r => ?_))
 have hF1 := zlG hF hB b1
 refine za9 r ((ih_retire_scanned n (by omega)) (fun b => F b ∨ (w0.heap.size ≤ b ∧ b < w2.heap.size ∧ b ≠ b1)) _ hF1 c0 c1 (⟨(W (c2.at_ - 1)), c3, (W (c2.done + 1))⟩ : Scan)) (fun R hc => zac r rfl zm8 hc) rfl ?_
 rintro _ w4 ⟨v5, rfl, hb, hr6⟩
 refine ⟨_, rfl, fun fr r => ?_⟩
 have z_w4 := hb.size
 have h_b1 := keep hb h_b1
 obtain ⟨hB, zB⟩ := bon hb hB
 refine zaf (.cells v5.cells 61 (0, 0)) r (fun R => zaq r hr6.shape rfl rfl h_b1 ts61 rfl) rfl fun fr w7 u8 r => ?_
 have z_w7 := u8.size
 have h_b1 := u8.at_
 obtain ⟨hB, zB⟩ := u8.on hB (by omega)
 refine wn (wp_ret ?_)
 have hs := hr6.shape.cells
 refine zal r rfl rfl h_b1 (k := 7) hs.1 ta61 ?_
 rw [← hs.2.2]
 exact rfin hF hB hr6 u8 (by omega) (by omega) (by omega)
theorem zfh {n : Nat} {F : Nat → Prop} {j : Nat} {r_retire_scanned : Plan → Int → Scan → T Int} {w0 : World} (hF : ∀ b, F b → b < w0.heap.size) (hj : n < j) (ih_retire_scanned : ∀ m, m < n → zbr r_retire_scanned m)
    (c0 : Plan) {c0b : Nat} (c0F : F c0b) (c0h : w0.heap[c0b]? = some (.cells ((zln c0)).toArray 23 (0, 0))) (c1 : Int) {c1b : Nat} (c1F : F c1b) (c1h : w0.heap[c1b]? = some (.cells ([(.int .i64 c1)]).toArray 3 (0, 0))) (c2 : Int) {c2b : Nat} (c2F : F c2b) (c2h : w0.heap[c2b]? = some (.cells ([(.int .i64 c2)]).toArray 3 (0, 0))) (c3 : Scan) {c3b : Nat} (c3F : F c3b) (c3h : w0.heap[c3b]? = some (.cells ((zlL c3)).toArray 297 (0, 0))) (c4 : Int) {c4b : Nat} (c4F : F c4b) (c4h : w0.heap[c4b]? = some (.cells ([(.int .i64 c4)]).toArray 3 (0, 0))) :
    Calls Tryz.prog 389 #[zp c0b, zp c1b, zp c2b, zp c3b, zp c4b] w0 (zlx Tryz.prog zlq n (D.zdc j r_retire_scanned c0 c1 c2 c3 c4) F w0) := by
 refine enter Tryz.func389 rfl 11 rfl rfl fun fr r => ?_
 have hB := Below.refl w0.heap.size w0
 have lc0b := lt_of_block c0h
 have lc1b := lt_of_block c1h
 have lc2b := lt_of_block c2h
 have lc3b := lt_of_block c3h
 have lc4b := lt_of_block c4h
 refine wsr ?_
 refine zaa (.cells (zlo false zlq.zero 0 0 0 0 .nilFunc) 61 (0, 0)) r (fun R => zar tz61) rfl fun fr b1 w2 n3 r => ?_
 obtain ⟨e_b1, z_w2, h_b1, hB, zB⟩ := n3.all hB
 refine wn (wsr (za0 (.agg (zln c0).toArray) r (fun R => za7 r (cs := (zln c0)) (n := 6) rfl (keep hB c0h) ta23 rfl) rfl fun fr r => za0 (I c1) r (fun R => za2 r rfl (keep hB c1h) to3 rfl) rfl fun fr r => ?_))
 have hF1 := zlG hF hB b1
 refine za9 r (zgt (j := j) (F := (fun b => F b ∨ (w0.heap.size ≤ b ∧ b < w2.heap.size ∧ b ≠ b1))) (n := n) hF1 (by omega) c0 c1) (fun R hc => zac r rfl zod hc) rfl ?_
 rintro _ w4 ⟨v5, rfl, hb, hr6⟩
 refine ⟨_, rfl, fun fr r => ?_⟩
 have z_w4 := hb.size
 have h_b1 := keep hb h_b1
 obtain ⟨hB, zB⟩ := bon hb hB
 refine za0 (.func (.func 390) #[] #[zp c0b, zp c2b, zp c3b, zp c4b]) r (fun R => zaL r rfl) rfl fun fr r => ?_
 have hF1 := zlG hF hB b1
 have f7 : ((fun b => F b ∨ (w0.heap.size ≤ b ∧ b < w4.heap.size ∧ b ≠ b1))) c0b := (.inl c0F)
 have f8 : ((fun b => F b ∨ (w0.heap.size ≤ b ∧ b < w4.heap.size ∧ b ≠ b1))) c2b := (.inl c2F)
 have f9 : ((fun b => F b ∨ (w0.heap.size ≤ b ∧ b < w4.heap.size ∧ b ≠ b1))) c3b := (.inl c3F)
 have f10 : ((fun b => F b ∨ (w0.heap.size ≤ b ∧ b < w4.heap.size ∧ b ≠ b1))) c4b := (.inl c4F)
 refine za9 r (zeO (F := (fun b => F b ∨ (w0.heap.size ≤ b ∧ b < w4.heap.size ∧ b ≠ b1))) (n := n) hF1 (Rep.mono (by rintro b (h | h); (rcases h with h | ⟨h1, h2, h3⟩; exact .inl h; exact .inr ⟨h1, by omega, h3⟩); exact .inr ⟨by omega, by omega, by omega⟩) (Same.refl _ _) (by omega) n _ _ hr6) ⟨390, [], [zp c0b, zp c2b, zp c3b, zp c4b], zoS, rfl, fun m hm x w' hs hz => zeP (j := j) (fun b hb => Nat.lt_of_lt_of_le (hF1 b hb) hz) (by omega) (fun m' hm' => ih_retire_scanned m' (by omega)) c0 f7 (hs.at_ f7 (keep hB c0h)) c2 f8 (hs.at_ f8 (keep hB c2h)) c3 f9 (hs.at_ f9 (keep hB c3h)) c4 f10 (hs.at_ f10 (keep hB c4h)) x⟩ (by first | rfl | (cases j with | zero => omega | succ q => rfl))) (fun R hc => zac r rfl zmd hc) rfl ?_
 rintro _ w11 ⟨v12, rfl, hb, hr13⟩
 refine ⟨_, rfl, fun fr r => ?_⟩
 have z_w11 := hb.size
 have h_b1 := keep hb h_b1
 obtain ⟨hB, zB⟩ := bon hb hB
 refine zaf (.cells v12.cells 61 (0, 0)) r (fun R => zaq r hr13.shape rfl rfl h_b1 ts61 rfl) rfl fun fr w14 u15 r => ?_
 have z_w14 := u15.size
 have h_b1 := u15.at_
 obtain ⟨hB, zB⟩ := u15.on hB (by omega)
 refine wn (wp_ret ?_)
 have hs := hr13.shape.cells
 refine zal r rfl rfl h_b1 (k := 7) hs.1 ta61 ?_
 rw [← hs.2.2]
 exact rfin hF hB hr13 u15 (by omega) (by omega) (by omega)
theorem zed {n : Nat} {F : Nat → Prop} {j : Nat} {r_retire_scanned : Plan → Int → Scan → T Int} {w0 : World} (hF : ∀ b, F b → b < w0.heap.size) (hj : n < j) (ih_retire_scanned : ∀ m, m < n → zbr r_retire_scanned m)
    (c0 : Plan) {c0b : Nat} (c0F : F c0b) (c0h : w0.heap[c0b]? = some (.cells ((zln c0)).toArray 23 (0, 0))) (c1 : Int) {c1b : Nat} (c1F : F c1b) (c1h : w0.heap[c1b]? = some (.cells ([(.int .i64 c1)]).toArray 3 (0, 0))) (c2 : Int) {c2b : Nat} (c2F : F c2b) (c2h : w0.heap[c2b]? = some (.cells ([(.int .i64 c2)]).toArray 3 (0, 0))) (c3 : Int) {c3b : Nat} (c3F : F c3b) (c3h : w0.heap[c3b]? = some (.cells ([(.int .i64 c3)]).toArray 3 (0, 0))) (c4 : Scan) {c4b : Nat} (c4F : F c4b) (c4h : w0.heap[c4b]? = some (.cells ((zlL c4)).toArray 297 (0, 0))) :
    Calls Tryz.prog 388 #[zp c0b, zp c1b, zp c2b, zp c3b, zp c4b] w0 (zlx Tryz.prog zlq n (D.zby j r_retire_scanned c0 c1 c2 c3 c4) F w0) := by
 refine enter Tryz.func388 rfl 13 rfl rfl fun fr r => ?_
 have hB := Below.refl w0.heap.size w0
 have lc0b := lt_of_block c0h
 have lc1b := lt_of_block c1h
 have lc2b := lt_of_block c2h
 have lc3b := lt_of_block c3h
 have lc4b := lt_of_block c4h
 refine wsr ?_
 refine zaa (.cells (zlo false zlq.zero 0 0 0 0 .nilFunc) 61 (0, 0)) r (fun R => zar tz61) rfl fun fr b1 w2 n3 r => ?_
 obtain ⟨e_b1, z_w2, h_b1, hB, zB⟩ := n3.all hB
 refine wn (wp_seq ?_)
 refine zb5 6 [.val (.agg (zln c0).toArray), .val (I c1), .val (I (D.zaX c0 c1)), .val (I c2), .val (U (V c2)), .val (.func (.func 389) #[] #[zp c0b, zp c3b, zp c1b, zp c4b, zp c2b])] mixed r (by kernel_rfl) (za3 (by exact trivial) (za3 (by exact trivial) (za3 (by exact trivial) (za3 (by exact trivial) (za3 (by exact trivial) (za3 (by exact trivial) zaV)))))) ?_ ?_
 ·
  refine ec r (fun _ u _ b d s => za7 s (cs := (zln c0)) (n := 6) rfl (zlK hB b c0h) ta23 rfl bz) (ec r (fun _ u _ b d s => za2 s rfl (zlK hB b c1h) to3 rfl bz) (ec r (fun fr1 u w' hb' hd r' => zac r' (args := [(.agg (zln c0).toArray), (I c1)]) (lc hd.1 (lc hd.2.1 l0)) zma ((zck _ c0 c1).mono (by rintro _ w2 ⟨rfl, hb2⟩; exact ⟨_, rfl, hb2, rfl⟩))) (ec r (fun _ u _ b d s => za2 s rfl (zlK hB b c2h) to3 rfl bz) (ec r (fun _ u _ b d s => zbf s (n := c2) d.1 ti3 ti40 bz) (ec r (fun _ u _ b d s => zaL s (v := (.func (.func 389) #[] #[zp c0b, zp c3b, zp c1b, zp c4b, zp c2b])) rfl bz) ?_)))))
  exact zbc
 ·
  intro fr u w4 hb hΦ hne r
  have r := r.congr (sc (hΦ 5 (by decide)) (sc (hΦ 4 (by decide)) (sc (hΦ 3 (by decide)) (sc (hΦ 2 (by decide)) (sc (hΦ 1 (by decide)) (sc (hΦ 0 (by decide)) rfl))))))
  have z_w4 := hb.size
  have h_b1 := keep hb h_b1
  obtain ⟨hB, zB⟩ := bon hb hB
  have hF1 := zlG hF hB b1
  have f5 : ((fun b => F b ∨ (w0.heap.size ≤ b ∧ b < w4.heap.size ∧ b ≠ b1))) c0b := (.inl c0F)
  have f6 : ((fun b => F b ∨ (w0.heap.size ≤ b ∧ b < w4.heap.size ∧ b ≠ b1))) c3b := (.inl c3F)
  have f7 : ((fun b => F b ∨ (w0.heap.size ≤ b ∧ b < w4.heap.size ∧ b ≠ b1))) c1b := (.inl c1F)
  have f8 : ((fun b => F b ∨ (w0.heap.size ≤ b ∧ b < w4.heap.size ∧ b ≠ b1))) c4b := (.inl c4F)
  have f9 : ((fun b => F b ∨ (w0.heap.size ≤ b ∧ b < w4.heap.size ∧ b ≠ b1))) c2b := (.inl c2F)
  refine za9 r (zbK (F := (fun b => F b ∨ (w0.heap.size ≤ b ∧ b < w4.heap.size ∧ b ≠ b1))) (n := n) hF1 (D.zaX c0 c1) (V c2) ⟨389, [], [zp c0b, zp c3b, zp c1b, zp c4b, zp c2b], zoF, rfl, fun m hm _ w' hs hz => zfh (j := j) (fun b hb => Nat.lt_of_lt_of_le (hF1 b hb) hz) (by omega) (fun m' hm' => ih_retire_scanned m' (by omega)) c0 f5 (hs.at_ f5 (keep hB c0h)) c3 f6 (hs.at_ f6 (keep hB c3h)) c1 f7 (hs.at_ f7 (keep hB c1h)) c4 f8 (hs.at_ f8 (keep hB c4h)) c2 f9 (hs.at_ f9 (keep hB c2h))⟩) (fun R hc => zac r rfl zlX hc) rfl ?_
  rintro _ w10 ⟨v11, rfl, hb, hr12⟩
  refine ⟨_, rfl, fun fr r => ?_⟩
  have z_w10 := hb.size
  have h_b1 := keep hb h_b1
  obtain ⟨hB, zB⟩ := bon hb hB
  refine zaf (.cells v11.cells 61 (0, 0)) r (fun R => zaq r hr12.shape rfl rfl h_b1 ts61 rfl) rfl fun fr w13 u14 r => ?_
  have z_w13 := u14.size
  have h_b1 := u14.at_
  obtain ⟨hB, zB⟩ := u14.on hB (by omega)
  refine wn (wp_ret ?_)
  have hs := hr12.shape.cells
  refine zal r rfl rfl h_b1 (k := 7) hs.1 ta61 ?_
  rw [← hs.2.2]
  exact rfin hF hB hr12 u14 (by omega) (by omega) (by omega)
theorem zgu {n : Nat} {F : Nat → Prop} {j : Nat} {r_retire_scanned : Plan → Int → Scan → T Int} {w0 : World} (hF : ∀ b, F b → b < w0.heap.size) (hj : n < j) (ih_retire_scanned : ∀ m, m < n → zbr r_retire_scanned m)
    (a0 : Plan) (a1 : Int) (a2 : Scan) (a3 : Int) :
    Calls Tryz.prog 324 #[.agg (zln a0).toArray, .int .i64 a1, .agg (zlL a2).toArray, .int .i64 a3] w0 (zlx Tryz.prog zlq n (D.zcg j r_retire_scanned a0 a1 a2 a3) F w0) := by
 refine enter Tryz.func324 rfl 27 rfl rfl fun fr r => ?_
 have hB := Below.refl w0.heap.size w0
 refine wsr ?_
 refine zaa (.cells ((zln a0)).toArray 23 (0, 0)) r (fun R => zlC r (v := (.agg (zln a0).toArray)) rfl) rfl fun fr b1 w2 n3 r => ?_
 obtain ⟨e_b1, z_w2, h_b1, hB, zB⟩ := n3.all hB
 refine zaa (.cells #[(I a1)] 3 (0, 0)) r (fun R => zlC r (v := (I a1)) rfl) rfl fun fr b4 w5 n6 r => ?_
 have h_b1 := keep n6.below h_b1
 obtain ⟨e_b4, z_w5, h_b4, hB, zB⟩ := n6.all hB
 refine zaa (.cells ((zlL a2)).toArray 297 (0, 0)) r (fun R => zlC r (v := (.agg (zlL a2).toArray)) rfl) rfl fun fr b7 w8 n9 r => ?_
 have h_b1 := keep n9.below h_b1
 have h_b4 := keep n9.below h_b4
 obtain ⟨e_b7, z_w8, h_b7, hB, zB⟩ := n9.all hB
 refine zaa (.cells #[(I a3)] 3 (0, 0)) r (fun R => zlC r (v := (I a3)) rfl) rfl fun fr b10 w11 n12 r => ?_
 have h_b1 := keep n12.below h_b1
 have h_b4 := keep n12.below h_b4
 have h_b7 := keep n12.below h_b7
 obtain ⟨e_b10, z_w11, h_b10, hB, zB⟩ := n12.all hB
 refine zaa (.cells (zlo false zlq.zero 0 0 0 0 .nilFunc) 61 (0, 0)) r (fun R => zar tz61) rfl fun fr b13 w14 n15 r => ?_
 have h_b1 := keep n15.below h_b1
 have h_b4 := keep n15.below h_b4
 have h_b7 := keep n15.below h_b7
 have h_b10 := keep n15.below h_b10
 obtain ⟨e_b13, z_w14, h_b13, hB, zB⟩ := n15.all hB
 refine wn (wsr (za0 _ r (fun R => za4 r (o := 0) rfl zjs) rfl fun fr r => za0 (I a2.left) r (fun R => za2 r rfl h_b7 to3 rfl) rfl fun fr r => za0 _ r (fun R => zlt r rfl rfl rfl rfl) rfl fun fr r => ?_))
 refine zaa (.cells #[(I 0)] 3 (0, 0)) r (fun R => zar tz3) rfl fun fr b16 w17 n18 r => ?_
 have h_b1 := keep n18.below h_b1
 have h_b4 := keep n18.below h_b4
 have h_b7 := keep n18.below h_b7
 have h_b10 := keep n18.below h_b10
 have h_b13 := keep n18.below h_b13
 obtain ⟨e_b16, z_w17, h_b16, hB, zB⟩ := n18.all hB
 refine zaf (.cells #[(I (W (a2.left - 1)))] 3 (0, 0)) r (fun R => zb0 r (o := 0) (v := (I (W (a2.left - 1)))) rfl rfl h_b16 ts3 (Nat.le_of_ble_eq_true rfl) rfl rfl) rfl fun fr w19 u20 r => ?_
 have z_w19 := u20.size
 have h_b1 := u20.keep h_b1 (by omega)
 have h_b4 := u20.keep h_b4 (by omega)
 have h_b7 := u20.keep h_b7 (by omega)
 have h_b10 := u20.keep h_b10 (by omega)
 have h_b13 := u20.keep h_b13 (by omega)
 have h_b16 := u20.at_
 obtain ⟨hB, zB⟩ := u20.on hB (by omega)
 refine wn (wsr (za0 (.func (.func 388) #[] #[zp b1, zp b4, zp b16, zp b10, zp b7]) r (fun R => zaL r rfl) rfl fun fr r => ?_))
 refine zaa (.cells #[.nilFunc] 228 (0, 0)) r (fun R => zar znH) rfl fun fr b21 w22 n23 r => ?_
 have h_b1 := keep n23.below h_b1
 have h_b4 := keep n23.below h_b4
 have h_b7 := keep n23.below h_b7
 have h_b10 := keep n23.below h_b10
 have h_b13 := keep n23.below h_b13
 have h_b16 := keep n23.below h_b16
 obtain ⟨e_b21, z_w22, h_b21, hB, zB⟩ := n23.all hB
 refine zaf (.cells #[.func (.func 388) #[] #[zp b1, zp b4, zp b16, zp b10, zp b7]] 228 (0, 0)) r (fun R => zb0 r (o := 0) (v := (.func (.func 388) #[] #[zp b1, zp b4, zp b16, zp b10, zp b7])) rfl rfl h_b21 zoM (Nat.le_of_ble_eq_true rfl) rfl rfl) rfl fun fr w24 u25 r => ?_
 have z_w24 := u25.size
 have h_b1 := u25.keep h_b1 (by omega)
 have h_b4 := u25.keep h_b4 (by omega)
 have h_b7 := u25.keep h_b7 (by omega)
 have h_b10 := u25.keep h_b10 (by omega)
 have h_b13 := u25.keep h_b13 (by omega)
 have h_b16 := u25.keep h_b16 (by omega)
 have h_b21 := u25.at_
 obtain ⟨hB, zB⟩ := u25.on hB (by omega)
 refine wn (wp_seq (wsr (za0 _ r (fun R => za4 r (o := 0) rfl zgc) rfl fun fr r => za0 (I a2.at_) r (fun R => za2 r rfl h_b7 to3 rfl) rfl fun fr r => za0 (I (W (a2.left - 1))) r (fun R => za2 r rfl h_b16 to3 rfl) rfl fun fr r => za0 _ r (fun R => zlt r rfl rfl rfl rfl) rfl fun fr r => wn ?_)))
 refine wp_cond_split (t := (a2.at_ == (W (a2.left - 1)))) (r.ev rfl) (fun h26 => ?_) (fun h26 => ?_)
 ·
  refine wsr (za0 (.func (.func 388) #[] #[zp b1, zp b4, zp b16, zp b10, zp b7]) r (fun R => za2 r rfl h_b21 zmg rfl) rfl fun fr r => ?_)
  have hF1 := zlG hF hB b13
  have f27 : ((fun b => F b ∨ (w0.heap.size ≤ b ∧ b < w24.heap.size ∧ b ≠ b13))) b1 := (.inr ⟨by omega, by omega, by omega⟩)
  have f28 : ((fun b => F b ∨ (w0.heap.size ≤ b ∧ b < w24.heap.size ∧ b ≠ b13))) b4 := (.inr ⟨by omega, by omega, by omega⟩)
  have f29 : ((fun b => F b ∨ (w0.heap.size ≤ b ∧ b < w24.heap.size ∧ b ≠ b13))) b16 := (.inr ⟨by omega, by omega, by omega⟩)
  have f30 : ((fun b => F b ∨ (w0.heap.size ≤ b ∧ b < w24.heap.size ∧ b ≠ b13))) b10 := (.inr ⟨by omega, by omega, by omega⟩)
  have f31 : ((fun b => F b ∨ (w0.heap.size ≤ b ∧ b < w24.heap.size ∧ b ≠ b13))) b7 := (.inr ⟨by omega, by omega, by omega⟩)
  have q32 : FnT Tryz.prog zlq unitE (n + 1) (fun b => F b ∨ (w0.heap.size ≤ b ∧ b < w24.heap.size ∧ b ≠ b13)) w24 (.func (.func 388) #[] #[zp b1, zp b4, zp b16, zp b10, zp b7]) (fun _ => (D.zby j r_retire_scanned a0 a1 (W (a2.left - 1)) a3 a2)) := ⟨388, [], [zp b1, zp b4, zp b16, zp b10, zp b7], znm, rfl, fun m hm _ w' hs hz => zed (j := j) (fun b hb => Nat.lt_of_lt_of_le (hF1 b hb) hz) (by omega) (fun m' hm' => ih_retire_scanned m' (by omega)) a0 f27 (hs.at_ f27 h_b1) a1 f28 (hs.at_ f28 h_b4) (W (a2.left - 1)) f29 (hs.at_ f29 h_b16) a3 f30 (hs.at_ f30 h_b10) a2 f31 (hs.at_ f31 h_b7)⟩
  refine za9 r (q32.at_.2 n (Nat.lt_succ_self n) () w24 (Same.refl _ _) (Nat.le_refl _)) (fun R hc => zfS r rfl q32.at_.1 hc) rfl ?_
  rintro _ w33 ⟨v34, rfl, hb, hr35⟩
  refine ⟨_, rfl, fun fr r => ?_⟩
  have z_w33 := hb.size
  have h_b1 := keep hb h_b1
  have h_b4 := keep hb h_b4
  have h_b7 := keep hb h_b7
  have h_b10 := keep hb h_b10
  have h_b13 := keep hb h_b13
  have h_b16 := keep hb h_b16
  have h_b21 := keep hb h_b21
  obtain ⟨hB, zB⟩ := bon hb hB
  refine zaf (.cells v34.cells 61 (0, 0)) r (fun R => zaq r hr35.shape rfl rfl h_b13 ts61 rfl) rfl fun fr w36 u37 r => ?_
  have z_w36 := u37.size
  have h_b1 := u37.keep h_b1 (by omega)
  have h_b4 := u37.keep h_b4 (by omega)
  have h_b7 := u37.keep h_b7 (by omega)
  have h_b10 := u37.keep h_b10 (by omega)
  have h_b16 := u37.keep h_b16 (by omega)
  have h_b21 := u37.keep h_b21 (by omega)
  have h_b13 := u37.at_
  obtain ⟨hB, zB⟩ := u37.on hB (by omega)
  refine wn (wp_ret ?_)
  have hd : D.zcg j r_retire_scanned a0 a1 a2 a3 = ((fun _ => (D.zby j r_retire_scanned a0 a1 (W (a2.left - 1)) a3 a2)) ()) := (zao h26).trans (rfl)
  have hs := hr35.shape.cells
  refine zal r rfl rfl h_b13 (k := 7) hs.1 ta61 ?_
  rw [← hs.2.2, hd]
  exact rfin hF hB hr35 u37 (by omega) (by omega) (by omega)
 ·
  refine wp_skip (wsr (za0 (.agg (zln a0).toArray) r (fun R => za7 r (cs := (zln a0)) (n := 6) rfl h_b1 ta23 rfl) rfl fun fr r => za0 (I a1) r (fun R => za2 r rfl h_b4 to3 rfl) rfl fun fr r => za0 (I (W (a2.left - 1))) r (fun R => za2 r rfl h_b16 to3 rfl) rfl fun fr r => ?_))
  refine za9 r (zc8 w24 a0 a1 (W (a2.left - 1))) (fun R hc => zac r rfl zme hc) rfl ?_
  rintro _ w38 ⟨rfl, hb⟩
  refine ⟨_, rfl, fun fr r => ?_⟩
  have z_w38 := hb.size
  have h_b1 := keep hb h_b1
  have h_b4 := keep hb h_b4
  have h_b7 := keep hb h_b7
  have h_b10 := keep hb h_b10
  have h_b13 := keep hb h_b13
  have h_b16 := keep hb h_b16
  have h_b21 := keep hb h_b21
  obtain ⟨hB, zB⟩ := bon hb hB
  refine za0 (.func (.func 391) #[] #[zp b1, zp b4, zp b7, zp b21]) r (fun R => zaL r rfl) rfl fun fr r => ?_
  have hF1 := zlG hF hB b13
  have f39 : ((fun b => F b ∨ (w0.heap.size ≤ b ∧ b < w38.heap.size ∧ b ≠ b13))) b1 := (.inr ⟨by omega, by omega, by omega⟩)
  have f40 : ((fun b => F b ∨ (w0.heap.size ≤ b ∧ b < w38.heap.size ∧ b ≠ b13))) b4 := (.inr ⟨by omega, by omega, by omega⟩)
  have f41 : ((fun b => F b ∨ (w0.heap.size ≤ b ∧ b < w38.heap.size ∧ b ≠ b13))) b7 := (.inr ⟨by omega, by omega, by omega⟩)
  have f42 : ((fun b => F b ∨ (w0.heap.size ≤ b ∧ b < w38.heap.size ∧ b ≠ b13))) b21 := (.inr ⟨by omega, by omega, by omega⟩)
  have f44 : ((fun b => F b ∨ (w0.heap.size ≤ b ∧ b < w38.heap.size ∧ b ≠ b13))) b1 := (.inr ⟨by omega, by omega, by omega⟩)
  have f45 : ((fun b => F b ∨ (w0.heap.size ≤ b ∧ b < w38.heap.size ∧ b ≠ b13))) b4 := (.inr ⟨by omega, by omega, by omega⟩)
  have f46 : ((fun b => F b ∨ (w0.heap.size ≤ b ∧ b < w38.heap.size ∧ b ≠ b13))) b16 := (.inr ⟨by omega, by omega, by omega⟩)
  have f47 : ((fun b => F b ∨ (w0.heap.size ≤ b ∧ b < w38.heap.size ∧ b ≠ b13))) b10 := (.inr ⟨by omega, by omega, by omega⟩)
  have f48 : ((fun b => F b ∨ (w0.heap.size ≤ b ∧ b < w38.heap.size ∧ b ≠ b13))) b7 := (.inr ⟨by omega, by omega, by omega⟩)
  have q43 : FnT Tryz.prog zlq unitE (n) (fun b => F b ∨ (w0.heap.size ≤ b ∧ b < w38.heap.size ∧ b ≠ b13)) w38 (.func (.func 388) #[] #[zp b1, zp b4, zp b16, zp b10, zp b7]) (fun _ => (D.zby j r_retire_scanned a0 a1 (W (a2.left - 1)) a3 a2)) := ⟨388, [], [zp b1, zp b4, zp b16, zp b10, zp b7], znm, rfl, fun m hm _ w' hs hz => zed (j := j) (fun b hb => Nat.lt_of_lt_of_le (hF1 b hb) hz) (by omega) (fun m' hm' => ih_retire_scanned m' (by omega)) a0 f44 (hs.at_ f44 h_b1) a1 f45 (hs.at_ f45 h_b4) (W (a2.left - 1)) f46 (hs.at_ f46 h_b16) a3 f47 (hs.at_ f47 h_b10) a2 f48 (hs.at_ f48 h_b7)⟩
  refine za9 r (zbG (F := (fun b => F b ∨ (w0.heap.size ≤ b ∧ b < w38.heap.size ∧ b ≠ b13))) (n := n) hF1 (D.zaK a0 a1 (W (a2.left - 1))) ⟨391, [], [zp b1, zp b4, zp b7, zp b21], zoj, rfl, fun m hm x w' hs hz => zfW (fun b hb => Nat.lt_of_lt_of_le (hF1 b hb) hz) a0 f39 (hs.at_ f39 h_b1) a1 f40 (hs.at_ f40 h_b4) a2 f41 (hs.at_ f41 h_b7) f42 (hs.at_ f42 h_b21) (q43.mono (by omega) (fun b h => h) hs hz) x⟩) (fun R hc => zac r rfl zlV hc) rfl ?_
  rintro _ w49 ⟨v50, rfl, hb, hr51⟩
  refine ⟨_, rfl, fun fr r => ?_⟩
  have z_w49 := hb.size
  have h_b1 := keep hb h_b1
  have h_b4 := keep hb h_b4
  have h_b7 := keep hb h_b7
  have h_b10 := keep hb h_b10
  have h_b13 := keep hb h_b13
  have h_b16 := keep hb h_b16
  have h_b21 := keep hb h_b21
  obtain ⟨hB, zB⟩ := bon hb hB
  refine zaf (.cells v50.cells 61 (0, 0)) r (fun R => zaq r hr51.shape rfl rfl h_b13 ts61 rfl) rfl fun fr w52 u53 r => ?_
  have z_w52 := u53.size
  have h_b1 := u53.keep h_b1 (by omega)
  have h_b4 := u53.keep h_b4 (by omega)
  have h_b7 := u53.keep h_b7 (by omega)
  have h_b10 := u53.keep h_b10 (by omega)
  have h_b16 := u53.keep h_b16 (by omega)
  have h_b21 := u53.keep h_b21 (by omega)
  have h_b13 := u53.at_
  obtain ⟨hB, zB⟩ := u53.on hB (by omega)
  refine wn (wp_ret ?_)
  have hd : D.zcg j r_retire_scanned a0 a1 a2 a3 = (D.zb7 (D.zaK a0 a1 (W (a2.left - 1))) (fun x => (D.zcZ a0 a1 a2 (fun _ => (D.zby j r_retire_scanned a0 a1 (W (a2.left - 1)) a3 a2)) x))) := (zah h26).trans (rfl)
  have hs := hr51.shape.cells
  refine zal r rfl rfl h_b13 (k := 7) hs.1 ta61 ?_
  rw [← hs.2.2, hd]
  exact rfin hF hB hr51 u53 (by omega) (by omega) (by omega)
theorem zff {n : Nat} {F : Nat → Prop} {j : Nat} {r_retire_scanned : Plan → Int → Scan → T Int} {w0 : World} (hF : ∀ b, F b → b < w0.heap.size) (hj : n < j) (ih_retire_scanned : ∀ m, m ≤ n → zbr r_retire_scanned m)
    (c0 : Plan) {c0b : Nat} (c0F : F c0b) (c0h : w0.heap[c0b]? = some (.cells ((zln c0)).toArray 23 (0, 0))) (c1 : Int) {c1b : Nat} (c1F : F c1b) (c1h : w0.heap[c1b]? = some (.cells ([(.int .i64 c1)]).toArray 3 (0, 0))) (c2 : Scan) {c2b : Nat} (c2F : F c2b) (c2h : w0.heap[c2b]? = some (.cells ((zlL c2)).toArray 297 (0, 0))) (c3 : Scan) {c3b : Nat} (c3F : F c3b) (c3h : w0.heap[c3b]? = some (.cells ((zlL c3)).toArray 297 (0, 0))) (c4 : Int) {c4b : Nat} (c4F : F c4b) (c4h : w0.heap[c4b]? = some (.cells ([(.int .u64 c4)]).toArray 40 (0, 0))) (a0 : Bool) :
    Calls Tryz.prog 323 #[.bool a0, zp c0b, zp c1b, zp c2b, zp c3b, zp c4b] w0 (zlx Tryz.prog zlq n (D.zbm j r_retire_scanned c0 c1 c2 c3 c4 a0) F w0) := by
 refine enter Tryz.func323 rfl 20 rfl rfl fun fr r => ?_
 have hB := Below.refl w0.heap.size w0
 have lc0b := lt_of_block c0h
 have lc1b := lt_of_block c1h
 have lc2b := lt_of_block c2h
 have lc3b := lt_of_block c3h
 have lc4b := lt_of_block c4h
 refine wsr ?_
 refine zaa (.cells (zlo false zlq.zero 0 0 0 0 .nilFunc) 61 (0, 0)) r (fun R => zar tz61) rfl fun fr b1 w2 n3 r => ?_
 obtain ⟨e_b1, z_w2, h_b1, hB, zB⟩ := n3.all hB
 refine wn (wp_seq (wsr (za0 (.bool a0) r (fun R => za5 r rfl) rfl fun fr r => wn ?_)))
 refine wp_cond_split (t := a0) (r.ev rfl) (fun h4 => ?_) (fun h4 => ?_)
 ·
  refine wsr (za0 (.agg (zln c0).toArray) r (fun R => za7 r (cs := (zln c0)) (n := 6) rfl (keep hB c0h) ta23 rfl) rfl fun fr r => za0 (I c1) r (fun R => za2 r rfl (keep hB c1h) to3 rfl) rfl fun fr r => za0 (.agg (zlL c2).toArray) r (fun R => za7 r (cs := (zlL c2)) (n := 3) rfl (keep hB c2h) zmp rfl) rfl fun fr r => ?_)
  have hF1 := zlG hF hB b1
  refine za9 r ((ih_retire_scanned n (by omega)) (fun b => F b ∨ (w0.heap.size ≤ b ∧ b < w2.heap.size ∧ b ≠ b1)) _ hF1 c0 c1 c2) (fun R hc => zac r rfl zm8 hc) rfl ?_
  rintro _ w5 ⟨v6, rfl, hb, hr7⟩
  refine ⟨_, rfl, fun fr r => ?_⟩
  have z_w5 := hb.size
  have h_b1 := keep hb h_b1
  obtain ⟨hB, zB⟩ := bon hb hB
  refine zaf (.cells v6.cells 61 (0, 0)) r (fun R => zaq r hr7.shape rfl rfl h_b1 ts61 rfl) rfl fun fr w8 u9 r => ?_
  have z_w8 := u9.size
  have h_b1 := u9.at_
  obtain ⟨hB, zB⟩ := u9.on hB (by omega)
  refine wn (wp_ret ?_)
  have hd : D.zbm j r_retire_scanned c0 c1 c2 c3 c4 a0 = (r_retire_scanned c0 c1 c2) := (zao h4).trans (rfl)
  have hs := hr7.shape.cells
  refine zal r rfl rfl h_b1 (k := 7) hs.1 ta61 ?_
  rw [← hs.2.2, hd]
  exact rfin hF hB hr7 u9 (by omega) (by omega) (by omega)
 ·
  refine wp_skip (wsr (za0 (.agg (zln c0).toArray) r (fun R => za7 r (cs := (zln c0)) (n := 6) rfl (keep hB c0h) ta23 rfl) rfl fun fr r => za0 (I c1) r (fun R => za2 r rfl (keep hB c1h) to3 rfl) rfl fun fr r => za0 (.agg (zlL c3).toArray) r (fun R => za7 r (cs := (zlL c3)) (n := 3) rfl (keep hB c3h) zmp rfl) rfl fun fr r => za0 (U c4) r (fun R => za2 r rfl (keep hB c4h) to40 rfl) rfl fun fr r => za0 (I (W c4)) r (fun R => zbf r rfl ti40 ti3) rfl fun fr r => za0 _ r (fun R => zlt r rfl rfl rfl rfl) rfl fun fr r => ?_))
  have hF1 := zlG hF hB b1
  refine za9 r (zgu (j := j) (F := (fun b => F b ∨ (w0.heap.size ≤ b ∧ b < w2.heap.size ∧ b ≠ b1))) (n := n) hF1 (by omega) (fun m' hm' => ih_retire_scanned m' (by omega)) c0 c1 c3 (W ((W c4) - 1))) (fun R hc => zac r rfl zoT hc) rfl ?_
  rintro _ w10 ⟨v11, rfl, hb, hr12⟩
  refine ⟨_, rfl, fun fr r => ?_⟩
  have z_w10 := hb.size
  have h_b1 := keep hb h_b1
  obtain ⟨hB, zB⟩ := bon hb hB
  refine zaf (.cells v11.cells 61 (0, 0)) r (fun R => zaq r hr12.shape rfl rfl h_b1 ts61 rfl) rfl fun fr w13 u14 r => ?_
  have z_w13 := u14.size
  have h_b1 := u14.at_
  obtain ⟨hB, zB⟩ := u14.on hB (by omega)
  refine wn (wp_ret ?_)
  have hd : D.zbm j r_retire_scanned c0 c1 c2 c3 c4 a0 = (D.zcg j r_retire_scanned c0 c1 c3 (W ((W c4) - 1))) := (zah h4).trans (rfl)
  have hs := hr12.shape.cells
  refine zal r rfl rfl h_b1 (k := 7) hs.1 ta61 ?_
  rw [← hs.2.2, hd]
  exact rfin hF hB hr12 u14 (by omega) (by omega) (by omega)
theorem zfG {n : Nat} {F : Nat → Prop} {j : Nat} {r_retire_scanned : Plan → Int → Scan → T Int} {w0 : World} (hF : ∀ b, F b → b < w0.heap.size) (hj : n < j) (ih_retire_scanned : ∀ m, m ≤ n → zbr r_retire_scanned m)
    (c0 : Plan) {c0b : Nat} (c0F : F c0b) (c0h : w0.heap[c0b]? = some (.cells ((zln c0)).toArray 23 (0, 0))) (c1 : Int) {c1b : Nat} (c1F : F c1b) (c1h : w0.heap[c1b]? = some (.cells ([(.int .i64 c1)]).toArray 3 (0, 0))) (c2 : Scan) {c2b : Nat} (c2F : F c2b) (c2h : w0.heap[c2b]? = some (.cells ((zlL c2)).toArray 297 (0, 0))) (c3 : Scan) {c3b : Nat} (c3F : F c3b) (c3h : w0.heap[c3b]? = some (.cells ((zlL c3)).toArray 297 (0, 0))) (a0 : Int) :
    Calls Tryz.prog 320 #[.int .u64 a0, zp c0b, zp c1b, zp c2b, zp c3b] w0 (zlx Tryz.prog zlq n (D.zc0 j r_retire_scanned c0 c1 c2 c3 a0) F w0) := by
 refine enter Tryz.func320 rfl 27 rfl rfl fun fr r => ?_
 have hB := Below.refl w0.heap.size w0
 have lc0b := lt_of_block c0h
 have lc1b := lt_of_block c1h
 have lc2b := lt_of_block c2h
 have lc3b := lt_of_block c3h
 refine wsr ?_
 refine zaa (.cells #[(U a0)] 40 (0, 0)) r (fun R => zlC r (v := (U a0)) rfl) rfl fun fr b1 w2 n3 r => ?_
 obtain ⟨e_b1, z_w2, h_b1, hB, zB⟩ := n3.all hB
 refine zaa (.cells (zlo false zlq.zero 0 0 0 0 .nilFunc) 61 (0, 0)) r (fun R => zar tz61) rfl fun fr b4 w5 n6 r => ?_
 have h_b1 := keep n6.below h_b1
 obtain ⟨e_b4, z_w5, h_b4, hB, zB⟩ := n6.all hB
 refine wn (wp_seq (wsr (za0 (U a0) r (fun R => za2 r rfl h_b1 to40 rfl) rfl fun fr r => za0 _ r (fun R => zlt r rfl rfl rfl rfl) rfl fun fr r => za0 (.bool (decide (a0 < 1))) r (fun R => za5 r rfl) rfl fun fr r => ?_)))
 refine zay (decide (a0 < 1)) (fun h7 => ?_) (fun h7 => ?_)
 ·
  refine s0 r h7 fun fr r => s0 r h7 fun fr r => s0 r h7 fun fr r => s0 r h7 fun fr r => s0 r h7 fun fr r => za0 (.bool true) r (fun R => zai r (b := true) (congrArg Value.bool h7) rfl) rfl fun fr r => wn ?_
  refine wp_cond_split (t := true) (r.ev rfl) (fun _ => ?_) (fun h => absurd ((rfl : true = _).symm.trans h) (by decide))
  refine wsr (za0 (.agg (zln c0).toArray) r (fun R => za7 r (cs := (zln c0)) (n := 6) rfl (keep hB c0h) ta23 rfl) rfl fun fr r => za0 (I c1) r (fun R => za2 r rfl (keep hB c1h) to3 rfl) rfl fun fr r => za0 (.agg (zlL c2).toArray) r (fun R => za7 r (cs := (zlL c2)) (n := 3) rfl (keep hB c2h) zmp rfl) rfl fun fr r => ?_)
  have hF1 := zlG hF hB b4
  refine za9 r ((ih_retire_scanned n (by omega)) (fun b => F b ∨ (w0.heap.size ≤ b ∧ b < w5.heap.size ∧ b ≠ b4)) _ hF1 c0 c1 c2) (fun R hc => zac r rfl zm8 hc) rfl ?_
  rintro _ w8 ⟨v9, rfl, hb, hr10⟩
  refine ⟨_, rfl, fun fr r => ?_⟩
  have z_w8 := hb.size
  have h_b1 := keep hb h_b1
  have h_b4 := keep hb h_b4
  obtain ⟨hB, zB⟩ := bon hb hB
  refine zaf (.cells v9.cells 61 (0, 0)) r (fun R => zaq r hr10.shape rfl rfl h_b4 ts61 rfl) rfl fun fr w11 u12 r => ?_
  have z_w11 := u12.size
  have h_b1 := u12.keep h_b1 (by omega)
  have h_b4 := u12.at_
  obtain ⟨hB, zB⟩ := u12.on hB (by omega)
  refine wn (wp_ret ?_)
  have hd : D.zc0 j r_retire_scanned c0 c1 c2 c3 a0 = (r_retire_scanned c0 c1 c2) := (zao h7).trans (rfl)
  have hs := hr10.shape.cells
  refine zal r rfl rfl h_b4 (k := 7) hs.1 ta61 ?_
  rw [← hs.2.2, hd]
  exact rfin hF hB hr10 u12 (by omega) (by omega) (by omega)
 ·
  refine s1 r h7 (za0 (U a0) r (fun R => za2 r rfl h_b1 to40 rfl) rfl fun fr r => s1 r h7 (za0 _ r (fun R => za4 r (o := 0) rfl zec) rfl fun fr r => s1 r h7 (za0 (I c0.nodes) r (fun R => za2 r rfl (keep hB c0h) to3 rfl) rfl fun fr r => s1 r h7 (za0 (U (V c0.nodes)) r (fun R => zbf r rfl ti3 ti40) rfl fun fr r => s1 r h7 (za0 _ r (fun R => zlt r rfl rfl rfl rfl) rfl fun fr r => za0 (.bool (decide (a0 > (V c0.nodes)))) r (fun R => zai r (b := false) (congrArg Value.bool h7) rfl) rfl fun fr r => wn ?_)))))
  refine wp_cond_split (t := (decide (a0 > (V c0.nodes)))) (r.ev rfl) (fun h13 => ?_) (fun h13 => ?_)
  ·
   refine wsr (za0 (.agg (zln c0).toArray) r (fun R => za7 r (cs := (zln c0)) (n := 6) rfl (keep hB c0h) ta23 rfl) rfl fun fr r => za0 (I c1) r (fun R => za2 r rfl (keep hB c1h) to3 rfl) rfl fun fr r => za0 (.agg (zlL c2).toArray) r (fun R => za7 r (cs := (zlL c2)) (n := 3) rfl (keep hB c2h) zmp rfl) rfl fun fr r => ?_)
   have hF1 := zlG hF hB b4
   refine za9 r ((ih_retire_scanned n (by omega)) (fun b => F b ∨ (w0.heap.size ≤ b ∧ b < w5.heap.size ∧ b ≠ b4)) _ hF1 c0 c1 c2) (fun R hc => zac r rfl zm8 hc) rfl ?_
   rintro _ w14 ⟨v15, rfl, hb, hr16⟩
   refine ⟨_, rfl, fun fr r => ?_⟩
   have z_w14 := hb.size
   have h_b1 := keep hb h_b1
   have h_b4 := keep hb h_b4
   obtain ⟨hB, zB⟩ := bon hb hB
   refine zaf (.cells v15.cells 61 (0, 0)) r (fun R => zaq r hr16.shape rfl rfl h_b4 ts61 rfl) rfl fun fr w17 u18 r => ?_
   have z_w17 := u18.size
   have h_b1 := u18.keep h_b1 (by omega)
   have h_b4 := u18.at_
   obtain ⟨hB, zB⟩ := u18.on hB (by omega)
   refine wn (wp_ret ?_)
   have hd : D.zc0 j r_retire_scanned c0 c1 c2 c3 a0 = (r_retire_scanned c0 c1 c2) := (zah h7).trans ((zao h13).trans (rfl))
   have hs := hr16.shape.cells
   refine zal r rfl rfl h_b4 (k := 7) hs.1 ta61 ?_
   rw [← hs.2.2, hd]
   exact rfin hF hB hr16 u18 (by omega) (by omega) (by omega)
  ·
   refine wp_skip (wsr (za0 (.agg (zln c0).toArray) r (fun R => za7 r (cs := (zln c0)) (n := 6) rfl (keep hB c0h) ta23 rfl) rfl fun fr r => za0 (U a0) r (fun R => za2 r rfl h_b1 to40 rfl) rfl fun fr r => za0 (I (W a0)) r (fun R => zbf r rfl ti40 ti3) rfl fun fr r => za0 _ r (fun R => zlt r rfl rfl rfl rfl) rfl fun fr r => ?_))
   have hF1 := zlG hF hB b4
   refine za9 r (zhO (j := j) (F := (fun b => F b ∨ (w0.heap.size ≤ b ∧ b < w5.heap.size ∧ b ≠ b4))) (n := n) hF1 (by omega) c0 (W ((W a0) - 1))) (fun R hc => zac r rfl zoo hc) rfl ?_
   rintro _ w19 ⟨v20, rfl, hb, hr21⟩
   refine ⟨_, rfl, fun fr r => ?_⟩
   have z_w19 := hb.size
   have h_b1 := keep hb h_b1
   have h_b4 := keep hb h_b4
   obtain ⟨hB, zB⟩ := bon hb hB
   refine za0 (.func (.func 323) #[] #[zp c0b, zp c1b, zp c2b, zp c3b, zp b1]) r (fun R => zaL r rfl) rfl fun fr r => ?_
   have hF1 := zlG hF hB b4
   have f22 : ((fun b => F b ∨ (w0.heap.size ≤ b ∧ b < w19.heap.size ∧ b ≠ b4))) c0b := (.inl c0F)
   have f23 : ((fun b => F b ∨ (w0.heap.size ≤ b ∧ b < w19.heap.size ∧ b ≠ b4))) c1b := (.inl c1F)
   have f24 : ((fun b => F b ∨ (w0.heap.size ≤ b ∧ b < w19.heap.size ∧ b ≠ b4))) c2b := (.inl c2F)
   have f25 : ((fun b => F b ∨ (w0.heap.size ≤ b ∧ b < w19.heap.size ∧ b ≠ b4))) c3b := (.inl c3F)
   have f26 : ((fun b => F b ∨ (w0.heap.size ≤ b ∧ b < w19.heap.size ∧ b ≠ b4))) b1 := (.inr ⟨by omega, by omega, by omega⟩)
   refine za9 r (zeA (F := (fun b => F b ∨ (w0.heap.size ≤ b ∧ b < w19.heap.size ∧ b ≠ b4))) (n := n) hF1 (Rep.mono (by rintro b (h | h); (rcases h with h | ⟨h1, h2, h3⟩; exact .inl h; exact .inr ⟨h1, by omega, h3⟩); exact .inr ⟨by omega, by omega, by omega⟩) (Same.refl _ _) (by omega) n _ _ hr21) ⟨323, [], [zp c0b, zp c1b, zp c2b, zp c3b, zp b1], zo1, rfl, fun m hm x w' hs hz => zff (j := j) (fun b hb => Nat.lt_of_lt_of_le (hF1 b hb) hz) (by omega) (fun m' hm' => ih_retire_scanned m' (by omega)) c0 f22 (hs.at_ f22 (keep hB c0h)) c1 f23 (hs.at_ f23 (keep hB c1h)) c2 f24 (hs.at_ f24 (keep hB c2h)) c3 f25 (hs.at_ f25 (keep hB c3h)) a0 f26 (hs.at_ f26 h_b1) x⟩) (fun R hc => zac r rfl zns hc) rfl ?_
   rintro _ w27 ⟨v28, rfl, hb, hr29⟩
   refine ⟨_, rfl, fun fr r => ?_⟩
   have z_w27 := hb.size
   have h_b1 := keep hb h_b1
   have h_b4 := keep hb h_b4
   obtain ⟨hB, zB⟩ := bon hb hB
   refine zaf (.cells v28.cells 61 (0, 0)) r (fun R => zaq r hr29.shape rfl rfl h_b4 ts61 rfl) rfl fun fr w30 u31 r => ?_
   have z_w30 := u31.size
   have h_b1 := u31.keep h_b1 (by omega)
   have h_b4 := u31.at_
   obtain ⟨hB, zB⟩ := u31.on hB (by omega)
   refine wn (wp_ret ?_)
   have hd : D.zc0 j r_retire_scanned c0 c1 c2 c3 a0 = (T.bind (D.zey j c0 (W ((W a0) - 1))) (fun x => (D.zbm j r_retire_scanned c0 c1 c2 c3 a0 x))) := (zah h7).trans ((zah h13).trans (rfl))
   have hs := hr29.shape.cells
   refine zal r rfl rfl h_b4 (k := 7) hs.1 ta61 ?_
   rw [← hs.2.2, hd]
   exact rfin hF hB hr29 u31 (by omega) (by omega) (by omega)
theorem zgx {n : Nat} {F : Nat → Prop} {j : Nat} {r_retire_scanned : Plan → Int → Scan → T Int} {w0 : World} (hF : ∀ b, F b → b < w0.heap.size) (hj : n < j) (ih_retire_scanned : ∀ m, m < n → zbr r_retire_scanned m)
    (a0 : Plan) (a1 : Int) (a2 : Scan) :
    Calls Tryz.prog 219 #[.agg (zln a0).toArray, .int .i64 a1, .agg (zlL a2).toArray] w0 (zlx Tryz.prog zlq n (D.zbp j r_retire_scanned a0 a1 a2) F w0) := by
 refine enter Tryz.func219 rfl 29 rfl rfl fun fr r => ?_
 have hB := Below.refl w0.heap.size w0
 refine wsr ?_
 refine zaa (.cells ((zln a0)).toArray 23 (0, 0)) r (fun R => zlC r (v := (.agg (zln a0).toArray)) rfl) rfl fun fr b1 w2 n3 r => ?_
 obtain ⟨e_b1, z_w2, h_b1, hB, zB⟩ := n3.all hB
 refine zaa (.cells #[(I a1)] 3 (0, 0)) r (fun R => zlC r (v := (I a1)) rfl) rfl fun fr b4 w5 n6 r => ?_
 have h_b1 := keep n6.below h_b1
 obtain ⟨e_b4, z_w5, h_b4, hB, zB⟩ := n6.all hB
 refine zaa (.cells ((zlL a2)).toArray 297 (0, 0)) r (fun R => zlC r (v := (.agg (zlL a2).toArray)) rfl) rfl fun fr b7 w8 n9 r => ?_
 have h_b1 := keep n9.below h_b1
 have h_b4 := keep n9.below h_b4
 obtain ⟨e_b7, z_w8, h_b7, hB, zB⟩ := n9.all hB
 refine zaa (.cells (zlo false zlq.zero 0 0 0 0 .nilFunc) 61 (0, 0)) r (fun R => zar tz61) rfl fun fr b10 w11 n12 r => ?_
 have h_b1 := keep n12.below h_b1
 have h_b4 := keep n12.below h_b4
 have h_b7 := keep n12.below h_b7
 obtain ⟨e_b10, z_w11, h_b10, hB, zB⟩ := n12.all hB
 refine wn (wp_seq (wsr (za0 _ r (fun R => za4 r (o := 0) rfl zgc) rfl fun fr r => za0 (I a2.at_) r (fun R => za2 r rfl h_b7 to3 rfl) rfl fun fr r => za0 _ r (fun R => zlt r rfl rfl rfl rfl) rfl fun fr r => wn ?_)))
 refine wp_cond_split (t := (decide (a2.at_ < 0))) (r.ev rfl) (fun h13 => ?_) (fun h13 => ?_)
 ·
  refine wsr (za0 _ r (fun R => za4 r (o := 0) rfl ziK) rfl fun fr r => za0 (I a2.done) r (fun R => za2 r rfl h_b7 to3 rfl) rfl fun fr r => ?_)
  have hF1 := zlG hF hB b10
  refine za9 r (zbs (F := (fun b => F b ∨ (w0.heap.size ≤ b ∧ b < w11.heap.size ∧ b ≠ b10))) (n := n) hF1 a2.done) (fun R hc => zac r rfl zlS hc) rfl ?_
  rintro _ w14 ⟨v15, rfl, hb, hr16⟩
  refine ⟨_, rfl, fun fr r => ?_⟩
  have z_w14 := hb.size
  have h_b1 := keep hb h_b1
  have h_b4 := keep hb h_b4
  have h_b7 := keep hb h_b7
  have h_b10 := keep hb h_b10
  obtain ⟨hB, zB⟩ := bon hb hB
  refine zaf (.cells v15.cells 61 (0, 0)) r (fun R => zaq r hr16.shape rfl rfl h_b10 ts61 rfl) rfl fun fr w17 u18 r => ?_
  have z_w17 := u18.size
  have h_b1 := u18.keep h_b1 (by omega)
  have h_b4 := u18.keep h_b4 (by omega)
  have h_b7 := u18.keep h_b7 (by omega)
  have h_b10 := u18.at_
  obtain ⟨hB, zB⟩ := u18.on hB (by omega)
  refine wn (wp_ret ?_)
  have hd : D.zbp j r_retire_scanned a0 a1 a2 = (D.zaW a2.done) := (zao h13).trans (rfl)
  have hs := hr16.shape.cells
  refine zal r rfl rfl h_b10 (k := 7) hs.1 ta61 ?_
  rw [← hs.2.2, hd]
  exact rfin hF hB hr16 u18 (by omega) (by omega) (by omega)
 ·
  refine wp_skip (wsr (za0 _ r (fun R => za4 r (o := 0) rfl zgc) rfl fun fr r => za0 (I a2.at_) r (fun R => za2 r rfl h_b7 to3 rfl) rfl fun fr r => za0 _ r (fun R => zlt r rfl rfl rfl rfl) rfl fun fr r => za0 _ r (fun R => za4 r (o := 0) rfl zjs) rfl fun fr r => za0 (I a2.left) r (fun R => za2 r rfl h_b7 to3 rfl) rfl fun fr r => za0 _ r (fun R => za4 r (o := 0) rfl ziK) rfl fun fr r => za0 (I a2.done) r (fun R => za2 r rfl h_b7 to3 rfl) rfl fun fr r => za0 (.agg (zlL (⟨(W (a2.at_ - 1)), a2.left, a2.done⟩ : Scan)).toArray) r (fun R => zb4 r (by kernel_rfl)) rfl fun fr r => ?_))
  refine zaa (.cells ((zlL (⟨0, 0, 0⟩ : Scan))).toArray 297 (0, 0)) r (fun R => zar zoh) rfl fun fr b19 w20 n21 r => ?_
  have h_b1 := keep n21.below h_b1
  have h_b4 := keep n21.below h_b4
  have h_b7 := keep n21.below h_b7
  have h_b10 := keep n21.below h_b10
  obtain ⟨e_b19, z_w20, h_b19, hB, zB⟩ := n21.all hB
  refine zaf (.cells ((zlL (⟨(W (a2.at_ - 1)), a2.left, a2.done⟩ : Scan))).toArray 297 (0, 0)) r (fun R => zb0 r (o := 0) (v := (.agg (zlL (⟨(W (a2.at_ - 1)), a2.left, a2.done⟩ : Scan)).toArray)) rfl rfl h_b19 znX (Nat.le_of_ble_eq_true rfl) rfl rfl) rfl fun fr w22 u23 r => ?_
  have z_w22 := u23.size
  have h_b1 := u23.keep h_b1 (by omega)
  have h_b4 := u23.keep h_b4 (by omega)
  have h_b7 := u23.keep h_b7 (by omega)
  have h_b10 := u23.keep h_b10 (by omega)
  have h_b19 := u23.at_
  obtain ⟨hB, zB⟩ := u23.on hB (by omega)
  refine wn (wsr (za0 (.agg (zln a0).toArray) r (fun R => za7 r (cs := (zln a0)) (n := 6) rfl h_b1 ta23 rfl) rfl fun fr r => za0 (I a1) r (fun R => za2 r rfl h_b4 to3 rfl) rfl fun fr r => za0 _ r (fun R => za4 r (o := 0) rfl zgc) rfl fun fr r => za0 (I a2.at_) r (fun R => za2 r rfl h_b7 to3 rfl) rfl fun fr r => ?_))
  refine za9 r (zc8 w22 a0 a1 a2.at_) (fun R hc => zac r rfl zme hc) rfl ?_
  rintro _ w24 ⟨rfl, hb⟩
  refine ⟨_, rfl, fun fr r => ?_⟩
  have z_w24 := hb.size
  have h_b1 := keep hb h_b1
  have h_b4 := keep hb h_b4
  have h_b7 := keep hb h_b7
  have h_b10 := keep hb h_b10
  have h_b19 := keep hb h_b19
  obtain ⟨hB, zB⟩ := bon hb hB
  refine za0 (.func (.func 320) #[] #[zp b1, zp b4, zp b19, zp b7]) r (fun R => zaL r rfl) rfl fun fr r => ?_
  have hF1 := zlG hF hB b10
  have f25 : ((fun b => F b ∨ (w0.heap.size ≤ b ∧ b < w24.heap.size ∧ b ≠ b10))) b1 := (.inr ⟨by omega, by omega, by omega⟩)
  have f26 : ((fun b => F b ∨ (w0.heap.size ≤ b ∧ b < w24.heap.size ∧ b ≠ b10))) b4 := (.inr ⟨by omega, by omega, by omega⟩)
  have f27 : ((fun b => F b ∨ (w0.heap.size ≤ b ∧ b < w24.heap.size ∧ b ≠ b10))) b19 := (.inr ⟨by omega, by omega, by omega⟩)
  have f28 : ((fun b => F b ∨ (w0.heap.size ≤ b ∧ b < w24.heap.size ∧ b ≠ b10))) b7 := (.inr ⟨by omega, by omega, by omega⟩)
  refine za9 r (zbG (F := (fun b => F b ∨ (w0.heap.size ≤ b ∧ b < w24.heap.size ∧ b ≠ b10))) (n := n) hF1 (D.zaK a0 a1 a2.at_) ⟨320, [], [zp b1, zp b4, zp b19, zp b7], zoR, rfl, fun m hm x w' hs hz => zfG (j := j) (fun b hb => Nat.lt_of_lt_of_le (hF1 b hb) hz) (by omega) (fun m' hm' => ih_retire_scanned m' (by omega)) a0 f25 (hs.at_ f25 h_b1) a1 f26 (hs.at_ f26 h_b4) (⟨(W (a2.at_ - 1)), a2.left, a2.done⟩ : Scan) f27 (hs.at_ f27 h_b19) a2 f28 (hs.at_ f28 h_b7) x⟩) (fun R hc => zac r rfl zlV hc) rfl ?_
  rintro _ w29 ⟨v30, rfl, hb, hr31⟩
  refine ⟨_, rfl, fun fr r => ?_⟩
  have z_w29 := hb.size
  have h_b1 := keep hb h_b1
  have h_b4 := keep hb h_b4
  have h_b7 := keep hb h_b7
  have h_b10 := keep hb h_b10
  have h_b19 := keep hb h_b19
  obtain ⟨hB, zB⟩ := bon hb hB
  refine zaf (.cells v30.cells 61 (0, 0)) r (fun R => zaq r hr31.shape rfl rfl h_b10 ts61 rfl) rfl fun fr w32 u33 r => ?_
  have z_w32 := u33.size
  have h_b1 := u33.keep h_b1 (by omega)
  have h_b4 := u33.keep h_b4 (by omega)
  have h_b7 := u33.keep h_b7 (by omega)
  have h_b19 := u33.keep h_b19 (by omega)
  have h_b10 := u33.at_
  obtain ⟨hB, zB⟩ := u33.on hB (by omega)
  refine wn (wp_ret ?_)
  have hd : D.zbp j r_retire_scanned a0 a1 a2 = (D.zb7 (D.zaK a0 a1 a2.at_) (fun x => (D.zc0 j r_retire_scanned a0 a1 (⟨(W (a2.at_ - 1)), a2.left, a2.done⟩ : Scan) a2 x))) := (zah h13).trans (rfl)
  have hs := hr31.shape.cells
  refine zal r rfl rfl h_b10 (k := 7) hs.1 ta61 ?_
  rw [← hs.2.2, hd]
  exact rfin hF hB hr31 u33 (by omega) (by omega) (by omega)
theorem zgB {n : Nat} {j : Nat} (hj : n < j) {k : Nat} (hk : n < k) : zbr (D.zbb j k) n := by
  induction n using Nat.strongRecOn generalizing k with
  | _ n ih =>
    obtain ⟨k, rfl⟩ : ∃ q, k = q + 1 := ⟨k - 1, by omega⟩
    intro F w0 hF
    have h := @zgx n F j (D.zbb j k) w0 hF hj (fun m hm => ih m hm (by omega) (by omega))
    exact h
def D.zeF (j : Nat) (c0 : Plan) (c1 : Int) (a0 : Int) : T Int := (D.zbb j j c0 c1 (⟨(IntKind.i64.wrap ((IntKind.i64.wrap (minI a0 (IntKind.u64.wrap c0.retire))) - 1)), (IntKind.i64.wrap (minI a0 (IntKind.u64.wrap c0.retire))), 0⟩ : Scan))
theorem zgU {n : Nat} {F : Nat → Prop} {j : Nat} {w0 : World} (hF : ∀ b, F b → b < w0.heap.size) (hj : n < j)
    (c0 : Plan) {c0b : Nat} (c0F : F c0b) (c0h : w0.heap[c0b]? = some (.cells ((zln c0)).toArray 23 (0, 0))) (c1 : Int) {c1b : Nat} (c1F : F c1b) (c1h : w0.heap[c1b]? = some (.cells ([(.int .i64 c1)]).toArray 3 (0, 0))) (a0 : Int) :
    Calls Tryz.prog 218 #[.int .u64 a0, zp c0b, zp c1b] w0 (zlx Tryz.prog zlq n (D.zeF j c0 c1 a0) F w0) := by
 refine enter Tryz.func218 rfl 19 rfl rfl fun fr r => ?_
 have hB := Below.refl w0.heap.size w0
 have lc0b := lt_of_block c0h
 have lc1b := lt_of_block c1h
 refine wsr ?_
 refine zaa (.cells (zlo false zlq.zero 0 0 0 0 .nilFunc) 61 (0, 0)) r (fun R => zar tz61) rfl fun fr b1 w2 n3 r => ?_
 obtain ⟨e_b1, z_w2, h_b1, hB, zB⟩ := n3.all hB
 refine wn (wsr (za0 (U a0) r (fun R => za5 r rfl) rfl fun fr r => za0 _ r (fun R => za4 r (o := 0) rfl zeJ) rfl fun fr r => za0 (I c0.retire) r (fun R => za2 r rfl (keep hB c0h) to3 rfl) rfl fun fr r => za0 (U (V c0.retire)) r (fun R => zbf r rfl ti3 ti40) rfl fun fr r => za0 (U (minI a0 (V c0.retire))) r (fun R => znh r (m := a0) (n := (V c0.retire)) rfl rfl) rfl fun fr r => za0 (I (W (minI a0 (V c0.retire)))) r (fun R => zbf r rfl ti40 ti3) rfl fun fr r => za0 (I (W (minI a0 (V c0.retire)))) r (fun R => za6 r rfl) rfl fun fr r => wn (wsr (za0 (.agg (zln c0).toArray) r (fun R => za7 r (cs := (zln c0)) (n := 6) rfl (keep hB c0h) ta23 rfl) rfl fun fr r => za0 (I c1) r (fun R => za2 r rfl (keep hB c1h) to3 rfl) rfl fun fr r => za0 (I (W (minI a0 (V c0.retire)))) r (fun R => za5 r rfl) rfl fun fr r => za0 _ r (fun R => zlt r rfl rfl rfl rfl) rfl fun fr r => za0 (I (W (minI a0 (V c0.retire)))) r (fun R => za5 r rfl) rfl fun fr r => za0 (.agg (zlL (⟨(W ((W (minI a0 (V c0.retire))) - 1)), (W (minI a0 (V c0.retire))), 0⟩ : Scan)).toArray) r (fun R => zb4 r (by kernel_rfl)) rfl fun fr r => ?_))))
 have hF1 := zlG hF hB b1
 refine za9 r ((zgB (j := j) (k := j) (n := n) (by omega) (by omega)) (fun b => F b ∨ (w0.heap.size ≤ b ∧ b < w2.heap.size ∧ b ≠ b1)) _ hF1 c0 c1 (⟨(W ((W (minI a0 (V c0.retire))) - 1)), (W (minI a0 (V c0.retire))), 0⟩ : Scan)) (fun R hc => zac r rfl zm8 hc) rfl ?_
 rintro _ w4 ⟨v5, rfl, hb, hr6⟩
 refine ⟨_, rfl, fun fr r => ?_⟩
 have z_w4 := hb.size
 have h_b1 := keep hb h_b1
 obtain ⟨hB, zB⟩ := bon hb hB
 refine zaf (.cells v5.cells 61 (0, 0)) r (fun R => zaq r hr6.shape rfl rfl h_b1 ts61 rfl) rfl fun fr w7 u8 r => ?_
 have z_w7 := u8.size
 have h_b1 := u8.at_
 obtain ⟨hB, zB⟩ := u8.on hB (by omega)
 refine wn (wp_ret ?_)
 have hs := hr6.shape.cells
 refine zal r rfl rfl h_b1 (k := 7) hs.1 ta61 ?_
 rw [← hs.2.2]
 exact rfin hF hB hr6 u8 (by omega) (by omega) (by omega)
def D.zcJ (j : Nat) (a0 : Plan) (a1 : Int) : T Int := (D.zb7 (D.zaX a0 a1) (fun x => (D.zeF j a0 a1 x)))
theorem zfF {n : Nat} {F : Nat → Prop} {j : Nat} {w0 : World} (hF : ∀ b, F b → b < w0.heap.size) (hj : n < j)
    (a0 : Plan) (a1 : Int) :
    Calls Tryz.prog 115 #[.agg (zln a0).toArray, .int .i64 a1] w0 (zlx Tryz.prog zlq n (D.zcJ j a0 a1) F w0) := by
 refine enter Tryz.func115 rfl 10 rfl rfl fun fr r => ?_
 have hB := Below.refl w0.heap.size w0
 refine wsr ?_
 refine zaa (.cells ((zln a0)).toArray 23 (0, 0)) r (fun R => zlC r (v := (.agg (zln a0).toArray)) rfl) rfl fun fr b1 w2 n3 r => ?_
 obtain ⟨e_b1, z_w2, h_b1, hB, zB⟩ := n3.all hB
 refine zaa (.cells #[(I a1)] 3 (0, 0)) r (fun R => zlC r (v := (I a1)) rfl) rfl fun fr b4 w5 n6 r => ?_
 have h_b1 := keep n6.below h_b1
 obtain ⟨e_b4, z_w5, h_b4, hB, zB⟩ := n6.all hB
 refine zaa (.cells (zlo false zlq.zero 0 0 0 0 .nilFunc) 61 (0, 0)) r (fun R => zar tz61) rfl fun fr b7 w8 n9 r => ?_
 have h_b1 := keep n9.below h_b1
 have h_b4 := keep n9.below h_b4
 obtain ⟨e_b7, z_w8, h_b7, hB, zB⟩ := n9.all hB
 refine wn (wsr (za0 (.agg (zln a0).toArray) r (fun R => za7 r (cs := (zln a0)) (n := 6) rfl h_b1 ta23 rfl) rfl fun fr r => za0 (I a1) r (fun R => za2 r rfl h_b4 to3 rfl) rfl fun fr r => ?_))
 refine za9 r (zck w8 a0 a1) (fun R hc => zac r rfl zma hc) rfl ?_
 rintro _ w10 ⟨rfl, hb⟩
 refine ⟨_, rfl, fun fr r => ?_⟩
 have z_w10 := hb.size
 have h_b1 := keep hb h_b1
 have h_b4 := keep hb h_b4
 have h_b7 := keep hb h_b7
 obtain ⟨hB, zB⟩ := bon hb hB
 refine za0 (.func (.func 218) #[] #[zp b1, zp b4]) r (fun R => zaL r rfl) rfl fun fr r => ?_
 have hF1 := zlG hF hB b7
 have f11 : ((fun b => F b ∨ (w0.heap.size ≤ b ∧ b < w10.heap.size ∧ b ≠ b7))) b1 := (.inr ⟨by omega, by omega, by omega⟩)
 have f12 : ((fun b => F b ∨ (w0.heap.size ≤ b ∧ b < w10.heap.size ∧ b ≠ b7))) b4 := (.inr ⟨by omega, by omega, by omega⟩)
 refine za9 r (zbG (F := (fun b => F b ∨ (w0.heap.size ≤ b ∧ b < w10.heap.size ∧ b ≠ b7))) (n := n) hF1 (D.zaX a0 a1) ⟨218, [], [zp b1, zp b4], znJ, rfl, fun m hm x w' hs hz => zgU (j := j) (fun b hb => Nat.lt_of_lt_of_le (hF1 b hb) hz) (by omega) a0 f11 (hs.at_ f11 h_b1) a1 f12 (hs.at_ f12 h_b4) x⟩) (fun R hc => zac r rfl zlV hc) rfl ?_
 rintro _ w13 ⟨v14, rfl, hb, hr15⟩
 refine ⟨_, rfl, fun fr r => ?_⟩
 have z_w13 := hb.size
 have h_b1 := keep hb h_b1
 have h_b4 := keep hb h_b4
 have h_b7 := keep hb h_b7
 obtain ⟨hB, zB⟩ := bon hb hB
 refine zaf (.cells v14.cells 61 (0, 0)) r (fun R => zaq r hr15.shape rfl rfl h_b7 ts61 rfl) rfl fun fr w16 u17 r => ?_
 have z_w16 := u17.size
 have h_b1 := u17.keep h_b1 (by omega)
 have h_b4 := u17.keep h_b4 (by omega)
 have h_b7 := u17.at_
 obtain ⟨hB, zB⟩ := u17.on hB (by omega)
 refine wn (wp_ret ?_)
 have hs := hr15.shape.cells
 refine zal r rfl rfl h_b7 (k := 7) hs.1 ta61 ?_
 rw [← hs.2.2]
 exact rfin hF hB hr15 u17 (by omega) (by omega) (by omega)
def D.zdF (c0 : Int) : T Int := (D.zaW (IntKind.i64.wrap ((IntKind.i64.wrap c0) + 1)))
theorem zfA {n : Nat} {F : Nat → Prop} {w0 : World} (hF : ∀ b, F b → b < w0.heap.size)
    (c0 : Int) {c0b : Nat} (c0F : F c0b) (c0h : w0.heap[c0b]? = some (.cells ([(.int .u64 c0)]).toArray 40 (0, 0))) :
    Calls Tryz.prog 328 #[zp c0b] w0 (zlx Tryz.prog zlq n (D.zdF c0) F w0) := by
 refine enter Tryz.func328 rfl 6 rfl rfl fun fr r => ?_
 have hB := Below.refl w0.heap.size w0
 have lc0b := lt_of_block c0h
 refine wsr ?_
 refine zaa (.cells (zlo false zlq.zero 0 0 0 0 .nilFunc) 61 (0, 0)) r (fun R => zar tz61) rfl fun fr b1 w2 n3 r => ?_
 obtain ⟨e_b1, z_w2, h_b1, hB, zB⟩ := n3.all hB
 refine wn (wsr (za0 (U c0) r (fun R => za2 r rfl (keep hB c0h) to40 rfl) rfl fun fr r => za0 (I (W c0)) r (fun R => zbf r rfl ti40 ti3) rfl fun fr r => za0 _ r (fun R => zlt r rfl rfl rfl rfl) rfl fun fr r => ?_))
 have hF1 := zlG hF hB b1
 refine za9 r (zbs (F := (fun b => F b ∨ (w0.heap.size ≤ b ∧ b < w2.heap.size ∧ b ≠ b1))) (n := n) hF1 (W ((W c0) + 1))) (fun R hc => zac r rfl zlS hc) rfl ?_
 rintro _ w4 ⟨v5, rfl, hb, hr6⟩
 refine ⟨_, rfl, fun fr r => ?_⟩
 have z_w4 := hb.size
 have h_b1 := keep hb h_b1
 obtain ⟨hB, zB⟩ := bon hb hB
 refine zaf (.cells v5.cells 61 (0, 0)) r (fun R => zaq r hr6.shape rfl rfl h_b1 ts61 rfl) rfl fun fr w7 u8 r => ?_
 have z_w7 := u8.size
 have h_b1 := u8.at_
 obtain ⟨hB, zB⟩ := u8.on hB (by omega)
 refine wn (wp_ret ?_)
 have hs := hr6.shape.cells
 refine zal r rfl rfl h_b1 (k := 7) hs.1 ta61 ?_
 rw [← hs.2.2]
 exact rfin hF hB hr6 u8 (by omega) (by omega) (by omega)
def D.zdw (c0 : Plan) (c1 : Int) (c2 : Int) : T Int := (D.zbd (D.zaX c0 c1) (IntKind.u64.wrap (c2 + 1)) (fun _ => (D.zdF c2)))
theorem zgz {n : Nat} {F : Nat → Prop} {w0 : World} (hF : ∀ b, F b → b < w0.heap.size)
    (c0 : Plan) {c0b : Nat} (c0F : F c0b) (c0h : w0.heap[c0b]? = some (.cells ((zln c0)).toArray 23 (0, 0))) (c1 : Int) {c1b : Nat} (c1F : F c1b) (c1h : w0.heap[c1b]? = some (.cells ([(.int .i64 c1)]).toArray 3 (0, 0))) (c2 : Int) {c2b : Nat} (c2F : F c2b) (c2h : w0.heap[c2b]? = some (.cells ([(.int .u64 c2)]).toArray 40 (0, 0))) :
    Calls Tryz.prog 327 #[zp c0b, zp c1b, zp c2b] w0 (zlx Tryz.prog zlq n (D.zdw c0 c1 c2) F w0) := by
 refine enter Tryz.func327 rfl 11 rfl rfl fun fr r => ?_
 have hB := Below.refl w0.heap.size w0
 have lc0b := lt_of_block c0h
 have lc1b := lt_of_block c1h
 have lc2b := lt_of_block c2h
 refine wsr ?_
 refine zaa (.cells (zlo false zlq.zero 0 0 0 0 .nilFunc) 61 (0, 0)) r (fun R => zar tz61) rfl fun fr b1 w2 n3 r => ?_
 obtain ⟨e_b1, z_w2, h_b1, hB, zB⟩ := n3.all hB
 refine wn (wp_seq ?_)
 refine zb5 6 [.val (.agg (zln c0).toArray), .val (I c1), .val (I (D.zaX c0 c1)), .val (U c2), .val (U (V (c2 + 1))), .val (.func (.func 328) #[] #[zp c2b])] mixed r (by kernel_rfl) (za3 (by exact trivial) (za3 (by exact trivial) (za3 (by exact trivial) (za3 (by exact trivial) (za3 (by exact trivial) (za3 (by exact trivial) zaV)))))) ?_ ?_
 ·
  refine ec r (fun _ u _ b d s => za7 s (cs := (zln c0)) (n := 6) rfl (zlK hB b c0h) ta23 rfl bz) (ec r (fun _ u _ b d s => za2 s rfl (zlK hB b c1h) to3 rfl bz) (ec r (fun fr1 u w' hb' hd r' => zac r' (args := [(.agg (zln c0).toArray), (I c1)]) (lc hd.1 (lc hd.2.1 l0)) zma ((zck _ c0 c1).mono (by rintro _ w2 ⟨rfl, hb2⟩; exact ⟨_, rfl, hb2, rfl⟩))) (ec r (fun _ u _ b d s => za2 s rfl (zlK hB b c2h) to40 rfl bz) (ec r (fun _ u _ b d s => zlt s d.1 rfl rfl rfl bz) (ec r (fun _ u _ b d s => zaL s (v := (.func (.func 328) #[] #[zp c2b])) rfl bz) ?_)))))
  exact zbc
 ·
  intro fr u w4 hb hΦ hne r
  have r := r.congr (sc (hΦ 5 (by decide)) (sc (hΦ 4 (by decide)) (sc (hΦ 3 (by decide)) (sc (hΦ 2 (by decide)) (sc (hΦ 1 (by decide)) (sc (hΦ 0 (by decide)) rfl))))))
  have z_w4 := hb.size
  have h_b1 := keep hb h_b1
  obtain ⟨hB, zB⟩ := bon hb hB
  have hF1 := zlG hF hB b1
  have f5 : ((fun b => F b ∨ (w0.heap.size ≤ b ∧ b < w4.heap.size ∧ b ≠ b1))) c2b := (.inl c2F)
  refine za9 r (zbK (F := (fun b => F b ∨ (w0.heap.size ≤ b ∧ b < w4.heap.size ∧ b ≠ b1))) (n := n) hF1 (D.zaX c0 c1) (V (c2 + 1)) ⟨328, [], [zp c2b], znT, rfl, fun m hm _ w' hs hz => zfA (fun b hb => Nat.lt_of_lt_of_le (hF1 b hb) hz) c2 f5 (hs.at_ f5 (keep hB c2h))⟩) (fun R hc => zac r rfl zlX hc) rfl ?_
  rintro _ w6 ⟨v7, rfl, hb, hr8⟩
  refine ⟨_, rfl, fun fr r => ?_⟩
  have z_w6 := hb.size
  have h_b1 := keep hb h_b1
  obtain ⟨hB, zB⟩ := bon hb hB
  refine zaf (.cells v7.cells 61 (0, 0)) r (fun R => zaq r hr8.shape rfl rfl h_b1 ts61 rfl) rfl fun fr w9 u10 r => ?_
  have z_w9 := u10.size
  have h_b1 := u10.at_
  obtain ⟨hB, zB⟩ := u10.on hB (by omega)
  refine wn (wp_ret ?_)
  have hs := hr8.shape.cells
  refine zal r rfl rfl h_b1 (k := 7) hs.1 ta61 ?_
  rw [← hs.2.2]
  exact rfin hF hB hr8 u10 (by omega) (by omega) (by omega)
def D.zdb (c0 : Plan) (c1 : Int) (c2 : Int) (a0 : Int) : T Int := (bif (decide (a0 ≥ (IntKind.u64.wrap c0.retire))) then (D.zaW (-1)) else (D.zbd (D.zaK c0 c1 (IntKind.i64.wrap a0)) (IntKind.u64.wrap (IntKind.i64.wrap (c2 + 1))) (fun _ => (D.zdw c0 c1 a0))))
theorem zh5 {n : Nat} {F : Nat → Prop} {w0 : World} (hF : ∀ b, F b → b < w0.heap.size)
    (c0 : Plan) {c0b : Nat} (c0F : F c0b) (c0h : w0.heap[c0b]? = some (.cells ((zln c0)).toArray 23 (0, 0))) (c1 : Int) {c1b : Nat} (c1F : F c1b) (c1h : w0.heap[c1b]? = some (.cells ([(.int .i64 c1)]).toArray 3 (0, 0))) (c2 : Int) {c2b : Nat} (c2F : F c2b) (c2h : w0.heap[c2b]? = some (.cells ([(.int .i64 c2)]).toArray 3 (0, 0))) (a0 : Int) :
    Calls Tryz.prog 326 #[.int .u64 a0, zp c0b, zp c1b, zp c2b] w0 (zlx Tryz.prog zlq n (D.zdb c0 c1 c2 a0) F w0) := by
 refine enter Tryz.func326 rfl 22 rfl rfl fun fr r => ?_
 have hB := Below.refl w0.heap.size w0
 have lc0b := lt_of_block c0h
 have lc1b := lt_of_block c1h
 have lc2b := lt_of_block c2h
 refine wsr ?_
 refine zaa (.cells #[(U a0)] 40 (0, 0)) r (fun R => zlC r (v := (U a0)) rfl) rfl fun fr b1 w2 n3 r => ?_
 obtain ⟨e_b1, z_w2, h_b1, hB, zB⟩ := n3.all hB
 refine zaa (.cells (zlo false zlq.zero 0 0 0 0 .nilFunc) 61 (0, 0)) r (fun R => zar tz61) rfl fun fr b4 w5 n6 r => ?_
 have h_b1 := keep n6.below h_b1
 obtain ⟨e_b4, z_w5, h_b4, hB, zB⟩ := n6.all hB
 refine wn (wp_seq (wsr (za0 (U a0) r (fun R => za2 r rfl h_b1 to40 rfl) rfl fun fr r => za0 _ r (fun R => za4 r (o := 0) rfl zeJ) rfl fun fr r => za0 (I c0.retire) r (fun R => za2 r rfl (keep hB c0h) to3 rfl) rfl fun fr r => za0 (U (V c0.retire)) r (fun R => zbf r rfl ti3 ti40) rfl fun fr r => za0 _ r (fun R => zlt r rfl rfl rfl rfl) rfl fun fr r => wn ?_)))
 refine wp_cond_split (t := (decide (a0 ≥ (V c0.retire)))) (r.ev rfl) (fun h7 => ?_) (fun h7 => ?_)
 ·
  refine wsr ?_
  have hF1 := zlG hF hB b4
  refine za9 r (zbs (F := (fun b => F b ∨ (w0.heap.size ≤ b ∧ b < w5.heap.size ∧ b ≠ b4))) (n := n) hF1 (-1)) (fun R hc => zac r rfl zlS hc) rfl ?_
  rintro _ w8 ⟨v9, rfl, hb, hr10⟩
  refine ⟨_, rfl, fun fr r => ?_⟩
  have z_w8 := hb.size
  have h_b1 := keep hb h_b1
  have h_b4 := keep hb h_b4
  obtain ⟨hB, zB⟩ := bon hb hB
  refine zaf (.cells v9.cells 61 (0, 0)) r (fun R => zaq r hr10.shape rfl rfl h_b4 ts61 rfl) rfl fun fr w11 u12 r => ?_
  have z_w11 := u12.size
  have h_b1 := u12.keep h_b1 (by omega)
  have h_b4 := u12.at_
  obtain ⟨hB, zB⟩ := u12.on hB (by omega)
  refine wn (wp_ret ?_)
  have hd : D.zdb c0 c1 c2 a0 = (D.zaW (-1)) := (zao h7).trans (rfl)
  have hs := hr10.shape.cells
  refine zal r rfl rfl h_b4 (k := 7) hs.1 ta61 ?_
  rw [← hs.2.2, hd]
  exact rfin hF hB hr10 u12 (by omega) (by omega) (by omega)
 ·
  refine wp_skip (wp_seq ?_)
  refine zb5 9 [.val (.agg (zln c0).toArray), .val (I c1), .val (U a0), .val (I (W a0)), .val (I (D.zaK c0 c1 (W a0))), .val (I c2), .val (I (W (c2 + 1))), .val (U (V (W (c2 + 1)))), .val (.func (.func 327) #[] #[zp c0b, zp c1b, zp b1])] mixed r (by kernel_rfl) (za3 (by exact trivial) (za3 (by exact trivial) (za3 (by exact trivial) (za3 (by exact trivial) (za3 (by exact trivial) (za3 (by exact trivial) (za3 (by exact trivial) (za3 (by exact trivial) (za3 (by exact trivial) zaV))))))))) ?_ ?_
  ·
   refine ec r (fun _ u _ b d s => za7 s (cs := (zln c0)) (n := 6) rfl (zlK hB b c0h) ta23 rfl bz) (ec r (fun _ u _ b d s => za2 s rfl (zlK hB b c1h) to3 rfl bz) (ec r (fun _ u _ b d s => za2 s rfl (keep b h_b1) to40 rfl bz) (ec r (fun _ u _ b d s => zbf s (n := a0) d.1 ti40 ti3 bz) (ec r (fun fr1 u w' hb' hd r' => zac r' (args := [(.agg (zln c0).toArray), (I c1), (I (W a0))]) (lc hd.1 (lc hd.2.1 (lc hd.2.2.1 l0))) zme ((zc8 _ c0 c1 (W a0)).mono (by rintro _ w2 ⟨rfl, hb2⟩; exact ⟨_, rfl, hb2, rfl⟩))) (ec r (fun _ u _ b d s => za2 s rfl (zlK hB b c2h) to3 rfl bz) (ec r (fun _ u _ b d s => zlt s d.1 rfl rfl rfl bz) (ec r (fun _ u _ b d s => zbf s (n := (W (c2 + 1))) d.1 ti3 ti40 bz) (ec r (fun _ u _ b d s => zaL s (v := (.func (.func 327) #[] #[zp c0b, zp c1b, zp b1])) rfl bz) ?_))))))))
   exact zbc
  ·
   intro fr u w13 hb hΦ hne r
   have r := r.congr (sc (hΦ 8 (by decide)) (sc (hΦ 7 (by decide)) (sc (hΦ 6 (by decide)) (sc (hΦ 5 (by decide)) (sc (hΦ 4 (by decide)) (sc (hΦ 3 (by decide)) (sc (hΦ 2 (by decide)) (sc (hΦ 1 (by decide)) (sc (hΦ 0 (by decide)) rfl)))))))))
   have z_w13 := hb.size
   have h_b1 := keep hb h_b1
   have h_b4 := keep hb h_b4
   obtain ⟨hB, zB⟩ := bon hb hB
   have hF1 := zlG hF hB b4
   have f14 : ((fun b => F b ∨ (w0.heap.size ≤ b ∧ b < w13.heap.size ∧ b ≠ b4))) c0b := (.inl c0F)
   have f15 : ((fun b => F b ∨ (w0.heap.size ≤ b ∧ b < w13.heap.size ∧ b ≠ b4))) c1b := (.inl c1F)
   have f16 : ((fun b => F b ∨ (w0.heap.size ≤ b ∧ b < w13.heap.size ∧ b ≠ b4))) b1 := (.inr ⟨by omega, by omega, by omega⟩)
   refine za9 r (zbK (F := (fun b => F b ∨ (w0.heap.size ≤ b ∧ b < w13.heap.size ∧ b ≠ b4))) (n := n) hF1 (D.zaK c0 c1 (W a0)) (V (W (c2 + 1))) ⟨327, [], [zp c0b, zp c1b, zp b1], zof, rfl, fun m hm _ w' hs hz => zgz (fun b hb => Nat.lt_of_lt_of_le (hF1 b hb) hz) c0 f14 (hs.at_ f14 (keep hB c0h)) c1 f15 (hs.at_ f15 (keep hB c1h)) a0 f16 (hs.at_ f16 h_b1)⟩) (fun R hc => zac r rfl zlX hc) rfl ?_
   rintro _ w17 ⟨v18, rfl, hb, hr19⟩
   refine ⟨_, rfl, fun fr r => ?_⟩
   have z_w17 := hb.size
   have h_b1 := keep hb h_b1
   have h_b4 := keep hb h_b4
   obtain ⟨hB, zB⟩ := bon hb hB
   refine zaf (.cells v18.cells 61 (0, 0)) r (fun R => zaq r hr19.shape rfl rfl h_b4 ts61 rfl) rfl fun fr w20 u21 r => ?_
   have z_w20 := u21.size
   have h_b1 := u21.keep h_b1 (by omega)
   have h_b4 := u21.at_
   obtain ⟨hB, zB⟩ := u21.on hB (by omega)
   refine wn (wp_ret ?_)
   have hd : D.zdb c0 c1 c2 a0 = (D.zbd (D.zaK c0 c1 (W a0)) (V (W (c2 + 1))) (fun _ => (D.zdw c0 c1 a0))) := (zah h7).trans (rfl)
   have hs := hr19.shape.cells
   refine zal r rfl rfl h_b4 (k := 7) hs.1 ta61 ?_
   rw [← hs.2.2, hd]
   exact rfin hF hB hr19 u21 (by omega) (by omega) (by omega)
def D.zd8 (a0 : Plan) (a1 : Int) (a2 : Int) : T Int := (D.zb7 (D.zaX a0 a1) (fun x => (D.zdb a0 a1 a2 x)))
theorem zgn {n : Nat} {F : Nat → Prop} {w0 : World} (hF : ∀ b, F b → b < w0.heap.size)
    (a0 : Plan) (a1 : Int) (a2 : Int) :
    Calls Tryz.prog 230 #[.agg (zln a0).toArray, .int .i64 a1, .int .i64 a2] w0 (zlx Tryz.prog zlq n (D.zd8 a0 a1 a2) F w0) := by
 refine enter Tryz.func230 rfl 12 rfl rfl fun fr r => ?_
 have hB := Below.refl w0.heap.size w0
 refine wsr ?_
 refine zaa (.cells ((zln a0)).toArray 23 (0, 0)) r (fun R => zlC r (v := (.agg (zln a0).toArray)) rfl) rfl fun fr b1 w2 n3 r => ?_
 obtain ⟨e_b1, z_w2, h_b1, hB, zB⟩ := n3.all hB
 refine zaa (.cells #[(I a1)] 3 (0, 0)) r (fun R => zlC r (v := (I a1)) rfl) rfl fun fr b4 w5 n6 r => ?_
 have h_b1 := keep n6.below h_b1
 obtain ⟨e_b4, z_w5, h_b4, hB, zB⟩ := n6.all hB
 refine zaa (.cells #[(I a2)] 3 (0, 0)) r (fun R => zlC r (v := (I a2)) rfl) rfl fun fr b7 w8 n9 r => ?_
 have h_b1 := keep n9.below h_b1
 have h_b4 := keep n9.below h_b4
 obtain ⟨e_b7, z_w8, h_b7, hB, zB⟩ := n9.all hB
 refine zaa (.cells (zlo false zlq.zero 0 0 0 0 .nilFunc) 61 (0, 0)) r (fun R => zar tz61) rfl fun fr b10 w11 n12 r => ?_
 have h_b1 := keep n12.below h_b1
 have h_b4 := keep n12.below h_b4
 have h_b7 := keep n12.below h_b7
 obtain ⟨e_b10, z_w11, h_b10, hB, zB⟩ := n12.all hB
 refine wn (wsr (za0 (.agg (zln a0).toArray) r (fun R => za7 r (cs := (zln a0)) (n := 6) rfl h_b1 ta23 rfl) rfl fun fr r => za0 (I a1) r (fun R => za2 r rfl h_b4 to3 rfl) rfl fun fr r => ?_))
 refine za9 r (zck w11 a0 a1) (fun R hc => zac r rfl zma hc) rfl ?_
 rintro _ w13 ⟨rfl, hb⟩
 refine ⟨_, rfl, fun fr r => ?_⟩
 have z_w13 := hb.size
 have h_b1 := keep hb h_b1
 have h_b4 := keep hb h_b4
 have h_b7 := keep hb h_b7
 have h_b10 := keep hb h_b10
 obtain ⟨hB, zB⟩ := bon hb hB
 refine za0 (.func (.func 326) #[] #[zp b1, zp b4, zp b7]) r (fun R => zaL r rfl) rfl fun fr r => ?_
 have hF1 := zlG hF hB b10
 have f14 : ((fun b => F b ∨ (w0.heap.size ≤ b ∧ b < w13.heap.size ∧ b ≠ b10))) b1 := (.inr ⟨by omega, by omega, by omega⟩)
 have f15 : ((fun b => F b ∨ (w0.heap.size ≤ b ∧ b < w13.heap.size ∧ b ≠ b10))) b4 := (.inr ⟨by omega, by omega, by omega⟩)
 have f16 : ((fun b => F b ∨ (w0.heap.size ≤ b ∧ b < w13.heap.size ∧ b ≠ b10))) b7 := (.inr ⟨by omega, by omega, by omega⟩)
 refine za9 r (zbG (F := (fun b => F b ∨ (w0.heap.size ≤ b ∧ b < w13.heap.size ∧ b ≠ b10))) (n := n) hF1 (D.zaX a0 a1) ⟨326, [], [zp b1, zp b4, zp b7], znZ, rfl, fun m hm x w' hs hz => zh5 (fun b hb => Nat.lt_of_lt_of_le (hF1 b hb) hz) a0 f14 (hs.at_ f14 h_b1) a1 f15 (hs.at_ f15 h_b4) a2 f16 (hs.at_ f16 h_b7) x⟩) (fun R hc => zac r rfl zlV hc) rfl ?_
 rintro _ w17 ⟨v18, rfl, hb, hr19⟩
 refine ⟨_, rfl, fun fr r => ?_⟩
 have z_w17 := hb.size
 have h_b1 := keep hb h_b1
 have h_b4 := keep hb h_b4
 have h_b7 := keep hb h_b7
 have h_b10 := keep hb h_b10
 obtain ⟨hB, zB⟩ := bon hb hB
 refine zaf (.cells v18.cells 61 (0, 0)) r (fun R => zaq r hr19.shape rfl rfl h_b10 ts61 rfl) rfl fun fr w20 u21 r => ?_
 have z_w20 := u21.size
 have h_b1 := u21.keep h_b1 (by omega)
 have h_b4 := u21.keep h_b4 (by omega)
 have h_b7 := u21.keep h_b7 (by omega)
 have h_b10 := u21.at_
 obtain ⟨hB, zB⟩ := u21.on hB (by omega)
 refine wn (wp_ret ?_)
 have hs := hr19.shape.cells
 refine zal r rfl rfl h_b10 (k := 7) hs.1 ta61 ?_
 rw [← hs.2.2]
 exact rfin hF hB hr19 u21 (by omega) (by omega) (by omega)
def D.zcv (fu : Nat) (a0 : Plan) (a1 : Mem) (a2 : Int) (a3 : Int) : Option (List Int) := ((D.zbg fu a1 a2 (D.zaX a0 a3)).bind (fun (x5 : Int) => (loopThen (fun (x8 : List Int × Int) => (bif (decide (x8.2 < (IntKind.i64.wrap (minI x5 (IntKind.u64.wrap (maxI a0.retire 0)))))) then ((D.zbg fu a1 a2 (D.zaK a0 a3 x8.2)).bind (fun (x14 : Int) => (Option.bind (bif (decide (x14 ≥ 1)) then (some (decide (x14 ≤ (IntKind.u64.wrap a0.nodes)))) else (some false)) (fun (x18 : Bool) => (Option.bind (bif x18 then ((appD x8.1 ([(IntKind.i64.wrap ((IntKind.i64.wrap x14) - 1))])).bind (fun (x27 : List Int) => (some x27))) else (some x8.1)) (fun (x31 : List Int) => (some (Lp.next (x31, (IntKind.i64.wrap (x8.2 + 1))))))))))) else (some (Lp.brk (x8.1, x8.2))))) fu ([], 0) (fun (x34 : List Int × Int) => (some x34.1)))))
theorem zce {fu : Nat} (w0 : World) (a0 : Plan) {a1g : MG} (a1 : Mem) (a1h : MemAt a1g a1 w0) (a2 : Int) (a3 : Int) {res : List Int} (hD : D.zcv fu a0 a1 a2 a3 = some res) :
    Calls Tryz.prog 38 #[.agg (zln a0).toArray, zp a1g.mb, .int .i64 a2, .int .i64 a3] w0 (fun e w' => ∃ (v0 : Value), e = .returned v0 ∧ Done No No [rowK 3 1 i64 v0 res] w0 w') := by
 refine enter Tryz.func38 rfl 53 rfl rfl fun fr r => ?_
 have hP : Post No [] w0 w0 := Post.nil w0
 have hP : Post No [memR a1g a1] w0 w0 := hP.addRo zb3 a1h rfl a1h.lt
 unfold D.zcv at hD
 refine wsr ?_
 refine zaa (.cells ((zln a0)).toArray 23 (0, 0)) r (fun R => zlC r (v := (.agg (zln a0).toArray)) rfl) rfl fun fr b1 w2 n3 r => ?_
 have hP : Post No [memR a1g a1, zlm b1 ((zln a0)).toArray 23] w0 w2 := hP.new n3
 refine za0 (Value.slice none 0 0) r (fun R => za6 r rfl) rfl fun fr r => wn (wsr (za0 (Value.slice none 0 0) r (fun R => za6 r rfl) rfl fun fr r => wn (wp_seq ?_)))
 obtain ⟨x5, hx5, hD⟩ := zad hD
 refine zbn [.val (zp a1g.mb), .val (I a2), .val (.agg (zln a0).toArray), .val (I a3), .val (I (D.zaX a0 a3)), .val (U x5), .val (.pointer (some ⟨b1, 2, none⟩)), .val (I a0.retire), .val (I (maxI a0.retire 0)), .val (U (V (maxI a0.retire 0))), .val (U (minI x5 (V (maxI a0.retire 0)))), .val (U (minI x5 (V (maxI a0.retire 0))))] mixed r (by kernel_rfl) ?_ ?_
 ·
  refine fc r (fun fr1 g w' hb' hd r' => za5 r' rfl bz) ?_
  refine fc r (fun fr1 g w' hb' hd r' => za5 r' rfl bz) ?_
  refine fc r (fun fr1 g w' hb' hd r' => za7 r' (cs := (zln a0)) (n := 6) rfl ((hP.below (dr hb')).cell (i := 1) rfl) ta23 rfl bz) ?_
  refine fc r (fun fr1 g w' hb' hd r' => za5 r' rfl bz) ?_
  refine fc r (fun fr1 g w' hb' hd r' => zac r' (args := [(.agg (zln a0).toArray), (I a3)]) (lc (hd 2 rfl).1 (lc (hd 3 rfl).1 l0)) zma ((zck _ a0 a3).mono (by rintro _ w2 ⟨rfl, hb2⟩; exact ⟨_, rfl, hb2, rfl⟩))) ?_
  refine fc r (fun fr1 g w' hb' hd r' => zac r' (args := [(zp a1g.mb), (I a2), (I (D.zaX a0 a3))]) (lc (hd 0 rfl).1 (lc (hd 1 rfl).1 (lc (hd 4 rfl).1 l0))) cl30 ((zcs _ a1 ((hP.below (dr hb')).memr (i := 0) rfl) a2 (D.zaX a0 a3) hx5).mono (by rintro _ w2 ⟨rfl, hb2⟩; exact ⟨_, rfl, hb2, rfl⟩))) ?_
  refine fc r (fun fr1 g w' hb' hd r' => za4 r' (b := b1) (o := 0) rfl zeJ bz) ?_
  refine fc r (fun fr1 g w' hb' hd r' => za2 r' (hd 6 rfl).1 ((hP.below (dr hb')).cell (i := 1) rfl) to3 rfl bz) ?_
  refine fc r (fun fr1 g w' hb' hd r' => zn2 r' (m := a0.retire) (n := 0) (hd 7 rfl).1 rfl bz) ?_
  refine fc r (fun fr1 g w' hb' hd r' => zbf r' (n := (maxI a0.retire 0)) (hd 8 rfl).1 ti3 ti40 bz) ?_
  refine fc r (fun fr1 g w' hb' hd r' => znh r' (m := x5) (n := (V (maxI a0.retire 0))) (hd 5 rfl).1 (hd 9 rfl).1 bz) ?_
  refine fc r (fun fr1 g w' hb' hd r' => za6 r' (hd 10 rfl).1 bz) ?_
  exact zb1
 ·
  intro fr gg w6 hb hΦ hap r
  have r := r.congr (sc ((hΦ 11 rfl).1) (sc ((hΦ 10 rfl).1) (sc ((hΦ 9 rfl).1) (sc ((hΦ 8 rfl).1) (sc ((hΦ 7 rfl).1) (sc ((hΦ 6 rfl).1) (sc ((hΦ 5 rfl).1) (sc ((hΦ 4 rfl).1) (sc ((hΦ 3 rfl).1) (sc ((hΦ 2 rfl).1) (sc ((hΦ 1 rfl).1) (sc ((hΦ 0 rfl).1) rfl))))))))))))
  have hP : Post No [memR a1g a1, zlm b1 ((zln a0)).toArray 23] w0 w6 := hP.below hb
  refine wp_seq (wsr (za0 (U (minI x5 (V (maxI a0.retire 0)))) r (fun R => za5 r rfl) rfl fun fr r => za0 (I (W (minI x5 (V (maxI a0.retire 0))))) r (fun R => zbf r rfl ti40 ti3) rfl fun fr r => za0 (I 0) r (fun R => za5 r rfl) rfl fun fr r => wn ?_))
  have hP : Post No [memR a1g a1, zlm b1 ((zln a0)).toArray 23, rowK 3 1 i64 (Value.slice none 0 0) ([])] w0 w6 := hP.nilRow 3 1 i64
  refine zcu (X := List Int × Int) (G := Value) (x0 := ([], 0)) (fun x γ => [(0, (.agg (zln a0).toArray)), (1, (zp a1g.mb)), (2, (I a2)), (3, (I a3)), (4, (zp b1)), (8, (Value.slice none 0 0)), (10, (U (minI x5 (V (maxI a0.retire 0))))), (25, (I (W (minI x5 (V (maxI a0.retire 0)))))), (9, γ), (26, (I x.2))]) (fun x γ w => Post No [memR a1g a1, zlm b1 ((zln a0)).toArray 23, rowK 3 1 i64 γ x.1] w0 w) (Value.slice none 0 0) r (za1 rfl (za1 rfl (za1 rfl (za1 rfl (za1 rfl (za1 rfl (za1 rfl (za1 rfl (za1 rfl (za1 rfl zaz)))))))))) hP hD ?_ ?_
  ·
   rintro x8 γ9 fr w11 g y10 RPy10 nxy10 bky10 rty10 r hP hD
   have hP : Post No [memR a1g a1, zlm b1 ((zln a0)).toArray 23, rowK 3 1 i64 γ9 x8.1] w0 w11 := hP
   refine wsr (za0 _ r (fun R => zlt r rfl rfl rfl rfl) rfl fun fr r => wn (wp_seq ?_))
   refine wp_cond_split (t := (decide (x8.2 < (W (minI x5 (V (maxI a0.retire 0))))))) (r.ev rfl) (fun h12 => ?_) (fun h12 => ?_)
   ·
    have hD := (zao h12).symm.trans hD
    refine wp_skip (wp_seq (wp_block (wsr (za0 (I x8.2) r (fun R => za5 r rfl) rfl fun fr r => za0 (I x8.2) r (fun R => za6 r rfl) rfl fun fr r => wn (wsr (za0 (zp a1g.mb) r (fun R => za5 r rfl) rfl fun fr r => za0 (I a2) r (fun R => za5 r rfl) rfl fun fr r => za0 (.agg (zln a0).toArray) r (fun R => za7 r (cs := (zln a0)) (n := 6) rfl (hP.cell (i := 1) rfl) ta23 rfl) rfl fun fr r => za0 (I a3) r (fun R => za5 r rfl) rfl fun fr r => za0 (I x8.2) r (fun R => za5 r rfl) rfl fun fr r => ?_))))))
    refine za9 r (zc8 w11 a0 a3 x8.2) (fun R hc => zac r rfl zme hc) rfl ?_
    rintro _ w13 ⟨rfl, hb⟩
    refine ⟨_, rfl, fun fr r => ?_⟩
    have hP : Post No [memR a1g a1, zlm b1 ((zln a0)).toArray 23, rowK 3 1 i64 γ9 x8.1] w0 w13 := hP.below hb
    obtain ⟨x14, hx14, hD⟩ := zad hD
    refine za9 r (zcs w13 a1 (hP.memr (i := 0) rfl) a2 (D.zaK a0 a3 x8.2) hx14) (fun R hc => zac r rfl cl30 hc) rfl ?_
    rintro _ w15 ⟨rfl, hb⟩
    refine ⟨_, rfl, fun fr r => ?_⟩
    have hP : Post No [memR a1g a1, zlm b1 ((zln a0)).toArray 23, rowK 3 1 i64 γ9 x8.1] w0 w15 := hP.below hb
    refine za0 (U x14) r (fun R => za6 r rfl) rfl fun fr r => wn (wp_seq ?_)
    refine zbo (N := 53) (Y := Bool) (G := Unit) (fun x γ => [(0, (.agg (zln a0).toArray)), (1, (zp a1g.mb)), (2, (I a2)), (3, (I a3)), (4, (zp b1)), (8, (Value.slice none 0 0)), (10, (U (minI x5 (V (maxI a0.retire 0))))), (25, (I (W (minI x5 (V (maxI a0.retire 0)))))), (9, γ9), (26, (I x8.2)), (27, (.bool (decide (x8.2 < (W (minI x5 (V (maxI a0.retire 0)))))))), (11, (I x8.2)), (12, (U x14)), (44, (.bool x))]) (fun x γ w => Post No [memR a1g a1, zlm b1 ((zln a0)).toArray 23, rowK 3 1 i64 γ9 x8.1] w0 w) hD ?_ ?_
    ·
     rintro y16 RPy16 nxy16 hD
     refine wp_region_lit (za0 (U x14) r (fun R => za5 r rfl) rfl fun fr r => za0 _ r (fun R => zlt r rfl rfl rfl rfl) rfl fun fr r => za0 (.bool (decide (x14 ≥ 1))) r (fun R => za5 r rfl) rfl fun fr r => ?_)
     refine zay (decide (x14 ≥ 1)) (fun h17 => ?_) (fun h17 => ?_)
     ·
      have hD := (zao h17).symm.trans hD
      refine s1 r h17 (za0 (U x14) r (fun R => za5 r rfl) rfl fun fr r => s1 r h17 (za0 _ r (fun R => za4 r (o := 0) rfl zec) rfl fun fr r => s1 r h17 (za0 (I a0.nodes) r (fun R => za2 r rfl (hP.cell (i := 1) rfl) to3 rfl) rfl fun fr r => s1 r h17 (za0 (U (V a0.nodes)) r (fun R => zbf r rfl ti3 ti40) rfl fun fr r => s1 r h17 (za0 _ r (fun R => zlt r rfl rfl rfl rfl) rfl fun fr r => za0 (.bool (decide (x14 ≤ (V a0.nodes)))) r (fun R => zai r (b := true) (congrArg Value.bool h17) rfl) rfl fun fr r => wn ?_)))))
      exact nxy16 (decide (x14 ≤ (V a0.nodes))) () _ _ _ hD r (za1 rfl (za1 rfl (za1 rfl (za1 rfl (za1 rfl (za1 rfl (za1 rfl (za1 rfl (za1 rfl (za1 rfl (za1 rfl (za1 rfl (za1 rfl (za1 rfl zaz)))))))))))))) (hP.pick [0, 1, 2] rfl rfl)
     ·
      have hD := (zah h17).symm.trans hD
      refine s0 r h17 fun fr r => s0 r h17 fun fr r => s0 r h17 fun fr r => s0 r h17 fun fr r => s0 r h17 fun fr r => za0 (.bool false) r (fun R => zai r (b := false) (congrArg Value.bool h17) rfl) rfl fun fr r => wn ?_
      exact nxy16 false () _ _ _ hD r (za1 rfl (za1 rfl (za1 rfl (za1 rfl (za1 rfl (za1 rfl (za1 rfl (za1 rfl (za1 rfl (za1 rfl (za1 rfl (za1 rfl (za1 rfl (za1 rfl zaz)))))))))))))) (hP.pick [0, 1, 2] rfl rfl)
    ·
     rintro x18 γ19 fr w20 g r hP hD
     have hP : Post No [memR a1g a1, zlm b1 ((zln a0)).toArray 23, rowK 3 1 i64 γ9 x8.1] w0 w20 := hP
     refine zbo (N := 53) (Y := List Int) (G := Value) (fun x γ => [(0, (.agg (zln a0).toArray)), (1, (zp a1g.mb)), (2, (I a2)), (3, (I a3)), (4, (zp b1)), (8, (Value.slice none 0 0)), (10, (U (minI x5 (V (maxI a0.retire 0))))), (25, (I (W (minI x5 (V (maxI a0.retire 0)))))), (26, (I x8.2)), (27, (.bool (decide (x8.2 < (W (minI x5 (V (maxI a0.retire 0)))))))), (11, (I x8.2)), (12, (U x14)), (44, (.bool x18)), (9, γ)]) (fun x γ w => Post No [memR a1g a1, zlm b1 ((zln a0)).toArray 23, rowK 3 1 i64 γ x] w0 w) hD ?_ ?_
     ·
      rintro y21 RPy21 nxy21 hD
      refine wp_cond_split (t := x18) (r.ev rfl) (fun h22 => ?_) (fun h22 => ?_)
      ·
       have hD := (zao h22).symm.trans hD
       refine wp_region_lit (za0 γ9 r (fun R => za5 r rfl) rfl fun fr r => za0 (U x14) r (fun R => za5 r rfl) rfl fun fr r => za0 (I (W x14)) r (fun R => zbf r rfl ti40 ti3) rfl fun fr r => za0 _ r (fun R => zlt r rfl rfl rfl rfl) rfl fun fr r => ?_)
       refine zch (.cells (([(W ((W x14) - 1))]).flatMap i64).toArray 3 (0, 0)) 1 r (fun R => zbz r (by kernel_rfl)) rfl fun fr b23 w24 n25 r => ?_
       have hP : Post No [memR a1g a1, zlm b1 ((zln a0)).toArray 23, rowK 3 1 i64 γ9 x8.1, rowK 3 1 i64 (.slice (some ⟨b23, 0, none⟩) 1 1) ([(W ((W x14) - 1))])] w0 w24 := hP.newRow n25 (fun _ => rfl) rfl
       obtain ⟨x27, hx27, hD⟩ := zad hD
       refine zdg 3 1 i64 γ9 r (fun R => zcH r rt29 (fun _ => rfl) (fun _ => rfl) (hP.row (i := 2) rfl) (hP.row (i := 3) rfl).ro hx27 rfl rfl) rfl fun fr v28 w29 ha30 r => ?_
       have hP : Post No [memR a1g a1, zlm b1 ((zln a0)).toArray 23, rowK 3 1 i64 v28 x27, rowK 3 1 i64 (.slice (some ⟨b23, 0, none⟩) 1 1) ([(W ((W x14) - 1))])] w0 w29 := hP.append (i := 2) rfl ha30
       refine za0 v28 r (fun R => za6 r rfl) rfl fun fr r => wn ?_
       exact nxy21 x27 v28 _ _ _ hD r (za1 rfl (za1 rfl (za1 rfl (za1 rfl (za1 rfl (za1 rfl (za1 rfl (za1 rfl (za1 rfl (za1 rfl (za1 rfl (za1 rfl (za1 rfl (za1 rfl zaz)))))))))))))) (hP.pick [0, 1, 2] rfl rfl)
      ·
       have hD := (zah h22).symm.trans hD
       refine wp_skip ?_
       exact nxy21 x8.1 γ9 _ _ _ hD r (za1 rfl (za1 rfl (za1 rfl (za1 rfl (za1 rfl (za1 rfl (za1 rfl (za1 rfl (za1 rfl (za1 rfl (za1 rfl (za1 rfl (za1 rfl (za1 rfl zaz)))))))))))))) (hP.pick [0, 1, 2] rfl rfl)
     ·
      rintro x31 γ32 fr w33 g r hP hD
      have hP : Post No [memR a1g a1, zlm b1 ((zln a0)).toArray 23, rowK 3 1 i64 γ32 x31] w0 w33 := hP
      refine wp_region_lit (za0 _ r (fun R => zlt r rfl rfl rfl rfl) rfl fun fr r => za0 (I (W (x8.2 + 1))) r (fun R => za5 r rfl) rfl fun fr r => wn ?_)
      exact nxy10 (x31, (W (x8.2 + 1))) γ32 _ _ _ hD r (za1 rfl (za1 rfl (za1 rfl (za1 rfl (za1 rfl (za1 rfl (za1 rfl (za1 rfl (za1 rfl (za1 rfl zaz)))))))))) (hP.pick [0, 1, 2] rfl rfl)
   ·
    have hD := (zah h12).symm.trans hD
    refine wp_exit ?_
    exact bky10 (x8.1, x8.2) γ9 _ _ _ hD r (za1 rfl (za1 rfl (za1 rfl (za1 rfl (za1 rfl (za1 rfl (za1 rfl (za1 rfl (za1 rfl (za1 rfl zaz)))))))))) (hP.pick [0, 1, 2] rfl rfl)
  ·
   rintro x34 γ35 fr w36 g r hP hD
   have hP : Post No [memR a1g a1, zlm b1 ((zln a0)).toArray 23, rowK 3 1 i64 γ35 x34.1] w0 w36 := hP
   refine wsr (za0 γ35 r (fun R => za5 r rfl) rfl fun fr r => za0 γ35 r (fun R => za6 r rfl) rfl fun fr r => wn (wp_ret ?_))
   have hv : x34.1 = res := Option.some.inj hD
   try dsimp only [Exit.then, Exit.inBlock]
   refine zaA (fn := Tryz.f38) r (t := 8) rfl (v := γ35) rfl ?_
   subst hv
   exact ⟨γ35, rfl, (hP.pick [2] rfl rfl).done (zbq rfl zbi)⟩
end Go.Proofs.YtfpgnmhcfkikkaaGreat
