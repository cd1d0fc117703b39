/- Some of our texts, one behind the other. -/
import Derived.Test.YtjkinpbfmihhdaaGreatQoM7
import Derived.Test.YtjkinpbfmihhdaaGreatQoMems
set_option linter.all false
/- Written by a program of ours (wip/gen.py): hazards -/
set_option linter.unusedVariables false
set_option maxRecDepth 20000
set_option maxHeartbeats 2000000
namespace Go.Proofs.YtjkinpbfmihhdaaGreat
open Go.RowKit
theorem cl218 : znb Tryz.prog 218 = true := by kernel_rfl

theorem cl320 : znb Tryz.prog 320 = true := by kernel_rfl

theorem cl326 : znb Tryz.prog 326 = true := by kernel_rfl

theorem cl327 : znb Tryz.prog 327 = true := by kernel_rfl

theorem cl328 : znb Tryz.prog 328 = true := by kernel_rfl

theorem cl371 : znb Tryz.prog 371 = true := by kernel_rfl

theorem cl373 : znb Tryz.prog 373 = true := by kernel_rfl

theorem cl374 : znb Tryz.prog 374 = true := by kernel_rfl

theorem cl389 : znb Tryz.prog 389 = true := by kernel_rfl

theorem cl413 : znb Tryz.prog 413 = true := by kernel_rfl

theorem cl414 : znb Tryz.prog 414 = true := by kernel_rfl

theorem cl415 : znb Tryz.prog 415 = true := by kernel_rfl

theorem cl52 : znb Tryz.prog 52 = true := by kernel_rfl

def D.zdu (a0 : Int) : Int := (IntKind.u64.wrap (IntKind.i64.wrap (a0 + 1)))

theorem zhl (w0 : World) 
    (a0 : Int) :
    Calls Tryz.prog 320 #[.int .i64 a0] w0 (PureRes (.int .u64 (D.zdu a0)) w0) := by
 refine enter Tryz.func320 rfl 6 rfl rfl fun fr r => ?_
 have hB := Below.refl w0.heap.size w0
 refine wsr (za0 (U 0) r (fun R => za8 r rfl) rfl fun fr r => wn (wsr (za0 (I a0) r (fun R => zaa r rfl) rfl fun fr r => za0 _ r (fun R => zni r rfl rfl rfl rfl) rfl fun fr r => za0 (U (V (W (a0 + 1)))) r (fun R => zbo r rfl ti3 ti22) rfl fun fr r => za0 (U (V (W (a0 + 1)))) r (fun R => za8 r rfl) rfl fun fr r => wn (wp_ret ?_))))
 refine zay r rfl rfl ?_
 exact ⟨rfl, hB⟩

def D.zbT (r_hazard_held : Plan → Int → Int → T Bool) (c0 : Int) (c1 : Plan) (c2 : Int) (a0 : Int) : T Bool := (bif (a0 == (D.zdu c0)) then (D.zdl true) else (r_hazard_held c1 c0 (IntKind.i64.wrap (c2 + 1))))

def D.zbj (r_hazard_held : Plan → Int → Int → T Bool) (a0 : Plan) (a1 : Int) (a2 : Int) : T Bool := (bif (a2 == (IntKind.i64.wrap (a0.threads * 3))) then (D.zdl false) else (D.zf9 (D.zbr a0 (IntKind.i64.wrap (a2.tdiv 3)) (a2.tmod 3)) (fun x => (D.zbT r_hazard_held a1 a0 a2 x))))

def D.zbK : Nat → Plan → Int → Int → T Bool
  | 0, _, _, _ => .cut
  | k + 1, a0, a1, a2 => D.zbj (D.zbK k) a0 a1 a2

def zen (r : Plan → Int → Int → T Bool) (n : Nat) : Prop := ∀ (F : Nat → Prop) (w0 : World), (∀ b, F b → b < w0.heap.size) → ∀ (a0 : Plan) (a1 : Int) (a2 : Int), Calls Tryz.prog 389 #[.agg (znc a0).toArray, .int .i64 a1, .int .i64 a2] w0 (znf Tryz.prog encBool n (r a0 a1 a2) F w0)

theorem ziS {n : Nat} {F : Nat → Prop} {r_hazard_held : Plan → Int → Int → T Bool} {w0 : World} (hF : ∀ b, F b → b < w0.heap.size) (ih_hazard_held : ∀ m, m ≤ n → zen r_hazard_held m)
    (c0 : Int) {c0_b : Nat} (c0_F : F c0_b) (c0_h : w0.heap[c0_b]? = some (.cells ([(.int .i64 c0)]).toArray 3 (0, 0))) (c1 : Plan) {c1_b : Nat} (c1_F : F c1_b) (c1_h : w0.heap[c1_b]? = some (.cells ((znc c1)).toArray 25 (0, 0))) (c2 : Int) {c2_b : Nat} (c2_F : F c2_b) (c2_h : w0.heap[c2_b]? = some (.cells ([(.int .i64 c2)]).toArray 3 (0, 0))) (a0 : Int) :
    Calls Tryz.prog 415 #[.int .u64 a0, .pointer (some ⟨c0_b, 0, none⟩), .pointer (some ⟨c1_b, 0, none⟩), .pointer (some ⟨c2_b, 0, none⟩)] w0 (znf Tryz.prog encBool n (D.zbT r_hazard_held c0 c1 c2 a0) F w0) := by
 refine enter Tryz.func415 rfl 16 rfl rfl fun fr r => ?_
 have hB := Below.refl w0.heap.size w0
 have l_c0_b := lt_of_block c0_h
 have l_c1_b := lt_of_block c1_h
 have l_c2_b := lt_of_block c2_h
 refine wsr ?_
 refine za5 (.cells (zna false encBool.zero 0 0 0 0 .nilFunc) 324 (0, 0)) r (fun R => zag tz324) rfl fun fr b1 w2 n3 r => ?_
 obtain ⟨e_b1, z_w2, h_b1, hB, zB⟩ := n3.all hB
 refine wn (wp_seq (wsr (za0 (U a0) r (fun R => zaa r rfl) rfl fun fr r => za0 (I c0) r (fun R => za3 r rfl (keep hB c0_h) to3 rfl) rfl fun fr r => ?_)))
 refine za7 r (zhl w2 c0) (fun R hc => zac r rfl cl320 hc) rfl ?_
 rintro _ w4 ⟨rfl, hb⟩
 refine ⟨_, rfl, fun fr r => ?_⟩
 have z_w4 := hb.size
 have h_b1 := keep hb h_b1
 obtain ⟨hB, zB⟩ := bon hb hB
 refine za0 _ r (fun R => zni r rfl rfl rfl rfl) rfl fun fr r => wn ?_
 refine wp_cond_split (t := (a0 == (D.zdu c0))) (r.ev rfl) (fun h5 => ?_) (fun h5 => ?_)
 ·
  refine wsr ?_
  have hF1 := fgrow hF hB b1
  refine za7 r (zfR (F := (fun b => F b ∨ (w0.heap.size ≤ b ∧ b < w4.heap.size ∧ b ≠ b1))) (n := n) hF1 true) (fun R hc => zac r rfl cl413 hc) rfl ?_
  rintro _ w6 ⟨v7, rfl, hb, hr8⟩
  refine ⟨_, rfl, fun fr r => ?_⟩
  have z_w6 := hb.size
  have h_b1 := keep hb h_b1
  obtain ⟨hB, zB⟩ := bon hb hB
  refine zae (.cells v7.cells 324 (0, 0)) r (fun R => zaf r hr8.shape rfl rfl h_b1 ts324 rfl) rfl fun fr w9 u10 r => ?_
  have z_w9 := u10.size
  have h_b1 := u10.at_
  obtain ⟨hB, zB⟩ := u10.on hB (by omega)
  refine wn (wp_ret ?_)
  have hd : D.zbT r_hazard_held c0 c1 c2 a0 = (D.zdl true) := (zap h5).trans (rfl)
  have hs := hr8.shape.cells
  refine zad r rfl rfl h_b1 (k := 7) hs.1 ta324 ?_
  rw [← hs.2.2, hd]
  exact rfin hF hB hr8 u10 (by omega) (by omega) (by omega)
 ·
  refine wp_skip (wsr (za0 (.agg (znc c1).toArray) r (fun R => za6 r (cs := (znc c1)) (n := 6) rfl (keep hB c1_h) ta25 rfl) rfl fun fr r => za0 (I c0) r (fun R => za3 r rfl (keep hB c0_h) to3 rfl) rfl fun fr r => za0 (I c2) r (fun R => za3 r rfl (keep hB c2_h) to3 rfl) rfl fun fr r => za0 _ r (fun R => zni r rfl rfl rfl rfl) rfl fun fr r => ?_))
  have hF1 := fgrow hF hB b1
  refine za7 r ((ih_hazard_held n (by omega)) (fun b => F b ∨ (w0.heap.size ≤ b ∧ b < w4.heap.size ∧ b ≠ b1)) _ hF1 c1 c0 (W (c2 + 1))) (fun R hc => zac r rfl cl389 hc) rfl ?_
  rintro _ w11 ⟨v12, rfl, hb, hr13⟩
  refine ⟨_, rfl, fun fr r => ?_⟩
  have z_w11 := hb.size
  have h_b1 := keep hb h_b1
  obtain ⟨hB, zB⟩ := bon hb hB
  refine zae (.cells v12.cells 324 (0, 0)) r (fun R => zaf r hr13.shape rfl rfl h_b1 ts324 rfl) rfl fun fr w14 u15 r => ?_
  have z_w14 := u15.size
  have h_b1 := u15.at_
  obtain ⟨hB, zB⟩ := u15.on hB (by omega)
  refine wn (wp_ret ?_)
  have hd : D.zbT r_hazard_held c0 c1 c2 a0 = (r_hazard_held c1 c0 (W (c2 + 1))) := (zak h5).trans (rfl)
  have hs := hr13.shape.cells
  refine zad r rfl rfl h_b1 (k := 7) hs.1 ta324 ?_
  rw [← hs.2.2, hd]
  exact rfin hF hB hr13 u15 (by omega) (by omega) (by omega)

theorem zju {n : Nat} {F : Nat → Prop} {r_hazard_held : Plan → Int → Int → T Bool} {w0 : World} (hF : ∀ b, F b → b < w0.heap.size) (ih_hazard_held : ∀ m, m < n → zen r_hazard_held m)
    (a0 : Plan) (a1 : Int) (a2 : Int) :
    Calls Tryz.prog 389 #[.agg (znc a0).toArray, .int .i64 a1, .int .i64 a2] w0 (znf Tryz.prog encBool n (D.zbj r_hazard_held a0 a1 a2) F w0) := by
 refine enter Tryz.func389 rfl 21 rfl rfl fun fr r => ?_
 have hB := Below.refl w0.heap.size w0
 refine wsr ?_
 refine za5 (.cells ((znc a0)).toArray 25 (0, 0)) r (fun R => znm r (v := (.agg (znc a0).toArray)) rfl) rfl fun fr b1 w2 n3 r => ?_
 obtain ⟨e_b1, z_w2, h_b1, hB, zB⟩ := n3.all hB
 refine za5 (.cells #[(I a1)] 3 (0, 0)) r (fun R => znm r (v := (I a1)) rfl) rfl fun fr b4 w5 n6 r => ?_
 have h_b1 := keep n6.below h_b1
 obtain ⟨e_b4, z_w5, h_b4, hB, zB⟩ := n6.all hB
 refine za5 (.cells #[(I a2)] 3 (0, 0)) r (fun R => znm r (v := (I a2)) rfl) rfl fun fr b7 w8 n9 r => ?_
 have h_b1 := keep n9.below h_b1
 have h_b4 := keep n9.below h_b4
 obtain ⟨e_b7, z_w8, h_b7, hB, zB⟩ := n9.all hB
 refine za5 (.cells (zna false encBool.zero 0 0 0 0 .nilFunc) 324 (0, 0)) r (fun R => zag tz324) rfl fun fr b10 w11 n12 r => ?_
 have h_b1 := keep n12.below h_b1
 have h_b4 := keep n12.below h_b4
 have h_b7 := keep n12.below h_b7
 obtain ⟨e_b10, z_w11, h_b10, hB, zB⟩ := n12.all hB
 refine wn (wp_seq (wsr (za0 (I a2) r (fun R => za3 r rfl h_b7 to3 rfl) rfl fun fr r => za0 _ r (fun R => za4 r (o := 0) rfl zgH) rfl fun fr r => za0 (I a0.threads) r (fun R => za3 r rfl h_b1 to3 rfl) rfl fun fr r => za0 _ r (fun R => zni r rfl rfl rfl rfl) rfl fun fr r => za0 _ r (fun R => zni r rfl rfl rfl rfl) rfl fun fr r => wn ?_)))
 refine wp_cond_split (t := (a2 == (W (a0.threads * 3)))) (r.ev rfl) (fun h13 => ?_) (fun h13 => ?_)
 ·
  refine wsr ?_
  have hF1 := fgrow hF hB b10
  refine za7 r (zfR (F := (fun b => F b ∨ (w0.heap.size ≤ b ∧ b < w11.heap.size ∧ b ≠ b10))) (n := n) hF1 false) (fun R hc => zac r rfl cl413 hc) rfl ?_
  rintro _ w14 ⟨v15, rfl, hb, hr16⟩
  refine ⟨_, rfl, fun fr r => ?_⟩
  have z_w14 := hb.size
  have h_b1 := keep hb h_b1
  have h_b4 := keep hb h_b4
  have h_b7 := keep hb h_b7
  have h_b10 := keep hb h_b10
  obtain ⟨hB, zB⟩ := bon hb hB
  refine zae (.cells v15.cells 324 (0, 0)) r (fun R => zaf r hr16.shape rfl rfl h_b10 ts324 rfl) rfl fun fr w17 u18 r => ?_
  have z_w17 := u18.size
  have h_b1 := u18.keep h_b1 (by omega)
  have h_b4 := u18.keep h_b4 (by omega)
  have h_b7 := u18.keep h_b7 (by omega)
  have h_b10 := u18.at_
  obtain ⟨hB, zB⟩ := u18.on hB (by omega)
  refine wn (wp_ret ?_)
  have hd : D.zbj r_hazard_held a0 a1 a2 = (D.zdl false) := (zap h13).trans (rfl)
  have hs := hr16.shape.cells
  refine zad r rfl rfl h_b10 (k := 7) hs.1 ta324 ?_
  rw [← hs.2.2, hd]
  exact rfin hF hB hr16 u18 (by omega) (by omega) (by omega)
 ·
  refine wp_skip (wsr (za0 (.agg (znc a0).toArray) r (fun R => za6 r (cs := (znc a0)) (n := 6) rfl h_b1 ta25 rfl) rfl fun fr r => za0 (I a2) r (fun R => za3 r rfl h_b7 to3 rfl) rfl fun fr r => za0 _ r (fun R => zni r rfl rfl rfl rfl) rfl fun fr r => za0 (I a2) r (fun R => za3 r rfl h_b7 to3 rfl) rfl fun fr r => za0 _ r (fun R => zni r rfl rfl rfl rfl) rfl fun fr r => ?_))
  refine za7 r (zf1 w11 a0 (W (a2.tdiv 3)) (a2.tmod 3)) (fun R hc => zac r rfl cl52 hc) rfl ?_
  rintro _ w19 ⟨rfl, hb⟩
  refine ⟨_, rfl, fun fr r => ?_⟩
  have z_w19 := hb.size
  have h_b1 := keep hb h_b1
  have h_b4 := keep hb h_b4
  have h_b7 := keep hb h_b7
  have h_b10 := keep hb h_b10
  obtain ⟨hB, zB⟩ := bon hb hB
  refine za0 (.func (.func 415) #[] #[.pointer (some ⟨b4, 0, none⟩), .pointer (some ⟨b1, 0, none⟩), .pointer (some ⟨b7, 0, none⟩)]) r (fun R => zan r rfl) rfl fun fr r => ?_
  have hF1 := fgrow hF hB b10
  have f20 : ((fun b => F b ∨ (w0.heap.size ≤ b ∧ b < w19.heap.size ∧ b ≠ b10))) b4 := (.inr ⟨by omega, by omega, by omega⟩)
  have f21 : ((fun b => F b ∨ (w0.heap.size ≤ b ∧ b < w19.heap.size ∧ b ≠ b10))) b1 := (.inr ⟨by omega, by omega, by omega⟩)
  have f22 : ((fun b => F b ∨ (w0.heap.size ≤ b ∧ b < w19.heap.size ∧ b ≠ b10))) b7 := (.inr ⟨by omega, by omega, by omega⟩)
  refine za7 r (zii (F := (fun b => F b ∨ (w0.heap.size ≤ b ∧ b < w19.heap.size ∧ b ≠ b10))) (n := n) hF1 (D.zbr a0 (W (a2.tdiv 3)) (a2.tmod 3)) ⟨415, [], [.pointer (some ⟨b4, 0, none⟩), .pointer (some ⟨b1, 0, none⟩), .pointer (some ⟨b7, 0, none⟩)], cl415, rfl, fun m hm x w' hs hz => ziS (fun b hb => Nat.lt_of_lt_of_le (hF1 b hb) hz) (fun m' hm' => ih_hazard_held m' (by omega)) a1 f20 (hs.at_ f20 h_b4) a0 f21 (hs.at_ f21 h_b1) a2 f22 (hs.at_ f22 h_b7) x⟩) (fun R hc => zac r rfl cl414 hc) rfl ?_
  rintro _ w23 ⟨v24, rfl, hb, hr25⟩
  refine ⟨_, rfl, fun fr r => ?_⟩
  have z_w23 := hb.size
  have h_b1 := keep hb h_b1
  have h_b4 := keep hb h_b4
  have h_b7 := keep hb h_b7
  have h_b10 := keep hb h_b10
  obtain ⟨hB, zB⟩ := bon hb hB
  refine zae (.cells v24.cells 324 (0, 0)) r (fun R => zaf r hr25.shape rfl rfl h_b10 ts324 rfl) rfl fun fr w26 u27 r => ?_
  have z_w26 := u27.size
  have h_b1 := u27.keep h_b1 (by omega)
  have h_b4 := u27.keep h_b4 (by omega)
  have h_b7 := u27.keep h_b7 (by omega)
  have h_b10 := u27.at_
  obtain ⟨hB, zB⟩ := u27.on hB (by omega)
  refine wn (wp_ret ?_)
  have hd : D.zbj r_hazard_held a0 a1 a2 = (D.zf9 (D.zbr a0 (W (a2.tdiv 3)) (a2.tmod 3)) (fun x => (D.zbT r_hazard_held a1 a0 a2 x))) := (zak h13).trans (rfl)
  have hs := hr25.shape.cells
  refine zad r rfl rfl h_b10 (k := 7) hs.1 ta324 ?_
  rw [← hs.2.2, hd]
  exact rfin hF hB hr25 u27 (by omega) (by omega) (by omega)

theorem zjF {n : Nat} {k : Nat} (hk : n < k) : zen (D.zbK k) n := by
  induction n using Nat.strongRecOn generalizing k with
  | _ n ih =>
    obtain ⟨k, rfl⟩ : ∃ q, k = q + 1 := ⟨k - 1, by omega⟩
    intro F w0 hF
    have h := @zju n F (D.zbK k) w0 hF (fun m hm => ih m hm (by omega))
    exact h

def D.zfG (j : Nat) (a0 : Plan) (a1 : Int) : T Bool := (D.zbK j a0 a1 0)

theorem zjl {n : Nat} {F : Nat → Prop} {j : Nat} {w0 : World} (hF : ∀ b, F b → b < w0.heap.size) (hj : n < j)
    (a0 : Plan) (a1 : Int) :
    Calls Tryz.prog 358 #[.agg (znc a0).toArray, .int .i64 a1] w0 (znf Tryz.prog encBool n (D.zfG j a0 a1) F w0) := by
 refine enter Tryz.func358 rfl 8 rfl rfl fun fr r => ?_
 have hB := Below.refl w0.heap.size w0
 refine wsr ?_
 refine za5 (.cells ((znc a0)).toArray 25 (0, 0)) r (fun R => znm r (v := (.agg (znc a0).toArray)) rfl) rfl fun fr b1 w2 n3 r => ?_
 obtain ⟨e_b1, z_w2, h_b1, hB, zB⟩ := n3.all hB
 refine za5 (.cells (zna false encBool.zero 0 0 0 0 .nilFunc) 324 (0, 0)) r (fun R => zag tz324) rfl fun fr b4 w5 n6 r => ?_
 have h_b1 := keep n6.below h_b1
 obtain ⟨e_b4, z_w5, h_b4, hB, zB⟩ := n6.all hB
 refine wn (wsr (za0 (.agg (znc a0).toArray) r (fun R => za6 r (cs := (znc a0)) (n := 6) rfl h_b1 ta25 rfl) rfl fun fr r => za0 (I a1) r (fun R => zaa r rfl) rfl fun fr r => ?_))
 have hF1 := fgrow hF hB b4
 refine za7 r ((zjF (k := j) (n := n) (by omega)) (fun b => F b ∨ (w0.heap.size ≤ b ∧ b < w5.heap.size ∧ b ≠ b4)) _ hF1 a0 a1 0) (fun R hc => zac r rfl cl389 hc) rfl ?_
 rintro _ w7 ⟨v8, rfl, hb, hr9⟩
 refine ⟨_, rfl, fun fr r => ?_⟩
 have z_w7 := hb.size
 have h_b1 := keep hb h_b1
 have h_b4 := keep hb h_b4
 obtain ⟨hB, zB⟩ := bon hb hB
 refine zae (.cells v8.cells 324 (0, 0)) r (fun R => zaf r hr9.shape rfl rfl h_b4 ts324 rfl) rfl fun fr w10 u11 r => ?_
 have z_w10 := u11.size
 have h_b1 := u11.keep h_b1 (by omega)
 have h_b4 := u11.at_
 obtain ⟨hB, zB⟩ := u11.on hB (by omega)
 refine wn (wp_ret ?_)
 have hs := hr9.shape.cells
 refine zad r rfl rfl h_b4 (k := 7) hs.1 ta324 ?_
 rw [← hs.2.2]
 exact rfin hF hB hr9 u11 (by omega) (by omega) (by omega)

def D.ze2 (a0 : Plan) (a1 : Int) (a2 : Int) (a3 : Int) : T Unit := (D.zht (D.zbr a0 a1 a2) (D.zdu a3))

theorem zi5 {n : Nat} {F : Nat → Prop} {w0 : World} (hF : ∀ b, F b → b < w0.heap.size)
    (a0 : Plan) (a1 : Int) (a2 : Int) (a3 : Int) :
    Calls Tryz.prog 218 #[.agg (znc a0).toArray, .int .i64 a1, .int .i64 a2, .int .i64 a3] w0 (znf Tryz.prog znj n (D.ze2 a0 a1 a2 a3) F w0) := by
 refine enter Tryz.func218 rfl 16 rfl rfl fun fr r => ?_
 have hB := Below.refl w0.heap.size w0
 refine wsr ?_
 refine za5 (.cells ((znc a0)).toArray 25 (0, 0)) r (fun R => znm r (v := (.agg (znc a0).toArray)) rfl) rfl fun fr b1 w2 n3 r => ?_
 obtain ⟨e_b1, z_w2, h_b1, hB, zB⟩ := n3.all hB
 refine za5 (.cells (zna false znj.zero 0 0 0 0 .nilFunc) 186 (0, 0)) r (fun R => zag tz186) rfl fun fr b4 w5 n6 r => ?_
 have h_b1 := keep n6.below h_b1
 obtain ⟨e_b4, z_w5, h_b4, hB, zB⟩ := n6.all hB
 refine wn (wsr (za0 (.agg (znc a0).toArray) r (fun R => za6 r (cs := (znc a0)) (n := 6) rfl h_b1 ta25 rfl) rfl fun fr r => za0 (I a1) r (fun R => zaa r rfl) rfl fun fr r => za0 (I a2) r (fun R => zaa r rfl) rfl fun fr r => ?_))
 refine za7 r (zf1 w5 a0 a1 a2) (fun R hc => zac r rfl cl52 hc) rfl ?_
 rintro _ w7 ⟨rfl, hb⟩
 refine ⟨_, rfl, fun fr r => ?_⟩
 have z_w7 := hb.size
 have h_b1 := keep hb h_b1
 have h_b4 := keep hb h_b4
 obtain ⟨hB, zB⟩ := bon hb hB
 refine za0 (I a3) r (fun R => zaa r rfl) rfl fun fr r => ?_
 refine za7 r (zhl w7 a3) (fun R hc => zac r rfl cl320 hc) rfl ?_
 rintro _ w8 ⟨rfl, hb⟩
 refine ⟨_, rfl, fun fr r => ?_⟩
 have z_w8 := hb.size
 have h_b1 := keep hb h_b1
 have h_b4 := keep hb h_b4
 obtain ⟨hB, zB⟩ := bon hb hB
 have hF1 := fgrow hF hB b4
 refine za7 r (zj5 (F := (fun b => F b ∨ (w0.heap.size ≤ b ∧ b < w8.heap.size ∧ b ≠ b4))) (n := n) hF1 (D.zbr a0 a1 a2) (D.zdu a3)) (fun R hc => zac r rfl cl315 hc) rfl ?_
 rintro _ w9 ⟨v10, rfl, hb, hr11⟩
 refine ⟨_, rfl, fun fr r => ?_⟩
 have z_w9 := hb.size
 have h_b1 := keep hb h_b1
 have h_b4 := keep hb h_b4
 obtain ⟨hB, zB⟩ := bon hb hB
 refine zae (.cells v10.cells 186 (0, 0)) r (fun R => zaf r hr11.shape rfl rfl h_b4 ts186 rfl) rfl fun fr w12 u13 r => ?_
 have z_w12 := u13.size
 have h_b1 := u13.keep h_b1 (by omega)
 have h_b4 := u13.at_
 obtain ⟨hB, zB⟩ := u13.on hB (by omega)
 refine wn (wp_ret ?_)
 have hs := hr11.shape.cells
 refine zad r rfl rfl h_b4 (k := 6) hs.1 ta186 ?_
 rw [← hs.2.2]
 exact rfin hF hB hr11 u13 (by omega) (by omega) (by omega)

def D.zcI (r_hazard_guard : Plan → Int → Int → Int → Int → Int → T Int) (c0 : Int) (c1 : Plan) (c2 : Int) (c3 : Int) (c4 : Int) (c5 : Int) (a0 : Int) : T Int := (bif (a0 == c0) then (D.zcG c0) else (r_hazard_guard c1 c2 c3 c4 c5 a0))

def D.zeb (r_hazard_guard : Plan → Int → Int → Int → Int → Int → T Int) (c0 : Int) (c1 : Int) (c2 : Plan) (c3 : Int) (c4 : Int) (c5 : Int) : T Int := (D.zdo c0 (fun x => (D.zcI r_hazard_guard c1 c2 c3 c4 c0 c5 x)))

def D.zbJ (r_hazard_guard : Plan → Int → Int → Int → Int → Int → T Int) (a0 : Plan) (a1 : Int) (a2 : Int) (a3 : Int) (a4 : Int) (a5 : Int) : T Int := (bif (decide ((IntKind.i64.wrap ((IntKind.i64.wrap (shrI .u64 a5 a4)) - 1)) < 0)) then (D.zcG a5) else (T.bind (D.ze2 a0 a1 a2 (IntKind.i64.wrap ((IntKind.i64.wrap (shrI .u64 a5 a4)) - 1))) (fun _ => (D.zeb r_hazard_guard a3 a5 a0 a1 a2 a4))))

def D.zcf : Nat → Plan → Int → Int → Int → Int → Int → T Int
  | 0, _, _, _, _, _, _ => .cut
  | k + 1, a0, a1, a2, a3, a4, a5 => D.zbJ (D.zcf k) a0 a1 a2 a3 a4 a5

def zdf (r : Plan → Int → Int → Int → Int → Int → T Int) (n : Nat) : Prop := ∀ (F : Nat → Prop) (w0 : World), (∀ b, F b → b < w0.heap.size) → ∀ (a0 : Plan) (a1 : Int) (a2 : Int) (a3 : Int) (a4 : Int) (a5 : Int) (_ : 0 ≤ a4), Calls Tryz.prog 328 #[.agg (znc a0).toArray, .int .i64 a1, .int .i64 a2, .int .i64 a3, .int .i64 a4, .int .u64 a5] w0 (znf Tryz.prog encWord n (r a0 a1 a2 a3 a4 a5) F w0)

theorem zho {n : Nat} {F : Nat → Prop} {r_hazard_guard : Plan → Int → Int → Int → Int → Int → T Int} {w0 : World} (hF : ∀ b, F b → b < w0.heap.size) (ih_hazard_guard : ∀ m, m ≤ n → zdf r_hazard_guard m)
    (c0 : Int) {c0_b : Nat} (c0_F : F c0_b) (c0_h : w0.heap[c0_b]? = some (.cells ([(.int .u64 c0)]).toArray 22 (0, 0))) (c1 : Plan) {c1_b : Nat} (c1_F : F c1_b) (c1_h : w0.heap[c1_b]? = some (.cells ((znc c1)).toArray 25 (0, 0))) (c2 : Int) {c2_b : Nat} (c2_F : F c2_b) (c2_h : w0.heap[c2_b]? = some (.cells ([(.int .i64 c2)]).toArray 3 (0, 0))) (c3 : Int) {c3_b : Nat} (c3_F : F c3_b) (c3_h : w0.heap[c3_b]? = some (.cells ([(.int .i64 c3)]).toArray 3 (0, 0))) (c4 : Int) {c4_b : Nat} (c4_F : F c4_b) (c4_h : w0.heap[c4_b]? = some (.cells ([(.int .i64 c4)]).toArray 3 (0, 0))) (c5 : Int) {c5_b : Nat} (c5_F : F c5_b) (c5_h : w0.heap[c5_b]? = some (.cells ([(.int .i64 c5)]).toArray 3 (0, 0))) (a0 : Int) (pre0 : 0 ≤ c5) :
    Calls Tryz.prog 374 #[.int .u64 a0, .pointer (some ⟨c0_b, 0, none⟩), .pointer (some ⟨c1_b, 0, none⟩), .pointer (some ⟨c2_b, 0, none⟩), .pointer (some ⟨c3_b, 0, none⟩), .pointer (some ⟨c4_b, 0, none⟩), .pointer (some ⟨c5_b, 0, none⟩)] w0 (znf Tryz.prog encWord n (D.zcI r_hazard_guard c0 c1 c2 c3 c4 c5 a0) F w0) := by
 refine enter Tryz.func374 rfl 21 rfl rfl fun fr r => ?_
 have hB := Below.refl w0.heap.size w0
 have l_c0_b := lt_of_block c0_h
 have l_c1_b := lt_of_block c1_h
 have l_c2_b := lt_of_block c2_h
 have l_c3_b := lt_of_block c3_h
 have l_c4_b := lt_of_block c4_h
 have l_c5_b := lt_of_block c5_h
 refine wsr ?_
 refine za5 (.cells (zna false encWord.zero 0 0 0 0 .nilFunc) 283 (0, 0)) r (fun R => zag tz283) rfl fun fr b1 w2 n3 r => ?_
 obtain ⟨e_b1, z_w2, h_b1, hB, zB⟩ := n3.all hB
 refine wn (wp_seq (wsr (za0 (U a0) r (fun R => zaa r rfl) rfl fun fr r => za0 (U c0) r (fun R => za3 r rfl (keep hB c0_h) to22 rfl) rfl fun fr r => za0 _ r (fun R => zni r rfl rfl rfl rfl) rfl fun fr r => wn ?_)))
 refine wp_cond_split (t := (a0 == c0)) (r.ev rfl) (fun h4 => ?_) (fun h4 => ?_)
 ·
  refine wsr (za0 (U c0) r (fun R => za3 r rfl (keep hB c0_h) to22 rfl) rfl fun fr r => ?_)
  have hF1 := fgrow hF hB b1
  refine za7 r (zf2 (F := (fun b => F b ∨ (w0.heap.size ≤ b ∧ b < w2.heap.size ∧ b ≠ b1))) (n := n) hF1 c0) (fun R hc => zac r rfl cl371 hc) rfl ?_
  rintro _ w5 ⟨v6, rfl, hb, hr7⟩
  refine ⟨_, rfl, fun fr r => ?_⟩
  have z_w5 := hb.size
  have h_b1 := keep hb h_b1
  obtain ⟨hB, zB⟩ := bon hb hB
  refine zae (.cells v6.cells 283 (0, 0)) r (fun R => zaf r hr7.shape rfl rfl h_b1 ts283 rfl) rfl fun fr w8 u9 r => ?_
  have z_w8 := u9.size
  have h_b1 := u9.at_
  obtain ⟨hB, zB⟩ := u9.on hB (by omega)
  refine wn (wp_ret ?_)
  have hd : D.zcI r_hazard_guard c0 c1 c2 c3 c4 c5 a0 = (D.zcG c0) := (zap h4).trans (rfl)
  have hs := hr7.shape.cells
  refine zad r rfl rfl h_b1 (k := 7) hs.1 ta283 ?_
  rw [← hs.2.2, hd]
  exact rfin hF hB hr7 u9 (by omega) (by omega) (by omega)
 ·
  refine wp_skip (wsr (za0 (.agg (znc c1).toArray) r (fun R => za6 r (cs := (znc c1)) (n := 6) rfl (keep hB c1_h) ta25 rfl) rfl fun fr r => za0 (I c2) r (fun R => za3 r rfl (keep hB c2_h) to3 rfl) rfl fun fr r => za0 (I c3) r (fun R => za3 r rfl (keep hB c3_h) to3 rfl) rfl fun fr r => za0 (I c4) r (fun R => za3 r rfl (keep hB c4_h) to3 rfl) rfl fun fr r => za0 (I c5) r (fun R => za3 r rfl (keep hB c5_h) to3 rfl) rfl fun fr r => za0 (U a0) r (fun R => zaa r rfl) rfl fun fr r => ?_))
  have hF1 := fgrow hF hB b1
  refine za7 r ((ih_hazard_guard n (by omega)) (fun b => F b ∨ (w0.heap.size ≤ b ∧ b < w2.heap.size ∧ b ≠ b1)) _ hF1 c1 c2 c3 c4 c5 a0 (by first | assumption | decide)) (fun R hc => zac r rfl cl328 hc) rfl ?_
  rintro _ w10 ⟨v11, rfl, hb, hr12⟩
  refine ⟨_, rfl, fun fr r => ?_⟩
  have z_w10 := hb.size
  have h_b1 := keep hb h_b1
  obtain ⟨hB, zB⟩ := bon hb hB
  refine zae (.cells v11.cells 283 (0, 0)) r (fun R => zaf r hr12.shape rfl rfl h_b1 ts283 rfl) rfl fun fr w13 u14 r => ?_
  have z_w13 := u14.size
  have h_b1 := u14.at_
  obtain ⟨hB, zB⟩ := u14.on hB (by omega)
  refine wn (wp_ret ?_)
  have hd : D.zcI r_hazard_guard c0 c1 c2 c3 c4 c5 a0 = (r_hazard_guard c1 c2 c3 c4 c5 a0) := (zak h4).trans (rfl)
  have hs := hr12.shape.cells
  refine zad r rfl rfl h_b1 (k := 7) hs.1 ta283 ?_
  rw [← hs.2.2, hd]
  exact rfin hF hB hr12 u14 (by omega) (by omega) (by omega)

theorem zif {n : Nat} {F : Nat → Prop} {r_hazard_guard : Plan → Int → Int → Int → Int → Int → T Int} {w0 : World} (hF : ∀ b, F b → b < w0.heap.size) (ih_hazard_guard : ∀ m, m < n → zdf r_hazard_guard m)
    (c0 : Int) {c0_b : Nat} (c0_F : F c0_b) (c0_h : w0.heap[c0_b]? = some (.cells ([(.int .i64 c0)]).toArray 3 (0, 0))) (c1 : Int) {c1_b : Nat} (c1_F : F c1_b) (c1_h : w0.heap[c1_b]? = some (.cells ([(.int .u64 c1)]).toArray 22 (0, 0))) (c2 : Plan) {c2_b : Nat} (c2_F : F c2_b) (c2_h : w0.heap[c2_b]? = some (.cells ((znc c2)).toArray 25 (0, 0))) (c3 : Int) {c3_b : Nat} (c3_F : F c3_b) (c3_h : w0.heap[c3_b]? = some (.cells ([(.int .i64 c3)]).toArray 3 (0, 0))) (c4 : Int) {c4_b : Nat} (c4_F : F c4_b) (c4_h : w0.heap[c4_b]? = some (.cells ([(.int .i64 c4)]).toArray 3 (0, 0))) (c5 : Int) {c5_b : Nat} (c5_F : F c5_b) (c5_h : w0.heap[c5_b]? = some (.cells ([(.int .i64 c5)]).toArray 3 (0, 0))) (pre0 : 0 ≤ c5) :
    Calls Tryz.prog 373 #[.agg #[], .pointer (some ⟨c0_b, 0, none⟩), .pointer (some ⟨c1_b, 0, none⟩), .pointer (some ⟨c2_b, 0, none⟩), .pointer (some ⟨c3_b, 0, none⟩), .pointer (some ⟨c4_b, 0, none⟩), .pointer (some ⟨c5_b, 0, none⟩)] w0 (znf Tryz.prog encWord n (D.zeb r_hazard_guard c0 c1 c2 c3 c4 c5) F w0) := by
 refine enter Tryz.func373 rfl 12 rfl rfl fun fr r => ?_
 have hB := Below.refl w0.heap.size w0
 have l_c0_b := lt_of_block c0_h
 have l_c1_b := lt_of_block c1_h
 have l_c2_b := lt_of_block c2_h
 have l_c3_b := lt_of_block c3_h
 have l_c4_b := lt_of_block c4_h
 have l_c5_b := lt_of_block c5_h
 refine wsr ?_
 refine za5 (.cells #[] 181 (0, 0)) r (fun R => znm r (v := (.agg #[])) rfl) rfl fun fr b1 w2 n3 r => ?_
 obtain ⟨e_b1, z_w2, h_b1, hB, zB⟩ := n3.all hB
 refine za5 (.cells (zna false encWord.zero 0 0 0 0 .nilFunc) 283 (0, 0)) r (fun R => zag tz283) rfl fun fr b4 w5 n6 r => ?_
 have h_b1 := keep n6.below h_b1
 obtain ⟨e_b4, z_w5, h_b4, hB, zB⟩ := n6.all hB
 refine wn (wsr (za0 (I c0) r (fun R => za3 r rfl (keep hB c0_h) to3 rfl) rfl fun fr r => za0 (.func (.func 374) #[] #[.pointer (some ⟨c1_b, 0, none⟩), .pointer (some ⟨c2_b, 0, none⟩), .pointer (some ⟨c3_b, 0, none⟩), .pointer (some ⟨c4_b, 0, none⟩), .pointer (some ⟨c0_b, 0, none⟩), .pointer (some ⟨c5_b, 0, none⟩)]) r (fun R => zan r rfl) rfl fun fr r => ?_))
 have hF1 := fgrow hF hB b4
 have f7 : ((fun b => F b ∨ (w0.heap.size ≤ b ∧ b < w5.heap.size ∧ b ≠ b4))) c1_b := (.inl c1_F)
 have f8 : ((fun b => F b ∨ (w0.heap.size ≤ b ∧ b < w5.heap.size ∧ b ≠ b4))) c2_b := (.inl c2_F)
 have f9 : ((fun b => F b ∨ (w0.heap.size ≤ b ∧ b < w5.heap.size ∧ b ≠ b4))) c3_b := (.inl c3_F)
 have f10 : ((fun b => F b ∨ (w0.heap.size ≤ b ∧ b < w5.heap.size ∧ b ≠ b4))) c4_b := (.inl c4_F)
 have f11 : ((fun b => F b ∨ (w0.heap.size ≤ b ∧ b < w5.heap.size ∧ b ≠ b4))) c0_b := (.inl c0_F)
 have f12 : ((fun b => F b ∨ (w0.heap.size ≤ b ∧ b < w5.heap.size ∧ b ≠ b4))) c5_b := (.inl c5_F)
 refine za7 r (zeW (F := (fun b => F b ∨ (w0.heap.size ≤ b ∧ b < w5.heap.size ∧ b ≠ b4))) (n := n) hF1 c0 ⟨374, [], [.pointer (some ⟨c1_b, 0, none⟩), .pointer (some ⟨c2_b, 0, none⟩), .pointer (some ⟨c3_b, 0, none⟩), .pointer (some ⟨c4_b, 0, none⟩), .pointer (some ⟨c0_b, 0, none⟩), .pointer (some ⟨c5_b, 0, none⟩)], cl374, rfl, fun m hm x w' hs hz => zho (fun b hb => Nat.lt_of_lt_of_le (hF1 b hb) hz) (fun m' hm' => ih_hazard_guard m' (by omega)) c1 f7 (hs.at_ f7 (keep hB c1_h)) c2 f8 (hs.at_ f8 (keep hB c2_h)) c3 f9 (hs.at_ f9 (keep hB c3_h)) c4 f10 (hs.at_ f10 (keep hB c4_h)) c0 f11 (hs.at_ f11 (keep hB c0_h)) c5 f12 (hs.at_ f12 (keep hB c5_h)) x (by first | assumption | decide)⟩) (fun R hc => zac r rfl cl326 hc) rfl ?_
 rintro _ w13 ⟨v14, rfl, hb, hr15⟩
 refine ⟨_, rfl, fun fr r => ?_⟩
 have z_w13 := hb.size
 have h_b1 := keep hb h_b1
 have h_b4 := keep hb h_b4
 obtain ⟨hB, zB⟩ := bon hb hB
 refine zae (.cells v14.cells 283 (0, 0)) r (fun R => zaf r hr15.shape rfl rfl h_b4 ts283 rfl) rfl fun fr w16 u17 r => ?_
 have z_w16 := u17.size
 have h_b1 := u17.keep h_b1 (by omega)
 have h_b4 := u17.at_
 obtain ⟨hB, zB⟩ := u17.on hB (by omega)
 refine wn (wp_ret ?_)
 have hs := hr15.shape.cells
 refine zad r rfl rfl h_b4 (k := 7) hs.1 ta283 ?_
 rw [← hs.2.2]
 exact rfin hF hB hr15 u17 (by omega) (by omega) (by omega)

theorem ziU {n : Nat} {F : Nat → Prop} {r_hazard_guard : Plan → Int → Int → Int → Int → Int → T Int} {w0 : World} (hF : ∀ b, F b → b < w0.heap.size) (ih_hazard_guard : ∀ m, m < n → zdf r_hazard_guard m)
    (a0 : Plan) (a1 : Int) (a2 : Int) (a3 : Int) (a4 : Int) (a5 : Int) (pre0 : 0 ≤ a4) :
    Calls Tryz.prog 328 #[.agg (znc a0).toArray, .int .i64 a1, .int .i64 a2, .int .i64 a3, .int .i64 a4, .int .u64 a5] w0 (znf Tryz.prog encWord n (D.zbJ r_hazard_guard a0 a1 a2 a3 a4 a5) F w0) := by
 refine enter Tryz.func328 rfl 30 rfl rfl fun fr r => ?_
 have hB := Below.refl w0.heap.size w0
 refine wsr ?_
 refine za5 (.cells ((znc a0)).toArray 25 (0, 0)) r (fun R => znm r (v := (.agg (znc a0).toArray)) rfl) rfl fun fr b1 w2 n3 r => ?_
 obtain ⟨e_b1, z_w2, h_b1, hB, zB⟩ := n3.all hB
 refine za5 (.cells #[(I a1)] 3 (0, 0)) r (fun R => znm r (v := (I a1)) rfl) rfl fun fr b4 w5 n6 r => ?_
 have h_b1 := keep n6.below h_b1
 obtain ⟨e_b4, z_w5, h_b4, hB, zB⟩ := n6.all hB
 refine za5 (.cells #[(I a2)] 3 (0, 0)) r (fun R => znm r (v := (I a2)) rfl) rfl fun fr b7 w8 n9 r => ?_
 have h_b1 := keep n9.below h_b1
 have h_b4 := keep n9.below h_b4
 obtain ⟨e_b7, z_w8, h_b7, hB, zB⟩ := n9.all hB
 refine za5 (.cells #[(I a3)] 3 (0, 0)) r (fun R => znm r (v := (I a3)) rfl) rfl fun fr b10 w11 n12 r => ?_
 have h_b1 := keep n12.below h_b1
 have h_b4 := keep n12.below h_b4
 have h_b7 := keep n12.below h_b7
 obtain ⟨e_b10, z_w11, h_b10, hB, zB⟩ := n12.all hB
 refine za5 (.cells #[(I a4)] 3 (0, 0)) r (fun R => znm r (v := (I a4)) rfl) rfl fun fr b13 w14 n15 r => ?_
 have h_b1 := keep n15.below h_b1
 have h_b4 := keep n15.below h_b4
 have h_b7 := keep n15.below h_b7
 have h_b10 := keep n15.below h_b10
 obtain ⟨e_b13, z_w14, h_b13, hB, zB⟩ := n15.all hB
 refine za5 (.cells #[(U a5)] 22 (0, 0)) r (fun R => znm r (v := (U a5)) rfl) rfl fun fr b16 w17 n18 r => ?_
 have h_b1 := keep n18.below h_b1
 have h_b4 := keep n18.below h_b4
 have h_b7 := keep n18.below h_b7
 have h_b10 := keep n18.below h_b10
 have h_b13 := keep n18.below h_b13
 obtain ⟨e_b16, z_w17, h_b16, hB, zB⟩ := n18.all hB
 refine za5 (.cells (zna false encWord.zero 0 0 0 0 .nilFunc) 283 (0, 0)) r (fun R => zag tz283) rfl fun fr b19 w20 n21 r => ?_
 have h_b1 := keep n21.below h_b1
 have h_b4 := keep n21.below h_b4
 have h_b7 := keep n21.below h_b7
 have h_b10 := keep n21.below h_b10
 have h_b13 := keep n21.below h_b13
 have h_b16 := keep n21.below h_b16
 obtain ⟨e_b19, z_w20, h_b19, hB, zB⟩ := n21.all hB
 refine wn (wsr (za0 (U a5) r (fun R => za3 r rfl h_b16 to22 rfl) rfl fun fr r => za0 (I a4) r (fun R => za3 r rfl h_b13 to3 rfl) rfl fun fr r => za0 _ r (fun R => zni r rfl rfl rfl (zlD (by first | assumption | decide))) rfl fun fr r => za0 (I (W (shrI .u64 a5 a4))) r (fun R => zbo r rfl ti22 ti3) rfl fun fr r => za0 _ r (fun R => zni r rfl rfl rfl rfl) rfl fun fr r => za0 (I (W ((W (shrI .u64 a5 a4)) - 1))) r (fun R => za8 r rfl) rfl fun fr r => wn (wp_seq (wsr (za0 (I (W ((W (shrI .u64 a5 a4)) - 1))) r (fun R => zaa r rfl) rfl fun fr r => za0 _ r (fun R => zni r rfl rfl rfl rfl) rfl fun fr r => wn ?_)))))
 refine wp_cond_split (t := (decide ((W ((W (shrI .u64 a5 a4)) - 1)) < 0))) (r.ev rfl) (fun h22 => ?_) (fun h22 => ?_)
 ·
  refine wsr (za0 (U a5) r (fun R => za3 r rfl h_b16 to22 rfl) rfl fun fr r => ?_)
  have hF1 := fgrow hF hB b19
  refine za7 r (zf2 (F := (fun b => F b ∨ (w0.heap.size ≤ b ∧ b < w20.heap.size ∧ b ≠ b19))) (n := n) hF1 a5) (fun R hc => zac r rfl cl371 hc) rfl ?_
  rintro _ w23 ⟨v24, rfl, hb, hr25⟩
  refine ⟨_, rfl, fun fr r => ?_⟩
  have z_w23 := hb.size
  have h_b1 := keep hb h_b1
  have h_b4 := keep hb h_b4
  have h_b7 := keep hb h_b7
  have h_b10 := keep hb h_b10
  have h_b13 := keep hb h_b13
  have h_b16 := keep hb h_b16
  have h_b19 := keep hb h_b19
  obtain ⟨hB, zB⟩ := bon hb hB
  refine zae (.cells v24.cells 283 (0, 0)) r (fun R => zaf r hr25.shape rfl rfl h_b19 ts283 rfl) rfl fun fr w26 u27 r => ?_
  have z_w26 := u27.size
  have h_b1 := u27.keep h_b1 (by omega)
  have h_b4 := u27.keep h_b4 (by omega)
  have h_b7 := u27.keep h_b7 (by omega)
  have h_b10 := u27.keep h_b10 (by omega)
  have h_b13 := u27.keep h_b13 (by omega)
  have h_b16 := u27.keep h_b16 (by omega)
  have h_b19 := u27.at_
  obtain ⟨hB, zB⟩ := u27.on hB (by omega)
  refine wn (wp_ret ?_)
  have hd : D.zbJ r_hazard_guard a0 a1 a2 a3 a4 a5 = (D.zcG a5) := (zap h22).trans (rfl)
  have hs := hr25.shape.cells
  refine zad r rfl rfl h_b19 (k := 7) hs.1 ta283 ?_
  rw [← hs.2.2, hd]
  exact rfin hF hB hr25 u27 (by omega) (by omega) (by omega)
 ·
  refine wp_skip (wsr (za0 (.agg (znc a0).toArray) r (fun R => za6 r (cs := (znc a0)) (n := 6) rfl h_b1 ta25 rfl) rfl fun fr r => za0 (I a1) r (fun R => za3 r rfl h_b4 to3 rfl) rfl fun fr r => za0 (I a2) r (fun R => za3 r rfl h_b7 to3 rfl) rfl fun fr r => za0 (I (W ((W (shrI .u64 a5 a4)) - 1))) r (fun R => zaa r rfl) rfl fun fr r => ?_))
  have hF1 := fgrow hF hB b19
  refine za7 r (zi5 (F := (fun b => F b ∨ (w0.heap.size ≤ b ∧ b < w20.heap.size ∧ b ≠ b19))) (n := n) hF1 a0 a1 a2 (W ((W (shrI .u64 a5 a4)) - 1))) (fun R hc => zac r rfl cl218 hc) rfl ?_
  rintro _ w28 ⟨v29, rfl, hb, hr30⟩
  refine ⟨_, rfl, fun fr r => ?_⟩
  have z_w28 := hb.size
  have h_b1 := keep hb h_b1
  have h_b4 := keep hb h_b4
  have h_b7 := keep hb h_b7
  have h_b10 := keep hb h_b10
  have h_b13 := keep hb h_b13
  have h_b16 := keep hb h_b16
  have h_b19 := keep hb h_b19
  obtain ⟨hB, zB⟩ := bon hb hB
  refine za0 (.func (.func 373) #[] #[.pointer (some ⟨b10, 0, none⟩), .pointer (some ⟨b16, 0, none⟩), .pointer (some ⟨b1, 0, none⟩), .pointer (some ⟨b4, 0, none⟩), .pointer (some ⟨b7, 0, none⟩), .pointer (some ⟨b13, 0, none⟩)]) r (fun R => zan r rfl) rfl fun fr r => ?_
  have hF1 := fgrow hF hB b19
  have f31 : ((fun b => F b ∨ (w0.heap.size ≤ b ∧ b < w28.heap.size ∧ b ≠ b19))) b10 := (.inr ⟨by omega, by omega, by omega⟩)
  have f32 : ((fun b => F b ∨ (w0.heap.size ≤ b ∧ b < w28.heap.size ∧ b ≠ b19))) b16 := (.inr ⟨by omega, by omega, by omega⟩)
  have f33 : ((fun b => F b ∨ (w0.heap.size ≤ b ∧ b < w28.heap.size ∧ b ≠ b19))) b1 := (.inr ⟨by omega, by omega, by omega⟩)
  have f34 : ((fun b => F b ∨ (w0.heap.size ≤ b ∧ b < w28.heap.size ∧ b ≠ b19))) b4 := (.inr ⟨by omega, by omega, by omega⟩)
  have f35 : ((fun b => F b ∨ (w0.heap.size ≤ b ∧ b < w28.heap.size ∧ b ≠ b19))) b7 := (.inr ⟨by omega, by omega, by omega⟩)
  have f36 : ((fun b => F b ∨ (w0.heap.size ≤ b ∧ b < w28.heap.size ∧ b ≠ b19))) b13 := (.inr ⟨by omega, by omega, by omega⟩)
  refine za7 r (zeU (F := (fun b => F b ∨ (w0.heap.size ≤ b ∧ b < w28.heap.size ∧ b ≠ b19))) (n := n) hF1 (Rep.mono (by rintro b (h | h); (rcases h with h | ⟨h1, h2, h3⟩; exact .inl h; exact .inr ⟨h1, by omega, h3⟩); exact .inr ⟨by omega, by omega, by omega⟩) (Same.refl _ _) (by omega) n _ _ hr30) ⟨373, [], [.pointer (some ⟨b10, 0, none⟩), .pointer (some ⟨b16, 0, none⟩), .pointer (some ⟨b1, 0, none⟩), .pointer (some ⟨b4, 0, none⟩), .pointer (some ⟨b7, 0, none⟩), .pointer (some ⟨b13, 0, none⟩)], cl373, rfl, fun m hm _ w' hs hz => zif (fun b hb => Nat.lt_of_lt_of_le (hF1 b hb) hz) (fun m' hm' => ih_hazard_guard m' (by omega)) a3 f31 (hs.at_ f31 h_b10) a5 f32 (hs.at_ f32 h_b16) a0 f33 (hs.at_ f33 h_b1) a1 f34 (hs.at_ f34 h_b4) a2 f35 (hs.at_ f35 h_b7) a4 f36 (hs.at_ f36 h_b13) (by first | assumption | decide)⟩) (fun R hc => zac r rfl cl372 hc) rfl ?_
  rintro _ w37 ⟨v38, rfl, hb, hr39⟩
  refine ⟨_, rfl, fun fr r => ?_⟩
  have z_w37 := hb.size
  have h_b1 := keep hb h_b1
  have h_b4 := keep hb h_b4
  have h_b7 := keep hb h_b7
  have h_b10 := keep hb h_b10
  have h_b13 := keep hb h_b13
  have h_b16 := keep hb h_b16
  have h_b19 := keep hb h_b19
  obtain ⟨hB, zB⟩ := bon hb hB
  refine zae (.cells v38.cells 283 (0, 0)) r (fun R => zaf r hr39.shape rfl rfl h_b19 ts283 rfl) rfl fun fr w40 u41 r => ?_
  have z_w40 := u41.size
  have h_b1 := u41.keep h_b1 (by omega)
  have h_b4 := u41.keep h_b4 (by omega)
  have h_b7 := u41.keep h_b7 (by omega)
  have h_b10 := u41.keep h_b10 (by omega)
  have h_b13 := u41.keep h_b13 (by omega)
  have h_b16 := u41.keep h_b16 (by omega)
  have h_b19 := u41.at_
  obtain ⟨hB, zB⟩ := u41.on hB (by omega)
  refine wn (wp_ret ?_)
  have hd : D.zbJ r_hazard_guard a0 a1 a2 a3 a4 a5 = (T.bind (D.ze2 a0 a1 a2 (W ((W (shrI .u64 a5 a4)) - 1))) (fun _ => (D.zeb r_hazard_guard a3 a5 a0 a1 a2 a4))) := (zak h22).trans (rfl)
  have hs := hr39.shape.cells
  refine zad r rfl rfl h_b19 (k := 7) hs.1 ta283 ?_
  rw [← hs.2.2, hd]
  exact rfin hF hB hr39 u41 (by omega) (by omega) (by omega)

theorem zj1 {n : Nat} {k : Nat} (hk : n < k) : zdf (D.zcf k) n := by
  induction n using Nat.strongRecOn generalizing k with
  | _ n ih =>
    obtain ⟨k, rfl⟩ : ∃ q, k = q + 1 := ⟨k - 1, by omega⟩
    intro F w0 hF
    have h := @ziU n F (D.zcf k) w0 hF (fun m hm => ih m hm (by omega))
    exact h

def D.zea (j : Nat) (c0 : Plan) (c1 : Int) (c2 : Int) (c3 : Int) (c4 : Int) (a0 : Int) : T Int := (D.zcf j c0 c1 c2 c3 c4 a0)

theorem zik {n : Nat} {F : Nat → Prop} {j : Nat} {w0 : World} (hF : ∀ b, F b → b < w0.heap.size) (hj : n < j)
    (c0 : Plan) {c0_b : Nat} (c0_F : F c0_b) (c0_h : w0.heap[c0_b]? = some (.cells ((znc c0)).toArray 25 (0, 0))) (c1 : Int) {c1_b : Nat} (c1_F : F c1_b) (c1_h : w0.heap[c1_b]? = some (.cells ([(.int .i64 c1)]).toArray 3 (0, 0))) (c2 : Int) {c2_b : Nat} (c2_F : F c2_b) (c2_h : w0.heap[c2_b]? = some (.cells ([(.int .i64 c2)]).toArray 3 (0, 0))) (c3 : Int) {c3_b : Nat} (c3_F : F c3_b) (c3_h : w0.heap[c3_b]? = some (.cells ([(.int .i64 c3)]).toArray 3 (0, 0))) (c4 : Int) {c4_b : Nat} (c4_F : F c4_b) (c4_h : w0.heap[c4_b]? = some (.cells ([(.int .i64 c4)]).toArray 3 (0, 0))) (a0 : Int) (pre0 : 0 ≤ c4) :
    Calls Tryz.prog 327 #[.int .u64 a0, .pointer (some ⟨c0_b, 0, none⟩), .pointer (some ⟨c1_b, 0, none⟩), .pointer (some ⟨c2_b, 0, none⟩), .pointer (some ⟨c3_b, 0, none⟩), .pointer (some ⟨c4_b, 0, none⟩)] w0 (znf Tryz.prog encWord n (D.zea j c0 c1 c2 c3 c4 a0) F w0) := by
 refine enter Tryz.func327 rfl 15 rfl rfl fun fr r => ?_
 have hB := Below.refl w0.heap.size w0
 have l_c0_b := lt_of_block c0_h
 have l_c1_b := lt_of_block c1_h
 have l_c2_b := lt_of_block c2_h
 have l_c3_b := lt_of_block c3_h
 have l_c4_b := lt_of_block c4_h
 refine wsr ?_
 refine za5 (.cells (zna false encWord.zero 0 0 0 0 .nilFunc) 283 (0, 0)) r (fun R => zag tz283) rfl fun fr b1 w2 n3 r => ?_
 obtain ⟨e_b1, z_w2, h_b1, hB, zB⟩ := n3.all hB
 refine wn (wsr (za0 (.agg (znc c0).toArray) r (fun R => za6 r (cs := (znc c0)) (n := 6) rfl (keep hB c0_h) ta25 rfl) rfl fun fr r => za0 (I c1) r (fun R => za3 r rfl (keep hB c1_h) to3 rfl) rfl fun fr r => za0 (I c2) r (fun R => za3 r rfl (keep hB c2_h) to3 rfl) rfl fun fr r => za0 (I c3) r (fun R => za3 r rfl (keep hB c3_h) to3 rfl) rfl fun fr r => za0 (I c4) r (fun R => za3 r rfl (keep hB c4_h) to3 rfl) rfl fun fr r => za0 (U a0) r (fun R => zaa r rfl) rfl fun fr r => ?_))
 have hF1 := fgrow hF hB b1
 refine za7 r ((zj1 (k := j) (n := n) (by omega)) (fun b => F b ∨ (w0.heap.size ≤ b ∧ b < w2.heap.size ∧ b ≠ b1)) _ hF1 c0 c1 c2 c3 c4 a0 (by first | assumption | decide)) (fun R hc => zac r rfl cl328 hc) rfl ?_
 rintro _ w4 ⟨v5, rfl, hb, hr6⟩
 refine ⟨_, rfl, fun fr r => ?_⟩
 have z_w4 := hb.size
 have h_b1 := keep hb h_b1
 obtain ⟨hB, zB⟩ := bon hb hB
 refine zae (.cells v5.cells 283 (0, 0)) r (fun R => zaf r hr6.shape rfl rfl h_b1 ts283 rfl) rfl fun fr w7 u8 r => ?_
 have z_w7 := u8.size
 have h_b1 := u8.at_
 obtain ⟨hB, zB⟩ := u8.on hB (by omega)
 refine wn (wp_ret ?_)
 have hs := hr6.shape.cells
 refine zad r rfl rfl h_b1 (k := 7) hs.1 ta283 ?_
 rw [← hs.2.2]
 exact rfin hF hB hr6 u8 (by omega) (by omega) (by omega)

def D.zcZ (j : Nat) (a0 : Plan) (a1 : Int) (a2 : Int) (a3 : Int) (a4 : Int) : T Int := (D.zdo a3 (fun x => (D.zea j a0 a1 a2 a3 a4 x)))

theorem zgI {n : Nat} {F : Nat → Prop} {j : Nat} {w0 : World} (hF : ∀ b, F b → b < w0.heap.size) (hj : n < j)
    (a0 : Plan) (a1 : Int) (a2 : Int) (a3 : Int) (a4 : Int) (pre0 : 0 ≤ a4) :
    Calls Tryz.prog 243 #[.agg (znc a0).toArray, .int .i64 a1, .int .i64 a2, .int .i64 a3, .int .i64 a4] w0 (znf Tryz.prog encWord n (D.zcZ j a0 a1 a2 a3 a4) F w0) := by
 refine enter Tryz.func243 rfl 14 rfl rfl fun fr r => ?_
 have hB := Below.refl w0.heap.size w0
 refine wsr ?_
 refine za5 (.cells ((znc a0)).toArray 25 (0, 0)) r (fun R => znm r (v := (.agg (znc a0).toArray)) rfl) rfl fun fr b1 w2 n3 r => ?_
 obtain ⟨e_b1, z_w2, h_b1, hB, zB⟩ := n3.all hB
 refine za5 (.cells #[(I a1)] 3 (0, 0)) r (fun R => znm r (v := (I a1)) rfl) rfl fun fr b4 w5 n6 r => ?_
 have h_b1 := keep n6.below h_b1
 obtain ⟨e_b4, z_w5, h_b4, hB, zB⟩ := n6.all hB
 refine za5 (.cells #[(I a2)] 3 (0, 0)) r (fun R => znm r (v := (I a2)) rfl) rfl fun fr b7 w8 n9 r => ?_
 have h_b1 := keep n9.below h_b1
 have h_b4 := keep n9.below h_b4
 obtain ⟨e_b7, z_w8, h_b7, hB, zB⟩ := n9.all hB
 refine za5 (.cells #[(I a3)] 3 (0, 0)) r (fun R => znm r (v := (I a3)) rfl) rfl fun fr b10 w11 n12 r => ?_
 have h_b1 := keep n12.below h_b1
 have h_b4 := keep n12.below h_b4
 have h_b7 := keep n12.below h_b7
 obtain ⟨e_b10, z_w11, h_b10, hB, zB⟩ := n12.all hB
 refine za5 (.cells #[(I a4)] 3 (0, 0)) r (fun R => znm r (v := (I a4)) rfl) rfl fun fr b13 w14 n15 r => ?_
 have h_b1 := keep n15.below h_b1
 have h_b4 := keep n15.below h_b4
 have h_b7 := keep n15.below h_b7
 have h_b10 := keep n15.below h_b10
 obtain ⟨e_b13, z_w14, h_b13, hB, zB⟩ := n15.all hB
 refine za5 (.cells (zna false encWord.zero 0 0 0 0 .nilFunc) 283 (0, 0)) r (fun R => zag tz283) rfl fun fr b16 w17 n18 r => ?_
 have h_b1 := keep n18.below h_b1
 have h_b4 := keep n18.below h_b4
 have h_b7 := keep n18.below h_b7
 have h_b10 := keep n18.below h_b10
 have h_b13 := keep n18.below h_b13
 obtain ⟨e_b16, z_w17, h_b16, hB, zB⟩ := n18.all hB
 refine wn (wsr (za0 (I a3) r (fun R => za3 r rfl h_b10 to3 rfl) rfl fun fr r => za0 (.func (.func 327) #[] #[.pointer (some ⟨b1, 0, none⟩), .pointer (some ⟨b4, 0, none⟩), .pointer (some ⟨b7, 0, none⟩), .pointer (some ⟨b10, 0, none⟩), .pointer (some ⟨b13, 0, none⟩)]) r (fun R => zan r rfl) rfl fun fr r => ?_))
 have hF1 := fgrow hF hB b16
 have f19 : ((fun b => F b ∨ (w0.heap.size ≤ b ∧ b < w17.heap.size ∧ b ≠ b16))) b1 := (.inr ⟨by omega, by omega, by omega⟩)
 have f20 : ((fun b => F b ∨ (w0.heap.size ≤ b ∧ b < w17.heap.size ∧ b ≠ b16))) b4 := (.inr ⟨by omega, by omega, by omega⟩)
 have f21 : ((fun b => F b ∨ (w0.heap.size ≤ b ∧ b < w17.heap.size ∧ b ≠ b16))) b7 := (.inr ⟨by omega, by omega, by omega⟩)
 have f22 : ((fun b => F b ∨ (w0.heap.size ≤ b ∧ b < w17.heap.size ∧ b ≠ b16))) b10 := (.inr ⟨by omega, by omega, by omega⟩)
 have f23 : ((fun b => F b ∨ (w0.heap.size ≤ b ∧ b < w17.heap.size ∧ b ≠ b16))) b13 := (.inr ⟨by omega, by omega, by omega⟩)
 refine za7 r (zeW (F := (fun b => F b ∨ (w0.heap.size ≤ b ∧ b < w17.heap.size ∧ b ≠ b16))) (n := n) hF1 a3 ⟨327, [], [.pointer (some ⟨b1, 0, none⟩), .pointer (some ⟨b4, 0, none⟩), .pointer (some ⟨b7, 0, none⟩), .pointer (some ⟨b10, 0, none⟩), .pointer (some ⟨b13, 0, none⟩)], cl327, rfl, fun m hm x w' hs hz => zik (j := j) (fun b hb => Nat.lt_of_lt_of_le (hF1 b hb) hz) (by omega) a0 f19 (hs.at_ f19 h_b1) a1 f20 (hs.at_ f20 h_b4) a2 f21 (hs.at_ f21 h_b7) a3 f22 (hs.at_ f22 h_b10) a4 f23 (hs.at_ f23 h_b13) x (by first | assumption | decide)⟩) (fun R hc => zac r rfl cl326 hc) rfl ?_
 rintro _ w24 ⟨v25, rfl, hb, hr26⟩
 refine ⟨_, rfl, fun fr r => ?_⟩
 have z_w24 := hb.size
 have h_b1 := keep hb h_b1
 have h_b4 := keep hb h_b4
 have h_b7 := keep hb h_b7
 have h_b10 := keep hb h_b10
 have h_b13 := keep hb h_b13
 have h_b16 := keep hb h_b16
 obtain ⟨hB, zB⟩ := bon hb hB
 refine zae (.cells v25.cells 283 (0, 0)) r (fun R => zaf r hr26.shape rfl rfl h_b16 ts283 rfl) rfl fun fr w27 u28 r => ?_
 have z_w27 := u28.size
 have h_b1 := u28.keep h_b1 (by omega)
 have h_b4 := u28.keep h_b4 (by omega)
 have h_b7 := u28.keep h_b7 (by omega)
 have h_b10 := u28.keep h_b10 (by omega)
 have h_b13 := u28.keep h_b13 (by omega)
 have h_b16 := u28.at_
 obtain ⟨hB, zB⟩ := u28.on hB (by omega)
 refine wn (wp_ret ?_)
 have hs := hr26.shape.cells
 refine zad r rfl rfl h_b16 (k := 7) hs.1 ta283 ?_
 rw [← hs.2.2]
 exact rfin hF hB hr26 u28 (by omega) (by omega) (by omega)

end Go.Proofs.YtjkinpbfmihhdaaGreat

/- Written by a program of ours (wip/gen.py): programs run -/
set_option linter.unusedVariables false
set_option maxRecDepth 20000
set_option maxHeartbeats 2000000
namespace Go.Proofs.YtjkinpbfmihhdaaGreat
open Go.RowKit
theorem cl135 : znb Tryz.prog 135 = true := by kernel_rfl

theorem cl209 : znb Tryz.prog 209 = true := by kernel_rfl

theorem cl37 : znb Tryz.prog 37 = true := by kernel_rfl

theorem ts181 : sized Tryz.prog 181 0 = true := by kernel_rfl

theorem ts32 : sized Tryz.prog 32 2 = true := by kernel_rfl

theorem tz181 : zeroOf Tryz.prog 181 = some (.agg #[]) := by kernel_rfl

theorem tz32 : zeroOf Tryz.prog 32 = some (.agg (resC (⟨0, 0⟩ : Res)).toArray) := by kernel_rfl

def D.zdy (fu : Nat) (a0 : Nat × T Unit) (a1 : Mem) (a2 : Cap) : Option ((Nat × T Unit) × Bool × Mem) := (bif a0.2.isDone then (some (a0, false, a1)) else ((D.zce fu a1 a2 (T.acc a0.2)).bind (fun (x16 : Int × Bool × Mem) => (bif (!x16.2.1) then (some (a0, false, x16.2.2)) else ((depthI a0.1).bind (fun (x26 : Nat) => (some ((x26, T.next a0.2 x16.1), true, x16.2.2))))))))

theorem zg8 {fu : Nat} (w0 : World) {a0_v : Value} {a0_F : List Nat} (a0 : Nat × T Unit) {a1_g : MG} (a1 : Mem) (a2 : Cap) (hS : Sep [progK Tryz.prog znj a0 a0_v a0_F, memK a1_g a1] w0) {res : (Nat × T Unit) × Bool × Mem} (hD : D.zdy fu a0 a1 a2 = some res) :
    Calls Tryz.prog 209 #[a0_v, .pointer (some ⟨a1_g.mb, 0, none⟩), .agg (capC a2).toArray] w0 (fun e w' => ∃ (v0 : Value) (F0 : List Nat), e = .returned (.tuple #[v0, (.bool res.2.1)]) ∧ Done (fun b => b ∈ (memK a1_g a1).own) (fun b => b ∈ a0_F) [memK a1_g res.2.2, progK Tryz.prog znj res.1 v0 F0] w0 w') := by
 refine enter Tryz.func209 rfl 28 rfl rfl fun fr r => ?_
 have hP : Post (fun b => b ∈ (memK a1_g a1).own) [progK Tryz.prog znj a0 a0_v a0_F, memK a1_g a1] w0 w0 := .start hS (by simp [memK, progK])
 unfold D.zdy at hD
 refine wsr ?_
 refine za5 (.cells a0_v.cells 186 (0, 0)) r (fun R => znm r (v := a0_v) rfl) rfl fun fr b1 w2 n3 r => ?_
 have hP : Post (fun b => b ∈ (memK a1_g a1).own) [progK Tryz.prog znj a0 a0_v a0_F, memK a1_g a1, znd b1 a0_v.cells 186] w0 w2 := hP.new n3
 refine za5 (.cells ((capC a2)).toArray 42 (0, 0)) r (fun R => znm r (v := (.agg (capC a2).toArray)) rfl) rfl fun fr b5 w6 n7 r => ?_
 have hP : Post (fun b => b ∈ (memK a1_g a1).own) [progK Tryz.prog znj a0 a0_v a0_F, memK a1_g a1, znd b1 a0_v.cells 186, znd b5 ((capC a2)).toArray 42] w0 w6 := hP.new n7
 refine za5 (.cells (zna false znj.zero 0 0 0 0 .nilFunc) 186 (0, 0)) r (fun R => zag tz186) rfl fun fr b9 w10 n11 r => ?_
 have hP : Post (fun b => b ∈ (memK a1_g a1).own) [progK Tryz.prog znj a0 a0_v a0_F, memK a1_g a1, znd b1 a0_v.cells 186, znd b5 ((capC a2)).toArray 42, znd b9 (zna false znj.zero 0 0 0 0 .nilFunc) 186] w0 w10 := hP.new n11
 refine za0 (.bool false) r (fun R => za8 r rfl) rfl fun fr r => wn (wp_seq (wsr (za0 _ r (fun R => za4 r (b := b1) (o := 0) (k := 0) rfl zh1) rfl fun fr r => za0 (.bool a0.2.isDone) r (fun R => za3 r rfl (hP.cell (i := 2) rfl) to4 (Rep.zhU (hP.prog (i := 0) rfl))) rfl fun fr r => wn ?_)))
 refine wp_cond_split (t := a0.2.isDone) (r.ev rfl) (fun h13 => ?_) (fun h13 => ?_)
 ·
  have hD := (zap h13).symm.trans hD
  refine wsr (za0 a0_v r (fun R => zgj r (hP.prog (i := 0) rfl).shape rfl (hP.cell (i := 2) rfl) ta186) rfl fun fr r => ?_)
  refine zae (.cells a0_v.cells 186 (0, 0)) r (fun R => zaf r (hP.prog (i := 0) rfl).shape rfl rfl (hP.cell (i := 4) rfl) ts186 rfl) rfl fun fr w14 u15 r => ?_
  have hP : Post (fun b => b ∈ (memK a1_g a1).own) [progK Tryz.prog znj a0 a0_v a0_F, memK a1_g a1, znd b1 a0_v.cells 186, znd b5 ((capC a2)).toArray 42, znd b9 a0_v.cells 186] w0 w14 := hP.upd (i := 4) rfl u15
  refine za0 (.bool false) r (fun R => za8 r rfl) rfl fun fr r => wn (wp_ret ?_)
  have hv : (a0, false, a1) = res := Option.some.inj hD
  try dsimp only [Exit.then, Exit.inBlock]
  have hs := (hP.prog (i := 0) rfl).shape.cells
  refine zcd (fn := Tryz.f209) r rfl rfl (v' := (.bool false)) rfl (hP.cell (i := 4) rfl) (k := 6) hs.1 ta186 ?_
  rw [← hs.2.2]
  subst hv
  exact ⟨a0_v, a0_F, rfl, (hP.pick [1, 0] rfl rfl).done (zbX rfl (zeE (fun b h => .inl h) zch))⟩
 ·
  have hD := (zak h13).symm.trans hD
  refine wp_skip (wsr (za0 (.pointer (some ⟨a1_g.mb, 0, none⟩)) r (fun R => zaa r rfl) rfl fun fr r => za0 (.agg (capC a2).toArray) r (fun R => za6 r (cs := (capC a2)) (n := 2) rfl (hP.cell (i := 3) rfl) ta42 rfl) rfl fun fr r => za0 _ r (fun R => za4 r (b := b1) (o := 0) (k := 1) rfl zkw) rfl fun fr r => za0 (.agg (znk (T.acc a0.2)).toArray) r (fun R => za6 r (cs := (znk (T.acc a0.2))) (n := 4) rfl (hP.cell (i := 2) rfl) ta36 (Rep.zml (hP.prog (i := 0) rfl) h13)) rfl fun fr r => ?_))
  obtain ⟨x16, hx16, hD⟩ := zau hD
  refine za7 r (zgf w10 a1 a2 (T.acc a0.2) (hP.sep.pk [1] rfl rfl) hx16) (fun R hc => zac r rfl cl135 hc) rfl ?_
  rintro _ w17 ⟨rfl, hq⟩
  refine ⟨_, rfl, fun fr r => ?_⟩
  have hP : Post (fun b => b ∈ (memK a1_g a1).own) [progK Tryz.prog znj a0 a0_v a0_F, memK a1_g x16.2.2, znd b1 a0_v.cells 186, znd b5 ((capC a2)).toArray 42, znd b9 (zna false znj.zero 0 0 0 0 .nilFunc) 186] w0 w17 := hP.setN (i := 1) rfl hq
  refine za0 (.tuple #[(U x16.1), (.bool x16.2.1)]) r (fun R => zaa r rfl) rfl fun fr r => za0 (U x16.1) r (fun R => zaV r (vs := #[(U x16.1), (.bool x16.2.1)]) rfl rfl) rfl fun fr r => za0 (.bool x16.2.1) r (fun R => zaV r (vs := #[(U x16.1), (.bool x16.2.1)]) rfl rfl) rfl fun fr r => za0 (U x16.1) r (fun R => za8 r rfl) rfl fun fr r => za0 (.bool x16.2.1) r (fun R => za8 r rfl) rfl fun fr r => wn (wp_seq (wsr (za0 (.bool x16.2.1) r (fun R => zaa r rfl) rfl fun fr r => za0 (.bool (!x16.2.1)) r (fun R => y_un r (u := (.bool x16.2.1)) rfl rfl) rfl fun fr r => wn ?_)))
  refine wp_cond_split (t := (!x16.2.1)) (r.ev rfl) (fun h18 => ?_) (fun h18 => ?_)
  ·
   have hD := (zap h18).symm.trans hD
   refine wsr (za0 a0_v r (fun R => zgj r (hP.prog (i := 0) rfl).shape rfl (hP.cell (i := 2) rfl) ta186) rfl fun fr r => ?_)
   refine zae (.cells a0_v.cells 186 (0, 0)) r (fun R => zaf r (hP.prog (i := 0) rfl).shape rfl rfl (hP.cell (i := 4) rfl) ts186 rfl) rfl fun fr w19 u20 r => ?_
   have hP : Post (fun b => b ∈ (memK a1_g a1).own) [progK Tryz.prog znj a0 a0_v a0_F, memK a1_g x16.2.2, znd b1 a0_v.cells 186, znd b5 ((capC a2)).toArray 42, znd b9 a0_v.cells 186] w0 w19 := hP.upd (i := 4) rfl u20
   refine za0 (.bool false) r (fun R => za8 r rfl) rfl fun fr r => wn (wp_ret ?_)
   have hv : (a0, false, x16.2.2) = res := Option.some.inj hD
   try dsimp only [Exit.then, Exit.inBlock]
   have hs := (hP.prog (i := 0) rfl).shape.cells
   refine zcd (fn := Tryz.f209) r rfl rfl (v' := (.bool false)) rfl (hP.cell (i := 4) rfl) (k := 6) hs.1 ta186 ?_
   rw [← hs.2.2]
   subst hv
   exact ⟨a0_v, a0_F, rfl, (hP.pick [1, 0] rfl rfl).done (zbX rfl (zeE (fun b h => .inl h) zch))⟩
  ·
   have hD := (zak h18).symm.trans hD
   refine wp_skip (wsr (za0 _ r (fun R => za4 r (b := b1) (o := 0) (k := 5) rfl zkG) rfl fun fr r => ?_))
   obtain ⟨nf21, n122, n223, hv24, hk25⟩ := Rep.zlx (hP.prog (i := 0) rfl) h13
   refine za0 (.func (.func nf21) n122.toArray n223.toArray) r (fun R => za3 r rfl (hP.cell (i := 2) rfl) to184 hv24) rfl fun fr r => za0 (U x16.1) r (fun R => zaa r rfl) rfl fun fr r => ?_
   obtain ⟨x26, hx26, hD⟩ := zau hD
   refine za7 r (hk25.at_.2 x26 (by rw [zk7 hx26]; exact Nat.lt_succ_self _) x16.1 w17 (Same.refl _ _) (Nat.le_refl _)) (fun R hc => zde r rfl rfl hk25.at_.1 hc) rfl ?_
   rintro _ w27 ⟨v28, rfl, hb, hr29⟩
   refine ⟨_, rfl, fun fr r => ?_⟩
   have zw27 := hP.size
   have hP : Post (fun b => b ∈ (memK a1_g a1).own) [progK Tryz.prog znj a0 a0_v a0_F, memK a1_g x16.2.2, znd b1 a0_v.cells 186, znd b5 ((capC a2)).toArray 42, znd b9 (zna false znj.zero 0 0 0 0 .nilFunc) 186, progK Tryz.prog znj (x26, T.next a0.2 x16.1) v28 (a0_F ++ rg w17.heap.size w27.heap.size)] w0 w27 := hP.addProgF (k := 0) rfl hb hr29
   refine zae (.cells v28.cells 186 (0, 0)) r (fun R => zaf r (hP.prog (i := 5) rfl).shape rfl rfl (hP.cell (i := 4) rfl) ts186 rfl) rfl fun fr w31 u32 r => ?_
   have hP : Post (fun b => b ∈ (memK a1_g a1).own) [progK Tryz.prog znj a0 a0_v a0_F, memK a1_g x16.2.2, znd b1 a0_v.cells 186, znd b5 ((capC a2)).toArray 42, znd b9 v28.cells 186, progK Tryz.prog znj (x26, T.next a0.2 x16.1) v28 (a0_F ++ rg w17.heap.size w27.heap.size)] w0 w31 := hP.upd (i := 4) rfl u32
   refine za0 (.bool true) r (fun R => za8 r rfl) rfl fun fr r => wn (wp_ret ?_)
   have hv : ((x26, T.next a0.2 x16.1), true, x16.2.2) = res := Option.some.inj hD
   try dsimp only [Exit.then, Exit.inBlock]
   have hs := (hP.prog (i := 5) rfl).shape.cells
   refine zcd (fn := Tryz.f209) r rfl rfl (v' := (.bool true)) rfl (hP.cell (i := 4) rfl) (k := 6) hs.1 ta186 ?_
   rw [← hs.2.2]
   subst hv
   exact ⟨v28, (a0_F ++ rg w17.heap.size w27.heap.size), rfl, (hP.pick [1, 5] rfl rfl).done (zbX rfl (zeE (fun b h => (List.mem_append.1 h).elim .inl (fun h => .inr (by have := (zia.1 h).1; omega))) zch))⟩

def D.zeA (fu : Nat) (a0 : Nat × T Unit) (a1 : Mem) (a2 : Cap) (a3 : Int) : Option (Unit × Int × Bool × Mem) := (loopThen (fun (x13 : Int × Mem × (Nat × T Unit)) => (Option.bind (bif (decide (x13.1 < a3)) then (some (!x13.2.2.2.isDone)) else (some false)) (fun (x19 : Bool) => (bif x19 then ((D.zdy fu x13.2.2 x13.2.1 a2).bind (fun (x23 : (Nat × T Unit) × Bool × Mem) => (bif (!x23.2.1) then (some (Lp.brk (x13.1, x23.2.2, x13.2.2))) else (some (Lp.next ((IntKind.i64.wrap (x13.1 + 1)), x23.2.2, x23.1)))))) else (some (Lp.brk (x13.1, x13.2.1, x13.2.2))))))) fu (0, a1, a0) (fun (x37 : Int × Mem × (Nat × T Unit)) => (some ((), x37.1, x37.2.2.2.isDone, x37.2.1))))

theorem ziD {fu : Nat} (w0 : World) {a0_v : Value} {a0_F : List Nat} (a0 : Nat × T Unit) {a1_g : MG} (a1 : Mem) (a2 : Cap) (a3 : Int) (hS : Sep [progK Tryz.prog znj a0 a0_v a0_F, memK a1_g a1] w0) {res : Unit × Int × Bool × Mem} (hD : D.zeA fu a0 a1 a2 a3 = some res) :
    Calls Tryz.prog 110 #[a0_v, .pointer (some ⟨a1_g.mb, 0, none⟩), .agg (capC a2).toArray, .int .i64 a3] w0 (fun e w' => e = .returned (.tuple #[(.agg #[]), (.int .i64 res.2.1), (.bool res.2.2.1)]) ∧ Done (fun b => b ∈ (memK a1_g a1).own) No [memK a1_g res.2.2.2] w0 w') := by
 refine enter Tryz.func110 rfl 39 rfl rfl fun fr r => ?_
 have hP : Post (fun b => b ∈ (memK a1_g a1).own) [progK Tryz.prog znj a0 a0_v a0_F, memK a1_g a1] w0 w0 := .start hS (by simp [memK, progK])
 unfold D.zeA at hD
 refine wsr ?_
 refine za5 (.cells a0_v.cells 186 (0, 0)) r (fun R => znm r (v := a0_v) rfl) rfl fun fr b1 w2 n3 r => ?_
 have hP : Post (fun b => b ∈ (memK a1_g a1).own) [progK Tryz.prog znj a0 a0_v a0_F, memK a1_g a1, znd b1 a0_v.cells 186] w0 w2 := hP.new n3
 refine za5 (.cells ((capC a2)).toArray 42 (0, 0)) r (fun R => znm r (v := (.agg (capC a2).toArray)) rfl) rfl fun fr b5 w6 n7 r => ?_
 have hP : Post (fun b => b ∈ (memK a1_g a1).own) [progK Tryz.prog znj a0 a0_v a0_F, memK a1_g a1, znd b1 a0_v.cells 186, znd b5 ((capC a2)).toArray 42] w0 w6 := hP.new n7
 refine za5 (.cells #[] 181 (0, 0)) r (fun R => zag tz181) rfl fun fr b9 w10 n11 r => ?_
 have hP : Post (fun b => b ∈ (memK a1_g a1).own) [progK Tryz.prog znj a0 a0_v a0_F, memK a1_g a1, znd b1 a0_v.cells 186, znd b5 ((capC a2)).toArray 42, znd b9 #[] 181] w0 w10 := hP.new n11
 refine za0 (I 0) r (fun R => za8 r rfl) rfl fun fr r => za0 (.bool false) r (fun R => za8 r rfl) rfl fun fr r => wn (wsr (za0 (I 0) r (fun R => za8 r rfl) rfl fun fr r => wn (wp_seq ?_)))
 refine ze9 (X := Int × Mem × (Nat × T Unit)) (G := Value × List Nat) (x0 := (0, a1, a0)) (fun x γ => [(0, a0_v), (1, (.pointer (some ⟨a1_g.mb, 0, none⟩))), (2, (.agg (capC a2).toArray)), (3, (I a3)), (4, (.pointer (some ⟨b1, 0, none⟩))), (6, (.pointer (some ⟨b5, 0, none⟩))), (8, (.pointer (some ⟨b9, 0, none⟩))), (9, (I 0)), (10, (.bool false)), (11, (I x.1))]) (fun x γ w => Post (fun b => b ∈ (memK a1_g a1).own) [progK Tryz.prog znj x.2.2 γ.1 γ.2, memK a1_g x.2.1, znd b1 γ.1.cells 186, znd b5 ((capC a2)).toArray 42, znd b9 #[] 181] w0 w) (a0_v, a0_F) r (za2 rfl (za2 rfl (za2 rfl (za2 rfl (za2 rfl (za2 rfl (za2 rfl (za2 rfl (za2 rfl (za2 rfl zaT)))))))))) hP hD ?_ ?_
 ·
  rintro x13 γ14 fr w16 g y15 RPy15 nxy15 bky15 rty15 r hP hD
  have hP : Post (fun b => b ∈ (memK a1_g a1).own) [progK Tryz.prog znj x13.2.2 γ14.1 γ14.2, memK a1_g x13.2.1, znd b1 γ14.1.cells 186, znd b5 ((capC a2)).toArray 42, znd b9 #[] 181] w0 w16 := hP
  refine wp_seq (wp_seq ?_)
  refine zca (N := 39) (Y := Bool) (G := Unit) (fun x γ => [(0, a0_v), (1, (.pointer (some ⟨a1_g.mb, 0, none⟩))), (2, (.agg (capC a2).toArray)), (3, (I a3)), (4, (.pointer (some ⟨b1, 0, none⟩))), (6, (.pointer (some ⟨b5, 0, none⟩))), (8, (.pointer (some ⟨b9, 0, none⟩))), (9, (I 0)), (10, (.bool false)), (11, (I x13.1)), (21, (.bool x))]) (fun x γ w => Post (fun b => b ∈ (memK a1_g a1).own) [progK Tryz.prog znj x13.2.2 γ14.1 γ14.2, memK a1_g x13.2.1, znd b1 γ14.1.cells 186, znd b5 ((capC a2)).toArray 42, znd b9 #[] 181] w0 w) hD ?_ ?_
  ·
   rintro y17 RPy17 nxy17 hD
   refine wp_region_lit (za0 (I x13.1) r (fun R => zaa r rfl) rfl fun fr r => za0 (I a3) r (fun R => zaa r rfl) rfl fun fr r => za0 _ r (fun R => zni r rfl rfl rfl rfl) rfl fun fr r => za0 (.bool (decide (x13.1 < a3))) r (fun R => zaa r rfl) rfl fun fr r => ?_)
   refine zaI (decide (x13.1 < a3)) (fun h18 => ?_) (fun h18 => ?_)
   ·
    have hD := (zap h18).symm.trans hD
    refine s1 r h18 (za0 _ r (fun R => za4 r (b := b1) (o := 0) (k := 0) rfl zh1) rfl fun fr r => s1 r h18 (za0 (.bool x13.2.2.2.isDone) r (fun R => za3 r rfl (hP.cell (i := 2) rfl) to4 (Rep.zhU (hP.prog (i := 0) rfl))) rfl fun fr r => s1 r h18 (za0 (.bool (!x13.2.2.2.isDone)) r (fun R => y_un r (u := (.bool x13.2.2.2.isDone)) rfl rfl) rfl fun fr r => za0 (.bool (!x13.2.2.2.isDone)) r (fun R => zaq r (b := true) (congrArg Value.bool h18) rfl) rfl fun fr r => wn ?_)))
    exact nxy17 (!x13.2.2.2.isDone) () _ _ _ hD r (za2 rfl (za2 rfl (za2 rfl (za2 rfl (za2 rfl (za2 rfl (za2 rfl (za2 rfl (za2 rfl (za2 rfl (za2 rfl zaT))))))))))) (hP.pick [0, 1, 2, 3, 4] rfl rfl)
   ·
    have hD := (zak h18).symm.trans hD
    refine s0 r h18 fun fr r => s0 r h18 fun fr r => s0 r h18 fun fr r => za0 (.bool false) r (fun R => zaq r (b := false) (congrArg Value.bool h18) rfl) rfl fun fr r => wn ?_
    exact nxy17 false () _ _ _ hD r (za2 rfl (za2 rfl (za2 rfl (za2 rfl (za2 rfl (za2 rfl (za2 rfl (za2 rfl (za2 rfl (za2 rfl (za2 rfl zaT))))))))))) (hP.pick [0, 1, 2, 3, 4] rfl rfl)
  ·
   rintro x19 γ20 fr w21 g r hP hD
   have hP : Post (fun b => b ∈ (memK a1_g a1).own) [progK Tryz.prog znj x13.2.2 γ14.1 γ14.2, memK a1_g x13.2.1, znd b1 γ14.1.cells 186, znd b5 ((capC a2)).toArray 42, znd b9 #[] 181] w0 w21 := hP
   refine wp_cond_split (t := x19) (r.ev rfl) (fun h22 => ?_) (fun h22 => ?_)
   ·
    have hD := (zap h22).symm.trans hD
    refine wp_skip (wp_block (wsr (za0 γ14.1 r (fun R => zgj r (hP.prog (i := 0) rfl).shape rfl (hP.cell (i := 2) rfl) ta186) rfl fun fr r => za0 (.pointer (some ⟨a1_g.mb, 0, none⟩)) r (fun R => zaa r rfl) rfl fun fr r => za0 (.agg (capC a2).toArray) r (fun R => za6 r (cs := (capC a2)) (n := 2) rfl (hP.cell (i := 3) rfl) ta42 rfl) rfl fun fr r => ?_)))
    obtain ⟨x23, hx23, hD⟩ := zau hD
    refine za7 r (zg8 w21 x13.2.2 x13.2.1 a2 (hP.sep.pk [0, 1] rfl rfl) hx23) (fun R hc => zac r rfl cl209 hc) rfl ?_
    rintro _ w24 ⟨v25, F26, rfl, hq⟩
    refine ⟨_, rfl, fun fr r => ?_⟩
    have hP : Post (fun b => b ∈ (memK a1_g a1).own) [progK Tryz.prog znj x13.2.2 γ14.1 γ14.2, memK a1_g x23.2.2, znd b1 γ14.1.cells 186, znd b5 ((capC a2)).toArray 42, znd b9 #[] 181, progK Tryz.prog znj x23.1 v25 F26] w0 w24 := hP.setR (i := 1) (k := 0) rfl rfl rfl hq
    refine za0 (.tuple #[v25, (.bool x23.2.1)]) r (fun R => zaa r rfl) rfl fun fr r => za0 v25 r (fun R => zaV r (vs := #[v25, (.bool x23.2.1)]) rfl rfl) rfl fun fr r => za0 (.bool x23.2.1) r (fun R => zaV r (vs := #[v25, (.bool x23.2.1)]) rfl rfl) rfl fun fr r => ?_
    refine za5 (.cells (zna false znj.zero 0 0 0 0 .nilFunc) 186 (0, 0)) r (fun R => zag tz186) rfl fun fr b28 w29 n30 r => ?_
    have hP : Post (fun b => b ∈ (memK a1_g a1).own) [progK Tryz.prog znj x13.2.2 γ14.1 γ14.2, memK a1_g x23.2.2, znd b1 γ14.1.cells 186, znd b5 ((capC a2)).toArray 42, znd b9 #[] 181, progK Tryz.prog znj x23.1 v25 F26, znd b28 (zna false znj.zero 0 0 0 0 .nilFunc) 186] w0 w29 := hP.new n30
    refine zae (.cells v25.cells 186 (0, 0)) r (fun R => zaf r (hP.prog (i := 5) rfl).shape rfl rfl (hP.cell (i := 6) rfl) ts186 rfl) rfl fun fr w32 u33 r => ?_
    have hP : Post (fun b => b ∈ (memK a1_g a1).own) [progK Tryz.prog znj x13.2.2 γ14.1 γ14.2, memK a1_g x23.2.2, znd b1 γ14.1.cells 186, znd b5 ((capC a2)).toArray 42, znd b9 #[] 181, progK Tryz.prog znj x23.1 v25 F26, znd b28 v25.cells 186] w0 w32 := hP.upd (i := 6) rfl u33
    refine za0 (.bool x23.2.1) r (fun R => za8 r rfl) rfl fun fr r => wn (wp_seq (wsr (za0 (.bool x23.2.1) r (fun R => zaa r rfl) rfl fun fr r => za0 (.bool (!x23.2.1)) r (fun R => y_un r (u := (.bool x23.2.1)) rfl rfl) rfl fun fr r => wn ?_)))
    refine wp_cond_split (t := (!x23.2.1)) (r.ev rfl) (fun h34 => ?_) (fun h34 => ?_)
    ·
     have hD := (zap h34).symm.trans hD
     refine wp_exit ?_
     exact bky15 (x13.1, x23.2.2, x13.2.2) (γ14.1, γ14.2) _ _ _ hD r (za2 rfl (za2 rfl (za2 rfl (za2 rfl (za2 rfl (za2 rfl (za2 rfl (za2 rfl (za2 rfl (za2 rfl zaT)))))))))) (hP.pick [0, 1, 2, 3, 4] rfl rfl)
    ·
     have hD := (zak h34).symm.trans hD
     refine wp_skip (wsr (za0 v25 r (fun R => zgj r (hP.prog (i := 5) rfl).shape rfl (hP.cell (i := 6) rfl) ta186) rfl fun fr r => ?_))
     refine zae (.cells v25.cells 186 (0, 0)) r (fun R => zaf r (hP.prog (i := 5) rfl).shape rfl rfl (hP.cell (i := 2) rfl) ts186 (by have h := (hP.prog (i := 0) rfl).shape.cells.1; simpa using h)) rfl fun fr w35 u36 r => ?_
     have hP : Post (fun b => b ∈ (memK a1_g a1).own) [progK Tryz.prog znj x13.2.2 γ14.1 γ14.2, memK a1_g x23.2.2, znd b1 v25.cells 186, znd b5 ((capC a2)).toArray 42, znd b9 #[] 181, progK Tryz.prog znj x23.1 v25 F26, znd b28 v25.cells 186] w0 w35 := hP.upd (i := 2) rfl u36
     refine wn ?_
     refine wp_region_lit (za0 (I x13.1) r (fun R => zaa r rfl) rfl fun fr r => za0 _ r (fun R => zni r rfl rfl rfl rfl) rfl fun fr r => za0 (I (W (x13.1 + 1))) r (fun R => za8 r rfl) rfl fun fr r => wn ?_)
     exact nxy15 ((W (x13.1 + 1)), x23.2.2, x23.1) (v25, F26) _ _ _ hD r (za2 rfl (za2 rfl (za2 rfl (za2 rfl (za2 rfl (za2 rfl (za2 rfl (za2 rfl (za2 rfl (za2 rfl zaT)))))))))) (hP.pick [5, 1, 2, 3, 4] rfl rfl)
   ·
    have hD := (zak h22).symm.trans hD
    refine wp_exit ?_
    exact bky15 (x13.1, x13.2.1, x13.2.2) (γ14.1, γ14.2) _ _ _ hD r (za2 rfl (za2 rfl (za2 rfl (za2 rfl (za2 rfl (za2 rfl (za2 rfl (za2 rfl (za2 rfl (za2 rfl zaT)))))))))) (hP.pick [0, 1, 2, 3, 4] rfl rfl)
 ·
  rintro x37 γ38 fr w39 g r hP hD
  have hP : Post (fun b => b ∈ (memK a1_g a1).own) [progK Tryz.prog znj x37.2.2 γ38.1 γ38.2, memK a1_g x37.2.1, znd b1 γ38.1.cells 186, znd b5 ((capC a2)).toArray 42, znd b9 #[] 181] w0 w39 := hP
  refine wp_seq ?_
  refine zhh [b9] [.pred (fun v _ _ _ => ∃ sp, v = .pointer (some ⟨b1, 1, sp⟩)) (fun _ _ _ _ _ h _ => h), .val (.agg #[]), .val (I x37.1), .val (.pointer (some ⟨b1, 0, none⟩)), .val (.bool x37.2.2.2.isDone), .eff (EffP w39.heap.size (znd b9 #[] 181) (fun _ : Unit => undef) (fun _ : Unit => [])) (EffP.st _ _ _ _), .val (I x37.1), .val (.bool x37.2.2.2.isDone)] mixed r (fun b hb => hP.sep.lt (i := 4) rfl (.inl hb)) (by kernel_rfl) ?_ ?_
  ·
   refine zbh r rfl (by kernel_rfl) (fun fr1 g w' hb' hd r' => ?_) ?_
   · exact zgd r' rfl fz186 ((hP.below (dr hb')).cell (i := 2) rfl) (fun sp => ⟨Below.refl _ _, sp, rfl⟩)
   refine zbh r rfl (by kernel_rfl) (fun fr1 g w' hb' hd r' => ?_) ?_
   · obtain ⟨sp, hsp⟩ := (hd 0 rfl).1; exact zgY r' hsp ta181 ⟨Below.refl _ _, rfl⟩
   refine zaC r rfl (fun fr1 g w' hk' hd r' => ?_) ?_
   · exact zaa r' (v := (I x37.1)) rfl ⟨Below.refl _ _, rfl⟩
   refine zaC r rfl (fun fr1 g w' hk' hd r' => ?_) ?_
   · exact za4 r' (b := b1) (o := 0) (k := 0) rfl zh1 ⟨Below.refl _ _, rfl⟩
   refine zaC r rfl (fun fr1 g w' hk' hd r' => ?_) ?_
   · exact za3 r' (v := (.bool x37.2.2.2.isDone)) (hd 3 rfl).1 (hP.cellK (j := 4) rfl (drK hk') (i := 2) rfl rfl) to4 (Rep.zhU (show Rep _ _ _ _ _ _ _ from hP.okK (j := 4) rfl (drK hk') (i := 0) rfl rfl)) ⟨Below.refl _ _, rfl⟩
   refine zbh r rfl (by kernel_rfl) (fun fr1 g w' hb' hd r' => ?_) ?_
   · exact zaN r' (o := 0) (v := (.agg #[])) rfl (hd 1 rfl).1 ((hP.below (dr hb')).cell (i := 4) rfl) ts181 (Nat.le_of_ble_eq_true rfl) rfl rfl (fun w2 u2 => ⟨u2.kept, (), rfl, u2.at_, (fun b hb => hP.sep.lt (i := 4) rfl hb), zkb⟩)
   refine zaC r rfl (fun fr1 g w' hk' hd r' => ?_) ?_
   · exact za8 r' (v := (I x37.1)) (hd 2 rfl).1 ⟨Below.refl _ _, rfl⟩
   refine zaC r rfl (fun fr1 g w' hk' hd r' => ?_) ?_
   · exact za8 r' (v := (.bool x37.2.2.2.isDone)) (hd 4 rfl).1 ⟨Below.refl _ _, rfl⟩
   exact zbW
  ·
   intro fr gg w40 hb hΦ hap r
   obtain ⟨⟨⟩, g5, hcE, _, hs5⟩ := (hΦ 5 rfl).1
   have r := r.congr (sc ((hΦ 7 rfl).1) (sc ((hΦ 6 rfl).1) (sc ((hΦ 4 rfl).1) (sc ((hΦ 3 rfl).1) (sc ((hΦ 2 rfl).1) (sc ((hΦ 1 rfl).1) (sc rfl rfl)))))))
   have hP : Post (fun b => b ∈ (memK a1_g a1).own) [progK Tryz.prog znj x37.2.2 γ38.1 γ38.2, memK a1_g x37.2.1, znd b1 γ38.1.cells 186, znd b5 ((capC a2)).toArray 42, znd b9 #[] 181] w0 w40 := hP.effL (i := 4) (l := []) rfl hb hcE rfl rfl trivial
   refine wp_ret ?_
   have hv : ((), x37.1, x37.2.2.2.isDone, x37.2.1) = res := Option.some.inj hD
   try dsimp only [Exit.then, Exit.inBlock]
   refine zhp (fn := Tryz.f110) r rfl rfl (v' := (I x37.1)) (v2 := (.bool x37.2.2.2.isDone)) rfl rfl (hP.cell (i := 4) rfl) (k := 0) rfl ta181 ?_
   subst hv
   exact ⟨rfl, (hP.pick [1] rfl rfl).done (zbX rfl zch)⟩

def D.zdN (fu : Nat) (a0 : Nat × T Res) (a1 : Mem) (a2 : Cap) : Option ((Nat × T Res) × Bool × Mem) := (bif a0.2.isDone then (some (a0, false, a1)) else ((D.zce fu a1 a2 (T.acc a0.2)).bind (fun (x16 : Int × Bool × Mem) => (bif (!x16.2.1) then (some (a0, false, x16.2.2)) else ((depthI a0.1).bind (fun (x26 : Nat) => (some ((x26, T.next a0.2 x16.1), true, x16.2.2))))))))

theorem zgD {fu : Nat} (w0 : World) {a0_v : Value} {a0_F : List Nat} (a0 : Nat × T Res) {a1_g : MG} (a1 : Mem) (a2 : Cap) (hS : Sep [progK Tryz.prog zne a0 a0_v a0_F, memK a1_g a1] w0) {res : (Nat × T Res) × Bool × Mem} (hD : D.zdN fu a0 a1 a2 = some res) :
    Calls Tryz.prog 37 #[a0_v, .pointer (some ⟨a1_g.mb, 0, none⟩), .agg (capC a2).toArray] w0 (fun e w' => ∃ (v0 : Value) (F0 : List Nat), e = .returned (.tuple #[v0, (.bool res.2.1)]) ∧ Done (fun b => b ∈ (memK a1_g a1).own) (fun b => b ∈ a0_F) [memK a1_g res.2.2, progK Tryz.prog zne res.1 v0 F0] w0 w') := by
 refine enter Tryz.func37 rfl 28 rfl rfl fun fr r => ?_
 have hP : Post (fun b => b ∈ (memK a1_g a1).own) [progK Tryz.prog zne a0 a0_v a0_F, memK a1_g a1] w0 w0 := .start hS (by simp [memK, progK])
 unfold D.zdN at hD
 refine wsr ?_
 refine za5 (.cells a0_v.cells 39 (0, 0)) r (fun R => znm r (v := a0_v) rfl) rfl fun fr b1 w2 n3 r => ?_
 have hP : Post (fun b => b ∈ (memK a1_g a1).own) [progK Tryz.prog zne a0 a0_v a0_F, memK a1_g a1, znd b1 a0_v.cells 39] w0 w2 := hP.new n3
 refine za5 (.cells ((capC a2)).toArray 42 (0, 0)) r (fun R => znm r (v := (.agg (capC a2).toArray)) rfl) rfl fun fr b5 w6 n7 r => ?_
 have hP : Post (fun b => b ∈ (memK a1_g a1).own) [progK Tryz.prog zne a0 a0_v a0_F, memK a1_g a1, znd b1 a0_v.cells 39, znd b5 ((capC a2)).toArray 42] w0 w6 := hP.new n7
 refine za5 (.cells (zna false zne.zero 0 0 0 0 .nilFunc) 39 (0, 0)) r (fun R => zag tz39) rfl fun fr b9 w10 n11 r => ?_
 have hP : Post (fun b => b ∈ (memK a1_g a1).own) [progK Tryz.prog zne a0 a0_v a0_F, memK a1_g a1, znd b1 a0_v.cells 39, znd b5 ((capC a2)).toArray 42, znd b9 (zna false zne.zero 0 0 0 0 .nilFunc) 39] w0 w10 := hP.new n11
 refine za0 (.bool false) r (fun R => za8 r rfl) rfl fun fr r => wn (wp_seq (wsr (za0 _ r (fun R => za4 r (b := b1) (o := 0) (k := 0) rfl zlM) rfl fun fr r => za0 (.bool a0.2.isDone) r (fun R => za3 r rfl (hP.cell (i := 2) rfl) to4 (Rep.zhU (hP.prog (i := 0) rfl))) rfl fun fr r => wn ?_)))
 refine wp_cond_split (t := a0.2.isDone) (r.ev rfl) (fun h13 => ?_) (fun h13 => ?_)
 ·
  have hD := (zap h13).symm.trans hD
  refine wsr (za0 a0_v r (fun R => zgj r (hP.prog (i := 0) rfl).shape rfl (hP.cell (i := 2) rfl) ta39) rfl fun fr r => ?_)
  refine zae (.cells a0_v.cells 39 (0, 0)) r (fun R => zaf r (hP.prog (i := 0) rfl).shape rfl rfl (hP.cell (i := 4) rfl) ts39 rfl) rfl fun fr w14 u15 r => ?_
  have hP : Post (fun b => b ∈ (memK a1_g a1).own) [progK Tryz.prog zne a0 a0_v a0_F, memK a1_g a1, znd b1 a0_v.cells 39, znd b5 ((capC a2)).toArray 42, znd b9 a0_v.cells 39] w0 w14 := hP.upd (i := 4) rfl u15
  refine za0 (.bool false) r (fun R => za8 r rfl) rfl fun fr r => wn (wp_ret ?_)
  have hv : (a0, false, a1) = res := Option.some.inj hD
  try dsimp only [Exit.then, Exit.inBlock]
  have hs := (hP.prog (i := 0) rfl).shape.cells
  refine zcd (fn := Tryz.f37) r rfl rfl (v' := (.bool false)) rfl (hP.cell (i := 4) rfl) (k := 8) hs.1 ta39 ?_
  rw [← hs.2.2]
  subst hv
  exact ⟨a0_v, a0_F, rfl, (hP.pick [1, 0] rfl rfl).done (zbX rfl (zeE (fun b h => .inl h) zch))⟩
 ·
  have hD := (zak h13).symm.trans hD
  refine wp_skip (wsr (za0 (.pointer (some ⟨a1_g.mb, 0, none⟩)) r (fun R => zaa r rfl) rfl fun fr r => za0 (.agg (capC a2).toArray) r (fun R => za6 r (cs := (capC a2)) (n := 2) rfl (hP.cell (i := 3) rfl) ta42 rfl) rfl fun fr r => za0 _ r (fun R => za4 r (b := b1) (o := 0) (k := 3) rfl zn7) rfl fun fr r => za0 (.agg (znk (T.acc a0.2)).toArray) r (fun R => za6 r (cs := (znk (T.acc a0.2))) (n := 4) rfl (hP.cell (i := 2) rfl) ta36 (Rep.zml (hP.prog (i := 0) rfl) h13)) rfl fun fr r => ?_))
  obtain ⟨x16, hx16, hD⟩ := zau hD
  refine za7 r (zgf w10 a1 a2 (T.acc a0.2) (hP.sep.pk [1] rfl rfl) hx16) (fun R hc => zac r rfl cl135 hc) rfl ?_
  rintro _ w17 ⟨rfl, hq⟩
  refine ⟨_, rfl, fun fr r => ?_⟩
  have hP : Post (fun b => b ∈ (memK a1_g a1).own) [progK Tryz.prog zne a0 a0_v a0_F, memK a1_g x16.2.2, znd b1 a0_v.cells 39, znd b5 ((capC a2)).toArray 42, znd b9 (zna false zne.zero 0 0 0 0 .nilFunc) 39] w0 w17 := hP.setN (i := 1) rfl hq
  refine za0 (.tuple #[(U x16.1), (.bool x16.2.1)]) r (fun R => zaa r rfl) rfl fun fr r => za0 (U x16.1) r (fun R => zaV r (vs := #[(U x16.1), (.bool x16.2.1)]) rfl rfl) rfl fun fr r => za0 (.bool x16.2.1) r (fun R => zaV r (vs := #[(U x16.1), (.bool x16.2.1)]) rfl rfl) rfl fun fr r => za0 (U x16.1) r (fun R => za8 r rfl) rfl fun fr r => za0 (.bool x16.2.1) r (fun R => za8 r rfl) rfl fun fr r => wn (wp_seq (wsr (za0 (.bool x16.2.1) r (fun R => zaa r rfl) rfl fun fr r => za0 (.bool (!x16.2.1)) r (fun R => y_un r (u := (.bool x16.2.1)) rfl rfl) rfl fun fr r => wn ?_)))
  refine wp_cond_split (t := (!x16.2.1)) (r.ev rfl) (fun h18 => ?_) (fun h18 => ?_)
  ·
   have hD := (zap h18).symm.trans hD
   refine wsr (za0 a0_v r (fun R => zgj r (hP.prog (i := 0) rfl).shape rfl (hP.cell (i := 2) rfl) ta39) rfl fun fr r => ?_)
   refine zae (.cells a0_v.cells 39 (0, 0)) r (fun R => zaf r (hP.prog (i := 0) rfl).shape rfl rfl (hP.cell (i := 4) rfl) ts39 rfl) rfl fun fr w19 u20 r => ?_
   have hP : Post (fun b => b ∈ (memK a1_g a1).own) [progK Tryz.prog zne a0 a0_v a0_F, memK a1_g x16.2.2, znd b1 a0_v.cells 39, znd b5 ((capC a2)).toArray 42, znd b9 a0_v.cells 39] w0 w19 := hP.upd (i := 4) rfl u20
   refine za0 (.bool false) r (fun R => za8 r rfl) rfl fun fr r => wn (wp_ret ?_)
   have hv : (a0, false, x16.2.2) = res := Option.some.inj hD
   try dsimp only [Exit.then, Exit.inBlock]
   have hs := (hP.prog (i := 0) rfl).shape.cells
   refine zcd (fn := Tryz.f37) r rfl rfl (v' := (.bool false)) rfl (hP.cell (i := 4) rfl) (k := 8) hs.1 ta39 ?_
   rw [← hs.2.2]
   subst hv
   exact ⟨a0_v, a0_F, rfl, (hP.pick [1, 0] rfl rfl).done (zbX rfl (zeE (fun b h => .inl h) zch))⟩
  ·
   have hD := (zak h18).symm.trans hD
   refine wp_skip (wsr (za0 _ r (fun R => za4 r (b := b1) (o := 0) (k := 7) rfl zn6) rfl fun fr r => ?_))
   obtain ⟨nf21, n122, n223, hv24, hk25⟩ := Rep.zlx (hP.prog (i := 0) rfl) h13
   refine za0 (.func (.func nf21) n122.toArray n223.toArray) r (fun R => za3 r rfl (hP.cell (i := 2) rfl) to37 hv24) rfl fun fr r => za0 (U x16.1) r (fun R => zaa r rfl) rfl fun fr r => ?_
   obtain ⟨x26, hx26, hD⟩ := zau hD
   refine za7 r (hk25.at_.2 x26 (by rw [zk7 hx26]; exact Nat.lt_succ_self _) x16.1 w17 (Same.refl _ _) (Nat.le_refl _)) (fun R hc => zde r rfl rfl hk25.at_.1 hc) rfl ?_
   rintro _ w27 ⟨v28, rfl, hb, hr29⟩
   refine ⟨_, rfl, fun fr r => ?_⟩
   have zw27 := hP.size
   have hP : Post (fun b => b ∈ (memK a1_g a1).own) [progK Tryz.prog zne a0 a0_v a0_F, memK a1_g x16.2.2, znd b1 a0_v.cells 39, znd b5 ((capC a2)).toArray 42, znd b9 (zna false zne.zero 0 0 0 0 .nilFunc) 39, progK Tryz.prog zne (x26, T.next a0.2 x16.1) v28 (a0_F ++ rg w17.heap.size w27.heap.size)] w0 w27 := hP.addProgF (k := 0) rfl hb hr29
   refine zae (.cells v28.cells 39 (0, 0)) r (fun R => zaf r (hP.prog (i := 5) rfl).shape rfl rfl (hP.cell (i := 4) rfl) ts39 rfl) rfl fun fr w31 u32 r => ?_
   have hP : Post (fun b => b ∈ (memK a1_g a1).own) [progK Tryz.prog zne a0 a0_v a0_F, memK a1_g x16.2.2, znd b1 a0_v.cells 39, znd b5 ((capC a2)).toArray 42, znd b9 v28.cells 39, progK Tryz.prog zne (x26, T.next a0.2 x16.1) v28 (a0_F ++ rg w17.heap.size w27.heap.size)] w0 w31 := hP.upd (i := 4) rfl u32
   refine za0 (.bool true) r (fun R => za8 r rfl) rfl fun fr r => wn (wp_ret ?_)
   have hv : ((x26, T.next a0.2 x16.1), true, x16.2.2) = res := Option.some.inj hD
   try dsimp only [Exit.then, Exit.inBlock]
   have hs := (hP.prog (i := 5) rfl).shape.cells
   refine zcd (fn := Tryz.f37) r rfl rfl (v' := (.bool true)) rfl (hP.cell (i := 4) rfl) (k := 8) hs.1 ta39 ?_
   rw [← hs.2.2]
   subst hv
   exact ⟨v28, (a0_F ++ rg w17.heap.size w27.heap.size), rfl, (hP.pick [1, 5] rfl rfl).done (zbX rfl (zeE (fun b h => (List.mem_append.1 h).elim .inl (fun h => .inr (by have := (zia.1 h).1; omega))) zch))⟩

def D.zcw (fu : Nat) (a0 : Nat × T Res) (a1 : Mem) (a2 : Cap) (a3 : Int) : Option (Res × Int × Bool × Mem) := (loopThen (fun (x13 : Int × Mem × (Nat × T Res)) => (Option.bind (bif (decide (x13.1 < a3)) then (some (!x13.2.2.2.isDone)) else (some false)) (fun (x19 : Bool) => (bif x19 then ((D.zdN fu x13.2.2 x13.2.1 a2).bind (fun (x23 : (Nat × T Res) × Bool × Mem) => (bif (!x23.2.1) then (some (Lp.brk (x13.1, x23.2.2, x13.2.2))) else (some (Lp.next ((IntKind.i64.wrap (x13.1 + 1)), x23.2.2, x23.1)))))) else (some (Lp.brk (x13.1, x13.2.1, x13.2.2))))))) fu (0, a1, a0) (fun (x37 : Int × Mem × (Nat × T Res)) => (some ((T.res (⟨0, 0⟩ : Res) x37.2.2.2), x37.1, x37.2.2.2.isDone, x37.2.1))))

theorem zdj {fu : Nat} (w0 : World) {a0_v : Value} {a0_F : List Nat} (a0 : Nat × T Res) {a1_g : MG} (a1 : Mem) (a2 : Cap) (a3 : Int) (hS : Sep [progK Tryz.prog zne a0 a0_v a0_F, memK a1_g a1] w0) {res : Res × Int × Bool × Mem} (hD : D.zcw fu a0 a1 a2 a3 = some res) :
    Calls Tryz.prog 29 #[a0_v, .pointer (some ⟨a1_g.mb, 0, none⟩), .agg (capC a2).toArray, .int .i64 a3] w0 (fun e w' => e = .returned (.tuple #[(.agg (resC res.1).toArray), (.int .i64 res.2.1), (.bool res.2.2.1)]) ∧ Done (fun b => b ∈ (memK a1_g a1).own) No [memK a1_g res.2.2.2] w0 w') := by
 refine enter Tryz.func29 rfl 39 rfl rfl fun fr r => ?_
 have hP : Post (fun b => b ∈ (memK a1_g a1).own) [progK Tryz.prog zne a0 a0_v a0_F, memK a1_g a1] w0 w0 := .start hS (by simp [memK, progK])
 unfold D.zcw at hD
 refine wsr ?_
 refine za5 (.cells a0_v.cells 39 (0, 0)) r (fun R => znm r (v := a0_v) rfl) rfl fun fr b1 w2 n3 r => ?_
 have hP : Post (fun b => b ∈ (memK a1_g a1).own) [progK Tryz.prog zne a0 a0_v a0_F, memK a1_g a1, znd b1 a0_v.cells 39] w0 w2 := hP.new n3
 refine za5 (.cells ((capC a2)).toArray 42 (0, 0)) r (fun R => znm r (v := (.agg (capC a2).toArray)) rfl) rfl fun fr b5 w6 n7 r => ?_
 have hP : Post (fun b => b ∈ (memK a1_g a1).own) [progK Tryz.prog zne a0 a0_v a0_F, memK a1_g a1, znd b1 a0_v.cells 39, znd b5 ((capC a2)).toArray 42] w0 w6 := hP.new n7
 refine za5 (.cells ((resC (⟨0, 0⟩ : Res))).toArray 32 (0, 0)) r (fun R => zag tz32) rfl fun fr b9 w10 n11 r => ?_
 have hP : Post (fun b => b ∈ (memK a1_g a1).own) [progK Tryz.prog zne a0 a0_v a0_F, memK a1_g a1, znd b1 a0_v.cells 39, znd b5 ((capC a2)).toArray 42, znd b9 ((resC (⟨0, 0⟩ : Res))).toArray 32] w0 w10 := hP.new n11
 refine za0 (I 0) r (fun R => za8 r rfl) rfl fun fr r => za0 (.bool false) r (fun R => za8 r rfl) rfl fun fr r => wn (wsr (za0 (I 0) r (fun R => za8 r rfl) rfl fun fr r => wn (wp_seq ?_)))
 refine ze9 (X := Int × Mem × (Nat × T Res)) (G := Value × List Nat) (x0 := (0, a1, a0)) (fun x γ => [(0, a0_v), (1, (.pointer (some ⟨a1_g.mb, 0, none⟩))), (2, (.agg (capC a2).toArray)), (3, (I a3)), (4, (.pointer (some ⟨b1, 0, none⟩))), (6, (.pointer (some ⟨b5, 0, none⟩))), (8, (.pointer (some ⟨b9, 0, none⟩))), (9, (I 0)), (10, (.bool false)), (11, (I x.1))]) (fun x γ w => Post (fun b => b ∈ (memK a1_g a1).own) [progK Tryz.prog zne x.2.2 γ.1 γ.2, memK a1_g x.2.1, znd b1 γ.1.cells 39, znd b5 ((capC a2)).toArray 42, znd b9 ((resC (⟨0, 0⟩ : Res))).toArray 32] w0 w) (a0_v, a0_F) r (za2 rfl (za2 rfl (za2 rfl (za2 rfl (za2 rfl (za2 rfl (za2 rfl (za2 rfl (za2 rfl (za2 rfl zaT)))))))))) hP hD ?_ ?_
 ·
  rintro x13 γ14 fr w16 g y15 RPy15 nxy15 bky15 rty15 r hP hD
  have hP : Post (fun b => b ∈ (memK a1_g a1).own) [progK Tryz.prog zne x13.2.2 γ14.1 γ14.2, memK a1_g x13.2.1, znd b1 γ14.1.cells 39, znd b5 ((capC a2)).toArray 42, znd b9 ((resC (⟨0, 0⟩ : Res))).toArray 32] w0 w16 := hP
  refine wp_seq (wp_seq ?_)
  refine zca (N := 39) (Y := Bool) (G := Unit) (fun x γ => [(0, a0_v), (1, (.pointer (some ⟨a1_g.mb, 0, none⟩))), (2, (.agg (capC a2).toArray)), (3, (I a3)), (4, (.pointer (some ⟨b1, 0, none⟩))), (6, (.pointer (some ⟨b5, 0, none⟩))), (8, (.pointer (some ⟨b9, 0, none⟩))), (9, (I 0)), (10, (.bool false)), (11, (I x13.1)), (21, (.bool x))]) (fun x γ w => Post (fun b => b ∈ (memK a1_g a1).own) [progK Tryz.prog zne x13.2.2 γ14.1 γ14.2, memK a1_g x13.2.1, znd b1 γ14.1.cells 39, znd b5 ((capC a2)).toArray 42, znd b9 ((resC (⟨0, 0⟩ : Res))).toArray 32] w0 w) hD ?_ ?_
  ·
   rintro y17 RPy17 nxy17 hD
   refine wp_region_lit (za0 (I x13.1) r (fun R => zaa r rfl) rfl fun fr r => za0 (I a3) r (fun R => zaa r rfl) rfl fun fr r => za0 _ r (fun R => zni r rfl rfl rfl rfl) rfl fun fr r => za0 (.bool (decide (x13.1 < a3))) r (fun R => zaa r rfl) rfl fun fr r => ?_)
   refine zaI (decide (x13.1 < a3)) (fun h18 => ?_) (fun h18 => ?_)
   ·
    have hD := (zap h18).symm.trans hD
    refine s1 r h18 (za0 _ r (fun R => za4 r (b := b1) (o := 0) (k := 0) rfl zlM) rfl fun fr r => s1 r h18 (za0 (.bool x13.2.2.2.isDone) r (fun R => za3 r rfl (hP.cell (i := 2) rfl) to4 (Rep.zhU (hP.prog (i := 0) rfl))) rfl fun fr r => s1 r h18 (za0 (.bool (!x13.2.2.2.isDone)) r (fun R => y_un r (u := (.bool x13.2.2.2.isDone)) rfl rfl) rfl fun fr r => za0 (.bool (!x13.2.2.2.isDone)) r (fun R => zaq r (b := true) (congrArg Value.bool h18) rfl) rfl fun fr r => wn ?_)))
    exact nxy17 (!x13.2.2.2.isDone) () _ _ _ hD r (za2 rfl (za2 rfl (za2 rfl (za2 rfl (za2 rfl (za2 rfl (za2 rfl (za2 rfl (za2 rfl (za2 rfl (za2 rfl zaT))))))))))) (hP.pick [0, 1, 2, 3, 4] rfl rfl)
   ·
    have hD := (zak h18).symm.trans hD
    refine s0 r h18 fun fr r => s0 r h18 fun fr r => s0 r h18 fun fr r => za0 (.bool false) r (fun R => zaq r (b := false) (congrArg Value.bool h18) rfl) rfl fun fr r => wn ?_
    exact nxy17 false () _ _ _ hD r (za2 rfl (za2 rfl (za2 rfl (za2 rfl (za2 rfl (za2 rfl (za2 rfl (za2 rfl (za2 rfl (za2 rfl (za2 rfl zaT))))))))))) (hP.pick [0, 1, 2, 3, 4] rfl rfl)
  ·
   rintro x19 γ20 fr w21 g r hP hD
   have hP : Post (fun b => b ∈ (memK a1_g a1).own) [progK Tryz.prog zne x13.2.2 γ14.1 γ14.2, memK a1_g x13.2.1, znd b1 γ14.1.cells 39, znd b5 ((capC a2)).toArray 42, znd b9 ((resC (⟨0, 0⟩ : Res))).toArray 32] w0 w21 := hP
   refine wp_cond_split (t := x19) (r.ev rfl) (fun h22 => ?_) (fun h22 => ?_)
   ·
    have hD := (zap h22).symm.trans hD
    refine wp_skip (wp_block (wsr (za0 γ14.1 r (fun R => zgj r (hP.prog (i := 0) rfl).shape rfl (hP.cell (i := 2) rfl) ta39) rfl fun fr r => za0 (.pointer (some ⟨a1_g.mb, 0, none⟩)) r (fun R => zaa r rfl) rfl fun fr r => za0 (.agg (capC a2).toArray) r (fun R => za6 r (cs := (capC a2)) (n := 2) rfl (hP.cell (i := 3) rfl) ta42 rfl) rfl fun fr r => ?_)))
    obtain ⟨x23, hx23, hD⟩ := zau hD
    refine za7 r (zgD w21 x13.2.2 x13.2.1 a2 (hP.sep.pk [0, 1] rfl rfl) hx23) (fun R hc => zac r rfl cl37 hc) rfl ?_
    rintro _ w24 ⟨v25, F26, rfl, hq⟩
    refine ⟨_, rfl, fun fr r => ?_⟩
    have hP : Post (fun b => b ∈ (memK a1_g a1).own) [progK Tryz.prog zne x13.2.2 γ14.1 γ14.2, memK a1_g x23.2.2, znd b1 γ14.1.cells 39, znd b5 ((capC a2)).toArray 42, znd b9 ((resC (⟨0, 0⟩ : Res))).toArray 32, progK Tryz.prog zne x23.1 v25 F26] w0 w24 := hP.setR (i := 1) (k := 0) rfl rfl rfl hq
    refine za0 (.tuple #[v25, (.bool x23.2.1)]) r (fun R => zaa r rfl) rfl fun fr r => za0 v25 r (fun R => zaV r (vs := #[v25, (.bool x23.2.1)]) rfl rfl) rfl fun fr r => za0 (.bool x23.2.1) r (fun R => zaV r (vs := #[v25, (.bool x23.2.1)]) rfl rfl) rfl fun fr r => ?_
    refine za5 (.cells (zna false zne.zero 0 0 0 0 .nilFunc) 39 (0, 0)) r (fun R => zag tz39) rfl fun fr b28 w29 n30 r => ?_
    have hP : Post (fun b => b ∈ (memK a1_g a1).own) [progK Tryz.prog zne x13.2.2 γ14.1 γ14.2, memK a1_g x23.2.2, znd b1 γ14.1.cells 39, znd b5 ((capC a2)).toArray 42, znd b9 ((resC (⟨0, 0⟩ : Res))).toArray 32, progK Tryz.prog zne x23.1 v25 F26, znd b28 (zna false zne.zero 0 0 0 0 .nilFunc) 39] w0 w29 := hP.new n30
    refine zae (.cells v25.cells 39 (0, 0)) r (fun R => zaf r (hP.prog (i := 5) rfl).shape rfl rfl (hP.cell (i := 6) rfl) ts39 rfl) rfl fun fr w32 u33 r => ?_
    have hP : Post (fun b => b ∈ (memK a1_g a1).own) [progK Tryz.prog zne x13.2.2 γ14.1 γ14.2, memK a1_g x23.2.2, znd b1 γ14.1.cells 39, znd b5 ((capC a2)).toArray 42, znd b9 ((resC (⟨0, 0⟩ : Res))).toArray 32, progK Tryz.prog zne x23.1 v25 F26, znd b28 v25.cells 39] w0 w32 := hP.upd (i := 6) rfl u33
    refine za0 (.bool x23.2.1) r (fun R => za8 r rfl) rfl fun fr r => wn (wp_seq (wsr (za0 (.bool x23.2.1) r (fun R => zaa r rfl) rfl fun fr r => za0 (.bool (!x23.2.1)) r (fun R => y_un r (u := (.bool x23.2.1)) rfl rfl) rfl fun fr r => wn ?_)))
    refine wp_cond_split (t := (!x23.2.1)) (r.ev rfl) (fun h34 => ?_) (fun h34 => ?_)
    ·
     have hD := (zap h34).symm.trans hD
     refine wp_exit ?_
     exact bky15 (x13.1, x23.2.2, x13.2.2) (γ14.1, γ14.2) _ _ _ hD r (za2 rfl (za2 rfl (za2 rfl (za2 rfl (za2 rfl (za2 rfl (za2 rfl (za2 rfl (za2 rfl (za2 rfl zaT)))))))))) (hP.pick [0, 1, 2, 3, 4] rfl rfl)
    ·
     have hD := (zak h34).symm.trans hD
     refine wp_skip (wsr (za0 v25 r (fun R => zgj r (hP.prog (i := 5) rfl).shape rfl (hP.cell (i := 6) rfl) ta39) rfl fun fr r => ?_))
     refine zae (.cells v25.cells 39 (0, 0)) r (fun R => zaf r (hP.prog (i := 5) rfl).shape rfl rfl (hP.cell (i := 2) rfl) ts39 (by have h := (hP.prog (i := 0) rfl).shape.cells.1; simpa using h)) rfl fun fr w35 u36 r => ?_
     have hP : Post (fun b => b ∈ (memK a1_g a1).own) [progK Tryz.prog zne x13.2.2 γ14.1 γ14.2, memK a1_g x23.2.2, znd b1 v25.cells 39, znd b5 ((capC a2)).toArray 42, znd b9 ((resC (⟨0, 0⟩ : Res))).toArray 32, progK Tryz.prog zne x23.1 v25 F26, znd b28 v25.cells 39] w0 w35 := hP.upd (i := 2) rfl u36
     refine wn ?_
     refine wp_region_lit (za0 (I x13.1) r (fun R => zaa r rfl) rfl fun fr r => za0 _ r (fun R => zni r rfl rfl rfl rfl) rfl fun fr r => za0 (I (W (x13.1 + 1))) r (fun R => za8 r rfl) rfl fun fr r => wn ?_)
     exact nxy15 ((W (x13.1 + 1)), x23.2.2, x23.1) (v25, F26) _ _ _ hD r (za2 rfl (za2 rfl (za2 rfl (za2 rfl (za2 rfl (za2 rfl (za2 rfl (za2 rfl (za2 rfl (za2 rfl zaT)))))))))) (hP.pick [5, 1, 2, 3, 4] rfl rfl)
   ·
    have hD := (zak h22).symm.trans hD
    refine wp_exit ?_
    exact bky15 (x13.1, x13.2.1, x13.2.2) (γ14.1, γ14.2) _ _ _ hD r (za2 rfl (za2 rfl (za2 rfl (za2 rfl (za2 rfl (za2 rfl (za2 rfl (za2 rfl (za2 rfl (za2 rfl zaT)))))))))) (hP.pick [0, 1, 2, 3, 4] rfl rfl)
 ·
  rintro x37 γ38 fr w39 g r hP hD
  have hP : Post (fun b => b ∈ (memK a1_g a1).own) [progK Tryz.prog zne x37.2.2 γ38.1 γ38.2, memK a1_g x37.2.1, znd b1 γ38.1.cells 39, znd b5 ((capC a2)).toArray 42, znd b9 ((resC (⟨0, 0⟩ : Res))).toArray 32] w0 w39 := hP
  refine wp_seq ?_
  refine zhh [b9] [.val (.pointer (some ⟨b1, 1, none⟩)), .val (.agg (resC (T.res (⟨0, 0⟩ : Res) x37.2.2.2)).toArray), .val (I x37.1), .val (.pointer (some ⟨b1, 0, none⟩)), .val (.bool x37.2.2.2.isDone), .eff (EffP w39.heap.size (znd b9 ((resC (T.res (⟨0, 0⟩ : Res) x37.2.2.2))).toArray 32) (fun _ : Unit => undef) (fun _ : Unit => [])) (EffP.st _ _ _ _), .val (I x37.1), .val (.bool x37.2.2.2.isDone)] mixed r (fun b hb => hP.sep.lt (i := 4) rfl (.inl hb)) (by kernel_rfl) ?_ ?_
  ·
   refine zbh r rfl (by kernel_rfl) (fun fr1 g w' hb' hd r' => ?_) ?_
   · exact za4 r' (b := b1) (o := 0) (k := 1) rfl zn4 ⟨Below.refl _ _, rfl⟩
   refine zbh r rfl (by kernel_rfl) (fun fr1 g w' hb' hd r' => ?_) ?_
   · exact za6 r' (cs := (resC (T.res (⟨0, 0⟩ : Res) x37.2.2.2))) (n := 2) (hd 0 rfl).1 ((hP.below (dr hb')).cell (i := 2) rfl) ta32 (Rep.zn0 (d := (⟨0, 0⟩ : Res)) rfl ((hP.below (dr hb')).prog (i := 0) rfl)) ⟨Below.refl _ _, rfl⟩
   refine zaC r rfl (fun fr1 g w' hk' hd r' => ?_) ?_
   · exact zaa r' (v := (I x37.1)) rfl ⟨Below.refl _ _, rfl⟩
   refine zaC r rfl (fun fr1 g w' hk' hd r' => ?_) ?_
   · exact za4 r' (b := b1) (o := 0) (k := 0) rfl zlM ⟨Below.refl _ _, rfl⟩
   refine zaC r rfl (fun fr1 g w' hk' hd r' => ?_) ?_
   · exact za3 r' (v := (.bool x37.2.2.2.isDone)) (hd 3 rfl).1 (hP.cellK (j := 4) rfl (drK hk') (i := 2) rfl rfl) to4 (Rep.zhU (show Rep _ _ _ _ _ _ _ from hP.okK (j := 4) rfl (drK hk') (i := 0) rfl rfl)) ⟨Below.refl _ _, rfl⟩
   refine zbh r rfl (by kernel_rfl) (fun fr1 g w' hb' hd r' => ?_) ?_
   · exact zaN r' (o := 0) (v := (.agg (resC (T.res (⟨0, 0⟩ : Res) x37.2.2.2)).toArray)) rfl (hd 1 rfl).1 ((hP.below (dr hb')).cell (i := 4) rfl) ts32 (Nat.le_of_ble_eq_true rfl) rfl rfl (fun w2 u2 => ⟨u2.kept, (), rfl, u2.at_, (fun b hb => hP.sep.lt (i := 4) rfl hb), zkb⟩)
   refine zaC r rfl (fun fr1 g w' hk' hd r' => ?_) ?_
   · exact za8 r' (v := (I x37.1)) (hd 2 rfl).1 ⟨Below.refl _ _, rfl⟩
   refine zaC r rfl (fun fr1 g w' hk' hd r' => ?_) ?_
   · exact za8 r' (v := (.bool x37.2.2.2.isDone)) (hd 4 rfl).1 ⟨Below.refl _ _, rfl⟩
   exact zbW
  ·
   intro fr gg w40 hb hΦ hap r
   obtain ⟨⟨⟩, g5, hcE, _, hs5⟩ := (hΦ 5 rfl).1
   have r := r.congr (sc ((hΦ 7 rfl).1) (sc ((hΦ 6 rfl).1) (sc ((hΦ 4 rfl).1) (sc ((hΦ 3 rfl).1) (sc ((hΦ 2 rfl).1) (sc ((hΦ 1 rfl).1) (sc ((hΦ 0 rfl).1) rfl)))))))
   have hP : Post (fun b => b ∈ (memK a1_g a1).own) [progK Tryz.prog zne x37.2.2 γ38.1 γ38.2, memK a1_g x37.2.1, znd b1 γ38.1.cells 39, znd b5 ((capC a2)).toArray 42, znd b9 ((resC (T.res (⟨0, 0⟩ : Res) x37.2.2.2))).toArray 32] w0 w40 := hP.effL (i := 4) (l := []) rfl hb hcE rfl rfl trivial
   refine wp_ret ?_
   have hv : ((T.res (⟨0, 0⟩ : Res) x37.2.2.2), x37.1, x37.2.2.2.isDone, x37.2.1) = res := Option.some.inj hD
   try dsimp only [Exit.then, Exit.inBlock]
   refine zhp (fn := Tryz.f29) r rfl rfl (v' := (I x37.1)) (v2 := (.bool x37.2.2.2.isDone)) rfl rfl (hP.cell (i := 4) rfl) (k := 2) rfl ta32 ?_
   subst hv
   exact ⟨rfl, (hP.pick [1] rfl rfl).done (zbX rfl zch)⟩

end Go.Proofs.YtjkinpbfmihhdaaGreat

/- Written by a program of ours (wip/gen.py): a memory that is laid out -/
set_option linter.unusedVariables false
set_option maxRecDepth 20000
set_option maxHeartbeats 2000000
namespace Go.Proofs.YtjkinpbfmihhdaaGreat
open Go.RowKit
theorem cl108 : znb Tryz.prog 108 = true := by kernel_rfl

theorem cl109 : znb Tryz.prog 109 = true := by kernel_rfl

theorem cl110 : znb Tryz.prog 110 = true := by kernel_rfl

theorem cl111 : znb Tryz.prog 111 = true := by kernel_rfl

theorem cl31 : znb Tryz.prog 31 = true := by kernel_rfl

def D.zco (fu : Nat) (a0 : Plan) : Option (Mem) := ((D.ziv fu ([(D.zaD a0)])).bind (fun (x10 : Mem × Int) => (Option.bind (bif (x10.2 != 0) then (some true) else (some false)) (fun (x16 : Bool) => (bif x16 then none else ((D.zbR fu x10.1 0).bind (fun (x21 : Cap) => ((D.zeA fu (fu, (D.ze5 (fu + 1) a0)) x10.1 x21 (IntKind.i64.wrap (a0.nodes + 1))).bind (fun (x22 : Unit × Int × Bool × Mem) => (bif (!x22.2.2.1) then none else (some x22.2.2.2)))))))))))

theorem zh4 {fu : Nat} (w0 : World) (a0 : Plan) {res : Mem} (hD : D.zco fu a0 = some res) :
    Calls Tryz.prog 28 #[.agg (znc a0).toArray] w0 (fun e w' => ∃ (g0 : MG), e = .returned (.pointer (some ⟨g0.mb, 0, none⟩)) ∧ Done No No [memK g0 res] w0 w') := by
 refine enter Tryz.func28 rfl 37 rfl rfl fun fr r => ?_
 have hP : Post No [] w0 w0 := Post.nil w0
 unfold D.zco at hD
 refine wsr ?_
 refine za5 (.cells ((znc a0)).toArray 25 (0, 0)) r (fun R => znm r (v := (.agg (znc a0).toArray)) rfl) rfl fun fr b1 w2 n3 r => ?_
 have hP : Post No [znd b1 ((znc a0)).toArray 25] w0 w2 := hP.new n3
 refine za0 (.pointer none) r (fun R => za8 r rfl) rfl fun fr r => wn (wsr (za0 (.agg (znc a0).toArray) r (fun R => za6 r (cs := (znc a0)) (n := 6) rfl (hP.cell (i := 0) rfl) ta25 rfl) rfl fun fr r => ?_))
 refine za7 r (zie w2 a0) (fun R hc => zac r rfl cl109 hc) rfl ?_
 rintro _ w5 ⟨rfl, hb⟩
 refine ⟨_, rfl, fun fr r => ?_⟩
 have hP : Post No [znd b1 ((znc a0)).toArray 25] w0 w5 := hP.below hb
 refine ziu (.cells (([(D.zaD a0)]).flatMap i64).toArray 3 (0, 0)) 1 r (fun R => zcS r (by kernel_rfl)) rfl fun fr b6 w7 n8 r => ?_
 have hP : Post No [znd b1 ((znc a0)).toArray 25, rowK 3 1 i64 (.slice (some ⟨b6, 0, none⟩) 1 1) ([(D.zaD a0)])] w0 w7 := hP.newRow n8 (fun _ => rfl) rfl
 obtain ⟨x10, hx10, hD⟩ := zau hD
 refine za7 r (zlB w7 ([(D.zaD a0)]) (hP.row (i := 1) rfl).ro hx10) (fun R hc => zac r rfl cl108 hc) rfl ?_
 rintro _ w11 ⟨mg12, rfl, hq⟩
 refine ⟨_, rfl, fun fr r => ?_⟩
 have hP : Post No [znd b1 ((znc a0)).toArray 25, rowK 3 1 i64 (.slice (some ⟨b6, 0, none⟩) 1 1) ([(D.zaD a0)]), memK mg12 x10.1] w0 w11 := hP.add hq
 refine za0 (.tuple #[(.pointer (some ⟨mg12.mb, 0, none⟩)), (I x10.2)]) r (fun R => zaa r rfl) rfl fun fr r => za0 (.pointer (some ⟨mg12.mb, 0, none⟩)) r (fun R => zaV r (vs := #[(.pointer (some ⟨mg12.mb, 0, none⟩)), (I x10.2)]) rfl rfl) rfl fun fr r => za0 (I x10.2) r (fun R => zaV r (vs := #[(.pointer (some ⟨mg12.mb, 0, none⟩)), (I x10.2)]) rfl rfl) rfl fun fr r => za0 (.pointer (some ⟨mg12.mb, 0, none⟩)) r (fun R => za8 r rfl) rfl fun fr r => za0 (I x10.2) r (fun R => za8 r rfl) rfl fun fr r => wn (wp_seq (wp_seq ?_))
 have hP : Post No [znd b1 ((znc a0)).toArray 25, memK mg12 x10.1] w0 w11 := hP.pick [0, 2] rfl rfl
 refine zca (N := 37) (Y := Bool) (G := Unit) (fun x γ => [(0, (.agg (znc a0).toArray)), (1, (.pointer (some ⟨b1, 0, none⟩))), (2, (.pointer none)), (3, (.pointer (some ⟨mg12.mb, 0, none⟩))), (4, (I x10.2)), (20, (.bool x))]) (fun x γ w => Post No [znd b1 ((znc a0)).toArray 25, memK mg12 x10.1] w0 w) hD ?_ ?_
 ·
  rintro y14 RPy14 nxy14 hD
  refine wp_region_lit (za0 (I x10.2) r (fun R => zaa r rfl) rfl fun fr r => za0 _ r (fun R => zni r rfl rfl rfl rfl) rfl fun fr r => za0 (.bool (x10.2 != 0)) r (fun R => zaa r rfl) rfl fun fr r => ?_)
  refine zaI (x10.2 != 0) (fun h15 => ?_) (fun h15 => ?_)
  ·
   have hD := (zap h15).symm.trans hD
   refine s0 r h15 fun fr r => s0 r h15 fun fr r => za0 (.bool true) r (fun R => zaq r (b := true) (congrArg Value.bool h15) rfl) rfl fun fr r => wn ?_
   exact nxy14 true () _ _ _ hD r (za2 rfl (za2 rfl (za2 rfl (za2 rfl (za2 rfl (za2 rfl zaT)))))) (hP.pick [0, 1] rfl rfl)
  ·
   have hD := (zak h15).symm.trans hD
   refine s1 r h15 (za0 (.pointer (some ⟨mg12.mb, 0, none⟩)) r (fun R => zaa r rfl) rfl fun fr r => s1 r h15 (za0 _ r (fun R => zni r rfl rfl rfl rfl) rfl fun fr r => za0 (.bool false) r (fun R => zaq r (b := false) (congrArg Value.bool h15) rfl) rfl fun fr r => wn ?_))
   exact nxy14 false () _ _ _ hD r (za2 rfl (za2 rfl (za2 rfl (za2 rfl (za2 rfl (za2 rfl zaT)))))) (hP.pick [0, 1] rfl rfl)
 ·
  rintro x16 γ17 fr w18 g r hP hD
  have hP : Post No [znd b1 ((znc a0)).toArray 25, memK mg12 x10.1] w0 w18 := hP
  refine wp_cond_split (t := x16) (r.ev rfl) (fun h19 => ?_) (fun h19 => ?_)
  ·
   have hD := (zap h19).symm.trans hD
   refine wsr (za0 (.pointer none) r (fun R => za8 r rfl) rfl fun fr r => wn (wp_ret ?_))
   exact nomatch hD
  ·
   have hD := (zak h19).symm.trans hD
   refine wp_skip (wp_seq ?_)
   obtain ⟨x21, hx21, hD⟩ := zau hD
   obtain ⟨x22, hx22, hD⟩ := zau hD
   refine zhh mg12.bs [.val (.agg (znc a0).toArray), .pred (PrP Tryz.prog znj (fu, (D.ze5 (fu + 1) a0))) (PrP.st _), .val (.pointer (some ⟨mg12.mb, 0, none⟩)), .val (.pointer (some ⟨mg12.mb, 0, none⟩)), .val (.agg (capC x21).toArray), .val (.pointer (some ⟨b1, 0, none⟩)), .val (I a0.nodes), .val (I (W (a0.nodes + 1))), .eff (EffP w18.heap.size (memK mg12 x22.2.2.2) (fun _ : Unit => (.tuple #[(.agg #[]), (I x22.2.1), (.bool x22.2.2.1)])) (fun _ : Unit => [])) (EffP.st _ _ _ _), .val (.tuple #[(.agg #[]), (I x22.2.1), (.bool x22.2.2.1)]), .val (.agg #[]), .val (I x22.2.1), .val (.bool x22.2.2.1), .cell 181 0, .stored 13 #[] 181 0 rfl, .val (I x22.2.1), .val (.bool x22.2.2.1)] mixed r (fun b hb => hP.sep.lt (i := 1) rfl (.inl hb)) (by kernel_rfl) ?_ ?_
   ·
    refine zaC r rfl (fun fr1 g w' hk' hd r' => ?_) ?_
    · exact za6 r' (cs := (znc a0)) (n := 6) rfl (hP.cellK (j := 1) rfl (drK hk') (i := 0) rfl rfl) ta25 rfl ⟨Below.refl _ _, rfl⟩
    refine zbh r rfl (by kernel_rfl) (fun fr1 g w' hb' hd r' => ?_) ?_
    · exact zac r' (args := [(.agg (znc a0).toArray)]) (lc (hd 0 rfl).1 l0) cl111 ((zjT (F := No) (n := fu) (j := fu + 1) (fun _ h => h.elim) (by omega) a0).mono (by rintro _ w2 ⟨y, rfl, hb2, hr2⟩; exact ⟨_, rfl, hb2, zhB hr2⟩))
    refine zbh r rfl (by kernel_rfl) (fun fr1 g w' hb' hd r' => ?_) ?_
    · exact zaa r' (v := (.pointer (some ⟨mg12.mb, 0, none⟩))) rfl ⟨Below.refl _ _, rfl⟩
    refine zaC r rfl (fun fr1 g w' hk' hd r' => ?_) ?_
    · exact zaa r' (v := (.pointer (some ⟨mg12.mb, 0, none⟩))) rfl ⟨Below.refl _ _, rfl⟩
    refine zbh r rfl (by kernel_rfl) (fun fr1 g w' hb' hd r' => ?_) ?_
    · exact zac r' (args := [(.pointer (some ⟨mg12.mb, 0, none⟩)), (I 0)]) (lc (hd 3 rfl).1 (lc rfl l0)) cl31 ((zcb _ x10.1 ((hP.below (dr hb')).mem (i := 1) rfl) 0 hx21).mono (by rintro _ w2 ⟨rfl, hb2⟩; exact ⟨_, rfl, hb2, rfl⟩))
    refine zaC r rfl (fun fr1 g w' hk' hd r' => ?_) ?_
    · exact za4 r' (b := b1) (o := 0) (k := 0) rfl zfQ ⟨Below.refl _ _, rfl⟩
    refine zaC r rfl (fun fr1 g w' hk' hd r' => ?_) ?_
    · exact za3 r' (v := (I a0.nodes)) (hd 5 rfl).1 (hP.cellK (j := 1) rfl (drK hk') (i := 0) rfl rfl) to3 rfl ⟨Below.refl _ _, rfl⟩
    refine zbh r rfl (by kernel_rfl) (fun fr1 g w' hb' hd r' => ?_) ?_
    · exact zni r' (u := (I a0.nodes)) (u' := (I 1)) (v := (I (W (a0.nodes + 1)))) (hd 6 rfl).1 rfl rfl rfl ⟨Below.refl _ _, rfl⟩
    refine zbh r rfl (by kernel_rfl) (fun fr1 g w' hb' hd r' => ?_) ?_
    · exact zac r' (args := [(g 1).v, (.pointer (some ⟨mg12.mb, 0, none⟩)), (.agg (capC x21).toArray), (I (W (a0.nodes + 1)))]) (lc rfl (lc (hd 2 rfl).1 (lc (hd 4 rfl).1 (lc (hd 7 rfl).1 l0)))) cl110 ((ziD _ (fu, (D.ze5 (fu + 1) a0)) x10.1 x21 (W (a0.nodes + 1)) (Sep.beside (hd 1 rfl).1 ((hP.below (dr hb')).sep.pk [1] rfl rfl) (by intro c hc b hb; simp only [List.mem_cons, List.not_mem_nil, or_false] at hc; rcases hc with rfl; exact hP.sep.lt (i := 1) rfl hb) (hd 1 rfl).2.1) hx22).mono (by rintro _ w2 ⟨rfl, hq⟩; exact ⟨_, rfl, hq.chg.kept, EffP.of () hq rfl (fun b hb => hP.sep.lt (i := 1) rfl hb)⟩))
    refine zaC r rfl (fun fr1 g w' hk' hd r' => ?_) ?_
    · exact zaa r' (v := (.tuple #[(.agg #[]), (I x22.2.1), (.bool x22.2.2.1)])) (EffP.val (hd 8 rfl).1) ⟨Below.refl _ _, rfl⟩
    refine zaC r rfl (fun fr1 g w' hk' hd r' => ?_) ?_
    · exact zaV r' (vs := #[(.agg #[]), (I x22.2.1), (.bool x22.2.2.1)]) (hd 9 rfl).1 rfl ⟨Below.refl _ _, rfl⟩
    refine zaC r rfl (fun fr1 g w' hk' hd r' => ?_) ?_
    · exact zaV r' (vs := #[(.agg #[]), (I x22.2.1), (.bool x22.2.2.1)]) (hd 9 rfl).1 rfl ⟨Below.refl _ _, rfl⟩
    refine zaC r rfl (fun fr1 g w' hk' hd r' => ?_) ?_
    · exact zaV r' (vs := #[(.agg #[]), (I x22.2.1), (.bool x22.2.2.1)]) (hd 9 rfl).1 rfl ⟨Below.refl _ _, rfl⟩
    refine zaC r rfl (fun fr1 g w' hk' hd r' => ?_) ?_
    · exact zag tz181 (fun b w2 n2 => ⟨n2.below, b, rfl, n2.eq, _, n2.at_, rfl⟩)
    refine zaC r rfl (fun fr1 g w' hk' hd r' => ?_) ?_
    · obtain ⟨hp, _, c, hc, hn⟩ := (hd 13 rfl).1; exact zaN r' (o := 0) (c := c) (v := (.agg #[])) hp (hd 10 rfl).1 hc ts181 (by rw [hn]; exact Nat.le_of_ble_eq_true rfl) rfl (zhW (hn.trans rfl)) (fun w2 u2 => ⟨u2, rfl⟩)
    refine zaC r rfl (fun fr1 g w' hk' hd r' => ?_) ?_
    · exact za8 r' (v := (I x22.2.1)) (hd 11 rfl).1 ⟨Below.refl _ _, rfl⟩
    refine zaC r rfl (fun fr1 g w' hk' hd r' => ?_) ?_
    · exact za8 r' (v := (.bool x22.2.2.1)) (hd 12 rfl).1 ⟨Below.refl _ _, rfl⟩
    exact zbW
   ·
    intro fr gg w24 hb hΦ hap r
    obtain ⟨v20, hv1⟩ : ∃ v, v = (gg 1).v := ⟨_, rfl⟩
    have g1 : (gg 1).v = v20 := hv1.symm
    have hs1 : Fresh [progK Tryz.prog znj (fu, (D.ze5 (fu + 1) a0)) v20 (rg (gg 1).lo (gg 1).hi)] (gg 1).lo (gg 1).hi w24 := by subst hv1; exact (hΦ 1 rfl).1
    obtain ⟨⟨⟩, g8, hcE, _, hs8⟩ := (hΦ 8 rfl).1
    obtain ⟨b23, ee_b23⟩ : ∃ b, b = (gg 13).lo := ⟨_, rfl⟩
    have g13 : (gg 13).v = (.pointer (some ⟨b23, 0, none⟩)) := by rw [ee_b23]; exact (hΦ 13 rfl).1.1
    have h_b23 : w24.heap[b23]? = some (.cells #[] 181 (0, 0)) := by rw [ee_b23]; exact (hΦ 14 rfl).1.2
    have hs13 : Fresh [znd b23 #[] 181] (gg 13).lo (gg 13).hi w24 := by subst ee_b23; exact Fresh.cell (hΦ 13 rfl).1.2.1 h_b23
    have r := r.congr (sc ((hΦ 16 rfl).1) (sc ((hΦ 15 rfl).1) (sc g13 (sc ((hΦ 12 rfl).1) (sc ((hΦ 11 rfl).1) (sc ((hΦ 10 rfl).1) (sc ((hΦ 9 rfl).1) (sc g8 (sc ((hΦ 7 rfl).1) (sc ((hΦ 6 rfl).1) (sc ((hΦ 5 rfl).1) (sc ((hΦ 4 rfl).1) (sc ((hΦ 3 rfl).1) (sc ((hΦ 2 rfl).1) (sc g1 (sc ((hΦ 0 rfl).1) rfl))))))))))))))))
    have hP : Post No [znd b1 ((znc a0)).toArray 25, memK mg12 x22.2.2.2, progK Tryz.prog znj (fu, (D.ze5 (fu + 1) a0)) v20 (rg (gg 1).lo (gg 1).hi), znd b23 #[] 181] w0 w24 := hP.effL (i := 1) (l := [([progK Tryz.prog znj (fu, (D.ze5 (fu + 1) a0)) v20 (rg (gg 1).lo (gg 1).hi)], (gg 1).lo, (gg 1).hi), ([znd b23 #[] 181], (gg 13).lo, (gg 13).hi)]) rfl hb hcE rfl rfl ⟨hs1, (hΦ 1 rfl).2.1, (zjV (hap 1 13 rfl) zeZ), ⟨hs13, (hΦ 13 rfl).2.1, zeZ, trivial⟩⟩
    refine wp_seq (wsr (za0 (.bool x22.2.2.1) r (fun R => zaa r rfl) rfl fun fr r => za0 (.bool (!x22.2.2.1)) r (fun R => y_un r (u := (.bool x22.2.2.1)) rfl rfl) rfl fun fr r => wn ?_))
    refine wp_cond_split (t := (!x22.2.2.1)) (r.ev rfl) (fun h25 => ?_) (fun h25 => ?_)
    ·
     have hD := (zap h25).symm.trans hD
     refine wsr (za0 (.pointer none) r (fun R => za8 r rfl) rfl fun fr r => wn (wp_ret ?_))
     exact nomatch hD
    ·
     have hD := (zak h25).symm.trans hD
     refine wp_skip (wsr (za0 (.pointer (some ⟨mg12.mb, 0, none⟩)) r (fun R => zaa r rfl) rfl fun fr r => za0 (.pointer (some ⟨mg12.mb, 0, none⟩)) r (fun R => za8 r rfl) rfl fun fr r => wn (wp_ret ?_)))
     have hv : x22.2.2.2 = res := Option.some.inj hD
     try dsimp only [Exit.then, Exit.inBlock]
     refine zay (fn := Tryz.f28) r (t := 2) rfl (v := (.pointer (some ⟨mg12.mb, 0, none⟩))) rfl ?_
     subst hv
     exact ⟨mg12, rfl, (hP.pick [1] rfl rfl).done (zbX rfl zch)⟩

end Go.Proofs.YtjkinpbfmihhdaaGreat

/- Written by a program of ours (wip/gen.py): lists of nodes -/
set_option linter.unusedVariables false
set_option maxRecDepth 20000
set_option maxHeartbeats 2000000
namespace Go.Proofs.YtjkinpbfmihhdaaGreat
open Go.RowKit
theorem cl51 : znb Tryz.prog 51 = true := by kernel_rfl

end Go.Proofs.YtjkinpbfmihhdaaGreat
