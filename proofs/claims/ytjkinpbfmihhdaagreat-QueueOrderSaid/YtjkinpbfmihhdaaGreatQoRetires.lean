/- Written by a program of ours (wip/gen.py): nodes that are retired -/
import Derived.Test.YtjkinpbfmihhdaaGreatQoM4
import Derived.Test.YtjkinpbfmihhdaaGreatQoM8
set_option linter.all false
set_option linter.unusedVariables false
set_option maxRecDepth 20000
set_option maxHeartbeats 2000000
namespace Go.Proofs.YtjkinpbfmihhdaaGreat
open Go.RowKit
theorem cl150 : znb Tryz.prog 150 = true := by kernel_rfl

theorem cl164 : znb Tryz.prog 164 = true := by kernel_rfl

theorem cl165 : znb Tryz.prog 165 = true := by kernel_rfl

theorem cl267 : znb Tryz.prog 267 = true := by kernel_rfl

theorem cl293 : znb Tryz.prog 293 = true := by kernel_rfl

theorem cl294 : znb Tryz.prog 294 = true := by kernel_rfl

theorem cl322 : znb Tryz.prog 322 = true := by kernel_rfl

theorem cl323 : znb Tryz.prog 323 = true := by kernel_rfl

theorem cl324 : znb Tryz.prog 324 = true := by kernel_rfl

theorem cl338 : znb Tryz.prog 338 = true := by kernel_rfl

theorem cl339 : znb Tryz.prog 339 = true := by kernel_rfl

theorem cl340 : znb Tryz.prog 340 = true := by kernel_rfl

theorem cl341 : znb Tryz.prog 341 = true := by kernel_rfl

theorem cl342 : znb Tryz.prog 342 = true := by kernel_rfl

theorem cl356 : znb Tryz.prog 356 = true := by kernel_rfl

theorem cl358 : znb Tryz.prog 358 = true := by kernel_rfl

theorem cl359 : znb Tryz.prog 359 = true := by kernel_rfl

theorem cl360 : znb Tryz.prog 360 = true := by kernel_rfl

theorem cl378 : znb Tryz.prog 378 = true := by kernel_rfl

theorem cl390 : znb Tryz.prog 390 = true := by kernel_rfl

theorem cl391 : znb Tryz.prog 391 = true := by kernel_rfl

theorem cl392 : znb Tryz.prog 392 = true := by kernel_rfl

theorem cl393 : znb Tryz.prog 393 = true := by kernel_rfl

theorem cl67 : znb Tryz.prog 67 = true := by kernel_rfl

theorem cl68 : znb Tryz.prog 68 = true := by kernel_rfl

theorem cl91 : znb Tryz.prog 91 = true := by kernel_rfl

theorem zhQ : zno Tryz.prog 300 0 0 = true := by kernel_rfl

theorem zlp : zno Tryz.prog 300 1 1 = true := by kernel_rfl

theorem zkF : zno Tryz.prog 300 2 2 = true := by kernel_rfl

theorem ta300 : tyA Tryz.prog 300 3 = true := by kernel_rfl

theorem ts257 : sized Tryz.prog 257 1 = true := by kernel_rfl

theorem ts300 : sized Tryz.prog 300 3 = true := by kernel_rfl

theorem tz257 : zeroOf Tryz.prog 257 = some .nilFunc := by kernel_rfl

theorem tz300 : zeroOf Tryz.prog 300 = some (.agg (scanC (⟨0, 0, 0⟩ : Scan)).toArray) := by kernel_rfl

def D.zfu (r_retire_zero : Plan → Int → Int → (Unit → T Int) → T Int) (c0 : Plan) (c1 : Int) (c2 : Int) (c3 : (Unit → T Int)) : T Int := (r_retire_zero c0 c1 (IntKind.i64.wrap (c2 + 1)) c3)

def D.zbk (r_retire_zero : Plan → Int → Int → (Unit → T Int) → T Int) (a0 : Plan) (a1 : Int) (a2 : Int) (a3 : (Unit → T Int)) : T Int := (bif (a2 == 3) then (a3 ()) else (D.zba (D.zaw a0 a1 a2) 0 (fun _ => (D.zfu r_retire_zero a0 a1 a2 a3))))

def D.zc1 : Nat → Plan → Int → Int → (Unit → T Int) → T Int
  | 0, _, _, _, _ => .cut
  | k + 1, a0, a1, a2, a3 => D.zbk (D.zc1 k) a0 a1 a2 a3

def zeu (r : Plan → Int → Int → (Unit → T Int) → T Int) (n : Nat) : Prop := ∀ (F : Nat → Prop) (w0 : World), (∀ b, F b → b < w0.heap.size) → ∀ (a0 : Plan) (a1 : Int) (a2 : Int) {a3_f : FuncId} {a3_1 a3_2 : List Value} {a3 : (Unit → T Int)} (a3_n : FnT Tryz.prog zng unitE (n + 1) F w0 (.func (.func a3_f) a3_1.toArray a3_2.toArray) a3), Calls Tryz.prog 338 #[.agg (znc a0).toArray, .int .i64 a1, .int .i64 a2, .func (.func a3_f) a3_1.toArray a3_2.toArray] w0 (znf Tryz.prog zng n (r a0 a1 a2 a3) F w0)

theorem ziy {n : Nat} {F : Nat → Prop} {r_retire_zero : Plan → Int → Int → (Unit → T Int) → T Int} {w0 : World} (hF : ∀ b, F b → b < w0.heap.size) (ih_retire_zero : ∀ m, m ≤ n → zeu r_retire_zero m)
    (c0 : Plan) {c0_b : Nat} (c0_F : F c0_b) (c0_h : w0.heap[c0_b]? = some (.cells ((znc c0)).toArray 25 (0, 0))) (c1 : Int) {c1_b : Nat} (c1_F : F c1_b) (c1_h : w0.heap[c1_b]? = some (.cells ([(.int .i64 c1)]).toArray 3 (0, 0))) (c2 : Int) {c2_b : Nat} (c2_F : F c2_b) (c2_h : w0.heap[c2_b]? = some (.cells ([(.int .i64 c2)]).toArray 3 (0, 0))) {c3_f : FuncId} {c3_1 c3_2 : List Value} {c3 : (Unit → T Int)} {c3_b : Nat} (c3_F : F c3_b) (c3_h : w0.heap[c3_b]? = some (.cells #[.func (.func c3_f) c3_1.toArray c3_2.toArray] 257 (0, 0))) (c3_n : FnT Tryz.prog zng unitE (n + 1) F w0 (.func (.func c3_f) c3_1.toArray c3_2.toArray) c3) :
    Calls Tryz.prog 378 #[.pointer (some ⟨c0_b, 0, none⟩), .pointer (some ⟨c1_b, 0, none⟩), .pointer (some ⟨c2_b, 0, none⟩), .pointer (some ⟨c3_b, 0, none⟩)] w0 (znf Tryz.prog zng n (D.zfu r_retire_zero c0 c1 c2 c3) F w0) := by
 refine enter Tryz.func378 rfl 11 rfl rfl fun fr r => ?_
 have hB := Below.refl w0.heap.size w0
 have l_c0_b := lt_of_block c0_h
 have l_c1_b := lt_of_block c1_h
 have l_c2_b := lt_of_block c2_h
 have l_c3_b := lt_of_block c3_h
 refine wsr ?_
 refine za5 (.cells (zna false zng.zero 0 0 0 0 .nilFunc) 167 (0, 0)) r (fun R => zag tz167) rfl fun fr b1 w2 n3 r => ?_
 obtain ⟨e_b1, z_w2, h_b1, hB, zB⟩ := n3.all hB
 refine wn (wsr (za0 (.agg (znc c0).toArray) r (fun R => za6 r (cs := (znc c0)) (n := 6) rfl (keep hB c0_h) ta25 rfl) rfl fun fr r => za0 (I c1) r (fun R => za3 r rfl (keep hB c1_h) to3 rfl) rfl fun fr r => za0 (I c2) r (fun R => za3 r rfl (keep hB c2_h) to3 rfl) rfl fun fr r => za0 _ r (fun R => zni r rfl rfl rfl rfl) rfl fun fr r => za0 (.func (.func c3_f) c3_1.toArray c3_2.toArray) r (fun R => za3 r rfl (keep hB c3_h) to257 rfl) rfl fun fr r => ?_))
 have hF1 := fgrow hF hB b1
 refine za7 r ((ih_retire_zero n (by omega)) (fun b => F b ∨ (w0.heap.size ≤ b ∧ b < w2.heap.size ∧ b ≠ b1)) _ hF1 c0 c1 (W (c2 + 1)) (c3_n.mono (by omega) (fun b h => .inl h) (Same.below hB hF) hB.size)) (fun R hc => zac r rfl cl338 hc) rfl ?_
 rintro _ w4 ⟨v5, rfl, hb, hr6⟩
 refine ⟨_, rfl, fun fr r => ?_⟩
 have z_w4 := hb.size
 have h_b1 := keep hb h_b1
 obtain ⟨hB, zB⟩ := bon hb hB
 refine zae (.cells v5.cells 167 (0, 0)) r (fun R => zaf r hr6.shape rfl rfl h_b1 ts167 rfl) rfl fun fr w7 u8 r => ?_
 have z_w7 := u8.size
 have h_b1 := u8.at_
 obtain ⟨hB, zB⟩ := u8.on hB (by omega)
 refine wn (wp_ret ?_)
 have hs := hr6.shape.cells
 refine zad r rfl rfl h_b1 (k := 7) hs.1 ta167 ?_
 rw [← hs.2.2]
 exact rfin hF hB hr6 u8 (by omega) (by omega) (by omega)

theorem zjo {n : Nat} {F : Nat → Prop} {r_retire_zero : Plan → Int → Int → (Unit → T Int) → T Int} {w0 : World} (hF : ∀ b, F b → b < w0.heap.size) (ih_retire_zero : ∀ m, m < n → zeu r_retire_zero m)
    (a0 : Plan) (a1 : Int) (a2 : Int) {a3_f : FuncId} {a3_1 a3_2 : List Value} {a3 : (Unit → T Int)} (a3_n : FnT Tryz.prog zng unitE (n + 1) F w0 (.func (.func a3_f) a3_1.toArray a3_2.toArray) a3) :
    Calls Tryz.prog 338 #[.agg (znc a0).toArray, .int .i64 a1, .int .i64 a2, .func (.func a3_f) a3_1.toArray a3_2.toArray] w0 (znf Tryz.prog zng n (D.zbk r_retire_zero a0 a1 a2 a3) F w0) := by
 refine enter Tryz.func338 rfl 19 rfl rfl fun fr r => ?_
 have hB := Below.refl w0.heap.size w0
 refine wsr ?_
 refine za5 (.cells ((znc a0)).toArray 25 (0, 0)) r (fun R => znm r (v := (.agg (znc a0).toArray)) rfl) rfl fun fr b1 w2 n3 r => ?_
 obtain ⟨e_b1, z_w2, h_b1, hB, zB⟩ := n3.all hB
 refine za5 (.cells #[(I a1)] 3 (0, 0)) r (fun R => znm r (v := (I a1)) rfl) rfl fun fr b4 w5 n6 r => ?_
 have h_b1 := keep n6.below h_b1
 obtain ⟨e_b4, z_w5, h_b4, hB, zB⟩ := n6.all hB
 refine za5 (.cells #[(I a2)] 3 (0, 0)) r (fun R => znm r (v := (I a2)) rfl) rfl fun fr b7 w8 n9 r => ?_
 have h_b1 := keep n9.below h_b1
 have h_b4 := keep n9.below h_b4
 obtain ⟨e_b7, z_w8, h_b7, hB, zB⟩ := n9.all hB
 refine za5 (.cells #[.func (.func a3_f) a3_1.toArray a3_2.toArray] 257 (0, 0)) r (fun R => znm r (v := (.func (.func a3_f) a3_1.toArray a3_2.toArray)) rfl) rfl fun fr b10 w11 n12 r => ?_
 have h_b1 := keep n12.below h_b1
 have h_b4 := keep n12.below h_b4
 have h_b7 := keep n12.below h_b7
 obtain ⟨e_b10, z_w11, h_b10, hB, zB⟩ := n12.all hB
 refine za5 (.cells (zna false zng.zero 0 0 0 0 .nilFunc) 167 (0, 0)) r (fun R => zag tz167) rfl fun fr b13 w14 n15 r => ?_
 have h_b1 := keep n15.below h_b1
 have h_b4 := keep n15.below h_b4
 have h_b7 := keep n15.below h_b7
 have h_b10 := keep n15.below h_b10
 obtain ⟨e_b13, z_w14, h_b13, hB, zB⟩ := n15.all hB
 refine wn (wp_seq (wsr (za0 (I a2) r (fun R => za3 r rfl h_b7 to3 rfl) rfl fun fr r => za0 _ r (fun R => zni r rfl rfl rfl rfl) rfl fun fr r => wn ?_)))
 refine wp_cond_split (t := (a2 == 3)) (r.ev rfl) (fun h16 => ?_) (fun h16 => ?_)
 ·
  refine wsr (za0 (.func (.func a3_f) a3_1.toArray a3_2.toArray) r (fun R => za3 r rfl h_b10 to257 rfl) rfl fun fr r => ?_)
  refine za7 r (a3_n.at_.2 n (Nat.lt_succ_self n) () w14 (Same.below hB hF) hB.size) (fun R hc => zfD r rfl a3_n.at_.1 hc) rfl ?_
  rintro _ w17 ⟨v18, rfl, hb, hr19⟩
  refine ⟨_, rfl, fun fr r => ?_⟩
  have z_w17 := hb.size
  have h_b1 := keep hb h_b1
  have h_b4 := keep hb h_b4
  have h_b7 := keep hb h_b7
  have h_b10 := keep hb h_b10
  have h_b13 := keep hb h_b13
  obtain ⟨hB, zB⟩ := bon hb hB
  refine zae (.cells v18.cells 167 (0, 0)) r (fun R => zaf r hr19.shape rfl rfl h_b13 ts167 rfl) rfl fun fr w20 u21 r => ?_
  have z_w20 := u21.size
  have h_b1 := u21.keep h_b1 (by omega)
  have h_b4 := u21.keep h_b4 (by omega)
  have h_b7 := u21.keep h_b7 (by omega)
  have h_b10 := u21.keep h_b10 (by omega)
  have h_b13 := u21.at_
  obtain ⟨hB, zB⟩ := u21.on hB (by omega)
  refine wn (wp_ret ?_)
  have hd : D.zbk r_retire_zero a0 a1 a2 a3 = (a3 ()) := (zap h16).trans (rfl)
  have hs := hr19.shape.cells
  refine zad r rfl rfl h_b13 (k := 7) hs.1 ta167 ?_
  rw [← hs.2.2, hd]
  exact znf.fin hB hr19 u21 (fun b hb => .inl hb) (fun h => by have := hF _ h; omega) (by omega) (by omega) (by omega)
 ·
  refine wp_skip (wsr (za0 (.agg (znc a0).toArray) r (fun R => za6 r (cs := (znc a0)) (n := 6) rfl h_b1 ta25 rfl) rfl fun fr r => za0 (I a1) r (fun R => za3 r rfl h_b4 to3 rfl) rfl fun fr r => za0 (I a2) r (fun R => za3 r rfl h_b7 to3 rfl) rfl fun fr r => ?_))
  refine za7 r (zbN w14 a0 a1 a2) (fun R hc => zac r rfl cl150 hc) rfl ?_
  rintro _ w22 ⟨rfl, hb⟩
  refine ⟨_, rfl, fun fr r => ?_⟩
  have z_w22 := hb.size
  have h_b1 := keep hb h_b1
  have h_b4 := keep hb h_b4
  have h_b7 := keep hb h_b7
  have h_b10 := keep hb h_b10
  have h_b13 := keep hb h_b13
  obtain ⟨hB, zB⟩ := bon hb hB
  refine za0 (.func (.func 378) #[] #[.pointer (some ⟨b1, 0, none⟩), .pointer (some ⟨b4, 0, none⟩), .pointer (some ⟨b7, 0, none⟩), .pointer (some ⟨b10, 0, none⟩)]) r (fun R => zan r rfl) rfl fun fr r => ?_
  have hF1 := fgrow hF hB b13
  have f23 : ((fun b => F b ∨ (w0.heap.size ≤ b ∧ b < w22.heap.size ∧ b ≠ b13))) b1 := (.inr ⟨by omega, by omega, by omega⟩)
  have f24 : ((fun b => F b ∨ (w0.heap.size ≤ b ∧ b < w22.heap.size ∧ b ≠ b13))) b4 := (.inr ⟨by omega, by omega, by omega⟩)
  have f25 : ((fun b => F b ∨ (w0.heap.size ≤ b ∧ b < w22.heap.size ∧ b ≠ b13))) b7 := (.inr ⟨by omega, by omega, by omega⟩)
  have f26 : ((fun b => F b ∨ (w0.heap.size ≤ b ∧ b < w22.heap.size ∧ b ≠ b13))) b10 := (.inr ⟨by omega, by omega, by omega⟩)
  refine za7 r (zbE (F := (fun b => F b ∨ (w0.heap.size ≤ b ∧ b < w22.heap.size ∧ b ≠ b13))) (n := n) hF1 (D.zaw a0 a1 a2) 0 ⟨378, [], [.pointer (some ⟨b1, 0, none⟩), .pointer (some ⟨b4, 0, none⟩), .pointer (some ⟨b7, 0, none⟩), .pointer (some ⟨b10, 0, none⟩)], cl378, rfl, fun m hm _ w' hs hz => ziy (fun b hb => Nat.lt_of_lt_of_le (hF1 b hb) hz) (fun m' hm' => ih_retire_zero m' (by omega)) a0 f23 (hs.at_ f23 h_b1) a1 f24 (hs.at_ f24 h_b4) a2 f25 (hs.at_ f25 h_b7) f26 (hs.at_ f26 h_b10) (a3_n.mono (by omega) (fun b h => .inl h) ((Same.below hB hF).trans (hs.sub (fun b h => .inl h))) (Nat.le_trans hB.size hz))⟩) (fun R hc => zac r rfl cl200 hc) rfl ?_
  rintro _ w27 ⟨v28, rfl, hb, hr29⟩
  refine ⟨_, rfl, fun fr r => ?_⟩
  have z_w27 := hb.size
  have h_b1 := keep hb h_b1
  have h_b4 := keep hb h_b4
  have h_b7 := keep hb h_b7
  have h_b10 := keep hb h_b10
  have h_b13 := keep hb h_b13
  obtain ⟨hB, zB⟩ := bon hb hB
  refine zae (.cells v28.cells 167 (0, 0)) r (fun R => zaf r hr29.shape rfl rfl h_b13 ts167 rfl) rfl fun fr w30 u31 r => ?_
  have z_w30 := u31.size
  have h_b1 := u31.keep h_b1 (by omega)
  have h_b4 := u31.keep h_b4 (by omega)
  have h_b7 := u31.keep h_b7 (by omega)
  have h_b10 := u31.keep h_b10 (by omega)
  have h_b13 := u31.at_
  obtain ⟨hB, zB⟩ := u31.on hB (by omega)
  refine wn (wp_ret ?_)
  have hd : D.zbk r_retire_zero a0 a1 a2 a3 = (D.zba (D.zaw a0 a1 a2) 0 (fun _ => (D.zfu r_retire_zero a0 a1 a2 a3))) := (zak h16).trans (rfl)
  have hs := hr29.shape.cells
  refine zad r rfl rfl h_b13 (k := 7) hs.1 ta167 ?_
  rw [← hs.2.2, hd]
  exact rfin hF hB hr29 u31 (by omega) (by omega) (by omega)

theorem zjM {n : Nat} {k : Nat} (hk : n < k) : zeu (D.zc1 k) n := by
  induction n using Nat.strongRecOn generalizing k with
  | _ n ih =>
    obtain ⟨k, rfl⟩ : ∃ q, k = q + 1 := ⟨k - 1, by omega⟩
    intro F w0 hF
    have h := @zjo n F (D.zc1 k) w0 hF (fun m hm => ih m hm (by omega))
    exact h

def D.zbc (j : Nat) (c0 : State) (c1 : Plan) (c2 : Int) : T Int := (bif (c0.mode == 3) then (D.zaW (-1)) else (D.zcY j c1 c2))

theorem zfV {n : Nat} {F : Nat → Prop} {j : Nat} {w0 : World} (hF : ∀ b, F b → b < w0.heap.size) (hj : n < j)
    (c0 : State) {c0_b : Nat} (c0_F : F c0_b) (c0_h : w0.heap[c0_b]? = some (.cells ((znl c0)).toArray 118 (0, 0))) (c1 : Plan) {c1_b : Nat} (c1_F : F c1_b) (c1_h : w0.heap[c1_b]? = some (.cells ((znc c1)).toArray 25 (0, 0))) (c2 : Int) {c2_b : Nat} (c2_F : F c2_b) (c2_h : w0.heap[c2_b]? = some (.cells ([(.int .i64 c2)]).toArray 3 (0, 0))) :
    Calls Tryz.prog 342 #[.pointer (some ⟨c0_b, 0, none⟩), .pointer (some ⟨c1_b, 0, none⟩), .pointer (some ⟨c2_b, 0, none⟩)] w0 (znf Tryz.prog zng n (D.zbc j c0 c1 c2) F w0) := by
 refine enter Tryz.func342 rfl 11 rfl rfl fun fr r => ?_
 have hB := Below.refl w0.heap.size w0
 have l_c0_b := lt_of_block c0_h
 have l_c1_b := lt_of_block c1_h
 have l_c2_b := lt_of_block c2_h
 refine wsr ?_
 refine za5 (.cells (zna false zng.zero 0 0 0 0 .nilFunc) 167 (0, 0)) r (fun R => zag tz167) rfl fun fr b1 w2 n3 r => ?_
 obtain ⟨e_b1, z_w2, h_b1, hB, zB⟩ := n3.all hB
 refine wn (wp_seq (wsr (za0 _ r (fun R => za4 r (o := 0) rfl ziw) rfl fun fr r => za0 (I c0.mode) r (fun R => za3 r rfl (keep hB c0_h) to3 rfl) rfl fun fr r => za0 _ r (fun R => zni r rfl rfl rfl rfl) rfl fun fr r => wn ?_)))
 refine wp_cond_split (t := (c0.mode == 3)) (r.ev rfl) (fun h4 => ?_) (fun h4 => ?_)
 ·
  refine wsr ?_
  have hF1 := fgrow hF hB b1
  refine za7 r (zbi (F := (fun b => F b ∨ (w0.heap.size ≤ b ∧ b < w2.heap.size ∧ b ≠ b1))) (n := n) hF1 (-1)) (fun R hc => zac r rfl cl229 hc) rfl ?_
  rintro _ w5 ⟨v6, rfl, hb, hr7⟩
  refine ⟨_, rfl, fun fr r => ?_⟩
  have z_w5 := hb.size
  have h_b1 := keep hb h_b1
  obtain ⟨hB, zB⟩ := bon hb hB
  refine zae (.cells v6.cells 167 (0, 0)) r (fun R => zaf r hr7.shape rfl rfl h_b1 ts167 rfl) rfl fun fr w8 u9 r => ?_
  have z_w8 := u9.size
  have h_b1 := u9.at_
  obtain ⟨hB, zB⟩ := u9.on hB (by omega)
  refine wn (wp_ret ?_)
  have hd : D.zbc j c0 c1 c2 = (D.zaW (-1)) := (zap h4).trans (rfl)
  have hs := hr7.shape.cells
  refine zad r rfl rfl h_b1 (k := 7) hs.1 ta167 ?_
  rw [← hs.2.2, hd]
  exact rfin hF hB hr7 u9 (by omega) (by omega) (by omega)
 ·
  refine wp_skip (wsr (za0 (.agg (znc c1).toArray) r (fun R => za6 r (cs := (znc c1)) (n := 6) rfl (keep hB c1_h) ta25 rfl) rfl fun fr r => za0 (I c2) r (fun R => za3 r rfl (keep hB c2_h) to3 rfl) rfl fun fr r => ?_))
  have hF1 := fgrow hF hB b1
  refine za7 r ((zkp (k := j) (n := n) (by omega)) (fun b => F b ∨ (w0.heap.size ≤ b ∧ b < w2.heap.size ∧ b ≠ b1)) _ hF1 c1 c2) (fun R hc => zac r rfl cl343 hc) rfl ?_
  rintro _ w10 ⟨v11, rfl, hb, hr12⟩
  refine ⟨_, rfl, fun fr r => ?_⟩
  have z_w10 := hb.size
  have h_b1 := keep hb h_b1
  obtain ⟨hB, zB⟩ := bon hb hB
  refine zae (.cells v11.cells 167 (0, 0)) r (fun R => zaf r hr12.shape rfl rfl h_b1 ts167 rfl) rfl fun fr w13 u14 r => ?_
  have z_w13 := u14.size
  have h_b1 := u14.at_
  obtain ⟨hB, zB⟩ := u14.on hB (by omega)
  refine wn (wp_ret ?_)
  have hd : D.zbc j c0 c1 c2 = (D.zcY j c1 c2) := (zak h4).trans (rfl)
  have hs := hr12.shape.cells
  refine zad r rfl rfl h_b1 (k := 7) hs.1 ta167 ?_
  rw [← hs.2.2, hd]
  exact rfin hF hB hr12 u14 (by omega) (by omega) (by omega)

def D.zdK (j : Nat) (c0 : Plan) (c1 : Int) (a0 : Int) : T Int := (D.zba (D.zaK c0 c1) (D.zao (D.zaj ((D.zav a0).1) c0.gen)) (fun _ => (D.zbc j (D.zaj ((D.zav a0).1) c0.gen) c0 c1)))

theorem zgC {n : Nat} {F : Nat → Prop} {j : Nat} {w0 : World} (hF : ∀ b, F b → b < w0.heap.size) (hj : n < j)
    (c0 : Plan) {c0_b : Nat} (c0_F : F c0_b) (c0_h : w0.heap[c0_b]? = some (.cells ((znc c0)).toArray 25 (0, 0))) (c1 : Int) {c1_b : Nat} (c1_F : F c1_b) (c1_h : w0.heap[c1_b]? = some (.cells ([(.int .i64 c1)]).toArray 3 (0, 0))) (a0 : Int) :
    Calls Tryz.prog 340 #[.int .u64 a0, .pointer (some ⟨c0_b, 0, none⟩), .pointer (some ⟨c1_b, 0, none⟩)] w0 (znf Tryz.prog zng n (D.zdK j c0 c1 a0) F w0) := by
 refine enter Tryz.func340 rfl 24 rfl rfl fun fr r => ?_
 have hB := Below.refl w0.heap.size w0
 have l_c0_b := lt_of_block c0_h
 have l_c1_b := lt_of_block c1_h
 refine wsr ?_
 refine za5 (.cells (zna false zng.zero 0 0 0 0 .nilFunc) 167 (0, 0)) r (fun R => zag tz167) rfl fun fr b1 w2 n3 r => ?_
 obtain ⟨e_b1, z_w2, h_b1, hB, zB⟩ := n3.all hB
 refine wn (wsr (za0 (U a0) r (fun R => zaa r rfl) rfl fun fr r => ?_))
 refine za7 r (zfm w2 a0) (fun R hc => zac r rfl cl67 hc) rfl ?_
 rintro _ w4 ⟨rfl, hb⟩
 refine ⟨_, rfl, fun fr r => ?_⟩
 have z_w4 := hb.size
 have h_b1 := keep hb h_b1
 obtain ⟨hB, zB⟩ := bon hb hB
 refine za0 (.tuple #[(.agg (znl (D.zav a0).1).toArray), (.bool (D.zav a0).2)]) r (fun R => zaa r rfl) rfl fun fr r => za0 (.agg (znl (D.zav a0).1).toArray) r (fun R => zaV r (vs := #[(.agg (znl (D.zav a0).1).toArray), (.bool (D.zav a0).2)]) rfl rfl) rfl fun fr r => za0 (.bool (D.zav a0).2) r (fun R => zaV r (vs := #[(.agg (znl (D.zav a0).1).toArray), (.bool (D.zav a0).2)]) rfl rfl) rfl fun fr r => ?_
 refine za5 (.cells ((znl (⟨0, 0, 0⟩ : State))).toArray 118 (0, 0)) r (fun R => zag tz118) rfl fun fr b5 w6 n7 r => ?_
 have h_b1 := keep n7.below h_b1
 obtain ⟨e_b5, z_w6, h_b5, hB, zB⟩ := n7.all hB
 refine zae (.cells ((znl ((D.zav a0).1))).toArray 118 (0, 0)) r (fun R => zaN r (o := 0) (v := (.agg (znl (D.zav a0).1).toArray)) rfl rfl h_b5 ts118 (Nat.le_of_ble_eq_true rfl) rfl rfl) rfl fun fr w8 u9 r => ?_
 have z_w8 := u9.size
 have h_b1 := u9.keep h_b1 (by omega)
 have h_b5 := u9.at_
 obtain ⟨hB, zB⟩ := u9.on hB (by omega)
 refine za0 (.bool (D.zav a0).2) r (fun R => za8 r rfl) rfl fun fr r => wn (wsr (za0 (.agg (znl (D.zav a0).1).toArray) r (fun R => za6 r (cs := (znl ((D.zav a0).1))) (n := 3) rfl h_b5 ta118 rfl) rfl fun fr r => za0 _ r (fun R => za4 r (o := 0) rfl zl0) rfl fun fr r => za0 (I c0.gen) r (fun R => za3 r rfl (keep hB c0_h) to3 rfl) rfl fun fr r => ?_))
 refine za7 r (zgX w8 ((D.zav a0).1) c0.gen) (fun R hc => zac r rfl cl341 hc) rfl ?_
 rintro _ w10 ⟨rfl, hb⟩
 refine ⟨_, rfl, fun fr r => ?_⟩
 have z_w10 := hb.size
 have h_b1 := keep hb h_b1
 have h_b5 := keep hb h_b5
 obtain ⟨hB, zB⟩ := bon hb hB
 refine za5 (.cells ((znl (⟨0, 0, 0⟩ : State))).toArray 118 (0, 0)) r (fun R => zag tz118) rfl fun fr b11 w12 n13 r => ?_
 have h_b1 := keep n13.below h_b1
 have h_b5 := keep n13.below h_b5
 obtain ⟨e_b11, z_w12, h_b11, hB, zB⟩ := n13.all hB
 refine zae (.cells ((znl (D.zaj ((D.zav a0).1) c0.gen))).toArray 118 (0, 0)) r (fun R => zaN r (o := 0) (v := (.agg (znl (D.zaj ((D.zav a0).1) c0.gen)).toArray)) rfl rfl h_b11 ts118 (Nat.le_of_ble_eq_true rfl) rfl rfl) rfl fun fr w14 u15 r => ?_
 have z_w14 := u15.size
 have h_b1 := u15.keep h_b1 (by omega)
 have h_b5 := u15.keep h_b5 (by omega)
 have h_b11 := u15.at_
 obtain ⟨hB, zB⟩ := u15.on hB (by omega)
 refine wn (wp_seq ?_)
 refine zaG 6 [.val (.agg (znc c0).toArray), .val (I c1), .val (I (D.zaK c0 c1)), .val (.agg (znl (D.zaj ((D.zav a0).1) c0.gen)).toArray), .val (U (D.zao (D.zaj ((D.zav a0).1) c0.gen))), .val (.func (.func 342) #[] #[.pointer (some ⟨b11, 0, none⟩), .pointer (some ⟨c0_b, 0, none⟩), .pointer (some ⟨c1_b, 0, none⟩)])] mixed r (by kernel_rfl) (za1 (by exact trivial) (za1 (by exact trivial) (za1 (by exact trivial) (za1 (by exact trivial) (za1 (by exact trivial) (za1 (by exact trivial) zaz)))))) ?_ ?_
 ·
  refine ec r (fun _ u _ b d s => za6 s (cs := (znc c0)) (n := 6) rfl (keep2 hB b c0_h) ta25 rfl bz) (ec r (fun _ u _ b d s => za3 s rfl (keep2 hB b c1_h) to3 rfl bz) (ec r (fun fr1 u w' hb' hd r' => zac r' (args := [(.agg (znc c0).toArray), (I c1)]) (lc hd.1 (lc hd.2.1 l0)) cl68 ((zc8 _ c0 c1).mono (by rintro _ w2 ⟨rfl, hb2⟩; exact ⟨_, rfl, hb2, rfl⟩))) (ec r (fun _ u _ b d s => za6 s (cs := (znl (D.zaj ((D.zav a0).1) c0.gen))) (n := 3) rfl (keep b h_b11) ta118 rfl bz) (ec r (fun fr1 u w' hb' hd r' => zac r' (args := [(.agg (znl (D.zaj ((D.zav a0).1) c0.gen)).toArray)]) (lc hd.1 l0) cl91 ((zcg _ (D.zaj ((D.zav a0).1) c0.gen)).mono (by rintro _ w2 ⟨rfl, hb2⟩; exact ⟨_, rfl, hb2, rfl⟩))) (ec r (fun _ u _ b d s => zan s (v := (.func (.func 342) #[] #[.pointer (some ⟨b11, 0, none⟩), .pointer (some ⟨c0_b, 0, none⟩), .pointer (some ⟨c1_b, 0, none⟩)])) rfl bz) ?_)))))
  exact zaR
 ·
  intro fr u w16 hb hΦ hne r
  have r := r.congr (sc (hΦ 5 (by decide)) (sc (hΦ 4 (by decide)) (sc (hΦ 3 (by decide)) (sc (hΦ 2 (by decide)) (sc (hΦ 1 (by decide)) (sc (hΦ 0 (by decide)) rfl))))))
  have z_w16 := hb.size
  have h_b1 := keep hb h_b1
  have h_b5 := keep hb h_b5
  have h_b11 := keep hb h_b11
  obtain ⟨hB, zB⟩ := bon hb hB
  have hF1 := fgrow hF hB b1
  have f17 : ((fun b => F b ∨ (w0.heap.size ≤ b ∧ b < w16.heap.size ∧ b ≠ b1))) b11 := (.inr ⟨by omega, by omega, by omega⟩)
  have f18 : ((fun b => F b ∨ (w0.heap.size ≤ b ∧ b < w16.heap.size ∧ b ≠ b1))) c0_b := (.inl c0_F)
  have f19 : ((fun b => F b ∨ (w0.heap.size ≤ b ∧ b < w16.heap.size ∧ b ≠ b1))) c1_b := (.inl c1_F)
  refine za7 r (zbE (F := (fun b => F b ∨ (w0.heap.size ≤ b ∧ b < w16.heap.size ∧ b ≠ b1))) (n := n) hF1 (D.zaK c0 c1) (D.zao (D.zaj ((D.zav a0).1) c0.gen)) ⟨342, [], [.pointer (some ⟨b11, 0, none⟩), .pointer (some ⟨c0_b, 0, none⟩), .pointer (some ⟨c1_b, 0, none⟩)], cl342, rfl, fun m hm _ w' hs hz => zfV (j := j) (fun b hb => Nat.lt_of_lt_of_le (hF1 b hb) hz) (by omega) (D.zaj ((D.zav a0).1) c0.gen) f17 (hs.at_ f17 h_b11) c0 f18 (hs.at_ f18 (keep hB c0_h)) c1 f19 (hs.at_ f19 (keep hB c1_h))⟩) (fun R hc => zac r rfl cl200 hc) rfl ?_
  rintro _ w20 ⟨v21, rfl, hb, hr22⟩
  refine ⟨_, rfl, fun fr r => ?_⟩
  have z_w20 := hb.size
  have h_b1 := keep hb h_b1
  have h_b5 := keep hb h_b5
  have h_b11 := keep hb h_b11
  obtain ⟨hB, zB⟩ := bon hb hB
  refine zae (.cells v21.cells 167 (0, 0)) r (fun R => zaf r hr22.shape rfl rfl h_b1 ts167 rfl) rfl fun fr w23 u24 r => ?_
  have z_w23 := u24.size
  have h_b5 := u24.keep h_b5 (by omega)
  have h_b11 := u24.keep h_b11 (by omega)
  have h_b1 := u24.at_
  obtain ⟨hB, zB⟩ := u24.on hB (by omega)
  refine wn (wp_ret ?_)
  have hs := hr22.shape.cells
  refine zad r rfl rfl h_b1 (k := 7) hs.1 ta167 ?_
  rw [← hs.2.2]
  exact rfin hF hB hr22 u24 (by omega) (by omega) (by omega)

def D.zej (j : Nat) (c0 : Plan) (c1 : Int) : T Int := (D.zb7 (D.zaK c0 c1) (fun x => (D.zdK j c0 c1 x)))

theorem zhw {n : Nat} {F : Nat → Prop} {j : Nat} {w0 : World} (hF : ∀ b, F b → b < w0.heap.size) (hj : n < j)
    (c0 : Plan) {c0_b : Nat} (c0_F : F c0_b) (c0_h : w0.heap[c0_b]? = some (.cells ((znc c0)).toArray 25 (0, 0))) (c1 : Int) {c1_b : Nat} (c1_F : F c1_b) (c1_h : w0.heap[c1_b]? = some (.cells ([(.int .i64 c1)]).toArray 3 (0, 0))) :
    Calls Tryz.prog 339 #[.pointer (some ⟨c0_b, 0, none⟩), .pointer (some ⟨c1_b, 0, none⟩)] w0 (znf Tryz.prog zng n (D.zej j c0 c1) F w0) := by
 refine enter Tryz.func339 rfl 8 rfl rfl fun fr r => ?_
 have hB := Below.refl w0.heap.size w0
 have l_c0_b := lt_of_block c0_h
 have l_c1_b := lt_of_block c1_h
 refine wsr ?_
 refine za5 (.cells (zna false zng.zero 0 0 0 0 .nilFunc) 167 (0, 0)) r (fun R => zag tz167) rfl fun fr b1 w2 n3 r => ?_
 obtain ⟨e_b1, z_w2, h_b1, hB, zB⟩ := n3.all hB
 refine wn (wsr (za0 (.agg (znc c0).toArray) r (fun R => za6 r (cs := (znc c0)) (n := 6) rfl (keep hB c0_h) ta25 rfl) rfl fun fr r => za0 (I c1) r (fun R => za3 r rfl (keep hB c1_h) to3 rfl) rfl fun fr r => ?_))
 refine za7 r (zc8 w2 c0 c1) (fun R hc => zac r rfl cl68 hc) rfl ?_
 rintro _ w4 ⟨rfl, hb⟩
 refine ⟨_, rfl, fun fr r => ?_⟩
 have z_w4 := hb.size
 have h_b1 := keep hb h_b1
 obtain ⟨hB, zB⟩ := bon hb hB
 refine za0 (.func (.func 340) #[] #[.pointer (some ⟨c0_b, 0, none⟩), .pointer (some ⟨c1_b, 0, none⟩)]) r (fun R => zan r rfl) rfl fun fr r => ?_
 have hF1 := fgrow hF hB b1
 have f5 : ((fun b => F b ∨ (w0.heap.size ≤ b ∧ b < w4.heap.size ∧ b ≠ b1))) c0_b := (.inl c0_F)
 have f6 : ((fun b => F b ∨ (w0.heap.size ≤ b ∧ b < w4.heap.size ∧ b ≠ b1))) c1_b := (.inl c1_F)
 refine za7 r (zbz (F := (fun b => F b ∨ (w0.heap.size ≤ b ∧ b < w4.heap.size ∧ b ≠ b1))) (n := n) hF1 (D.zaK c0 c1) ⟨340, [], [.pointer (some ⟨c0_b, 0, none⟩), .pointer (some ⟨c1_b, 0, none⟩)], cl340, rfl, fun m hm x w' hs hz => zgC (j := j) (fun b hb => Nat.lt_of_lt_of_le (hF1 b hb) hz) (by omega) c0 f5 (hs.at_ f5 (keep hB c0_h)) c1 f6 (hs.at_ f6 (keep hB c1_h)) x⟩) (fun R hc => zac r rfl cl198 hc) rfl ?_
 rintro _ w7 ⟨v8, rfl, hb, hr9⟩
 refine ⟨_, rfl, fun fr r => ?_⟩
 have z_w7 := hb.size
 have h_b1 := keep hb h_b1
 obtain ⟨hB, zB⟩ := bon hb hB
 refine zae (.cells v8.cells 167 (0, 0)) r (fun R => zaf r hr9.shape rfl rfl h_b1 ts167 rfl) rfl fun fr w10 u11 r => ?_
 have z_w10 := u11.size
 have h_b1 := u11.at_
 obtain ⟨hB, zB⟩ := u11.on hB (by omega)
 refine wn (wp_ret ?_)
 have hs := hr9.shape.cells
 refine zad r rfl rfl h_b1 (k := 7) hs.1 ta167 ?_
 rw [← hs.2.2]
 exact rfin hF hB hr9 u11 (by omega) (by omega) (by omega)

def D.zec (j : Nat) (a0 : Plan) (a1 : Int) : T Int := (D.zc1 j a0 a1 0 (fun _ => (D.zej j a0 a1)))

theorem zim {n : Nat} {F : Nat → Prop} {j : Nat} {w0 : World} (hF : ∀ b, F b → b < w0.heap.size) (hj : n < j)
    (a0 : Plan) (a1 : Int) :
    Calls Tryz.prog 267 #[.agg (znc a0).toArray, .int .i64 a1] w0 (znf Tryz.prog zng n (D.zec j a0 a1) F w0) := by
 refine enter Tryz.func267 rfl 9 rfl rfl fun fr r => ?_
 have hB := Below.refl w0.heap.size w0
 refine wsr ?_
 refine za5 (.cells ((znc a0)).toArray 25 (0, 0)) r (fun R => znm r (v := (.agg (znc a0).toArray)) rfl) rfl fun fr b1 w2 n3 r => ?_
 obtain ⟨e_b1, z_w2, h_b1, hB, zB⟩ := n3.all hB
 refine za5 (.cells #[(I a1)] 3 (0, 0)) r (fun R => znm r (v := (I a1)) rfl) rfl fun fr b4 w5 n6 r => ?_
 have h_b1 := keep n6.below h_b1
 obtain ⟨e_b4, z_w5, h_b4, hB, zB⟩ := n6.all hB
 refine za5 (.cells (zna false zng.zero 0 0 0 0 .nilFunc) 167 (0, 0)) r (fun R => zag tz167) rfl fun fr b7 w8 n9 r => ?_
 have h_b1 := keep n9.below h_b1
 have h_b4 := keep n9.below h_b4
 obtain ⟨e_b7, z_w8, h_b7, hB, zB⟩ := n9.all hB
 refine wn (wsr (za0 (.agg (znc a0).toArray) r (fun R => za6 r (cs := (znc a0)) (n := 6) rfl h_b1 ta25 rfl) rfl fun fr r => za0 (I a1) r (fun R => za3 r rfl h_b4 to3 rfl) rfl fun fr r => za0 (.func (.func 339) #[] #[.pointer (some ⟨b1, 0, none⟩), .pointer (some ⟨b4, 0, none⟩)]) r (fun R => zan r rfl) rfl fun fr r => ?_))
 have hF1 := fgrow hF hB b7
 have f10 : ((fun b => F b ∨ (w0.heap.size ≤ b ∧ b < w8.heap.size ∧ b ≠ b7))) b1 := (.inr ⟨by omega, by omega, by omega⟩)
 have f11 : ((fun b => F b ∨ (w0.heap.size ≤ b ∧ b < w8.heap.size ∧ b ≠ b7))) b4 := (.inr ⟨by omega, by omega, by omega⟩)
 refine za7 r ((zjM (k := j) (n := n) (by omega)) (fun b => F b ∨ (w0.heap.size ≤ b ∧ b < w8.heap.size ∧ b ≠ b7)) _ hF1 a0 a1 0 ⟨339, [], [.pointer (some ⟨b1, 0, none⟩), .pointer (some ⟨b4, 0, none⟩)], cl339, rfl, fun m hm _ w' hs hz => zhw (j := j) (fun b hb => Nat.lt_of_lt_of_le (hF1 b hb) hz) (by omega) a0 f10 (hs.at_ f10 h_b1) a1 f11 (hs.at_ f11 h_b4)⟩) (fun R hc => zac r rfl cl338 hc) rfl ?_
 rintro _ w12 ⟨v13, rfl, hb, hr14⟩
 refine ⟨_, rfl, fun fr r => ?_⟩
 have z_w12 := hb.size
 have h_b1 := keep hb h_b1
 have h_b4 := keep hb h_b4
 have h_b7 := keep hb h_b7
 obtain ⟨hB, zB⟩ := bon hb hB
 refine zae (.cells v13.cells 167 (0, 0)) r (fun R => zaf r hr14.shape rfl rfl h_b7 ts167 rfl) rfl fun fr w15 u16 r => ?_
 have z_w15 := u16.size
 have h_b1 := u16.keep h_b1 (by omega)
 have h_b4 := u16.keep h_b4 (by omega)
 have h_b7 := u16.at_
 obtain ⟨hB, zB⟩ := u16.on hB (by omega)
 refine wn (wp_ret ?_)
 have hs := hr14.shape.cells
 refine zad r rfl rfl h_b7 (k := 7) hs.1 ta167 ?_
 rw [← hs.2.2]
 exact rfin hF hB hr14 u16 (by omega) (by omega) (by omega)

def D.zdp (c0 : Plan) (c1 : Int) (c2 : Scan) (c3 : (Unit → T Int)) (a0 : Int) : T Int := (D.zba (D.zaQ c0 c1 c2.at_) a0 c3)

theorem zhj {n : Nat} {F : Nat → Prop} {w0 : World} (hF : ∀ b, F b → b < w0.heap.size)
    (c0 : Plan) {c0_b : Nat} (c0_F : F c0_b) (c0_h : w0.heap[c0_b]? = some (.cells ((znc c0)).toArray 25 (0, 0))) (c1 : Int) {c1_b : Nat} (c1_F : F c1_b) (c1_h : w0.heap[c1_b]? = some (.cells ([(.int .i64 c1)]).toArray 3 (0, 0))) (c2 : Scan) {c2_b : Nat} (c2_F : F c2_b) (c2_h : w0.heap[c2_b]? = some (.cells ((scanC c2)).toArray 300 (0, 0))) {c3_f : FuncId} {c3_1 c3_2 : List Value} {c3 : (Unit → T Int)} {c3_b : Nat} (c3_F : F c3_b) (c3_h : w0.heap[c3_b]? = some (.cells #[.func (.func c3_f) c3_1.toArray c3_2.toArray] 257 (0, 0))) (c3_n : FnT Tryz.prog zng unitE (n + 1) F w0 (.func (.func c3_f) c3_1.toArray c3_2.toArray) c3) (a0 : Int) :
    Calls Tryz.prog 393 #[.int .u64 a0, .pointer (some ⟨c0_b, 0, none⟩), .pointer (some ⟨c1_b, 0, none⟩), .pointer (some ⟨c2_b, 0, none⟩), .pointer (some ⟨c3_b, 0, none⟩)] w0 (znf Tryz.prog zng n (D.zdp c0 c1 c2 c3 a0) F w0) := by
 refine enter Tryz.func393 rfl 15 rfl rfl fun fr r => ?_
 have hB := Below.refl w0.heap.size w0
 have l_c0_b := lt_of_block c0_h
 have l_c1_b := lt_of_block c1_h
 have l_c2_b := lt_of_block c2_h
 have l_c3_b := lt_of_block c3_h
 refine wsr ?_
 refine za5 (.cells (zna false zng.zero 0 0 0 0 .nilFunc) 167 (0, 0)) r (fun R => zag tz167) rfl fun fr b1 w2 n3 r => ?_
 obtain ⟨e_b1, z_w2, h_b1, hB, zB⟩ := n3.all hB
 refine wn (wp_seq ?_)
 refine zaG 7 [.val (.agg (znc c0).toArray), .val (I c1), .val (.pointer (some ⟨c2_b, 0, none⟩)), .val (I c2.at_), .val (I (D.zaQ c0 c1 c2.at_)), .val (U a0), .val (.func (.func c3_f) c3_1.toArray c3_2.toArray)] mixed r (by kernel_rfl) (za1 (by exact trivial) (za1 (by exact trivial) (za1 (by exact trivial) (za1 (by exact trivial) (za1 (by exact trivial) (za1 (by exact trivial) (za1 (by exact trivial) zaz))))))) ?_ ?_
 ·
  refine ec r (fun _ u _ b d s => za6 s (cs := (znc c0)) (n := 6) rfl (keep2 hB b c0_h) ta25 rfl bz) (ec r (fun _ u _ b d s => za3 s rfl (keep2 hB b c1_h) to3 rfl bz) (ec r (fun _ u _ b d s => za4 s (b := c2_b) (o := 0) rfl zhQ bz) (ec r (fun _ u _ b d s => za3 s d.1 (keep2 hB b c2_h) to3 rfl bz) (ec r (fun fr1 u w' hb' hd r' => zac r' (args := [(.agg (znc c0).toArray), (I c1), (I c2.at_)]) (lc hd.1 (lc hd.2.1 (lc hd.2.2.1 l0))) cl165 ((zcy _ c0 c1 c2.at_).mono (by rintro _ w2 ⟨rfl, hb2⟩; exact ⟨_, rfl, hb2, rfl⟩))) (ec r (fun _ u _ b d s => zaa s rfl bz) (ec r (fun _ u _ b d s => za3 s rfl (keep2 hB b c3_h) to257 rfl bz) ?_))))))
  exact zaR
 ·
  intro fr u w4 hb hΦ hne r
  have r := r.congr (sc (hΦ 6 (by decide)) (sc (hΦ 5 (by decide)) (sc (hΦ 4 (by decide)) (sc (hΦ 3 (by decide)) (sc (hΦ 2 (by decide)) (sc (hΦ 1 (by decide)) (sc (hΦ 0 (by decide)) rfl)))))))
  have z_w4 := hb.size
  have h_b1 := keep hb h_b1
  obtain ⟨hB, zB⟩ := bon hb hB
  have hF1 := fgrow hF hB b1
  refine za7 r (zbE (F := (fun b => F b ∨ (w0.heap.size ≤ b ∧ b < w4.heap.size ∧ b ≠ b1))) (n := n) hF1 (D.zaQ c0 c1 c2.at_) a0 (c3_n.mono (by omega) (fun b h => .inl h) (Same.below hB hF) hB.size)) (fun R hc => zac r rfl cl200 hc) rfl ?_
  rintro _ w5 ⟨v6, rfl, hb, hr7⟩
  refine ⟨_, rfl, fun fr r => ?_⟩
  have z_w5 := hb.size
  have h_b1 := keep hb h_b1
  obtain ⟨hB, zB⟩ := bon hb hB
  refine zae (.cells v6.cells 167 (0, 0)) r (fun R => zaf r hr7.shape rfl rfl h_b1 ts167 rfl) rfl fun fr w8 u9 r => ?_
  have z_w8 := u9.size
  have h_b1 := u9.at_
  obtain ⟨hB, zB⟩ := u9.on hB (by omega)
  refine wn (wp_ret ?_)
  have hs := hr7.shape.cells
  refine zad r rfl rfl h_b1 (k := 7) hs.1 ta167 ?_
  rw [← hs.2.2]
  exact rfin hF hB hr7 u9 (by omega) (by omega) (by omega)

def D.zcm (j : Nat) (r_retire_scanned : Plan → Int → Scan → T Int) (c0 : Plan) (c1 : Int) (c2 : Scan) (c3 : Int) (a0 : Int) : T Int := (r_retire_scanned c0 c1 (⟨(IntKind.i64.wrap (c2.at_ - 1)), c3, (IntKind.i64.wrap (c2.done + 1))⟩ : Scan))

def D.zdQ (j : Nat) (r_retire_scanned : Plan → Int → Scan → T Int) (c0 : Plan) (c1 : Int) (c2 : Int) (c3 : Scan) (c4 : Int) : T Int := (T.bind (D.zec j c0 c1) (fun x => (D.zcm j r_retire_scanned c0 c2 c3 c4 x)))

def D.zbt (j : Nat) (r_retire_scanned : Plan → Int → Scan → T Int) (c0 : Plan) (c1 : Int) (c2 : Int) (c3 : Int) (c4 : Scan) : T Int := (D.zba (D.zb6 c0 c1) (IntKind.u64.wrap c2) (fun _ => (D.zdQ j r_retire_scanned c0 c3 c1 c4 c2)))

def D.zck (j : Nat) (r_retire_scanned : Plan → Int → Scan → T Int) (a0 : Plan) (a1 : Int) (a2 : Scan) (a3 : Int) : T Int := (bif (a2.at_ == (IntKind.i64.wrap (a2.left - 1))) then ((fun _ => (D.zbt j r_retire_scanned a0 a1 (IntKind.i64.wrap (a2.left - 1)) a3 a2)) ()) else (D.zb7 (D.zaQ a0 a1 (IntKind.i64.wrap (a2.left - 1))) (fun x => (D.zdp a0 a1 a2 (fun _ => (D.zbt j r_retire_scanned a0 a1 (IntKind.i64.wrap (a2.left - 1)) a3 a2)) x))))

def D.zbe (j : Nat) (r_retire_scanned : Plan → Int → Scan → T Int) (c0 : Plan) (c1 : Int) (c2 : Scan) (c3 : Scan) (c4 : Int) (a0 : Bool) : T Int := (bif a0 then (r_retire_scanned c0 c1 c2) else (D.zck j r_retire_scanned c0 c1 c3 (IntKind.i64.wrap ((IntKind.i64.wrap c4) - 1))))

def D.zc2 (j : Nat) (r_retire_scanned : Plan → Int → Scan → T Int) (c0 : Plan) (c1 : Int) (c2 : Scan) (c3 : Scan) (a0 : Int) : T Int := (bif (decide (a0 < 1)) then (r_retire_scanned c0 c1 c2) else (bif (decide (a0 > (IntKind.u64.wrap c0.nodes))) then (r_retire_scanned c0 c1 c2) else (T.bind (D.zfG j c0 (IntKind.i64.wrap ((IntKind.i64.wrap a0) - 1))) (fun x => (D.zbe j r_retire_scanned c0 c1 c2 c3 a0 x)))))

def D.zbf (j : Nat) (r_retire_scanned : Plan → Int → Scan → T Int) (a0 : Plan) (a1 : Int) (a2 : Scan) : T Int := (bif (decide (a2.at_ < 0)) then (D.zaW a2.done) else (D.zb7 (D.zaQ a0 a1 a2.at_) (fun x => (D.zc2 j r_retire_scanned a0 a1 (⟨(IntKind.i64.wrap (a2.at_ - 1)), a2.left, a2.done⟩ : Scan) a2 x))))

def D.zbb (j : Nat) : Nat → Plan → Int → Scan → T Int
  | 0, _, _, _ => .cut
  | k + 1, a0, a1, a2 => D.zbf j (D.zbb j k) a0 a1 a2

def zbg (r : Plan → Int → Scan → T Int) (n : Nat) : Prop := ∀ (F : Nat → Prop) (w0 : World), (∀ b, F b → b < w0.heap.size) → ∀ (a0 : Plan) (a1 : Int) (a2 : Scan), Calls Tryz.prog 294 #[.agg (znc a0).toArray, .int .i64 a1, .agg (scanC a2).toArray] w0 (znf Tryz.prog zng n (r a0 a1 a2) F w0)

theorem zfW {n : Nat} {F : Nat → Prop} {j : Nat} {r_retire_scanned : Plan → Int → Scan → T Int} {w0 : World} (hF : ∀ b, F b → b < w0.heap.size) (hj : n < j) (ih_retire_scanned : ∀ m, m ≤ n → zbg r_retire_scanned m)
    (c0 : Plan) {c0_b : Nat} (c0_F : F c0_b) (c0_h : w0.heap[c0_b]? = some (.cells ((znc c0)).toArray 25 (0, 0))) (c1 : Int) {c1_b : Nat} (c1_F : F c1_b) (c1_h : w0.heap[c1_b]? = some (.cells ([(.int .i64 c1)]).toArray 3 (0, 0))) (c2 : Scan) {c2_b : Nat} (c2_F : F c2_b) (c2_h : w0.heap[c2_b]? = some (.cells ((scanC c2)).toArray 300 (0, 0))) (c3 : Int) {c3_b : Nat} (c3_F : F c3_b) (c3_h : w0.heap[c3_b]? = some (.cells ([(.int .i64 c3)]).toArray 3 (0, 0))) (a0 : Int) :
    Calls Tryz.prog 392 #[.int .i64 a0, .pointer (some ⟨c0_b, 0, none⟩), .pointer (some ⟨c1_b, 0, none⟩), .pointer (some ⟨c2_b, 0, none⟩), .pointer (some ⟨c3_b, 0, none⟩)] w0 (znf Tryz.prog zng n (D.zcm j r_retire_scanned c0 c1 c2 c3 a0) F w0) := by
 refine enter Tryz.func392 rfl 18 rfl rfl fun fr r => ?_
 have hB := Below.refl w0.heap.size w0
 have l_c0_b := lt_of_block c0_h
 have l_c1_b := lt_of_block c1_h
 have l_c2_b := lt_of_block c2_h
 have l_c3_b := lt_of_block c3_h
 refine wsr ?_
 refine za5 (.cells (zna false zng.zero 0 0 0 0 .nilFunc) 167 (0, 0)) r (fun R => zag tz167) rfl fun fr b1 w2 n3 r => ?_
 obtain ⟨e_b1, z_w2, h_b1, hB, zB⟩ := n3.all hB
 refine wn (wsr (za0 (.agg (znc c0).toArray) r (fun R => za6 r (cs := (znc c0)) (n := 6) rfl (keep hB c0_h) ta25 rfl) rfl fun fr r => za0 (I c1) r (fun R => za3 r rfl (keep hB c1_h) to3 rfl) rfl fun fr r => za0 _ r (fun R => za4 r (o := 0) rfl zhQ) rfl fun fr r => za0 (I c2.at_) r (fun R => za3 r rfl (keep hB c2_h) to3 rfl) rfl fun fr r => za0 _ r (fun R => zni r rfl rfl rfl rfl) rfl fun fr r => za0 (I c3) r (fun R => za3 r rfl (keep hB c3_h) to3 rfl) rfl fun fr r => za0 _ r (fun R => za4 r (o := 0) rfl zkF) rfl fun fr r => za0 (I c2.done) r (fun R => za3 r rfl (keep hB c2_h) to3 rfl) rfl fun fr r => za0 _ r (fun R => zni r rfl rfl rfl rfl) rfl fun fr r => za0 (.agg (scanC (⟨(W (c2.at_ - 1)), c3, (W (c2.done + 1))⟩ : Scan)).toArray) r (fun R => zaM r (by kernel_rfl)) rfl fun fr r => ?_))
 have hF1 := fgrow hF hB b1
 refine za7 r ((ih_retire_scanned n (by omega)) (fun b => F b ∨ (w0.heap.size ≤ b ∧ b < w2.heap.size ∧ b ≠ b1)) _ hF1 c0 c1 (⟨(W (c2.at_ - 1)), c3, (W (c2.done + 1))⟩ : Scan)) (fun R hc => zac r rfl cl294 hc) rfl ?_
 rintro _ w4 ⟨v5, rfl, hb, hr6⟩
 refine ⟨_, rfl, fun fr r => ?_⟩
 have z_w4 := hb.size
 have h_b1 := keep hb h_b1
 obtain ⟨hB, zB⟩ := bon hb hB
 refine zae (.cells v5.cells 167 (0, 0)) r (fun R => zaf r hr6.shape rfl rfl h_b1 ts167 rfl) rfl fun fr w7 u8 r => ?_
 have z_w7 := u8.size
 have h_b1 := u8.at_
 obtain ⟨hB, zB⟩ := u8.on hB (by omega)
 refine wn (wp_ret ?_)
 have hs := hr6.shape.cells
 refine zad r rfl rfl h_b1 (k := 7) hs.1 ta167 ?_
 rw [← hs.2.2]
 exact rfin hF hB hr6 u8 (by omega) (by omega) (by omega)

theorem zgw {n : Nat} {F : Nat → Prop} {j : Nat} {r_retire_scanned : Plan → Int → Scan → T Int} {w0 : World} (hF : ∀ b, F b → b < w0.heap.size) (hj : n < j) (ih_retire_scanned : ∀ m, m < n → zbg r_retire_scanned m)
    (c0 : Plan) {c0_b : Nat} (c0_F : F c0_b) (c0_h : w0.heap[c0_b]? = some (.cells ((znc c0)).toArray 25 (0, 0))) (c1 : Int) {c1_b : Nat} (c1_F : F c1_b) (c1_h : w0.heap[c1_b]? = some (.cells ([(.int .i64 c1)]).toArray 3 (0, 0))) (c2 : Int) {c2_b : Nat} (c2_F : F c2_b) (c2_h : w0.heap[c2_b]? = some (.cells ([(.int .i64 c2)]).toArray 3 (0, 0))) (c3 : Scan) {c3_b : Nat} (c3_F : F c3_b) (c3_h : w0.heap[c3_b]? = some (.cells ((scanC c3)).toArray 300 (0, 0))) (c4 : Int) {c4_b : Nat} (c4_F : F c4_b) (c4_h : w0.heap[c4_b]? = some (.cells ([(.int .i64 c4)]).toArray 3 (0, 0))) :
    Calls Tryz.prog 391 #[.pointer (some ⟨c0_b, 0, none⟩), .pointer (some ⟨c1_b, 0, none⟩), .pointer (some ⟨c2_b, 0, none⟩), .pointer (some ⟨c3_b, 0, none⟩), .pointer (some ⟨c4_b, 0, none⟩)] w0 (znf Tryz.prog zng n (D.zdQ j r_retire_scanned c0 c1 c2 c3 c4) F w0) := by
 refine enter Tryz.func391 rfl 11 rfl rfl fun fr r => ?_
 have hB := Below.refl w0.heap.size w0
 have l_c0_b := lt_of_block c0_h
 have l_c1_b := lt_of_block c1_h
 have l_c2_b := lt_of_block c2_h
 have l_c3_b := lt_of_block c3_h
 have l_c4_b := lt_of_block c4_h
 refine wsr ?_
 refine za5 (.cells (zna false zng.zero 0 0 0 0 .nilFunc) 167 (0, 0)) r (fun R => zag tz167) rfl fun fr b1 w2 n3 r => ?_
 obtain ⟨e_b1, z_w2, h_b1, hB, zB⟩ := n3.all hB
 refine wn (wsr (za0 (.agg (znc c0).toArray) r (fun R => za6 r (cs := (znc c0)) (n := 6) rfl (keep hB c0_h) ta25 rfl) rfl fun fr r => za0 (I c1) r (fun R => za3 r rfl (keep hB c1_h) to3 rfl) rfl fun fr r => ?_))
 have hF1 := fgrow hF hB b1
 refine za7 r (zim (j := j) (F := (fun b => F b ∨ (w0.heap.size ≤ b ∧ b < w2.heap.size ∧ b ≠ b1))) (n := n) hF1 (by omega) c0 c1) (fun R hc => zac r rfl cl267 hc) rfl ?_
 rintro _ w4 ⟨v5, rfl, hb, hr6⟩
 refine ⟨_, rfl, fun fr r => ?_⟩
 have z_w4 := hb.size
 have h_b1 := keep hb h_b1
 obtain ⟨hB, zB⟩ := bon hb hB
 refine za0 (.func (.func 392) #[] #[.pointer (some ⟨c0_b, 0, none⟩), .pointer (some ⟨c2_b, 0, none⟩), .pointer (some ⟨c3_b, 0, none⟩), .pointer (some ⟨c4_b, 0, none⟩)]) r (fun R => zan r rfl) rfl fun fr r => ?_
 have hF1 := fgrow hF hB b1
 have f7 : ((fun b => F b ∨ (w0.heap.size ≤ b ∧ b < w4.heap.size ∧ b ≠ b1))) c0_b := (.inl c0_F)
 have f8 : ((fun b => F b ∨ (w0.heap.size ≤ b ∧ b < w4.heap.size ∧ b ≠ b1))) c2_b := (.inl c2_F)
 have f9 : ((fun b => F b ∨ (w0.heap.size ≤ b ∧ b < w4.heap.size ∧ b ≠ b1))) c3_b := (.inl c3_F)
 have f10 : ((fun b => F b ∨ (w0.heap.size ≤ b ∧ b < w4.heap.size ∧ b ≠ b1))) c4_b := (.inl c4_F)
 refine za7 r (zfZ (F := (fun b => F b ∨ (w0.heap.size ≤ b ∧ b < w4.heap.size ∧ b ≠ b1))) (n := n) hF1 (Rep.mono (by rintro b (h | h); (rcases h with h | ⟨h1, h2, h3⟩; exact .inl h; exact .inr ⟨h1, by omega, h3⟩); exact .inr ⟨by omega, by omega, by omega⟩) (Same.refl _ _) (by omega) n _ _ hr6) ⟨392, [], [.pointer (some ⟨c0_b, 0, none⟩), .pointer (some ⟨c2_b, 0, none⟩), .pointer (some ⟨c3_b, 0, none⟩), .pointer (some ⟨c4_b, 0, none⟩)], cl392, rfl, fun m hm x w' hs hz => zfW (j := j) (fun b hb => Nat.lt_of_lt_of_le (hF1 b hb) hz) (by omega) (fun m' hm' => ih_retire_scanned m' (by omega)) c0 f7 (hs.at_ f7 (keep hB c0_h)) c2 f8 (hs.at_ f8 (keep hB c2_h)) c3 f9 (hs.at_ f9 (keep hB c3_h)) c4 f10 (hs.at_ f10 (keep hB c4_h)) x⟩ (by first | rfl | (cases j with | zero => omega | succ q => rfl))) (fun R hc => zac r rfl cl230 hc) rfl ?_
 rintro _ w11 ⟨v12, rfl, hb, hr13⟩
 refine ⟨_, rfl, fun fr r => ?_⟩
 have z_w11 := hb.size
 have h_b1 := keep hb h_b1
 obtain ⟨hB, zB⟩ := bon hb hB
 refine zae (.cells v12.cells 167 (0, 0)) r (fun R => zaf r hr13.shape rfl rfl h_b1 ts167 rfl) rfl fun fr w14 u15 r => ?_
 have z_w14 := u15.size
 have h_b1 := u15.at_
 obtain ⟨hB, zB⟩ := u15.on hB (by omega)
 refine wn (wp_ret ?_)
 have hs := hr13.shape.cells
 refine zad r rfl rfl h_b1 (k := 7) hs.1 ta167 ?_
 rw [← hs.2.2]
 exact rfin hF hB hr13 u15 (by omega) (by omega) (by omega)

theorem zeX {n : Nat} {F : Nat → Prop} {j : Nat} {r_retire_scanned : Plan → Int → Scan → T Int} {w0 : World} (hF : ∀ b, F b → b < w0.heap.size) (hj : n < j) (ih_retire_scanned : ∀ m, m < n → zbg r_retire_scanned m)
    (c0 : Plan) {c0_b : Nat} (c0_F : F c0_b) (c0_h : w0.heap[c0_b]? = some (.cells ((znc c0)).toArray 25 (0, 0))) (c1 : Int) {c1_b : Nat} (c1_F : F c1_b) (c1_h : w0.heap[c1_b]? = some (.cells ([(.int .i64 c1)]).toArray 3 (0, 0))) (c2 : Int) {c2_b : Nat} (c2_F : F c2_b) (c2_h : w0.heap[c2_b]? = some (.cells ([(.int .i64 c2)]).toArray 3 (0, 0))) (c3 : Int) {c3_b : Nat} (c3_F : F c3_b) (c3_h : w0.heap[c3_b]? = some (.cells ([(.int .i64 c3)]).toArray 3 (0, 0))) (c4 : Scan) {c4_b : Nat} (c4_F : F c4_b) (c4_h : w0.heap[c4_b]? = some (.cells ((scanC c4)).toArray 300 (0, 0))) :
    Calls Tryz.prog 390 #[.pointer (some ⟨c0_b, 0, none⟩), .pointer (some ⟨c1_b, 0, none⟩), .pointer (some ⟨c2_b, 0, none⟩), .pointer (some ⟨c3_b, 0, none⟩), .pointer (some ⟨c4_b, 0, none⟩)] w0 (znf Tryz.prog zng n (D.zbt j r_retire_scanned c0 c1 c2 c3 c4) F w0) := by
 refine enter Tryz.func390 rfl 13 rfl rfl fun fr r => ?_
 have hB := Below.refl w0.heap.size w0
 have l_c0_b := lt_of_block c0_h
 have l_c1_b := lt_of_block c1_h
 have l_c2_b := lt_of_block c2_h
 have l_c3_b := lt_of_block c3_h
 have l_c4_b := lt_of_block c4_h
 refine wsr ?_
 refine za5 (.cells (zna false zng.zero 0 0 0 0 .nilFunc) 167 (0, 0)) r (fun R => zag tz167) rfl fun fr b1 w2 n3 r => ?_
 obtain ⟨e_b1, z_w2, h_b1, hB, zB⟩ := n3.all hB
 refine wn (wp_seq ?_)
 refine zaG 6 [.val (.agg (znc c0).toArray), .val (I c1), .val (I (D.zb6 c0 c1)), .val (I c2), .val (U (V c2)), .val (.func (.func 391) #[] #[.pointer (some ⟨c0_b, 0, none⟩), .pointer (some ⟨c3_b, 0, none⟩), .pointer (some ⟨c1_b, 0, none⟩), .pointer (some ⟨c4_b, 0, none⟩), .pointer (some ⟨c2_b, 0, none⟩)])] mixed r (by kernel_rfl) (za1 (by exact trivial) (za1 (by exact trivial) (za1 (by exact trivial) (za1 (by exact trivial) (za1 (by exact trivial) (za1 (by exact trivial) zaz)))))) ?_ ?_
 ·
  refine ec r (fun _ u _ b d s => za6 s (cs := (znc c0)) (n := 6) rfl (keep2 hB b c0_h) ta25 rfl bz) (ec r (fun _ u _ b d s => za3 s rfl (keep2 hB b c1_h) to3 rfl bz) (ec r (fun fr1 u w' hb' hd r' => zac r' (args := [(.agg (znc c0).toArray), (I c1)]) (lc hd.1 (lc hd.2.1 l0)) cl164 ((zdd _ c0 c1).mono (by rintro _ w2 ⟨rfl, hb2⟩; exact ⟨_, rfl, hb2, rfl⟩))) (ec r (fun _ u _ b d s => za3 s rfl (keep2 hB b c2_h) to3 rfl bz) (ec r (fun _ u _ b d s => zbo s (n := c2) d.1 ti3 ti22 bz) (ec r (fun _ u _ b d s => zan s (v := (.func (.func 391) #[] #[.pointer (some ⟨c0_b, 0, none⟩), .pointer (some ⟨c3_b, 0, none⟩), .pointer (some ⟨c1_b, 0, none⟩), .pointer (some ⟨c4_b, 0, none⟩), .pointer (some ⟨c2_b, 0, none⟩)])) rfl bz) ?_)))))
  exact zaR
 ·
  intro fr u w4 hb hΦ hne r
  have r := r.congr (sc (hΦ 5 (by decide)) (sc (hΦ 4 (by decide)) (sc (hΦ 3 (by decide)) (sc (hΦ 2 (by decide)) (sc (hΦ 1 (by decide)) (sc (hΦ 0 (by decide)) rfl))))))
  have z_w4 := hb.size
  have h_b1 := keep hb h_b1
  obtain ⟨hB, zB⟩ := bon hb hB
  have hF1 := fgrow hF hB b1
  have f5 : ((fun b => F b ∨ (w0.heap.size ≤ b ∧ b < w4.heap.size ∧ b ≠ b1))) c0_b := (.inl c0_F)
  have f6 : ((fun b => F b ∨ (w0.heap.size ≤ b ∧ b < w4.heap.size ∧ b ≠ b1))) c3_b := (.inl c3_F)
  have f7 : ((fun b => F b ∨ (w0.heap.size ≤ b ∧ b < w4.heap.size ∧ b ≠ b1))) c1_b := (.inl c1_F)
  have f8 : ((fun b => F b ∨ (w0.heap.size ≤ b ∧ b < w4.heap.size ∧ b ≠ b1))) c4_b := (.inl c4_F)
  have f9 : ((fun b => F b ∨ (w0.heap.size ≤ b ∧ b < w4.heap.size ∧ b ≠ b1))) c2_b := (.inl c2_F)
  refine za7 r (zbE (F := (fun b => F b ∨ (w0.heap.size ≤ b ∧ b < w4.heap.size ∧ b ≠ b1))) (n := n) hF1 (D.zb6 c0 c1) (V c2) ⟨391, [], [.pointer (some ⟨c0_b, 0, none⟩), .pointer (some ⟨c3_b, 0, none⟩), .pointer (some ⟨c1_b, 0, none⟩), .pointer (some ⟨c4_b, 0, none⟩), .pointer (some ⟨c2_b, 0, none⟩)], cl391, rfl, fun m hm _ w' hs hz => zgw (j := j) (fun b hb => Nat.lt_of_lt_of_le (hF1 b hb) hz) (by omega) (fun m' hm' => ih_retire_scanned m' (by omega)) c0 f5 (hs.at_ f5 (keep hB c0_h)) c3 f6 (hs.at_ f6 (keep hB c3_h)) c1 f7 (hs.at_ f7 (keep hB c1_h)) c4 f8 (hs.at_ f8 (keep hB c4_h)) c2 f9 (hs.at_ f9 (keep hB c2_h))⟩) (fun R hc => zac r rfl cl200 hc) rfl ?_
  rintro _ w10 ⟨v11, rfl, hb, hr12⟩
  refine ⟨_, rfl, fun fr r => ?_⟩
  have z_w10 := hb.size
  have h_b1 := keep hb h_b1
  obtain ⟨hB, zB⟩ := bon hb hB
  refine zae (.cells v11.cells 167 (0, 0)) r (fun R => zaf r hr12.shape rfl rfl h_b1 ts167 rfl) rfl fun fr w13 u14 r => ?_
  have z_w13 := u14.size
  have h_b1 := u14.at_
  obtain ⟨hB, zB⟩ := u14.on hB (by omega)
  refine wn (wp_ret ?_)
  have hs := hr12.shape.cells
  refine zad r rfl rfl h_b1 (k := 7) hs.1 ta167 ?_
  rw [← hs.2.2]
  exact rfin hF hB hr12 u14 (by omega) (by omega) (by omega)

theorem zih {n : Nat} {F : Nat → Prop} {j : Nat} {r_retire_scanned : Plan → Int → Scan → T Int} {w0 : World} (hF : ∀ b, F b → b < w0.heap.size) (hj : n < j) (ih_retire_scanned : ∀ m, m < n → zbg r_retire_scanned m)
    (a0 : Plan) (a1 : Int) (a2 : Scan) (a3 : Int) :
    Calls Tryz.prog 360 #[.agg (znc a0).toArray, .int .i64 a1, .agg (scanC a2).toArray, .int .i64 a3] w0 (znf Tryz.prog zng n (D.zck j r_retire_scanned a0 a1 a2 a3) F w0) := by
 refine enter Tryz.func360 rfl 27 rfl rfl fun fr r => ?_
 have hB := Below.refl w0.heap.size w0
 refine wsr ?_
 refine za5 (.cells ((znc a0)).toArray 25 (0, 0)) r (fun R => znm r (v := (.agg (znc a0).toArray)) rfl) rfl fun fr b1 w2 n3 r => ?_
 obtain ⟨e_b1, z_w2, h_b1, hB, zB⟩ := n3.all hB
 refine za5 (.cells #[(I a1)] 3 (0, 0)) r (fun R => znm r (v := (I a1)) rfl) rfl fun fr b4 w5 n6 r => ?_
 have h_b1 := keep n6.below h_b1
 obtain ⟨e_b4, z_w5, h_b4, hB, zB⟩ := n6.all hB
 refine za5 (.cells ((scanC a2)).toArray 300 (0, 0)) r (fun R => znm r (v := (.agg (scanC a2).toArray)) rfl) rfl fun fr b7 w8 n9 r => ?_
 have h_b1 := keep n9.below h_b1
 have h_b4 := keep n9.below h_b4
 obtain ⟨e_b7, z_w8, h_b7, hB, zB⟩ := n9.all hB
 refine za5 (.cells #[(I a3)] 3 (0, 0)) r (fun R => znm r (v := (I a3)) rfl) rfl fun fr b10 w11 n12 r => ?_
 have h_b1 := keep n12.below h_b1
 have h_b4 := keep n12.below h_b4
 have h_b7 := keep n12.below h_b7
 obtain ⟨e_b10, z_w11, h_b10, hB, zB⟩ := n12.all hB
 refine za5 (.cells (zna false zng.zero 0 0 0 0 .nilFunc) 167 (0, 0)) r (fun R => zag tz167) rfl fun fr b13 w14 n15 r => ?_
 have h_b1 := keep n15.below h_b1
 have h_b4 := keep n15.below h_b4
 have h_b7 := keep n15.below h_b7
 have h_b10 := keep n15.below h_b10
 obtain ⟨e_b13, z_w14, h_b13, hB, zB⟩ := n15.all hB
 refine wn (wsr (za0 _ r (fun R => za4 r (o := 0) rfl zlp) rfl fun fr r => za0 (I a2.left) r (fun R => za3 r rfl h_b7 to3 rfl) rfl fun fr r => za0 _ r (fun R => zni r rfl rfl rfl rfl) rfl fun fr r => ?_))
 refine za5 (.cells #[(I 0)] 3 (0, 0)) r (fun R => zag tz3) rfl fun fr b16 w17 n18 r => ?_
 have h_b1 := keep n18.below h_b1
 have h_b4 := keep n18.below h_b4
 have h_b7 := keep n18.below h_b7
 have h_b10 := keep n18.below h_b10
 have h_b13 := keep n18.below h_b13
 obtain ⟨e_b16, z_w17, h_b16, hB, zB⟩ := n18.all hB
 refine zae (.cells #[(I (W (a2.left - 1)))] 3 (0, 0)) r (fun R => zaN r (o := 0) (v := (I (W (a2.left - 1)))) rfl rfl h_b16 ts3 (Nat.le_of_ble_eq_true rfl) rfl rfl) rfl fun fr w19 u20 r => ?_
 have z_w19 := u20.size
 have h_b1 := u20.keep h_b1 (by omega)
 have h_b4 := u20.keep h_b4 (by omega)
 have h_b7 := u20.keep h_b7 (by omega)
 have h_b10 := u20.keep h_b10 (by omega)
 have h_b13 := u20.keep h_b13 (by omega)
 have h_b16 := u20.at_
 obtain ⟨hB, zB⟩ := u20.on hB (by omega)
 refine wn (wsr (za0 (.func (.func 390) #[] #[.pointer (some ⟨b1, 0, none⟩), .pointer (some ⟨b4, 0, none⟩), .pointer (some ⟨b16, 0, none⟩), .pointer (some ⟨b10, 0, none⟩), .pointer (some ⟨b7, 0, none⟩)]) r (fun R => zan r rfl) rfl fun fr r => ?_))
 refine za5 (.cells #[.nilFunc] 257 (0, 0)) r (fun R => zag tz257) rfl fun fr b21 w22 n23 r => ?_
 have h_b1 := keep n23.below h_b1
 have h_b4 := keep n23.below h_b4
 have h_b7 := keep n23.below h_b7
 have h_b10 := keep n23.below h_b10
 have h_b13 := keep n23.below h_b13
 have h_b16 := keep n23.below h_b16
 obtain ⟨e_b21, z_w22, h_b21, hB, zB⟩ := n23.all hB
 refine zae (.cells #[.func (.func 390) #[] #[.pointer (some ⟨b1, 0, none⟩), .pointer (some ⟨b4, 0, none⟩), .pointer (some ⟨b16, 0, none⟩), .pointer (some ⟨b10, 0, none⟩), .pointer (some ⟨b7, 0, none⟩)]] 257 (0, 0)) r (fun R => zaN r (o := 0) (v := (.func (.func 390) #[] #[.pointer (some ⟨b1, 0, none⟩), .pointer (some ⟨b4, 0, none⟩), .pointer (some ⟨b16, 0, none⟩), .pointer (some ⟨b10, 0, none⟩), .pointer (some ⟨b7, 0, none⟩)])) rfl rfl h_b21 ts257 (Nat.le_of_ble_eq_true rfl) rfl rfl) rfl fun fr w24 u25 r => ?_
 have z_w24 := u25.size
 have h_b1 := u25.keep h_b1 (by omega)
 have h_b4 := u25.keep h_b4 (by omega)
 have h_b7 := u25.keep h_b7 (by omega)
 have h_b10 := u25.keep h_b10 (by omega)
 have h_b13 := u25.keep h_b13 (by omega)
 have h_b16 := u25.keep h_b16 (by omega)
 have h_b21 := u25.at_
 obtain ⟨hB, zB⟩ := u25.on hB (by omega)
 refine wn (wp_seq (wsr (za0 _ r (fun R => za4 r (o := 0) rfl zhQ) rfl fun fr r => za0 (I a2.at_) r (fun R => za3 r rfl h_b7 to3 rfl) rfl fun fr r => za0 (I (W (a2.left - 1))) r (fun R => za3 r rfl h_b16 to3 rfl) rfl fun fr r => za0 _ r (fun R => zni r rfl rfl rfl rfl) rfl fun fr r => wn ?_)))
 refine wp_cond_split (t := (a2.at_ == (W (a2.left - 1)))) (r.ev rfl) (fun h26 => ?_) (fun h26 => ?_)
 ·
  refine wsr (za0 (.func (.func 390) #[] #[.pointer (some ⟨b1, 0, none⟩), .pointer (some ⟨b4, 0, none⟩), .pointer (some ⟨b16, 0, none⟩), .pointer (some ⟨b10, 0, none⟩), .pointer (some ⟨b7, 0, none⟩)]) r (fun R => za3 r rfl h_b21 to257 rfl) rfl fun fr r => ?_)
  have hF1 := fgrow hF hB b13
  have f27 : ((fun b => F b ∨ (w0.heap.size ≤ b ∧ b < w24.heap.size ∧ b ≠ b13))) b1 := (.inr ⟨by omega, by omega, by omega⟩)
  have f28 : ((fun b => F b ∨ (w0.heap.size ≤ b ∧ b < w24.heap.size ∧ b ≠ b13))) b4 := (.inr ⟨by omega, by omega, by omega⟩)
  have f29 : ((fun b => F b ∨ (w0.heap.size ≤ b ∧ b < w24.heap.size ∧ b ≠ b13))) b16 := (.inr ⟨by omega, by omega, by omega⟩)
  have f30 : ((fun b => F b ∨ (w0.heap.size ≤ b ∧ b < w24.heap.size ∧ b ≠ b13))) b10 := (.inr ⟨by omega, by omega, by omega⟩)
  have f31 : ((fun b => F b ∨ (w0.heap.size ≤ b ∧ b < w24.heap.size ∧ b ≠ b13))) b7 := (.inr ⟨by omega, by omega, by omega⟩)
  have q32 : FnT Tryz.prog zng unitE (n + 1) (fun b => F b ∨ (w0.heap.size ≤ b ∧ b < w24.heap.size ∧ b ≠ b13)) w24 (.func (.func 390) #[] #[.pointer (some ⟨b1, 0, none⟩), .pointer (some ⟨b4, 0, none⟩), .pointer (some ⟨b16, 0, none⟩), .pointer (some ⟨b10, 0, none⟩), .pointer (some ⟨b7, 0, none⟩)]) (fun _ => (D.zbt j r_retire_scanned a0 a1 (W (a2.left - 1)) a3 a2)) := ⟨390, [], [.pointer (some ⟨b1, 0, none⟩), .pointer (some ⟨b4, 0, none⟩), .pointer (some ⟨b16, 0, none⟩), .pointer (some ⟨b10, 0, none⟩), .pointer (some ⟨b7, 0, none⟩)], cl390, rfl, fun m hm _ w' hs hz => zeX (j := j) (fun b hb => Nat.lt_of_lt_of_le (hF1 b hb) hz) (by omega) (fun m' hm' => ih_retire_scanned m' (by omega)) a0 f27 (hs.at_ f27 h_b1) a1 f28 (hs.at_ f28 h_b4) (W (a2.left - 1)) f29 (hs.at_ f29 h_b16) a3 f30 (hs.at_ f30 h_b10) a2 f31 (hs.at_ f31 h_b7)⟩
  refine za7 r (q32.at_.2 n (Nat.lt_succ_self n) () w24 (Same.refl _ _) (Nat.le_refl _)) (fun R hc => zfD r rfl q32.at_.1 hc) rfl ?_
  rintro _ w33 ⟨v34, rfl, hb, hr35⟩
  refine ⟨_, rfl, fun fr r => ?_⟩
  have z_w33 := hb.size
  have h_b1 := keep hb h_b1
  have h_b4 := keep hb h_b4
  have h_b7 := keep hb h_b7
  have h_b10 := keep hb h_b10
  have h_b13 := keep hb h_b13
  have h_b16 := keep hb h_b16
  have h_b21 := keep hb h_b21
  obtain ⟨hB, zB⟩ := bon hb hB
  refine zae (.cells v34.cells 167 (0, 0)) r (fun R => zaf r hr35.shape rfl rfl h_b13 ts167 rfl) rfl fun fr w36 u37 r => ?_
  have z_w36 := u37.size
  have h_b1 := u37.keep h_b1 (by omega)
  have h_b4 := u37.keep h_b4 (by omega)
  have h_b7 := u37.keep h_b7 (by omega)
  have h_b10 := u37.keep h_b10 (by omega)
  have h_b16 := u37.keep h_b16 (by omega)
  have h_b21 := u37.keep h_b21 (by omega)
  have h_b13 := u37.at_
  obtain ⟨hB, zB⟩ := u37.on hB (by omega)
  refine wn (wp_ret ?_)
  have hd : D.zck j r_retire_scanned a0 a1 a2 a3 = ((fun _ => (D.zbt j r_retire_scanned a0 a1 (W (a2.left - 1)) a3 a2)) ()) := (zap h26).trans (rfl)
  have hs := hr35.shape.cells
  refine zad r rfl rfl h_b13 (k := 7) hs.1 ta167 ?_
  rw [← hs.2.2, hd]
  exact rfin hF hB hr35 u37 (by omega) (by omega) (by omega)
 ·
  refine wp_skip (wsr (za0 (.agg (znc a0).toArray) r (fun R => za6 r (cs := (znc a0)) (n := 6) rfl h_b1 ta25 rfl) rfl fun fr r => za0 (I a1) r (fun R => za3 r rfl h_b4 to3 rfl) rfl fun fr r => za0 (I (W (a2.left - 1))) r (fun R => za3 r rfl h_b16 to3 rfl) rfl fun fr r => ?_))
  refine za7 r (zcy w24 a0 a1 (W (a2.left - 1))) (fun R hc => zac r rfl cl165 hc) rfl ?_
  rintro _ w38 ⟨rfl, hb⟩
  refine ⟨_, rfl, fun fr r => ?_⟩
  have z_w38 := hb.size
  have h_b1 := keep hb h_b1
  have h_b4 := keep hb h_b4
  have h_b7 := keep hb h_b7
  have h_b10 := keep hb h_b10
  have h_b13 := keep hb h_b13
  have h_b16 := keep hb h_b16
  have h_b21 := keep hb h_b21
  obtain ⟨hB, zB⟩ := bon hb hB
  refine za0 (.func (.func 393) #[] #[.pointer (some ⟨b1, 0, none⟩), .pointer (some ⟨b4, 0, none⟩), .pointer (some ⟨b7, 0, none⟩), .pointer (some ⟨b21, 0, none⟩)]) r (fun R => zan r rfl) rfl fun fr r => ?_
  have hF1 := fgrow hF hB b13
  have f39 : ((fun b => F b ∨ (w0.heap.size ≤ b ∧ b < w38.heap.size ∧ b ≠ b13))) b1 := (.inr ⟨by omega, by omega, by omega⟩)
  have f40 : ((fun b => F b ∨ (w0.heap.size ≤ b ∧ b < w38.heap.size ∧ b ≠ b13))) b4 := (.inr ⟨by omega, by omega, by omega⟩)
  have f41 : ((fun b => F b ∨ (w0.heap.size ≤ b ∧ b < w38.heap.size ∧ b ≠ b13))) b7 := (.inr ⟨by omega, by omega, by omega⟩)
  have f42 : ((fun b => F b ∨ (w0.heap.size ≤ b ∧ b < w38.heap.size ∧ b ≠ b13))) b21 := (.inr ⟨by omega, by omega, by omega⟩)
  have f44 : ((fun b => F b ∨ (w0.heap.size ≤ b ∧ b < w38.heap.size ∧ b ≠ b13))) b1 := (.inr ⟨by omega, by omega, by omega⟩)
  have f45 : ((fun b => F b ∨ (w0.heap.size ≤ b ∧ b < w38.heap.size ∧ b ≠ b13))) b4 := (.inr ⟨by omega, by omega, by omega⟩)
  have f46 : ((fun b => F b ∨ (w0.heap.size ≤ b ∧ b < w38.heap.size ∧ b ≠ b13))) b16 := (.inr ⟨by omega, by omega, by omega⟩)
  have f47 : ((fun b => F b ∨ (w0.heap.size ≤ b ∧ b < w38.heap.size ∧ b ≠ b13))) b10 := (.inr ⟨by omega, by omega, by omega⟩)
  have f48 : ((fun b => F b ∨ (w0.heap.size ≤ b ∧ b < w38.heap.size ∧ b ≠ b13))) b7 := (.inr ⟨by omega, by omega, by omega⟩)
  have q43 : FnT Tryz.prog zng unitE (n) (fun b => F b ∨ (w0.heap.size ≤ b ∧ b < w38.heap.size ∧ b ≠ b13)) w38 (.func (.func 390) #[] #[.pointer (some ⟨b1, 0, none⟩), .pointer (some ⟨b4, 0, none⟩), .pointer (some ⟨b16, 0, none⟩), .pointer (some ⟨b10, 0, none⟩), .pointer (some ⟨b7, 0, none⟩)]) (fun _ => (D.zbt j r_retire_scanned a0 a1 (W (a2.left - 1)) a3 a2)) := ⟨390, [], [.pointer (some ⟨b1, 0, none⟩), .pointer (some ⟨b4, 0, none⟩), .pointer (some ⟨b16, 0, none⟩), .pointer (some ⟨b10, 0, none⟩), .pointer (some ⟨b7, 0, none⟩)], cl390, rfl, fun m hm _ w' hs hz => zeX (j := j) (fun b hb => Nat.lt_of_lt_of_le (hF1 b hb) hz) (by omega) (fun m' hm' => ih_retire_scanned m' (by omega)) a0 f44 (hs.at_ f44 h_b1) a1 f45 (hs.at_ f45 h_b4) (W (a2.left - 1)) f46 (hs.at_ f46 h_b16) a3 f47 (hs.at_ f47 h_b10) a2 f48 (hs.at_ f48 h_b7)⟩
  refine za7 r (zbz (F := (fun b => F b ∨ (w0.heap.size ≤ b ∧ b < w38.heap.size ∧ b ≠ b13))) (n := n) hF1 (D.zaQ a0 a1 (W (a2.left - 1))) ⟨393, [], [.pointer (some ⟨b1, 0, none⟩), .pointer (some ⟨b4, 0, none⟩), .pointer (some ⟨b7, 0, none⟩), .pointer (some ⟨b21, 0, none⟩)], cl393, rfl, fun m hm x w' hs hz => zhj (fun b hb => Nat.lt_of_lt_of_le (hF1 b hb) hz) a0 f39 (hs.at_ f39 h_b1) a1 f40 (hs.at_ f40 h_b4) a2 f41 (hs.at_ f41 h_b7) f42 (hs.at_ f42 h_b21) (q43.mono (by omega) (fun b h => h) hs hz) x⟩) (fun R hc => zac r rfl cl198 hc) rfl ?_
  rintro _ w49 ⟨v50, rfl, hb, hr51⟩
  refine ⟨_, rfl, fun fr r => ?_⟩
  have z_w49 := hb.size
  have h_b1 := keep hb h_b1
  have h_b4 := keep hb h_b4
  have h_b7 := keep hb h_b7
  have h_b10 := keep hb h_b10
  have h_b13 := keep hb h_b13
  have h_b16 := keep hb h_b16
  have h_b21 := keep hb h_b21
  obtain ⟨hB, zB⟩ := bon hb hB
  refine zae (.cells v50.cells 167 (0, 0)) r (fun R => zaf r hr51.shape rfl rfl h_b13 ts167 rfl) rfl fun fr w52 u53 r => ?_
  have z_w52 := u53.size
  have h_b1 := u53.keep h_b1 (by omega)
  have h_b4 := u53.keep h_b4 (by omega)
  have h_b7 := u53.keep h_b7 (by omega)
  have h_b10 := u53.keep h_b10 (by omega)
  have h_b16 := u53.keep h_b16 (by omega)
  have h_b21 := u53.keep h_b21 (by omega)
  have h_b13 := u53.at_
  obtain ⟨hB, zB⟩ := u53.on hB (by omega)
  refine wn (wp_ret ?_)
  have hd : D.zck j r_retire_scanned a0 a1 a2 a3 = (D.zb7 (D.zaQ a0 a1 (W (a2.left - 1))) (fun x => (D.zdp a0 a1 a2 (fun _ => (D.zbt j r_retire_scanned a0 a1 (W (a2.left - 1)) a3 a2)) x))) := (zak h26).trans (rfl)
  have hs := hr51.shape.cells
  refine zad r rfl rfl h_b13 (k := 7) hs.1 ta167 ?_
  rw [← hs.2.2, hd]
  exact rfin hF hB hr51 u53 (by omega) (by omega) (by omega)

theorem zgA {n : Nat} {F : Nat → Prop} {j : Nat} {r_retire_scanned : Plan → Int → Scan → T Int} {w0 : World} (hF : ∀ b, F b → b < w0.heap.size) (hj : n < j) (ih_retire_scanned : ∀ m, m ≤ n → zbg r_retire_scanned m)
    (c0 : Plan) {c0_b : Nat} (c0_F : F c0_b) (c0_h : w0.heap[c0_b]? = some (.cells ((znc c0)).toArray 25 (0, 0))) (c1 : Int) {c1_b : Nat} (c1_F : F c1_b) (c1_h : w0.heap[c1_b]? = some (.cells ([(.int .i64 c1)]).toArray 3 (0, 0))) (c2 : Scan) {c2_b : Nat} (c2_F : F c2_b) (c2_h : w0.heap[c2_b]? = some (.cells ((scanC c2)).toArray 300 (0, 0))) (c3 : Scan) {c3_b : Nat} (c3_F : F c3_b) (c3_h : w0.heap[c3_b]? = some (.cells ((scanC c3)).toArray 300 (0, 0))) (c4 : Int) {c4_b : Nat} (c4_F : F c4_b) (c4_h : w0.heap[c4_b]? = some (.cells ([(.int .u64 c4)]).toArray 22 (0, 0))) (a0 : Bool) :
    Calls Tryz.prog 359 #[.bool a0, .pointer (some ⟨c0_b, 0, none⟩), .pointer (some ⟨c1_b, 0, none⟩), .pointer (some ⟨c2_b, 0, none⟩), .pointer (some ⟨c3_b, 0, none⟩), .pointer (some ⟨c4_b, 0, none⟩)] w0 (znf Tryz.prog zng n (D.zbe j r_retire_scanned c0 c1 c2 c3 c4 a0) F w0) := by
 refine enter Tryz.func359 rfl 20 rfl rfl fun fr r => ?_
 have hB := Below.refl w0.heap.size w0
 have l_c0_b := lt_of_block c0_h
 have l_c1_b := lt_of_block c1_h
 have l_c2_b := lt_of_block c2_h
 have l_c3_b := lt_of_block c3_h
 have l_c4_b := lt_of_block c4_h
 refine wsr ?_
 refine za5 (.cells (zna false zng.zero 0 0 0 0 .nilFunc) 167 (0, 0)) r (fun R => zag tz167) rfl fun fr b1 w2 n3 r => ?_
 obtain ⟨e_b1, z_w2, h_b1, hB, zB⟩ := n3.all hB
 refine wn (wp_seq (wsr (za0 (.bool a0) r (fun R => zaa r rfl) rfl fun fr r => wn ?_)))
 refine wp_cond_split (t := a0) (r.ev rfl) (fun h4 => ?_) (fun h4 => ?_)
 ·
  refine wsr (za0 (.agg (znc c0).toArray) r (fun R => za6 r (cs := (znc c0)) (n := 6) rfl (keep hB c0_h) ta25 rfl) rfl fun fr r => za0 (I c1) r (fun R => za3 r rfl (keep hB c1_h) to3 rfl) rfl fun fr r => za0 (.agg (scanC c2).toArray) r (fun R => za6 r (cs := (scanC c2)) (n := 3) rfl (keep hB c2_h) ta300 rfl) rfl fun fr r => ?_)
  have hF1 := fgrow hF hB b1
  refine za7 r ((ih_retire_scanned n (by omega)) (fun b => F b ∨ (w0.heap.size ≤ b ∧ b < w2.heap.size ∧ b ≠ b1)) _ hF1 c0 c1 c2) (fun R hc => zac r rfl cl294 hc) rfl ?_
  rintro _ w5 ⟨v6, rfl, hb, hr7⟩
  refine ⟨_, rfl, fun fr r => ?_⟩
  have z_w5 := hb.size
  have h_b1 := keep hb h_b1
  obtain ⟨hB, zB⟩ := bon hb hB
  refine zae (.cells v6.cells 167 (0, 0)) r (fun R => zaf r hr7.shape rfl rfl h_b1 ts167 rfl) rfl fun fr w8 u9 r => ?_
  have z_w8 := u9.size
  have h_b1 := u9.at_
  obtain ⟨hB, zB⟩ := u9.on hB (by omega)
  refine wn (wp_ret ?_)
  have hd : D.zbe j r_retire_scanned c0 c1 c2 c3 c4 a0 = (r_retire_scanned c0 c1 c2) := (zap h4).trans (rfl)
  have hs := hr7.shape.cells
  refine zad r rfl rfl h_b1 (k := 7) hs.1 ta167 ?_
  rw [← hs.2.2, hd]
  exact rfin hF hB hr7 u9 (by omega) (by omega) (by omega)
 ·
  refine wp_skip (wsr (za0 (.agg (znc c0).toArray) r (fun R => za6 r (cs := (znc c0)) (n := 6) rfl (keep hB c0_h) ta25 rfl) rfl fun fr r => za0 (I c1) r (fun R => za3 r rfl (keep hB c1_h) to3 rfl) rfl fun fr r => za0 (.agg (scanC c3).toArray) r (fun R => za6 r (cs := (scanC c3)) (n := 3) rfl (keep hB c3_h) ta300 rfl) rfl fun fr r => za0 (U c4) r (fun R => za3 r rfl (keep hB c4_h) to22 rfl) rfl fun fr r => za0 (I (W c4)) r (fun R => zbo r rfl ti22 ti3) rfl fun fr r => za0 _ r (fun R => zni r rfl rfl rfl rfl) rfl fun fr r => ?_))
  have hF1 := fgrow hF hB b1
  refine za7 r (zih (j := j) (F := (fun b => F b ∨ (w0.heap.size ≤ b ∧ b < w2.heap.size ∧ b ≠ b1))) (n := n) hF1 (by omega) (fun m' hm' => ih_retire_scanned m' (by omega)) c0 c1 c3 (W ((W c4) - 1))) (fun R hc => zac r rfl cl360 hc) rfl ?_
  rintro _ w10 ⟨v11, rfl, hb, hr12⟩
  refine ⟨_, rfl, fun fr r => ?_⟩
  have z_w10 := hb.size
  have h_b1 := keep hb h_b1
  obtain ⟨hB, zB⟩ := bon hb hB
  refine zae (.cells v11.cells 167 (0, 0)) r (fun R => zaf r hr12.shape rfl rfl h_b1 ts167 rfl) rfl fun fr w13 u14 r => ?_
  have z_w13 := u14.size
  have h_b1 := u14.at_
  obtain ⟨hB, zB⟩ := u14.on hB (by omega)
  refine wn (wp_ret ?_)
  have hd : D.zbe j r_retire_scanned c0 c1 c2 c3 c4 a0 = (D.zck j r_retire_scanned c0 c1 c3 (W ((W c4) - 1))) := (zak h4).trans (rfl)
  have hs := hr12.shape.cells
  refine zad r rfl rfl h_b1 (k := 7) hs.1 ta167 ?_
  rw [← hs.2.2, hd]
  exact rfin hF hB hr12 u14 (by omega) (by omega) (by omega)

theorem zhk {n : Nat} {F : Nat → Prop} {j : Nat} {r_retire_scanned : Plan → Int → Scan → T Int} {w0 : World} (hF : ∀ b, F b → b < w0.heap.size) (hj : n < j) (ih_retire_scanned : ∀ m, m ≤ n → zbg r_retire_scanned m)
    (c0 : Plan) {c0_b : Nat} (c0_F : F c0_b) (c0_h : w0.heap[c0_b]? = some (.cells ((znc c0)).toArray 25 (0, 0))) (c1 : Int) {c1_b : Nat} (c1_F : F c1_b) (c1_h : w0.heap[c1_b]? = some (.cells ([(.int .i64 c1)]).toArray 3 (0, 0))) (c2 : Scan) {c2_b : Nat} (c2_F : F c2_b) (c2_h : w0.heap[c2_b]? = some (.cells ((scanC c2)).toArray 300 (0, 0))) (c3 : Scan) {c3_b : Nat} (c3_F : F c3_b) (c3_h : w0.heap[c3_b]? = some (.cells ((scanC c3)).toArray 300 (0, 0))) (a0 : Int) :
    Calls Tryz.prog 356 #[.int .u64 a0, .pointer (some ⟨c0_b, 0, none⟩), .pointer (some ⟨c1_b, 0, none⟩), .pointer (some ⟨c2_b, 0, none⟩), .pointer (some ⟨c3_b, 0, none⟩)] w0 (znf Tryz.prog zng n (D.zc2 j r_retire_scanned c0 c1 c2 c3 a0) F w0) := by
 refine enter Tryz.func356 rfl 27 rfl rfl fun fr r => ?_
 have hB := Below.refl w0.heap.size w0
 have l_c0_b := lt_of_block c0_h
 have l_c1_b := lt_of_block c1_h
 have l_c2_b := lt_of_block c2_h
 have l_c3_b := lt_of_block c3_h
 refine wsr ?_
 refine za5 (.cells #[(U a0)] 22 (0, 0)) r (fun R => znm r (v := (U a0)) rfl) rfl fun fr b1 w2 n3 r => ?_
 obtain ⟨e_b1, z_w2, h_b1, hB, zB⟩ := n3.all hB
 refine za5 (.cells (zna false zng.zero 0 0 0 0 .nilFunc) 167 (0, 0)) r (fun R => zag tz167) rfl fun fr b4 w5 n6 r => ?_
 have h_b1 := keep n6.below h_b1
 obtain ⟨e_b4, z_w5, h_b4, hB, zB⟩ := n6.all hB
 refine wn (wp_seq (wsr (za0 (U a0) r (fun R => za3 r rfl h_b1 to22 rfl) rfl fun fr r => za0 _ r (fun R => zni r rfl rfl rfl rfl) rfl fun fr r => za0 (.bool (decide (a0 < 1))) r (fun R => zaa r rfl) rfl fun fr r => ?_)))
 refine zaI (decide (a0 < 1)) (fun h7 => ?_) (fun h7 => ?_)
 ·
  refine s0 r h7 fun fr r => s0 r h7 fun fr r => s0 r h7 fun fr r => s0 r h7 fun fr r => s0 r h7 fun fr r => za0 (.bool true) r (fun R => zaq r (b := true) (congrArg Value.bool h7) rfl) rfl fun fr r => wn ?_
  refine wp_cond_split (t := true) (r.ev rfl) (fun _ => ?_) (fun h => absurd ((rfl : true = _).symm.trans h) (by decide))
  refine wsr (za0 (.agg (znc c0).toArray) r (fun R => za6 r (cs := (znc c0)) (n := 6) rfl (keep hB c0_h) ta25 rfl) rfl fun fr r => za0 (I c1) r (fun R => za3 r rfl (keep hB c1_h) to3 rfl) rfl fun fr r => za0 (.agg (scanC c2).toArray) r (fun R => za6 r (cs := (scanC c2)) (n := 3) rfl (keep hB c2_h) ta300 rfl) rfl fun fr r => ?_)
  have hF1 := fgrow hF hB b4
  refine za7 r ((ih_retire_scanned n (by omega)) (fun b => F b ∨ (w0.heap.size ≤ b ∧ b < w5.heap.size ∧ b ≠ b4)) _ hF1 c0 c1 c2) (fun R hc => zac r rfl cl294 hc) rfl ?_
  rintro _ w8 ⟨v9, rfl, hb, hr10⟩
  refine ⟨_, rfl, fun fr r => ?_⟩
  have z_w8 := hb.size
  have h_b1 := keep hb h_b1
  have h_b4 := keep hb h_b4
  obtain ⟨hB, zB⟩ := bon hb hB
  refine zae (.cells v9.cells 167 (0, 0)) r (fun R => zaf r hr10.shape rfl rfl h_b4 ts167 rfl) rfl fun fr w11 u12 r => ?_
  have z_w11 := u12.size
  have h_b1 := u12.keep h_b1 (by omega)
  have h_b4 := u12.at_
  obtain ⟨hB, zB⟩ := u12.on hB (by omega)
  refine wn (wp_ret ?_)
  have hd : D.zc2 j r_retire_scanned c0 c1 c2 c3 a0 = (r_retire_scanned c0 c1 c2) := (zap h7).trans (rfl)
  have hs := hr10.shape.cells
  refine zad r rfl rfl h_b4 (k := 7) hs.1 ta167 ?_
  rw [← hs.2.2, hd]
  exact rfin hF hB hr10 u12 (by omega) (by omega) (by omega)
 ·
  refine s1 r h7 (za0 (U a0) r (fun R => za3 r rfl h_b1 to22 rfl) rfl fun fr r => s1 r h7 (za0 _ r (fun R => za4 r (o := 0) rfl zfQ) rfl fun fr r => s1 r h7 (za0 (I c0.nodes) r (fun R => za3 r rfl (keep hB c0_h) to3 rfl) rfl fun fr r => s1 r h7 (za0 (U (V c0.nodes)) r (fun R => zbo r rfl ti3 ti22) rfl fun fr r => s1 r h7 (za0 _ r (fun R => zni r rfl rfl rfl rfl) rfl fun fr r => za0 (.bool (decide (a0 > (V c0.nodes)))) r (fun R => zaq r (b := false) (congrArg Value.bool h7) rfl) rfl fun fr r => wn ?_)))))
  refine wp_cond_split (t := (decide (a0 > (V c0.nodes)))) (r.ev rfl) (fun h13 => ?_) (fun h13 => ?_)
  ·
   refine wsr (za0 (.agg (znc c0).toArray) r (fun R => za6 r (cs := (znc c0)) (n := 6) rfl (keep hB c0_h) ta25 rfl) rfl fun fr r => za0 (I c1) r (fun R => za3 r rfl (keep hB c1_h) to3 rfl) rfl fun fr r => za0 (.agg (scanC c2).toArray) r (fun R => za6 r (cs := (scanC c2)) (n := 3) rfl (keep hB c2_h) ta300 rfl) rfl fun fr r => ?_)
   have hF1 := fgrow hF hB b4
   refine za7 r ((ih_retire_scanned n (by omega)) (fun b => F b ∨ (w0.heap.size ≤ b ∧ b < w5.heap.size ∧ b ≠ b4)) _ hF1 c0 c1 c2) (fun R hc => zac r rfl cl294 hc) rfl ?_
   rintro _ w14 ⟨v15, rfl, hb, hr16⟩
   refine ⟨_, rfl, fun fr r => ?_⟩
   have z_w14 := hb.size
   have h_b1 := keep hb h_b1
   have h_b4 := keep hb h_b4
   obtain ⟨hB, zB⟩ := bon hb hB
   refine zae (.cells v15.cells 167 (0, 0)) r (fun R => zaf r hr16.shape rfl rfl h_b4 ts167 rfl) rfl fun fr w17 u18 r => ?_
   have z_w17 := u18.size
   have h_b1 := u18.keep h_b1 (by omega)
   have h_b4 := u18.at_
   obtain ⟨hB, zB⟩ := u18.on hB (by omega)
   refine wn (wp_ret ?_)
   have hd : D.zc2 j r_retire_scanned c0 c1 c2 c3 a0 = (r_retire_scanned c0 c1 c2) := (zak h7).trans ((zap h13).trans (rfl))
   have hs := hr16.shape.cells
   refine zad r rfl rfl h_b4 (k := 7) hs.1 ta167 ?_
   rw [← hs.2.2, hd]
   exact rfin hF hB hr16 u18 (by omega) (by omega) (by omega)
  ·
   refine wp_skip (wsr (za0 (.agg (znc c0).toArray) r (fun R => za6 r (cs := (znc c0)) (n := 6) rfl (keep hB c0_h) ta25 rfl) rfl fun fr r => za0 (U a0) r (fun R => za3 r rfl h_b1 to22 rfl) rfl fun fr r => za0 (I (W a0)) r (fun R => zbo r rfl ti22 ti3) rfl fun fr r => za0 _ r (fun R => zni r rfl rfl rfl rfl) rfl fun fr r => ?_))
   have hF1 := fgrow hF hB b4
   refine za7 r (zjl (j := j) (F := (fun b => F b ∨ (w0.heap.size ≤ b ∧ b < w5.heap.size ∧ b ≠ b4))) (n := n) hF1 (by omega) c0 (W ((W a0) - 1))) (fun R hc => zac r rfl cl358 hc) rfl ?_
   rintro _ w19 ⟨v20, rfl, hb, hr21⟩
   refine ⟨_, rfl, fun fr r => ?_⟩
   have z_w19 := hb.size
   have h_b1 := keep hb h_b1
   have h_b4 := keep hb h_b4
   obtain ⟨hB, zB⟩ := bon hb hB
   refine za0 (.func (.func 359) #[] #[.pointer (some ⟨c0_b, 0, none⟩), .pointer (some ⟨c1_b, 0, none⟩), .pointer (some ⟨c2_b, 0, none⟩), .pointer (some ⟨c3_b, 0, none⟩), .pointer (some ⟨b1, 0, none⟩)]) r (fun R => zan r rfl) rfl fun fr r => ?_
   have hF1 := fgrow hF hB b4
   have f22 : ((fun b => F b ∨ (w0.heap.size ≤ b ∧ b < w19.heap.size ∧ b ≠ b4))) c0_b := (.inl c0_F)
   have f23 : ((fun b => F b ∨ (w0.heap.size ≤ b ∧ b < w19.heap.size ∧ b ≠ b4))) c1_b := (.inl c1_F)
   have f24 : ((fun b => F b ∨ (w0.heap.size ≤ b ∧ b < w19.heap.size ∧ b ≠ b4))) c2_b := (.inl c2_F)
   have f25 : ((fun b => F b ∨ (w0.heap.size ≤ b ∧ b < w19.heap.size ∧ b ≠ b4))) c3_b := (.inl c3_F)
   have f26 : ((fun b => F b ∨ (w0.heap.size ≤ b ∧ b < w19.heap.size ∧ b ≠ b4))) b1 := (.inr ⟨by omega, by omega, by omega⟩)
   refine za7 r (zfH (F := (fun b => F b ∨ (w0.heap.size ≤ b ∧ b < w19.heap.size ∧ b ≠ b4))) (n := n) hF1 (Rep.mono (by rintro b (h | h); (rcases h with h | ⟨h1, h2, h3⟩; exact .inl h; exact .inr ⟨h1, by omega, h3⟩); exact .inr ⟨by omega, by omega, by omega⟩) (Same.refl _ _) (by omega) n _ _ hr21) ⟨359, [], [.pointer (some ⟨c0_b, 0, none⟩), .pointer (some ⟨c1_b, 0, none⟩), .pointer (some ⟨c2_b, 0, none⟩), .pointer (some ⟨c3_b, 0, none⟩), .pointer (some ⟨b1, 0, none⟩)], cl359, rfl, fun m hm x w' hs hz => zgA (j := j) (fun b hb => Nat.lt_of_lt_of_le (hF1 b hb) hz) (by omega) (fun m' hm' => ih_retire_scanned m' (by omega)) c0 f22 (hs.at_ f22 (keep hB c0_h)) c1 f23 (hs.at_ f23 (keep hB c1_h)) c2 f24 (hs.at_ f24 (keep hB c2_h)) c3 f25 (hs.at_ f25 (keep hB c3_h)) a0 f26 (hs.at_ f26 h_b1) x⟩) (fun R hc => zac r rfl cl357 hc) rfl ?_
   rintro _ w27 ⟨v28, rfl, hb, hr29⟩
   refine ⟨_, rfl, fun fr r => ?_⟩
   have z_w27 := hb.size
   have h_b1 := keep hb h_b1
   have h_b4 := keep hb h_b4
   obtain ⟨hB, zB⟩ := bon hb hB
   refine zae (.cells v28.cells 167 (0, 0)) r (fun R => zaf r hr29.shape rfl rfl h_b4 ts167 rfl) rfl fun fr w30 u31 r => ?_
   have z_w30 := u31.size
   have h_b1 := u31.keep h_b1 (by omega)
   have h_b4 := u31.at_
   obtain ⟨hB, zB⟩ := u31.on hB (by omega)
   refine wn (wp_ret ?_)
   have hd : D.zc2 j r_retire_scanned c0 c1 c2 c3 a0 = (T.bind (D.zfG j c0 (W ((W a0) - 1))) (fun x => (D.zbe j r_retire_scanned c0 c1 c2 c3 a0 x))) := (zak h7).trans ((zak h13).trans (rfl))
   have hs := hr29.shape.cells
   refine zad r rfl rfl h_b4 (k := 7) hs.1 ta167 ?_
   rw [← hs.2.2, hd]
   exact rfin hF hB hr29 u31 (by omega) (by omega) (by omega)

theorem zig {n : Nat} {F : Nat → Prop} {j : Nat} {r_retire_scanned : Plan → Int → Scan → T Int} {w0 : World} (hF : ∀ b, F b → b < w0.heap.size) (hj : n < j) (ih_retire_scanned : ∀ m, m < n → zbg r_retire_scanned m)
    (a0 : Plan) (a1 : Int) (a2 : Scan) :
    Calls Tryz.prog 294 #[.agg (znc a0).toArray, .int .i64 a1, .agg (scanC a2).toArray] w0 (znf Tryz.prog zng n (D.zbf j r_retire_scanned a0 a1 a2) F w0) := by
 refine enter Tryz.func294 rfl 29 rfl rfl fun fr r => ?_
 have hB := Below.refl w0.heap.size w0
 refine wsr ?_
 refine za5 (.cells ((znc a0)).toArray 25 (0, 0)) r (fun R => znm r (v := (.agg (znc a0).toArray)) rfl) rfl fun fr b1 w2 n3 r => ?_
 obtain ⟨e_b1, z_w2, h_b1, hB, zB⟩ := n3.all hB
 refine za5 (.cells #[(I a1)] 3 (0, 0)) r (fun R => znm r (v := (I a1)) rfl) rfl fun fr b4 w5 n6 r => ?_
 have h_b1 := keep n6.below h_b1
 obtain ⟨e_b4, z_w5, h_b4, hB, zB⟩ := n6.all hB
 refine za5 (.cells ((scanC a2)).toArray 300 (0, 0)) r (fun R => znm r (v := (.agg (scanC a2).toArray)) rfl) rfl fun fr b7 w8 n9 r => ?_
 have h_b1 := keep n9.below h_b1
 have h_b4 := keep n9.below h_b4
 obtain ⟨e_b7, z_w8, h_b7, hB, zB⟩ := n9.all hB
 refine za5 (.cells (zna false zng.zero 0 0 0 0 .nilFunc) 167 (0, 0)) r (fun R => zag tz167) rfl fun fr b10 w11 n12 r => ?_
 have h_b1 := keep n12.below h_b1
 have h_b4 := keep n12.below h_b4
 have h_b7 := keep n12.below h_b7
 obtain ⟨e_b10, z_w11, h_b10, hB, zB⟩ := n12.all hB
 refine wn (wp_seq (wsr (za0 _ r (fun R => za4 r (o := 0) rfl zhQ) rfl fun fr r => za0 (I a2.at_) r (fun R => za3 r rfl h_b7 to3 rfl) rfl fun fr r => za0 _ r (fun R => zni r rfl rfl rfl rfl) rfl fun fr r => wn ?_)))
 refine wp_cond_split (t := (decide (a2.at_ < 0))) (r.ev rfl) (fun h13 => ?_) (fun h13 => ?_)
 ·
  refine wsr (za0 _ r (fun R => za4 r (o := 0) rfl zkF) rfl fun fr r => za0 (I a2.done) r (fun R => za3 r rfl h_b7 to3 rfl) rfl fun fr r => ?_)
  have hF1 := fgrow hF hB b10
  refine za7 r (zbi (F := (fun b => F b ∨ (w0.heap.size ≤ b ∧ b < w11.heap.size ∧ b ≠ b10))) (n := n) hF1 a2.done) (fun R hc => zac r rfl cl229 hc) rfl ?_
  rintro _ w14 ⟨v15, rfl, hb, hr16⟩
  refine ⟨_, rfl, fun fr r => ?_⟩
  have z_w14 := hb.size
  have h_b1 := keep hb h_b1
  have h_b4 := keep hb h_b4
  have h_b7 := keep hb h_b7
  have h_b10 := keep hb h_b10
  obtain ⟨hB, zB⟩ := bon hb hB
  refine zae (.cells v15.cells 167 (0, 0)) r (fun R => zaf r hr16.shape rfl rfl h_b10 ts167 rfl) rfl fun fr w17 u18 r => ?_
  have z_w17 := u18.size
  have h_b1 := u18.keep h_b1 (by omega)
  have h_b4 := u18.keep h_b4 (by omega)
  have h_b7 := u18.keep h_b7 (by omega)
  have h_b10 := u18.at_
  obtain ⟨hB, zB⟩ := u18.on hB (by omega)
  refine wn (wp_ret ?_)
  have hd : D.zbf j r_retire_scanned a0 a1 a2 = (D.zaW a2.done) := (zap h13).trans (rfl)
  have hs := hr16.shape.cells
  refine zad r rfl rfl h_b10 (k := 7) hs.1 ta167 ?_
  rw [← hs.2.2, hd]
  exact rfin hF hB hr16 u18 (by omega) (by omega) (by omega)
 ·
  refine wp_skip (wsr (za0 _ r (fun R => za4 r (o := 0) rfl zhQ) rfl fun fr r => za0 (I a2.at_) r (fun R => za3 r rfl h_b7 to3 rfl) rfl fun fr r => za0 _ r (fun R => zni r rfl rfl rfl rfl) rfl fun fr r => za0 _ r (fun R => za4 r (o := 0) rfl zlp) rfl fun fr r => za0 (I a2.left) r (fun R => za3 r rfl h_b7 to3 rfl) rfl fun fr r => za0 _ r (fun R => za4 r (o := 0) rfl zkF) rfl fun fr r => za0 (I a2.done) r (fun R => za3 r rfl h_b7 to3 rfl) rfl fun fr r => za0 (.agg (scanC (⟨(W (a2.at_ - 1)), a2.left, a2.done⟩ : Scan)).toArray) r (fun R => zaM r (by kernel_rfl)) rfl fun fr r => ?_))
  refine za5 (.cells ((scanC (⟨0, 0, 0⟩ : Scan))).toArray 300 (0, 0)) r (fun R => zag tz300) rfl fun fr b19 w20 n21 r => ?_
  have h_b1 := keep n21.below h_b1
  have h_b4 := keep n21.below h_b4
  have h_b7 := keep n21.below h_b7
  have h_b10 := keep n21.below h_b10
  obtain ⟨e_b19, z_w20, h_b19, hB, zB⟩ := n21.all hB
  refine zae (.cells ((scanC (⟨(W (a2.at_ - 1)), a2.left, a2.done⟩ : Scan))).toArray 300 (0, 0)) r (fun R => zaN r (o := 0) (v := (.agg (scanC (⟨(W (a2.at_ - 1)), a2.left, a2.done⟩ : Scan)).toArray)) rfl rfl h_b19 ts300 (Nat.le_of_ble_eq_true rfl) rfl rfl) rfl fun fr w22 u23 r => ?_
  have z_w22 := u23.size
  have h_b1 := u23.keep h_b1 (by omega)
  have h_b4 := u23.keep h_b4 (by omega)
  have h_b7 := u23.keep h_b7 (by omega)
  have h_b10 := u23.keep h_b10 (by omega)
  have h_b19 := u23.at_
  obtain ⟨hB, zB⟩ := u23.on hB (by omega)
  refine wn (wsr (za0 (.agg (znc a0).toArray) r (fun R => za6 r (cs := (znc a0)) (n := 6) rfl h_b1 ta25 rfl) rfl fun fr r => za0 (I a1) r (fun R => za3 r rfl h_b4 to3 rfl) rfl fun fr r => za0 _ r (fun R => za4 r (o := 0) rfl zhQ) rfl fun fr r => za0 (I a2.at_) r (fun R => za3 r rfl h_b7 to3 rfl) rfl fun fr r => ?_))
  refine za7 r (zcy w22 a0 a1 a2.at_) (fun R hc => zac r rfl cl165 hc) rfl ?_
  rintro _ w24 ⟨rfl, hb⟩
  refine ⟨_, rfl, fun fr r => ?_⟩
  have z_w24 := hb.size
  have h_b1 := keep hb h_b1
  have h_b4 := keep hb h_b4
  have h_b7 := keep hb h_b7
  have h_b10 := keep hb h_b10
  have h_b19 := keep hb h_b19
  obtain ⟨hB, zB⟩ := bon hb hB
  refine za0 (.func (.func 356) #[] #[.pointer (some ⟨b1, 0, none⟩), .pointer (some ⟨b4, 0, none⟩), .pointer (some ⟨b19, 0, none⟩), .pointer (some ⟨b7, 0, none⟩)]) r (fun R => zan r rfl) rfl fun fr r => ?_
  have hF1 := fgrow hF hB b10
  have f25 : ((fun b => F b ∨ (w0.heap.size ≤ b ∧ b < w24.heap.size ∧ b ≠ b10))) b1 := (.inr ⟨by omega, by omega, by omega⟩)
  have f26 : ((fun b => F b ∨ (w0.heap.size ≤ b ∧ b < w24.heap.size ∧ b ≠ b10))) b4 := (.inr ⟨by omega, by omega, by omega⟩)
  have f27 : ((fun b => F b ∨ (w0.heap.size ≤ b ∧ b < w24.heap.size ∧ b ≠ b10))) b19 := (.inr ⟨by omega, by omega, by omega⟩)
  have f28 : ((fun b => F b ∨ (w0.heap.size ≤ b ∧ b < w24.heap.size ∧ b ≠ b10))) b7 := (.inr ⟨by omega, by omega, by omega⟩)
  refine za7 r (zbz (F := (fun b => F b ∨ (w0.heap.size ≤ b ∧ b < w24.heap.size ∧ b ≠ b10))) (n := n) hF1 (D.zaQ a0 a1 a2.at_) ⟨356, [], [.pointer (some ⟨b1, 0, none⟩), .pointer (some ⟨b4, 0, none⟩), .pointer (some ⟨b19, 0, none⟩), .pointer (some ⟨b7, 0, none⟩)], cl356, rfl, fun m hm x w' hs hz => zhk (j := j) (fun b hb => Nat.lt_of_lt_of_le (hF1 b hb) hz) (by omega) (fun m' hm' => ih_retire_scanned m' (by omega)) a0 f25 (hs.at_ f25 h_b1) a1 f26 (hs.at_ f26 h_b4) (⟨(W (a2.at_ - 1)), a2.left, a2.done⟩ : Scan) f27 (hs.at_ f27 h_b19) a2 f28 (hs.at_ f28 h_b7) x⟩) (fun R hc => zac r rfl cl198 hc) rfl ?_
  rintro _ w29 ⟨v30, rfl, hb, hr31⟩
  refine ⟨_, rfl, fun fr r => ?_⟩
  have z_w29 := hb.size
  have h_b1 := keep hb h_b1
  have h_b4 := keep hb h_b4
  have h_b7 := keep hb h_b7
  have h_b10 := keep hb h_b10
  have h_b19 := keep hb h_b19
  obtain ⟨hB, zB⟩ := bon hb hB
  refine zae (.cells v30.cells 167 (0, 0)) r (fun R => zaf r hr31.shape rfl rfl h_b10 ts167 rfl) rfl fun fr w32 u33 r => ?_
  have z_w32 := u33.size
  have h_b1 := u33.keep h_b1 (by omega)
  have h_b4 := u33.keep h_b4 (by omega)
  have h_b7 := u33.keep h_b7 (by omega)
  have h_b19 := u33.keep h_b19 (by omega)
  have h_b10 := u33.at_
  obtain ⟨hB, zB⟩ := u33.on hB (by omega)
  refine wn (wp_ret ?_)
  have hd : D.zbf j r_retire_scanned a0 a1 a2 = (D.zb7 (D.zaQ a0 a1 a2.at_) (fun x => (D.zc2 j r_retire_scanned a0 a1 (⟨(W (a2.at_ - 1)), a2.left, a2.done⟩ : Scan) a2 x))) := (zak h13).trans (rfl)
  have hs := hr31.shape.cells
  refine zad r rfl rfl h_b10 (k := 7) hs.1 ta167 ?_
  rw [← hs.2.2, hd]
  exact rfin hF hB hr31 u33 (by omega) (by omega) (by omega)

theorem zib {n : Nat} {j : Nat} (hj : n < j) {k : Nat} (hk : n < k) : zbg (D.zbb j k) n := by
  induction n using Nat.strongRecOn generalizing k with
  | _ n ih =>
    obtain ⟨k, rfl⟩ : ∃ q, k = q + 1 := ⟨k - 1, by omega⟩
    intro F w0 hF
    have h := @zig n F j (D.zbb j k) w0 hF hj (fun m hm => ih m hm (by omega) (by omega))
    exact h

def D.zfx (j : Nat) (c0 : Plan) (c1 : Int) (a0 : Int) : T Int := (D.zbb j j c0 c1 (⟨(IntKind.i64.wrap ((IntKind.i64.wrap (minI a0 (IntKind.u64.wrap c0.retire))) - 1)), (IntKind.i64.wrap (minI a0 (IntKind.u64.wrap c0.retire))), 0⟩ : Scan))

theorem ziP {n : Nat} {F : Nat → Prop} {j : Nat} {w0 : World} (hF : ∀ b, F b → b < w0.heap.size) (hj : n < j)
    (c0 : Plan) {c0_b : Nat} (c0_F : F c0_b) (c0_h : w0.heap[c0_b]? = some (.cells ((znc c0)).toArray 25 (0, 0))) (c1 : Int) {c1_b : Nat} (c1_F : F c1_b) (c1_h : w0.heap[c1_b]? = some (.cells ([(.int .i64 c1)]).toArray 3 (0, 0))) (a0 : Int) :
    Calls Tryz.prog 293 #[.int .u64 a0, .pointer (some ⟨c0_b, 0, none⟩), .pointer (some ⟨c1_b, 0, none⟩)] w0 (znf Tryz.prog zng n (D.zfx j c0 c1 a0) F w0) := by
 refine enter Tryz.func293 rfl 19 rfl rfl fun fr r => ?_
 have hB := Below.refl w0.heap.size w0
 have l_c0_b := lt_of_block c0_h
 have l_c1_b := lt_of_block c1_h
 refine wsr ?_
 refine za5 (.cells (zna false zng.zero 0 0 0 0 .nilFunc) 167 (0, 0)) r (fun R => zag tz167) rfl fun fr b1 w2 n3 r => ?_
 obtain ⟨e_b1, z_w2, h_b1, hB, zB⟩ := n3.all hB
 refine wn (wsr (za0 (U a0) r (fun R => zaa r rfl) rfl fun fr r => za0 _ r (fun R => za4 r (o := 0) rfl zgK) rfl fun fr r => za0 (I c0.retire) r (fun R => za3 r rfl (keep hB c0_h) to3 rfl) rfl fun fr r => za0 (U (V c0.retire)) r (fun R => zbo r rfl ti3 ti22) rfl fun fr r => za0 (U (minI a0 (V c0.retire))) r (fun R => y_min r (m := a0) (n := (V c0.retire)) rfl rfl) rfl fun fr r => za0 (I (W (minI a0 (V c0.retire)))) r (fun R => zbo r rfl ti22 ti3) rfl fun fr r => za0 (I (W (minI a0 (V c0.retire)))) r (fun R => za8 r rfl) rfl fun fr r => wn (wsr (za0 (.agg (znc c0).toArray) r (fun R => za6 r (cs := (znc c0)) (n := 6) rfl (keep hB c0_h) ta25 rfl) rfl fun fr r => za0 (I c1) r (fun R => za3 r rfl (keep hB c1_h) to3 rfl) rfl fun fr r => za0 (I (W (minI a0 (V c0.retire)))) r (fun R => zaa r rfl) rfl fun fr r => za0 _ r (fun R => zni r rfl rfl rfl rfl) rfl fun fr r => za0 (I (W (minI a0 (V c0.retire)))) r (fun R => zaa r rfl) rfl fun fr r => za0 (.agg (scanC (⟨(W ((W (minI a0 (V c0.retire))) - 1)), (W (minI a0 (V c0.retire))), 0⟩ : Scan)).toArray) r (fun R => zaM r (by kernel_rfl)) rfl fun fr r => ?_))))
 have hF1 := fgrow hF hB b1
 refine za7 r ((zib (j := j) (k := j) (n := n) (by omega) (by omega)) (fun b => F b ∨ (w0.heap.size ≤ b ∧ b < w2.heap.size ∧ b ≠ b1)) _ hF1 c0 c1 (⟨(W ((W (minI a0 (V c0.retire))) - 1)), (W (minI a0 (V c0.retire))), 0⟩ : Scan)) (fun R hc => zac r rfl cl294 hc) rfl ?_
 rintro _ w4 ⟨v5, rfl, hb, hr6⟩
 refine ⟨_, rfl, fun fr r => ?_⟩
 have z_w4 := hb.size
 have h_b1 := keep hb h_b1
 obtain ⟨hB, zB⟩ := bon hb hB
 refine zae (.cells v5.cells 167 (0, 0)) r (fun R => zaf r hr6.shape rfl rfl h_b1 ts167 rfl) rfl fun fr w7 u8 r => ?_
 have z_w7 := u8.size
 have h_b1 := u8.at_
 obtain ⟨hB, zB⟩ := u8.on hB (by omega)
 refine wn (wp_ret ?_)
 have hs := hr6.shape.cells
 refine zad r rfl rfl h_b1 (k := 7) hs.1 ta167 ?_
 rw [← hs.2.2]
 exact rfin hF hB hr6 u8 (by omega) (by omega) (by omega)

def D.zd4 (j : Nat) (a0 : Plan) (a1 : Int) : T Int := (D.zb7 (D.zb6 a0 a1) (fun x => (D.zfx j a0 a1 x)))

theorem zhx {n : Nat} {F : Nat → Prop} {j : Nat} {w0 : World} (hF : ∀ b, F b → b < w0.heap.size) (hj : n < j)
    (a0 : Plan) (a1 : Int) :
    Calls Tryz.prog 193 #[.agg (znc a0).toArray, .int .i64 a1] w0 (znf Tryz.prog zng n (D.zd4 j a0 a1) F w0) := by
 refine enter Tryz.func193 rfl 10 rfl rfl fun fr r => ?_
 have hB := Below.refl w0.heap.size w0
 refine wsr ?_
 refine za5 (.cells ((znc a0)).toArray 25 (0, 0)) r (fun R => znm r (v := (.agg (znc a0).toArray)) rfl) rfl fun fr b1 w2 n3 r => ?_
 obtain ⟨e_b1, z_w2, h_b1, hB, zB⟩ := n3.all hB
 refine za5 (.cells #[(I a1)] 3 (0, 0)) r (fun R => znm r (v := (I a1)) rfl) rfl fun fr b4 w5 n6 r => ?_
 have h_b1 := keep n6.below h_b1
 obtain ⟨e_b4, z_w5, h_b4, hB, zB⟩ := n6.all hB
 refine za5 (.cells (zna false zng.zero 0 0 0 0 .nilFunc) 167 (0, 0)) r (fun R => zag tz167) rfl fun fr b7 w8 n9 r => ?_
 have h_b1 := keep n9.below h_b1
 have h_b4 := keep n9.below h_b4
 obtain ⟨e_b7, z_w8, h_b7, hB, zB⟩ := n9.all hB
 refine wn (wsr (za0 (.agg (znc a0).toArray) r (fun R => za6 r (cs := (znc a0)) (n := 6) rfl h_b1 ta25 rfl) rfl fun fr r => za0 (I a1) r (fun R => za3 r rfl h_b4 to3 rfl) rfl fun fr r => ?_))
 refine za7 r (zdd w8 a0 a1) (fun R hc => zac r rfl cl164 hc) rfl ?_
 rintro _ w10 ⟨rfl, hb⟩
 refine ⟨_, rfl, fun fr r => ?_⟩
 have z_w10 := hb.size
 have h_b1 := keep hb h_b1
 have h_b4 := keep hb h_b4
 have h_b7 := keep hb h_b7
 obtain ⟨hB, zB⟩ := bon hb hB
 refine za0 (.func (.func 293) #[] #[.pointer (some ⟨b1, 0, none⟩), .pointer (some ⟨b4, 0, none⟩)]) r (fun R => zan r rfl) rfl fun fr r => ?_
 have hF1 := fgrow hF hB b7
 have f11 : ((fun b => F b ∨ (w0.heap.size ≤ b ∧ b < w10.heap.size ∧ b ≠ b7))) b1 := (.inr ⟨by omega, by omega, by omega⟩)
 have f12 : ((fun b => F b ∨ (w0.heap.size ≤ b ∧ b < w10.heap.size ∧ b ≠ b7))) b4 := (.inr ⟨by omega, by omega, by omega⟩)
 refine za7 r (zbz (F := (fun b => F b ∨ (w0.heap.size ≤ b ∧ b < w10.heap.size ∧ b ≠ b7))) (n := n) hF1 (D.zb6 a0 a1) ⟨293, [], [.pointer (some ⟨b1, 0, none⟩), .pointer (some ⟨b4, 0, none⟩)], cl293, rfl, fun m hm x w' hs hz => ziP (j := j) (fun b hb => Nat.lt_of_lt_of_le (hF1 b hb) hz) (by omega) a0 f11 (hs.at_ f11 h_b1) a1 f12 (hs.at_ f12 h_b4) x⟩) (fun R hc => zac r rfl cl198 hc) rfl ?_
 rintro _ w13 ⟨v14, rfl, hb, hr15⟩
 refine ⟨_, rfl, fun fr r => ?_⟩
 have z_w13 := hb.size
 have h_b1 := keep hb h_b1
 have h_b4 := keep hb h_b4
 have h_b7 := keep hb h_b7
 obtain ⟨hB, zB⟩ := bon hb hB
 refine zae (.cells v14.cells 167 (0, 0)) r (fun R => zaf r hr15.shape rfl rfl h_b7 ts167 rfl) rfl fun fr w16 u17 r => ?_
 have z_w16 := u17.size
 have h_b1 := u17.keep h_b1 (by omega)
 have h_b4 := u17.keep h_b4 (by omega)
 have h_b7 := u17.at_
 obtain ⟨hB, zB⟩ := u17.on hB (by omega)
 refine wn (wp_ret ?_)
 have hs := hr15.shape.cells
 refine zad r rfl rfl h_b7 (k := 7) hs.1 ta167 ?_
 rw [← hs.2.2]
 exact rfin hF hB hr15 u17 (by omega) (by omega) (by omega)

def D.zet (c0 : Int) : T Int := (D.zaW (IntKind.i64.wrap ((IntKind.i64.wrap c0) + 1)))

theorem zhd {n : Nat} {F : Nat → Prop} {w0 : World} (hF : ∀ b, F b → b < w0.heap.size)
    (c0 : Int) {c0_b : Nat} (c0_F : F c0_b) (c0_h : w0.heap[c0_b]? = some (.cells ([(.int .u64 c0)]).toArray 22 (0, 0))) :
    Calls Tryz.prog 324 #[.pointer (some ⟨c0_b, 0, none⟩)] w0 (znf Tryz.prog zng n (D.zet c0) F w0) := by
 refine enter Tryz.func324 rfl 6 rfl rfl fun fr r => ?_
 have hB := Below.refl w0.heap.size w0
 have l_c0_b := lt_of_block c0_h
 refine wsr ?_
 refine za5 (.cells (zna false zng.zero 0 0 0 0 .nilFunc) 167 (0, 0)) r (fun R => zag tz167) rfl fun fr b1 w2 n3 r => ?_
 obtain ⟨e_b1, z_w2, h_b1, hB, zB⟩ := n3.all hB
 refine wn (wsr (za0 (U c0) r (fun R => za3 r rfl (keep hB c0_h) to22 rfl) rfl fun fr r => za0 (I (W c0)) r (fun R => zbo r rfl ti22 ti3) rfl fun fr r => za0 _ r (fun R => zni r rfl rfl rfl rfl) rfl fun fr r => ?_))
 have hF1 := fgrow hF hB b1
 refine za7 r (zbi (F := (fun b => F b ∨ (w0.heap.size ≤ b ∧ b < w2.heap.size ∧ b ≠ b1))) (n := n) hF1 (W ((W c0) + 1))) (fun R hc => zac r rfl cl229 hc) rfl ?_
 rintro _ w4 ⟨v5, rfl, hb, hr6⟩
 refine ⟨_, rfl, fun fr r => ?_⟩
 have z_w4 := hb.size
 have h_b1 := keep hb h_b1
 obtain ⟨hB, zB⟩ := bon hb hB
 refine zae (.cells v5.cells 167 (0, 0)) r (fun R => zaf r hr6.shape rfl rfl h_b1 ts167 rfl) rfl fun fr w7 u8 r => ?_
 have z_w7 := u8.size
 have h_b1 := u8.at_
 obtain ⟨hB, zB⟩ := u8.on hB (by omega)
 refine wn (wp_ret ?_)
 have hs := hr6.shape.cells
 refine zad r rfl rfl h_b1 (k := 7) hs.1 ta167 ?_
 rw [← hs.2.2]
 exact rfin hF hB hr6 u8 (by omega) (by omega) (by omega)

def D.zed (c0 : Plan) (c1 : Int) (c2 : Int) : T Int := (D.zba (D.zb6 c0 c1) (IntKind.u64.wrap (c2 + 1)) (fun _ => (D.zet c2)))

theorem zid {n : Nat} {F : Nat → Prop} {w0 : World} (hF : ∀ b, F b → b < w0.heap.size)
    (c0 : Plan) {c0_b : Nat} (c0_F : F c0_b) (c0_h : w0.heap[c0_b]? = some (.cells ((znc c0)).toArray 25 (0, 0))) (c1 : Int) {c1_b : Nat} (c1_F : F c1_b) (c1_h : w0.heap[c1_b]? = some (.cells ([(.int .i64 c1)]).toArray 3 (0, 0))) (c2 : Int) {c2_b : Nat} (c2_F : F c2_b) (c2_h : w0.heap[c2_b]? = some (.cells ([(.int .u64 c2)]).toArray 22 (0, 0))) :
    Calls Tryz.prog 323 #[.pointer (some ⟨c0_b, 0, none⟩), .pointer (some ⟨c1_b, 0, none⟩), .pointer (some ⟨c2_b, 0, none⟩)] w0 (znf Tryz.prog zng n (D.zed c0 c1 c2) F w0) := by
 refine enter Tryz.func323 rfl 11 rfl rfl fun fr r => ?_
 have hB := Below.refl w0.heap.size w0
 have l_c0_b := lt_of_block c0_h
 have l_c1_b := lt_of_block c1_h
 have l_c2_b := lt_of_block c2_h
 refine wsr ?_
 refine za5 (.cells (zna false zng.zero 0 0 0 0 .nilFunc) 167 (0, 0)) r (fun R => zag tz167) rfl fun fr b1 w2 n3 r => ?_
 obtain ⟨e_b1, z_w2, h_b1, hB, zB⟩ := n3.all hB
 refine wn (wp_seq ?_)
 refine zaG 6 [.val (.agg (znc c0).toArray), .val (I c1), .val (I (D.zb6 c0 c1)), .val (U c2), .val (U (V (c2 + 1))), .val (.func (.func 324) #[] #[.pointer (some ⟨c2_b, 0, none⟩)])] mixed r (by kernel_rfl) (za1 (by exact trivial) (za1 (by exact trivial) (za1 (by exact trivial) (za1 (by exact trivial) (za1 (by exact trivial) (za1 (by exact trivial) zaz)))))) ?_ ?_
 ·
  refine ec r (fun _ u _ b d s => za6 s (cs := (znc c0)) (n := 6) rfl (keep2 hB b c0_h) ta25 rfl bz) (ec r (fun _ u _ b d s => za3 s rfl (keep2 hB b c1_h) to3 rfl bz) (ec r (fun fr1 u w' hb' hd r' => zac r' (args := [(.agg (znc c0).toArray), (I c1)]) (lc hd.1 (lc hd.2.1 l0)) cl164 ((zdd _ c0 c1).mono (by rintro _ w2 ⟨rfl, hb2⟩; exact ⟨_, rfl, hb2, rfl⟩))) (ec r (fun _ u _ b d s => za3 s rfl (keep2 hB b c2_h) to22 rfl bz) (ec r (fun _ u _ b d s => zni s d.1 rfl rfl rfl bz) (ec r (fun _ u _ b d s => zan s (v := (.func (.func 324) #[] #[.pointer (some ⟨c2_b, 0, none⟩)])) rfl bz) ?_)))))
  exact zaR
 ·
  intro fr u w4 hb hΦ hne r
  have r := r.congr (sc (hΦ 5 (by decide)) (sc (hΦ 4 (by decide)) (sc (hΦ 3 (by decide)) (sc (hΦ 2 (by decide)) (sc (hΦ 1 (by decide)) (sc (hΦ 0 (by decide)) rfl))))))
  have z_w4 := hb.size
  have h_b1 := keep hb h_b1
  obtain ⟨hB, zB⟩ := bon hb hB
  have hF1 := fgrow hF hB b1
  have f5 : ((fun b => F b ∨ (w0.heap.size ≤ b ∧ b < w4.heap.size ∧ b ≠ b1))) c2_b := (.inl c2_F)
  refine za7 r (zbE (F := (fun b => F b ∨ (w0.heap.size ≤ b ∧ b < w4.heap.size ∧ b ≠ b1))) (n := n) hF1 (D.zb6 c0 c1) (V (c2 + 1)) ⟨324, [], [.pointer (some ⟨c2_b, 0, none⟩)], cl324, rfl, fun m hm _ w' hs hz => zhd (fun b hb => Nat.lt_of_lt_of_le (hF1 b hb) hz) c2 f5 (hs.at_ f5 (keep hB c2_h))⟩) (fun R hc => zac r rfl cl200 hc) rfl ?_
  rintro _ w6 ⟨v7, rfl, hb, hr8⟩
  refine ⟨_, rfl, fun fr r => ?_⟩
  have z_w6 := hb.size
  have h_b1 := keep hb h_b1
  obtain ⟨hB, zB⟩ := bon hb hB
  refine zae (.cells v7.cells 167 (0, 0)) r (fun R => zaf r hr8.shape rfl rfl h_b1 ts167 rfl) rfl fun fr w9 u10 r => ?_
  have z_w9 := u10.size
  have h_b1 := u10.at_
  obtain ⟨hB, zB⟩ := u10.on hB (by omega)
  refine wn (wp_ret ?_)
  have hs := hr8.shape.cells
  refine zad r rfl rfl h_b1 (k := 7) hs.1 ta167 ?_
  rw [← hs.2.2]
  exact rfin hF hB hr8 u10 (by omega) (by omega) (by omega)

def D.zdB (c0 : Plan) (c1 : Int) (c2 : Int) (a0 : Int) : T Int := (bif (decide (a0 ≥ (IntKind.u64.wrap c0.retire))) then (D.zaW (-1)) else (D.zba (D.zaQ c0 c1 (IntKind.i64.wrap a0)) (IntKind.u64.wrap (IntKind.i64.wrap (c2 + 1))) (fun _ => (D.zed c0 c1 a0))))

theorem zj2 {n : Nat} {F : Nat → Prop} {w0 : World} (hF : ∀ b, F b → b < w0.heap.size)
    (c0 : Plan) {c0_b : Nat} (c0_F : F c0_b) (c0_h : w0.heap[c0_b]? = some (.cells ((znc c0)).toArray 25 (0, 0))) (c1 : Int) {c1_b : Nat} (c1_F : F c1_b) (c1_h : w0.heap[c1_b]? = some (.cells ([(.int .i64 c1)]).toArray 3 (0, 0))) (c2 : Int) {c2_b : Nat} (c2_F : F c2_b) (c2_h : w0.heap[c2_b]? = some (.cells ([(.int .i64 c2)]).toArray 3 (0, 0))) (a0 : Int) :
    Calls Tryz.prog 322 #[.int .u64 a0, .pointer (some ⟨c0_b, 0, none⟩), .pointer (some ⟨c1_b, 0, none⟩), .pointer (some ⟨c2_b, 0, none⟩)] w0 (znf Tryz.prog zng n (D.zdB c0 c1 c2 a0) F w0) := by
 refine enter Tryz.func322 rfl 22 rfl rfl fun fr r => ?_
 have hB := Below.refl w0.heap.size w0
 have l_c0_b := lt_of_block c0_h
 have l_c1_b := lt_of_block c1_h
 have l_c2_b := lt_of_block c2_h
 refine wsr ?_
 refine za5 (.cells #[(U a0)] 22 (0, 0)) r (fun R => znm r (v := (U a0)) rfl) rfl fun fr b1 w2 n3 r => ?_
 obtain ⟨e_b1, z_w2, h_b1, hB, zB⟩ := n3.all hB
 refine za5 (.cells (zna false zng.zero 0 0 0 0 .nilFunc) 167 (0, 0)) r (fun R => zag tz167) rfl fun fr b4 w5 n6 r => ?_
 have h_b1 := keep n6.below h_b1
 obtain ⟨e_b4, z_w5, h_b4, hB, zB⟩ := n6.all hB
 refine wn (wp_seq (wsr (za0 (U a0) r (fun R => za3 r rfl h_b1 to22 rfl) rfl fun fr r => za0 _ r (fun R => za4 r (o := 0) rfl zgK) rfl fun fr r => za0 (I c0.retire) r (fun R => za3 r rfl (keep hB c0_h) to3 rfl) rfl fun fr r => za0 (U (V c0.retire)) r (fun R => zbo r rfl ti3 ti22) rfl fun fr r => za0 _ r (fun R => zni r rfl rfl rfl rfl) rfl fun fr r => wn ?_)))
 refine wp_cond_split (t := (decide (a0 ≥ (V c0.retire)))) (r.ev rfl) (fun h7 => ?_) (fun h7 => ?_)
 ·
  refine wsr ?_
  have hF1 := fgrow hF hB b4
  refine za7 r (zbi (F := (fun b => F b ∨ (w0.heap.size ≤ b ∧ b < w5.heap.size ∧ b ≠ b4))) (n := n) hF1 (-1)) (fun R hc => zac r rfl cl229 hc) rfl ?_
  rintro _ w8 ⟨v9, rfl, hb, hr10⟩
  refine ⟨_, rfl, fun fr r => ?_⟩
  have z_w8 := hb.size
  have h_b1 := keep hb h_b1
  have h_b4 := keep hb h_b4
  obtain ⟨hB, zB⟩ := bon hb hB
  refine zae (.cells v9.cells 167 (0, 0)) r (fun R => zaf r hr10.shape rfl rfl h_b4 ts167 rfl) rfl fun fr w11 u12 r => ?_
  have z_w11 := u12.size
  have h_b1 := u12.keep h_b1 (by omega)
  have h_b4 := u12.at_
  obtain ⟨hB, zB⟩ := u12.on hB (by omega)
  refine wn (wp_ret ?_)
  have hd : D.zdB c0 c1 c2 a0 = (D.zaW (-1)) := (zap h7).trans (rfl)
  have hs := hr10.shape.cells
  refine zad r rfl rfl h_b4 (k := 7) hs.1 ta167 ?_
  rw [← hs.2.2, hd]
  exact rfin hF hB hr10 u12 (by omega) (by omega) (by omega)
 ·
  refine wp_skip (wp_seq ?_)
  refine zaG 9 [.val (.agg (znc c0).toArray), .val (I c1), .val (U a0), .val (I (W a0)), .val (I (D.zaQ c0 c1 (W a0))), .val (I c2), .val (I (W (c2 + 1))), .val (U (V (W (c2 + 1)))), .val (.func (.func 323) #[] #[.pointer (some ⟨c0_b, 0, none⟩), .pointer (some ⟨c1_b, 0, none⟩), .pointer (some ⟨b1, 0, none⟩)])] mixed r (by kernel_rfl) (za1 (by exact trivial) (za1 (by exact trivial) (za1 (by exact trivial) (za1 (by exact trivial) (za1 (by exact trivial) (za1 (by exact trivial) (za1 (by exact trivial) (za1 (by exact trivial) (za1 (by exact trivial) zaz))))))))) ?_ ?_
  ·
   refine ec r (fun _ u _ b d s => za6 s (cs := (znc c0)) (n := 6) rfl (keep2 hB b c0_h) ta25 rfl bz) (ec r (fun _ u _ b d s => za3 s rfl (keep2 hB b c1_h) to3 rfl bz) (ec r (fun _ u _ b d s => za3 s rfl (keep b h_b1) to22 rfl bz) (ec r (fun _ u _ b d s => zbo s (n := a0) d.1 ti22 ti3 bz) (ec r (fun fr1 u w' hb' hd r' => zac r' (args := [(.agg (znc c0).toArray), (I c1), (I (W a0))]) (lc hd.1 (lc hd.2.1 (lc hd.2.2.1 l0))) cl165 ((zcy _ c0 c1 (W a0)).mono (by rintro _ w2 ⟨rfl, hb2⟩; exact ⟨_, rfl, hb2, rfl⟩))) (ec r (fun _ u _ b d s => za3 s rfl (keep2 hB b c2_h) to3 rfl bz) (ec r (fun _ u _ b d s => zni s d.1 rfl rfl rfl bz) (ec r (fun _ u _ b d s => zbo s (n := (W (c2 + 1))) d.1 ti3 ti22 bz) (ec r (fun _ u _ b d s => zan s (v := (.func (.func 323) #[] #[.pointer (some ⟨c0_b, 0, none⟩), .pointer (some ⟨c1_b, 0, none⟩), .pointer (some ⟨b1, 0, none⟩)])) rfl bz) ?_))))))))
   exact zaR
  ·
   intro fr u w13 hb hΦ hne r
   have r := r.congr (sc (hΦ 8 (by decide)) (sc (hΦ 7 (by decide)) (sc (hΦ 6 (by decide)) (sc (hΦ 5 (by decide)) (sc (hΦ 4 (by decide)) (sc (hΦ 3 (by decide)) (sc (hΦ 2 (by decide)) (sc (hΦ 1 (by decide)) (sc (hΦ 0 (by decide)) rfl)))))))))
   have z_w13 := hb.size
   have h_b1 := keep hb h_b1
   have h_b4 := keep hb h_b4
   obtain ⟨hB, zB⟩ := bon hb hB
   have hF1 := fgrow hF hB b4
   have f14 : ((fun b => F b ∨ (w0.heap.size ≤ b ∧ b < w13.heap.size ∧ b ≠ b4))) c0_b := (.inl c0_F)
   have f15 : ((fun b => F b ∨ (w0.heap.size ≤ b ∧ b < w13.heap.size ∧ b ≠ b4))) c1_b := (.inl c1_F)
   have f16 : ((fun b => F b ∨ (w0.heap.size ≤ b ∧ b < w13.heap.size ∧ b ≠ b4))) b1 := (.inr ⟨by omega, by omega, by omega⟩)
   refine za7 r (zbE (F := (fun b => F b ∨ (w0.heap.size ≤ b ∧ b < w13.heap.size ∧ b ≠ b4))) (n := n) hF1 (D.zaQ c0 c1 (W a0)) (V (W (c2 + 1))) ⟨323, [], [.pointer (some ⟨c0_b, 0, none⟩), .pointer (some ⟨c1_b, 0, none⟩), .pointer (some ⟨b1, 0, none⟩)], cl323, rfl, fun m hm _ w' hs hz => zid (fun b hb => Nat.lt_of_lt_of_le (hF1 b hb) hz) c0 f14 (hs.at_ f14 (keep hB c0_h)) c1 f15 (hs.at_ f15 (keep hB c1_h)) a0 f16 (hs.at_ f16 h_b1)⟩) (fun R hc => zac r rfl cl200 hc) rfl ?_
   rintro _ w17 ⟨v18, rfl, hb, hr19⟩
   refine ⟨_, rfl, fun fr r => ?_⟩
   have z_w17 := hb.size
   have h_b1 := keep hb h_b1
   have h_b4 := keep hb h_b4
   obtain ⟨hB, zB⟩ := bon hb hB
   refine zae (.cells v18.cells 167 (0, 0)) r (fun R => zaf r hr19.shape rfl rfl h_b4 ts167 rfl) rfl fun fr w20 u21 r => ?_
   have z_w20 := u21.size
   have h_b1 := u21.keep h_b1 (by omega)
   have h_b4 := u21.at_
   obtain ⟨hB, zB⟩ := u21.on hB (by omega)
   refine wn (wp_ret ?_)
   have hd : D.zdB c0 c1 c2 a0 = (D.zba (D.zaQ c0 c1 (W a0)) (V (W (c2 + 1))) (fun _ => (D.zed c0 c1 a0))) := (zak h7).trans (rfl)
   have hs := hr19.shape.cells
   refine zad r rfl rfl h_b4 (k := 7) hs.1 ta167 ?_
   rw [← hs.2.2, hd]
   exact rfin hF hB hr19 u21 (by omega) (by omega) (by omega)

def D.zdF (a0 : Plan) (a1 : Int) (a2 : Int) : T Int := (D.zb7 (D.zb6 a0 a1) (fun x => (D.zdB a0 a1 a2 x)))

theorem zi1 {n : Nat} {F : Nat → Prop} {w0 : World} (hF : ∀ b, F b → b < w0.heap.size)
    (a0 : Plan) (a1 : Int) (a2 : Int) :
    Calls Tryz.prog 231 #[.agg (znc a0).toArray, .int .i64 a1, .int .i64 a2] w0 (znf Tryz.prog zng n (D.zdF a0 a1 a2) F w0) := by
 refine enter Tryz.func231 rfl 12 rfl rfl fun fr r => ?_
 have hB := Below.refl w0.heap.size w0
 refine wsr ?_
 refine za5 (.cells ((znc a0)).toArray 25 (0, 0)) r (fun R => znm r (v := (.agg (znc a0).toArray)) rfl) rfl fun fr b1 w2 n3 r => ?_
 obtain ⟨e_b1, z_w2, h_b1, hB, zB⟩ := n3.all hB
 refine za5 (.cells #[(I a1)] 3 (0, 0)) r (fun R => znm r (v := (I a1)) rfl) rfl fun fr b4 w5 n6 r => ?_
 have h_b1 := keep n6.below h_b1
 obtain ⟨e_b4, z_w5, h_b4, hB, zB⟩ := n6.all hB
 refine za5 (.cells #[(I a2)] 3 (0, 0)) r (fun R => znm r (v := (I a2)) rfl) rfl fun fr b7 w8 n9 r => ?_
 have h_b1 := keep n9.below h_b1
 have h_b4 := keep n9.below h_b4
 obtain ⟨e_b7, z_w8, h_b7, hB, zB⟩ := n9.all hB
 refine za5 (.cells (zna false zng.zero 0 0 0 0 .nilFunc) 167 (0, 0)) r (fun R => zag tz167) rfl fun fr b10 w11 n12 r => ?_
 have h_b1 := keep n12.below h_b1
 have h_b4 := keep n12.below h_b4
 have h_b7 := keep n12.below h_b7
 obtain ⟨e_b10, z_w11, h_b10, hB, zB⟩ := n12.all hB
 refine wn (wsr (za0 (.agg (znc a0).toArray) r (fun R => za6 r (cs := (znc a0)) (n := 6) rfl h_b1 ta25 rfl) rfl fun fr r => za0 (I a1) r (fun R => za3 r rfl h_b4 to3 rfl) rfl fun fr r => ?_))
 refine za7 r (zdd w11 a0 a1) (fun R hc => zac r rfl cl164 hc) rfl ?_
 rintro _ w13 ⟨rfl, hb⟩
 refine ⟨_, rfl, fun fr r => ?_⟩
 have z_w13 := hb.size
 have h_b1 := keep hb h_b1
 have h_b4 := keep hb h_b4
 have h_b7 := keep hb h_b7
 have h_b10 := keep hb h_b10
 obtain ⟨hB, zB⟩ := bon hb hB
 refine za0 (.func (.func 322) #[] #[.pointer (some ⟨b1, 0, none⟩), .pointer (some ⟨b4, 0, none⟩), .pointer (some ⟨b7, 0, none⟩)]) r (fun R => zan r rfl) rfl fun fr r => ?_
 have hF1 := fgrow hF hB b10
 have f14 : ((fun b => F b ∨ (w0.heap.size ≤ b ∧ b < w13.heap.size ∧ b ≠ b10))) b1 := (.inr ⟨by omega, by omega, by omega⟩)
 have f15 : ((fun b => F b ∨ (w0.heap.size ≤ b ∧ b < w13.heap.size ∧ b ≠ b10))) b4 := (.inr ⟨by omega, by omega, by omega⟩)
 have f16 : ((fun b => F b ∨ (w0.heap.size ≤ b ∧ b < w13.heap.size ∧ b ≠ b10))) b7 := (.inr ⟨by omega, by omega, by omega⟩)
 refine za7 r (zbz (F := (fun b => F b ∨ (w0.heap.size ≤ b ∧ b < w13.heap.size ∧ b ≠ b10))) (n := n) hF1 (D.zb6 a0 a1) ⟨322, [], [.pointer (some ⟨b1, 0, none⟩), .pointer (some ⟨b4, 0, none⟩), .pointer (some ⟨b7, 0, none⟩)], cl322, rfl, fun m hm x w' hs hz => zj2 (fun b hb => Nat.lt_of_lt_of_le (hF1 b hb) hz) a0 f14 (hs.at_ f14 h_b1) a1 f15 (hs.at_ f15 h_b4) a2 f16 (hs.at_ f16 h_b7) x⟩) (fun R hc => zac r rfl cl198 hc) rfl ?_
 rintro _ w17 ⟨v18, rfl, hb, hr19⟩
 refine ⟨_, rfl, fun fr r => ?_⟩
 have z_w17 := hb.size
 have h_b1 := keep hb h_b1
 have h_b4 := keep hb h_b4
 have h_b7 := keep hb h_b7
 have h_b10 := keep hb h_b10
 obtain ⟨hB, zB⟩ := bon hb hB
 refine zae (.cells v18.cells 167 (0, 0)) r (fun R => zaf r hr19.shape rfl rfl h_b10 ts167 rfl) rfl fun fr w20 u21 r => ?_
 have z_w20 := u21.size
 have h_b1 := u21.keep h_b1 (by omega)
 have h_b4 := u21.keep h_b4 (by omega)
 have h_b7 := u21.keep h_b7 (by omega)
 have h_b10 := u21.at_
 obtain ⟨hB, zB⟩ := u21.on hB (by omega)
 refine wn (wp_ret ?_)
 have hs := hr19.shape.cells
 refine zad r rfl rfl h_b10 (k := 7) hs.1 ta167 ?_
 rw [← hs.2.2]
 exact rfin hF hB hr19 u21 (by omega) (by omega) (by omega)

end Go.Proofs.YtjkinpbfmihhdaaGreat
