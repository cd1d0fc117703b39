/- Some of our texts, one behind the other. -/
import Derived.Test.YtjkinpbfmihhdaaGreatQrM9
import Derived.Test.YtjkinpbfmihhdaaGreatQrM2
import Derived.Test.YtjkinpbfmihhdaaGreatQrM8
import Derived.Test.YtjkinpbfmihhdaaGreatQrM4
import Derived.Test.YtjkinpbfmihhdaaGreatQrM0
set_option linter.all false
/- Written by a program of ours (wip/gen.py): nodes that are granted -/
set_option linter.unusedVariables false
set_option maxRecDepth 20000
set_option maxHeartbeats 2000000
namespace Go.Proofs.YtjkinpbfmihhdaaGreat
open Go.RowKit
theorem cl130 : callable Tryz.prog 130 = true := by kernel_rfl

theorem cl133 : callable Tryz.prog 133 = true := by kernel_rfl

theorem cl187 : callable Tryz.prog 187 = true := by kernel_rfl

theorem cl188 : callable Tryz.prog 188 = true := by kernel_rfl

theorem cl189 : callable Tryz.prog 189 = true := by kernel_rfl

theorem cl192 : callable Tryz.prog 192 = true := by kernel_rfl

theorem cl193 : callable Tryz.prog 193 = true := by kernel_rfl

theorem cl194 : callable Tryz.prog 194 = true := by kernel_rfl

theorem cl199 : callable Tryz.prog 199 = true := by kernel_rfl

theorem cl201 : callable Tryz.prog 201 = true := by kernel_rfl

theorem cl228 : callable Tryz.prog 228 = true := by kernel_rfl

theorem cl231 : callable Tryz.prog 231 = true := by kernel_rfl

theorem cl232 : callable Tryz.prog 232 = true := by kernel_rfl

theorem cl233 : callable Tryz.prog 233 = true := by kernel_rfl

theorem cl281 : callable Tryz.prog 281 = true := by kernel_rfl

theorem cl282 : callable Tryz.prog 282 = true := by kernel_rfl

theorem cl283 : callable Tryz.prog 283 = true := by kernel_rfl

theorem cl284 : callable Tryz.prog 284 = true := by kernel_rfl

theorem cl285 : callable Tryz.prog 285 = true := by kernel_rfl

theorem ts246 : sized Tryz.prog 246 1 = true := by kernel_rfl

theorem ts271 : sized Tryz.prog 271 1 = true := by kernel_rfl

theorem tz246 : zeroOf Tryz.prog 246 = some .nilFunc := by kernel_rfl

theorem tz271 : zeroOf Tryz.prog 271 = some .nilFunc := by kernel_rfl

def D.zz98 (c0 : Int) (c1 : State) : T Grant := (D.zz4t (⟨c0, c1.gen, 0⟩ : Grant))

theorem zzbo {n : Nat} {F : Nat → Prop} {w0 : World} (hF : ∀ b, F b → b < w0.heap.size)
    (c0 : Int) {c0_b : Nat} (c0_F : F c0_b) (c0_h : w0.heap[c0_b]? = some (.cells ([(.int .i64 c0)]).toArray 3 (0, 0))) (c1 : State) {c1_b : Nat} (c1_F : F c1_b) (c1_h : w0.heap[c1_b]? = some (.cells ((stateC c1)).toArray 118 (0, 0))) :
    Calls Tryz.prog 285 #[.pointer (some ⟨c0_b, 0, none⟩), .pointer (some ⟨c1_b, 0, none⟩)] w0 (RepRes Tryz.prog encGrant n (D.zz98 c0 c1) F w0) := by
 refine enter Tryz.func285 rfl 8 rfl rfl fun fr r => ?_
 have hB := Below.refl w0.heap.size w0
 have l_c0_b := lt_of_block c0_h
 have l_c1_b := lt_of_block c1_h
 refine wsr ?_
 refine seq_new (.cells (progCells false encGrant.zero 0 0 0 0 .nilFunc) 158 (0, 0)) r (fun R => y_alloc tz158) rfl fun fr b1 w2 n3 r => ?_
 obtain ⟨e_b1, z_w2, h_b1, hB, zB⟩ := n3.all hB
 refine wn ?_
 refine wsr ?_
 refine seq_val (I c0) r (fun R => zz01 r rfl (keep hB c0_h) to3 rfl) rfl fun fr r => ?_
 refine seq_val _ r (fun R => zz02 r (o := 0) rfl fo118_0) rfl fun fr r => ?_
 refine seq_val (I c1.gen) r (fun R => zz01 r rfl (keep hB c1_h) to3 rfl) rfl fun fr r => ?_
 refine seq_val (.agg (grantC (⟨c0, c1.gen, 0⟩ : Grant)).toArray) r (fun R => y_build r (by kernel_rfl)) rfl fun fr r => ?_
 have hF1 := fgrow hF hB b1
 refine zz04 r (zz7l (F := (fun b => F b ∨ (w0.heap.size ≤ b ∧ b < w2.heap.size ∧ b ≠ b1))) (n := n) hF1 (⟨c0, c1.gen, 0⟩ : Grant)) (fun R hc => y_call r rfl cl188 hc) rfl ?_
 rintro _ w4 ⟨v5, rfl, hb, hr6⟩
 refine ⟨_, rfl, fun fr r => ?_⟩
 have z_w4 := hb.size
 have h_b1 := keep hb h_b1
 obtain ⟨hB, zB⟩ := bon hb hB
 refine seq_upd (.cells v5.cells 158 (0, 0)) r (fun R => zz07 r hr6.shape rfl rfl h_b1 ts158 rfl) rfl fun fr w7 u8 r => ?_
 have z_w7 := u8.size
 have h_b1 := u8.at_
 obtain ⟨hB, zB⟩ := u8.on hB (by omega)
 refine wn ?_
 refine wp_ret ?_
 have hs := hr6.shape.cells
 refine zz06 r rfl rfl h_b1 (k := 9) hs.1 ta158 ?_
 rw [← hs.2.2]
 exact rfin hF hB hr6 u8 (by omega) (by omega) (by omega)

def D.zzbi (c0 : Plan) (c1 : Int) (c2 : Int) (a0 : Int) : T Grant := (D.zz80 (D.zz13 c0 c1) (D.zz0v (D.zz23 ((D.zz0j a0).1) c2)) (fun _ => (D.zz98 c1 ((D.zz0j a0).1))))

theorem zzcq {n : Nat} {F : Nat → Prop} {w0 : World} (hF : ∀ b, F b → b < w0.heap.size)
    (c0 : Plan) {c0_b : Nat} (c0_F : F c0_b) (c0_h : w0.heap[c0_b]? = some (.cells ((planC c0)).toArray 25 (0, 0))) (c1 : Int) {c1_b : Nat} (c1_F : F c1_b) (c1_h : w0.heap[c1_b]? = some (.cells ([(.int .i64 c1)]).toArray 3 (0, 0))) (c2 : Int) {c2_b : Nat} (c2_F : F c2_b) (c2_h : w0.heap[c2_b]? = some (.cells ([(.int .i64 c2)]).toArray 3 (0, 0))) (a0 : Int) :
    Calls Tryz.prog 282 #[.int .u64 a0, .pointer (some ⟨c0_b, 0, none⟩), .pointer (some ⟨c1_b, 0, none⟩), .pointer (some ⟨c2_b, 0, none⟩)] w0 (RepRes Tryz.prog encGrant n (D.zzbi c0 c1 c2 a0) F w0) := by
 refine enter Tryz.func282 rfl 22 rfl rfl fun fr r => ?_
 have hB := Below.refl w0.heap.size w0
 have l_c0_b := lt_of_block c0_h
 have l_c1_b := lt_of_block c1_h
 have l_c2_b := lt_of_block c2_h
 refine wsr ?_
 refine seq_new (.cells (progCells false encGrant.zero 0 0 0 0 .nilFunc) 158 (0, 0)) r (fun R => y_alloc tz158) rfl fun fr b1 w2 n3 r => ?_
 obtain ⟨e_b1, z_w2, h_b1, hB, zB⟩ := n3.all hB
 refine wn ?_
 refine wsr ?_
 refine seq_val (U a0) r (fun R => y_move r rfl) rfl fun fr r => ?_
 refine zz04 r (zz8k w2 a0) (fun R hc => y_call r rfl cl67 hc) rfl ?_
 rintro _ w4 ⟨rfl, hb⟩
 refine ⟨_, rfl, fun fr r => ?_⟩
 have z_w4 := hb.size
 have h_b1 := keep hb h_b1
 obtain ⟨hB, zB⟩ := bon hb hB
 refine seq_val (.tuple #[(.agg (stateC (D.zz0j a0).1).toArray), (.bool (D.zz0j a0).2)]) r (fun R => y_move r rfl) rfl fun fr r => ?_
 refine seq_val (.agg (stateC (D.zz0j a0).1).toArray) r (fun R => zz0t r (vs := #[(.agg (stateC (D.zz0j a0).1).toArray), (.bool (D.zz0j a0).2)]) rfl rfl) rfl fun fr r => ?_
 refine seq_val (.bool (D.zz0j a0).2) r (fun R => zz0t r (vs := #[(.agg (stateC (D.zz0j a0).1).toArray), (.bool (D.zz0j a0).2)]) rfl rfl) rfl fun fr r => ?_
 refine seq_new (.cells ((stateC (⟨0, 0, 0⟩ : State))).toArray 118 (0, 0)) r (fun R => y_alloc tz118) rfl fun fr b5 w6 n7 r => ?_
 have h_b1 := keep n7.below h_b1
 obtain ⟨e_b5, z_w6, h_b5, hB, zB⟩ := n7.all hB
 refine seq_upd (.cells ((stateC ((D.zz0j a0).1))).toArray 118 (0, 0)) r (fun R => y_store r (o := 0) (v := (.agg (stateC (D.zz0j a0).1).toArray)) rfl rfl h_b5 ts118 (Nat.le_of_ble_eq_true rfl) rfl rfl) rfl fun fr w8 u9 r => ?_
 have z_w8 := u9.size
 have h_b1 := u9.keep h_b1 (by omega)
 have h_b5 := u9.at_
 obtain ⟨hB, zB⟩ := u9.on hB (by omega)
 refine seq_val (.bool (D.zz0j a0).2) r (fun R => zz05 r rfl) rfl fun fr r => ?_
 refine wn ?_
 refine wp_seq ?_
 refine zz0s 8 [.val (.agg (planC c0).toArray), .val (I c1), .val (I (D.zz13 c0 c1)), .val (.agg (stateC (D.zz0j a0).1).toArray), .val (I c2), .val (.agg (stateC (D.zz23 ((D.zz0j a0).1) c2)).toArray), .val (U (D.zz0v (D.zz23 ((D.zz0j a0).1) c2))), .val (.func (.func 285) #[] #[.pointer (some ⟨c1_b, 0, none⟩), .pointer (some ⟨b5, 0, none⟩)])] mixed r (by kernel_rfl) (zz00 (by exact trivial) (zz00 (by exact trivial) (zz00 (by exact trivial) (zz00 (by exact trivial) (zz00 (by exact trivial) (zz00 (by exact trivial) (zz00 (by exact trivial) (zz00 (by exact trivial) zz0m)))))))) ?_ ?_
 ·
  refine ec r (fun _ u _ b d s => zz03 s (cs := (planC c0)) (n := 6) rfl (keep2 hB b c0_h) ta25 rfl bz) ?_
  refine ec r (fun _ u _ b d s => zz01 s rfl (keep2 hB b c1_h) to3 rfl bz) ?_
  refine ec r (fun fr1 u w' hb' hd r' => y_call r' (args := [(.agg (planC c0).toArray), (I c1)]) (lc hd.1 (lc hd.2.1 l0)) cl68 ((zz28 _ c0 c1).mono (by rintro _ w2 ⟨rfl, hb2⟩; exact ⟨_, rfl, hb2, rfl⟩))) ?_
  refine ec r (fun _ u _ b d s => zz03 s (cs := (stateC ((D.zz0j a0).1))) (n := 3) rfl (keep b h_b5) ta118 rfl bz) ?_
  refine ec r (fun _ u _ b d s => zz01 s rfl (keep2 hB b c2_h) to3 rfl bz) ?_
  refine ec r (fun fr1 u w' hb' hd r' => y_call r' (args := [(.agg (stateC (D.zz0j a0).1).toArray), (I c2)]) (lc hd.1 (lc hd.2.1 l0)) cl284 ((zzav _ ((D.zz0j a0).1) c2).mono (by rintro _ w2 ⟨rfl, hb2⟩; exact ⟨_, rfl, hb2, rfl⟩))) ?_
  refine ec r (fun fr1 u w' hb' hd r' => y_call r' (args := [(.agg (stateC (D.zz23 ((D.zz0j a0).1) c2)).toArray)]) (lc hd.1 l0) cl91 ((zz2e _ (D.zz23 ((D.zz0j a0).1) c2)).mono (by rintro _ w2 ⟨rfl, hb2⟩; exact ⟨_, rfl, hb2, rfl⟩))) ?_
  refine ec r (fun _ u _ b d s => zz0d s (v := (.func (.func 285) #[] #[.pointer (some ⟨c1_b, 0, none⟩), .pointer (some ⟨b5, 0, none⟩)])) rfl bz) ?_
  exact zz10
 ·
  intro fr u w10 hb hΦ hne r
  have r := r.congr (sc (hΦ 7 (by decide)) (sc (hΦ 6 (by decide)) (sc (hΦ 5 (by decide)) (sc (hΦ 4 (by decide)) (sc (hΦ 3 (by decide)) (sc (hΦ 2 (by decide)) (sc (hΦ 1 (by decide)) (sc (hΦ 0 (by decide)) rfl))))))))
  have z_w10 := hb.size
  have h_b1 := keep hb h_b1
  have h_b5 := keep hb h_b5
  obtain ⟨hB, zB⟩ := bon hb hB
  have hF1 := fgrow hF hB b1
  have f11 : ((fun b => F b ∨ (w0.heap.size ≤ b ∧ b < w10.heap.size ∧ b ≠ b1))) c1_b := (.inl c1_F)
  have f12 : ((fun b => F b ∨ (w0.heap.size ≤ b ∧ b < w10.heap.size ∧ b ≠ b1))) b5 := (.inr ⟨by omega, by omega, by omega⟩)
  refine zz04 r (zzan (F := (fun b => F b ∨ (w0.heap.size ≤ b ∧ b < w10.heap.size ∧ b ≠ b1))) (n := n) hF1 (D.zz13 c0 c1) (D.zz0v (D.zz23 ((D.zz0j a0).1) c2)) ⟨285, [], [.pointer (some ⟨c1_b, 0, none⟩), .pointer (some ⟨b5, 0, none⟩)], cl285, rfl, fun m hm _ w' hs hz => zzbo (fun b hb => Nat.lt_of_lt_of_le (hF1 b hb) hz) c1 f11 (hs.at_ f11 (keep hB c1_h)) ((D.zz0j a0).1) f12 (hs.at_ f12 h_b5)⟩) (fun R hc => y_call r rfl cl283 hc) rfl ?_
  rintro _ w13 ⟨v14, rfl, hb, hr15⟩
  refine ⟨_, rfl, fun fr r => ?_⟩
  have z_w13 := hb.size
  have h_b1 := keep hb h_b1
  have h_b5 := keep hb h_b5
  obtain ⟨hB, zB⟩ := bon hb hB
  refine seq_upd (.cells v14.cells 158 (0, 0)) r (fun R => zz07 r hr15.shape rfl rfl h_b1 ts158 rfl) rfl fun fr w16 u17 r => ?_
  have z_w16 := u17.size
  have h_b5 := u17.keep h_b5 (by omega)
  have h_b1 := u17.at_
  obtain ⟨hB, zB⟩ := u17.on hB (by omega)
  refine wn ?_
  refine wp_ret ?_
  have hs := hr15.shape.cells
  refine zz06 r rfl rfl h_b1 (k := 9) hs.1 ta158 ?_
  rw [← hs.2.2]
  exact rfin hF hB hr15 u17 (by omega) (by omega) (by omega)

def D.zz6l (a0 : Plan) (a1 : Int) (a2 : Int) : T Grant := (D.zz9a (D.zz13 a0 a1) (fun x => (D.zzbi a0 a1 a2 x)))

theorem zzbh {n : Nat} {F : Nat → Prop} {w0 : World} (hF : ∀ b, F b → b < w0.heap.size)
    (a0 : Plan) (a1 : Int) (a2 : Int) :
    Calls Tryz.prog 189 #[.agg (planC a0).toArray, .int .i64 a1, .int .i64 a2] w0 (RepRes Tryz.prog encGrant n (D.zz6l a0 a1 a2) F w0) := by
 refine enter Tryz.func189 rfl 12 rfl rfl fun fr r => ?_
 have hB := Below.refl w0.heap.size w0
 refine wsr ?_
 refine seq_new (.cells ((planC a0)).toArray 25 (0, 0)) r (fun R => y_box r (v := (.agg (planC a0).toArray)) rfl) rfl fun fr b1 w2 n3 r => ?_
 obtain ⟨e_b1, z_w2, h_b1, hB, zB⟩ := n3.all hB
 refine seq_new (.cells #[(I a1)] 3 (0, 0)) r (fun R => y_box r (v := (I a1)) rfl) rfl fun fr b4 w5 n6 r => ?_
 have h_b1 := keep n6.below h_b1
 obtain ⟨e_b4, z_w5, h_b4, hB, zB⟩ := n6.all hB
 refine seq_new (.cells #[(I a2)] 3 (0, 0)) r (fun R => y_box r (v := (I a2)) rfl) rfl fun fr b7 w8 n9 r => ?_
 have h_b1 := keep n9.below h_b1
 have h_b4 := keep n9.below h_b4
 obtain ⟨e_b7, z_w8, h_b7, hB, zB⟩ := n9.all hB
 refine seq_new (.cells (progCells false encGrant.zero 0 0 0 0 .nilFunc) 158 (0, 0)) r (fun R => y_alloc tz158) rfl fun fr b10 w11 n12 r => ?_
 have h_b1 := keep n12.below h_b1
 have h_b4 := keep n12.below h_b4
 have h_b7 := keep n12.below h_b7
 obtain ⟨e_b10, z_w11, h_b10, hB, zB⟩ := n12.all hB
 refine wn ?_
 refine wsr ?_
 refine seq_val (.agg (planC a0).toArray) r (fun R => zz03 r (cs := (planC a0)) (n := 6) rfl h_b1 ta25 rfl) rfl fun fr r => ?_
 refine seq_val (I a1) r (fun R => zz01 r rfl h_b4 to3 rfl) rfl fun fr r => ?_
 refine zz04 r (zz28 w11 a0 a1) (fun R hc => y_call r rfl cl68 hc) rfl ?_
 rintro _ w13 ⟨rfl, hb⟩
 refine ⟨_, rfl, fun fr r => ?_⟩
 have z_w13 := hb.size
 have h_b1 := keep hb h_b1
 have h_b4 := keep hb h_b4
 have h_b7 := keep hb h_b7
 have h_b10 := keep hb h_b10
 obtain ⟨hB, zB⟩ := bon hb hB
 refine seq_val (.func (.func 282) #[] #[.pointer (some ⟨b1, 0, none⟩), .pointer (some ⟨b4, 0, none⟩), .pointer (some ⟨b7, 0, none⟩)]) r (fun R => zz0d r rfl) rfl fun fr r => ?_
 have hF1 := fgrow hF hB b10
 have f14 : ((fun b => F b ∨ (w0.heap.size ≤ b ∧ b < w13.heap.size ∧ b ≠ b10))) b1 := (.inr ⟨by omega, by omega, by omega⟩)
 have f15 : ((fun b => F b ∨ (w0.heap.size ≤ b ∧ b < w13.heap.size ∧ b ≠ b10))) b4 := (.inr ⟨by omega, by omega, by omega⟩)
 have f16 : ((fun b => F b ∨ (w0.heap.size ≤ b ∧ b < w13.heap.size ∧ b ≠ b10))) b7 := (.inr ⟨by omega, by omega, by omega⟩)
 refine zz04 r (zzbq (F := (fun b => F b ∨ (w0.heap.size ≤ b ∧ b < w13.heap.size ∧ b ≠ b10))) (n := n) hF1 (D.zz13 a0 a1) ⟨282, [], [.pointer (some ⟨b1, 0, none⟩), .pointer (some ⟨b4, 0, none⟩), .pointer (some ⟨b7, 0, none⟩)], cl282, rfl, fun m hm x w' hs hz => zzcq (fun b hb => Nat.lt_of_lt_of_le (hF1 b hb) hz) a0 f14 (hs.at_ f14 h_b1) a1 f15 (hs.at_ f15 h_b4) a2 f16 (hs.at_ f16 h_b7) x⟩) (fun R hc => y_call r rfl cl281 hc) rfl ?_
 rintro _ w17 ⟨v18, rfl, hb, hr19⟩
 refine ⟨_, rfl, fun fr r => ?_⟩
 have z_w17 := hb.size
 have h_b1 := keep hb h_b1
 have h_b4 := keep hb h_b4
 have h_b7 := keep hb h_b7
 have h_b10 := keep hb h_b10
 obtain ⟨hB, zB⟩ := bon hb hB
 refine seq_upd (.cells v18.cells 158 (0, 0)) r (fun R => zz07 r hr19.shape rfl rfl h_b10 ts158 rfl) rfl fun fr w20 u21 r => ?_
 have z_w20 := u21.size
 have h_b1 := u21.keep h_b1 (by omega)
 have h_b4 := u21.keep h_b4 (by omega)
 have h_b7 := u21.keep h_b7 (by omega)
 have h_b10 := u21.at_
 obtain ⟨hB, zB⟩ := u21.on hB (by omega)
 refine wn ?_
 refine wp_ret ?_
 have hs := hr19.shape.cells
 refine zz06 r rfl rfl h_b10 (k := 9) hs.1 ta158 ?_
 rw [← hs.2.2]
 exact rfin hF hB hr19 u21 (by omega) (by omega) (by omega)

def D.zz70 (c0 : Plan) (c1 : Int) (a0 : Int) : T Grant := (bif (a0 == (-1)) then (D.zz4t (⟨(-1), 0, 4⟩ : Grant)) else (D.zz6l c0 a0 c1))

theorem zzdm {n : Nat} {F : Nat → Prop} {w0 : World} (hF : ∀ b, F b → b < w0.heap.size)
    (c0 : Plan) {c0_b : Nat} (c0_F : F c0_b) (c0_h : w0.heap[c0_b]? = some (.cells ((planC c0)).toArray 25 (0, 0))) (c1 : Int) {c1_b : Nat} (c1_F : F c1_b) (c1_h : w0.heap[c1_b]? = some (.cells ([(.int .i64 c1)]).toArray 3 (0, 0))) (a0 : Int) :
    Calls Tryz.prog 187 #[.int .i64 a0, .pointer (some ⟨c0_b, 0, none⟩), .pointer (some ⟨c1_b, 0, none⟩)] w0 (RepRes Tryz.prog encGrant n (D.zz70 c0 c1 a0) F w0) := by
 refine enter Tryz.func187 rfl 13 rfl rfl fun fr r => ?_
 have hB := Below.refl w0.heap.size w0
 have l_c0_b := lt_of_block c0_h
 have l_c1_b := lt_of_block c1_h
 refine wsr ?_
 refine seq_new (.cells (progCells false encGrant.zero 0 0 0 0 .nilFunc) 158 (0, 0)) r (fun R => y_alloc tz158) rfl fun fr b1 w2 n3 r => ?_
 obtain ⟨e_b1, z_w2, h_b1, hB, zB⟩ := n3.all hB
 refine wn ?_
 refine wp_seq ?_
 refine wsr ?_
 refine seq_val (I a0) r (fun R => y_move r rfl) rfl fun fr r => ?_
 refine seq_val _ r (fun R => y_bin r rfl rfl rfl rfl) rfl fun fr r => ?_
 refine wn ?_
 refine wp_cond_split (t := (a0 == (-1))) (r.ev rfl) (fun h4 => ?_) (fun h4 => ?_)
 ·
  refine wsr ?_
  refine seq_val (.agg (grantC (⟨(-1), 0, 4⟩ : Grant)).toArray) r (fun R => y_build r (by kernel_rfl)) rfl fun fr r => ?_
  have hF1 := fgrow hF hB b1
  refine zz04 r (zz7l (F := (fun b => F b ∨ (w0.heap.size ≤ b ∧ b < w2.heap.size ∧ b ≠ b1))) (n := n) hF1 (⟨(-1), 0, 4⟩ : Grant)) (fun R hc => y_call r rfl cl188 hc) rfl ?_
  rintro _ w5 ⟨v6, rfl, hb, hr7⟩
  refine ⟨_, rfl, fun fr r => ?_⟩
  have z_w5 := hb.size
  have h_b1 := keep hb h_b1
  obtain ⟨hB, zB⟩ := bon hb hB
  refine seq_upd (.cells v6.cells 158 (0, 0)) r (fun R => zz07 r hr7.shape rfl rfl h_b1 ts158 rfl) rfl fun fr w8 u9 r => ?_
  have z_w8 := u9.size
  have h_b1 := u9.at_
  obtain ⟨hB, zB⟩ := u9.on hB (by omega)
  refine wn ?_
  refine wp_ret ?_
  have hd : D.zz70 c0 c1 a0 = (D.zz4t (⟨(-1), 0, 4⟩ : Grant)) := (cond_t h4).trans (rfl)
  have hs := hr7.shape.cells
  refine zz06 r rfl rfl h_b1 (k := 9) hs.1 ta158 ?_
  rw [← hs.2.2, hd]
  exact rfin hF hB hr7 u9 (by omega) (by omega) (by omega)
 ·
  refine wp_skip ?_
  refine wsr ?_
  refine seq_val (.agg (planC c0).toArray) r (fun R => zz03 r (cs := (planC c0)) (n := 6) rfl (keep hB c0_h) ta25 rfl) rfl fun fr r => ?_
  refine seq_val (I a0) r (fun R => y_move r rfl) rfl fun fr r => ?_
  refine seq_val (I c1) r (fun R => zz01 r rfl (keep hB c1_h) to3 rfl) rfl fun fr r => ?_
  have hF1 := fgrow hF hB b1
  refine zz04 r (zzbh (F := (fun b => F b ∨ (w0.heap.size ≤ b ∧ b < w2.heap.size ∧ b ≠ b1))) (n := n) hF1 c0 a0 c1) (fun R hc => y_call r rfl cl189 hc) rfl ?_
  rintro _ w10 ⟨v11, rfl, hb, hr12⟩
  refine ⟨_, rfl, fun fr r => ?_⟩
  have z_w10 := hb.size
  have h_b1 := keep hb h_b1
  obtain ⟨hB, zB⟩ := bon hb hB
  refine seq_upd (.cells v11.cells 158 (0, 0)) r (fun R => zz07 r hr12.shape rfl rfl h_b1 ts158 rfl) rfl fun fr w13 u14 r => ?_
  have z_w13 := u14.size
  have h_b1 := u14.at_
  obtain ⟨hB, zB⟩ := u14.on hB (by omega)
  refine wn ?_
  refine wp_ret ?_
  have hd : D.zz70 c0 c1 a0 = (D.zz6l c0 a0 c1) := (cond_f h4).trans (rfl)
  have hs := hr12.shape.cells
  refine zz06 r rfl rfl h_b1 (k := 9) hs.1 ta158 ?_
  rw [← hs.2.2, hd]
  exact rfin hF hB hr12 u14 (by omega) (by omega) (by omega)

def D.zz8c (j : Nat) (c0 : Plan) (c1 : (Int → T Grant)) (a0 : Int) : T Grant := (T.bind (D.zzb2 j c0) c1)

theorem zzct {n : Nat} {F : Nat → Prop} {j : Nat} {w0 : World} (hF : ∀ b, F b → b < w0.heap.size) (hj : n < j)
    (c0 : Plan) {c0_b : Nat} (c0_F : F c0_b) (c0_h : w0.heap[c0_b]? = some (.cells ((planC c0)).toArray 25 (0, 0))) {c1_f : FuncId} {c1_1 c1_2 : List Value} {c1 : (Int → T Grant)} {c1_b : Nat} (c1_F : F c1_b) (c1_h : w0.heap[c1_b]? = some (.cells #[.func (.func c1_f) c1_1.toArray c1_2.toArray] 246 (0, 0))) (c1_n : FnT Tryz.prog encGrant i64 (n + 1) F w0 (.func (.func c1_f) c1_1.toArray c1_2.toArray) c1) (a0 : Int) :
    Calls Tryz.prog 194 #[.int .i64 a0, .pointer (some ⟨c0_b, 0, none⟩), .pointer (some ⟨c1_b, 0, none⟩)] w0 (RepRes Tryz.prog encGrant n (D.zz8c j c0 c1 a0) F w0) := by
 refine enter Tryz.func194 rfl 9 rfl rfl fun fr r => ?_
 have hB := Below.refl w0.heap.size w0
 have l_c0_b := lt_of_block c0_h
 have l_c1_b := lt_of_block c1_h
 refine wsr ?_
 refine seq_new (.cells (progCells false encGrant.zero 0 0 0 0 .nilFunc) 158 (0, 0)) r (fun R => y_alloc tz158) rfl fun fr b1 w2 n3 r => ?_
 obtain ⟨e_b1, z_w2, h_b1, hB, zB⟩ := n3.all hB
 refine wn ?_
 refine wp_seq ?_
 have hF1 := fgrow hF hB b1
 refine zz0s 3 [.val (.agg (planC c0).toArray), .pred (PrepP Tryz.prog encInt n (D.zzb2 j c0) ((fun b => F b ∨ (w0.heap.size ≤ b ∧ b < w2.heap.size ∧ b ≠ b1))) w2) (PrepP.st hF1), .val (.func (.func c1_f) c1_1.toArray c1_2.toArray)] mixed r (by kernel_rfl) (zz00 (by exact trivial) (zz00 (by exact trivial) (zz00 (by exact trivial) zz0m))) ?_ ?_
 ·
  refine ec r (fun _ u _ b d s => zz03 s (cs := (planC c0)) (n := 6) rfl (keep2 hB b c0_h) ta25 rfl bz) ?_
  refine ec r (fun fr1 u w' hb' hd r' => y_call r' (args := [(.agg (planC c0).toArray)]) (lc hd.1 l0) cl191 (((zze9 (k := j) (n := n) (by omega)) ((fun b => F b ∨ (w0.heap.size ≤ b ∧ b < w2.heap.size ∧ b ≠ b1))) _ (fun b h => Nat.lt_of_lt_of_le (hF1 b h) hb'.size) c0).mono (by rintro _ w2 ⟨y, rfl, hb2, hr2⟩; exact ⟨_, rfl, hb2, PrepP.of (drB hb') hb2 hr2⟩))) ?_
  refine ec r (fun _ u _ b d s => zz01 s rfl (keep2 hB b c1_h) to246 rfl bz) ?_
  exact zz10
 ·
  intro fr u w4 hb hΦ hne r
  obtain ⟨v5, hv1⟩ : ∃ v, v = u 1 := ⟨_, rfl⟩
  have g1 : u 1 = v5 := hv1.symm
  have hr6 := (hΦ 1 (by decide)).2
  rw [g1] at hr6
  have r := r.congr (sc (hΦ 2 (by decide)) (sc g1 (sc (hΦ 0 (by decide)) rfl)))
  have z_w4 := hb.size
  have h_b1 := keep hb h_b1
  obtain ⟨hB, zB⟩ := bon hb hB
  have hF1 := fgrow hF hB b1
  refine zz04 r (zz2q (F := (fun b => F b ∨ (w0.heap.size ≤ b ∧ b < w4.heap.size ∧ b ≠ b1))) (n := n) hF1 (Rep.mono (by rintro b (h | h); (rcases h with h | ⟨h1, h2, h3⟩; exact .inl h; exact .inr ⟨h1, by omega, h3⟩); exact .inr ⟨by omega, by omega, by omega⟩) (Same.refl _ _) (by omega) n _ _ hr6) (c1_n.mono (by omega) (fun b h => .inl h) (Same.below hB hF) hB.size)) (fun R hc => y_call r rfl cl190 hc) rfl ?_
  rintro _ w7 ⟨v8, rfl, hb, hr9⟩
  refine ⟨_, rfl, fun fr r => ?_⟩
  have z_w7 := hb.size
  have h_b1 := keep hb h_b1
  obtain ⟨hB, zB⟩ := bon hb hB
  refine seq_upd (.cells v8.cells 158 (0, 0)) r (fun R => zz07 r hr9.shape rfl rfl h_b1 ts158 rfl) rfl fun fr w10 u11 r => ?_
  have z_w10 := u11.size
  have h_b1 := u11.at_
  obtain ⟨hB, zB⟩ := u11.on hB (by omega)
  refine wn ?_
  refine wp_ret ?_
  have hs := hr9.shape.cells
  refine zz06 r rfl rfl h_b1 (k := 9) hs.1 ta158 ?_
  rw [← hs.2.2]
  exact rfin hF hB hr9 u11 (by omega) (by omega) (by omega)

def D.zz8r (j : Nat) (c0 : Plan) (c1 : Int) (c2 : Int) (c3 : (Int → T Grant)) (a0 : Int) : T Grant := (bif (a0 != (-1)) then (D.zz6l c0 a0 c1) else (T.bind (D.zz6m j c0 c2) (fun x => (D.zz8c j c0 c3 x))))

theorem zze6 {n : Nat} {F : Nat → Prop} {j : Nat} {w0 : World} (hF : ∀ b, F b → b < w0.heap.size) (hj : n < j)
    (c0 : Plan) {c0_b : Nat} (c0_F : F c0_b) (c0_h : w0.heap[c0_b]? = some (.cells ((planC c0)).toArray 25 (0, 0))) (c1 : Int) {c1_b : Nat} (c1_F : F c1_b) (c1_h : w0.heap[c1_b]? = some (.cells ([(.int .i64 c1)]).toArray 3 (0, 0))) (c2 : Int) {c2_b : Nat} (c2_F : F c2_b) (c2_h : w0.heap[c2_b]? = some (.cells ([(.int .i64 c2)]).toArray 3 (0, 0))) {c3_f : FuncId} {c3_1 c3_2 : List Value} {c3 : (Int → T Grant)} {c3_b : Nat} (c3_F : F c3_b) (c3_h : w0.heap[c3_b]? = some (.cells #[.func (.func c3_f) c3_1.toArray c3_2.toArray] 246 (0, 0))) (c3_n : FnT Tryz.prog encGrant i64 (n + 1) F w0 (.func (.func c3_f) c3_1.toArray c3_2.toArray) c3) (a0 : Int) :
    Calls Tryz.prog 192 #[.int .i64 a0, .pointer (some ⟨c0_b, 0, none⟩), .pointer (some ⟨c1_b, 0, none⟩), .pointer (some ⟨c2_b, 0, none⟩), .pointer (some ⟨c3_b, 0, none⟩)] w0 (RepRes Tryz.prog encGrant n (D.zz8r j c0 c1 c2 c3 a0) F w0) := by
 refine enter Tryz.func192 rfl 18 rfl rfl fun fr r => ?_
 have hB := Below.refl w0.heap.size w0
 have l_c0_b := lt_of_block c0_h
 have l_c1_b := lt_of_block c1_h
 have l_c2_b := lt_of_block c2_h
 have l_c3_b := lt_of_block c3_h
 refine wsr ?_
 refine seq_new (.cells (progCells false encGrant.zero 0 0 0 0 .nilFunc) 158 (0, 0)) r (fun R => y_alloc tz158) rfl fun fr b1 w2 n3 r => ?_
 obtain ⟨e_b1, z_w2, h_b1, hB, zB⟩ := n3.all hB
 refine wn ?_
 refine wp_seq ?_
 refine wsr ?_
 refine seq_val (I a0) r (fun R => y_move r rfl) rfl fun fr r => ?_
 refine seq_val _ r (fun R => y_bin r rfl rfl rfl rfl) rfl fun fr r => ?_
 refine wn ?_
 refine wp_cond_split (t := (a0 != (-1))) (r.ev rfl) (fun h4 => ?_) (fun h4 => ?_)
 ·
  refine wsr ?_
  refine seq_val (.agg (planC c0).toArray) r (fun R => zz03 r (cs := (planC c0)) (n := 6) rfl (keep hB c0_h) ta25 rfl) rfl fun fr r => ?_
  refine seq_val (I a0) r (fun R => y_move r rfl) rfl fun fr r => ?_
  refine seq_val (I c1) r (fun R => zz01 r rfl (keep hB c1_h) to3 rfl) rfl fun fr r => ?_
  have hF1 := fgrow hF hB b1
  refine zz04 r (zzbh (F := (fun b => F b ∨ (w0.heap.size ≤ b ∧ b < w2.heap.size ∧ b ≠ b1))) (n := n) hF1 c0 a0 c1) (fun R hc => y_call r rfl cl189 hc) rfl ?_
  rintro _ w5 ⟨v6, rfl, hb, hr7⟩
  refine ⟨_, rfl, fun fr r => ?_⟩
  have z_w5 := hb.size
  have h_b1 := keep hb h_b1
  obtain ⟨hB, zB⟩ := bon hb hB
  refine seq_upd (.cells v6.cells 158 (0, 0)) r (fun R => zz07 r hr7.shape rfl rfl h_b1 ts158 rfl) rfl fun fr w8 u9 r => ?_
  have z_w8 := u9.size
  have h_b1 := u9.at_
  obtain ⟨hB, zB⟩ := u9.on hB (by omega)
  refine wn ?_
  refine wp_ret ?_
  have hd : D.zz8r j c0 c1 c2 c3 a0 = (D.zz6l c0 a0 c1) := (cond_t h4).trans (rfl)
  have hs := hr7.shape.cells
  refine zz06 r rfl rfl h_b1 (k := 9) hs.1 ta158 ?_
  rw [← hs.2.2, hd]
  exact rfin hF hB hr7 u9 (by omega) (by omega) (by omega)
 ·
  refine wp_skip ?_
  refine wsr ?_
  refine seq_val (.agg (planC c0).toArray) r (fun R => zz03 r (cs := (planC c0)) (n := 6) rfl (keep hB c0_h) ta25 rfl) rfl fun fr r => ?_
  refine seq_val (I c2) r (fun R => zz01 r rfl (keep hB c2_h) to3 rfl) rfl fun fr r => ?_
  have hF1 := fgrow hF hB b1
  refine zz04 r (zzbg (j := j) (F := (fun b => F b ∨ (w0.heap.size ≤ b ∧ b < w2.heap.size ∧ b ≠ b1))) (n := n) hF1 (by omega) c0 c2) (fun R hc => y_call r rfl cl193 hc) rfl ?_
  rintro _ w10 ⟨v11, rfl, hb, hr12⟩
  refine ⟨_, rfl, fun fr r => ?_⟩
  have z_w10 := hb.size
  have h_b1 := keep hb h_b1
  obtain ⟨hB, zB⟩ := bon hb hB
  refine seq_val (.func (.func 194) #[] #[.pointer (some ⟨c0_b, 0, none⟩), .pointer (some ⟨c3_b, 0, none⟩)]) r (fun R => zz0d r rfl) rfl fun fr r => ?_
  have hF1 := fgrow hF hB b1
  have f13 : ((fun b => F b ∨ (w0.heap.size ≤ b ∧ b < w10.heap.size ∧ b ≠ b1))) c0_b := (.inl c0_F)
  have f14 : ((fun b => F b ∨ (w0.heap.size ≤ b ∧ b < w10.heap.size ∧ b ≠ b1))) c3_b := (.inl c3_F)
  refine zz04 r (zz2q (F := (fun b => F b ∨ (w0.heap.size ≤ b ∧ b < w10.heap.size ∧ b ≠ b1))) (n := n) hF1 (Rep.mono (by rintro b (h | h); (rcases h with h | ⟨h1, h2, h3⟩; exact .inl h; exact .inr ⟨h1, by omega, h3⟩); exact .inr ⟨by omega, by omega, by omega⟩) (Same.refl _ _) (by omega) n _ _ hr12) ⟨194, [], [.pointer (some ⟨c0_b, 0, none⟩), .pointer (some ⟨c3_b, 0, none⟩)], cl194, rfl, fun m hm x w' hs hz => zzct (j := j) (fun b hb => Nat.lt_of_lt_of_le (hF1 b hb) hz) (by omega) c0 f13 (hs.at_ f13 (keep hB c0_h)) f14 (hs.at_ f14 (keep hB c3_h)) (c3_n.mono (by omega) (fun b h => .inl h) ((Same.below hB hF).trans (hs.sub (fun b h => .inl h))) (Nat.le_trans hB.size hz)) x⟩) (fun R hc => y_call r rfl cl190 hc) rfl ?_
  rintro _ w15 ⟨v16, rfl, hb, hr17⟩
  refine ⟨_, rfl, fun fr r => ?_⟩
  have z_w15 := hb.size
  have h_b1 := keep hb h_b1
  obtain ⟨hB, zB⟩ := bon hb hB
  refine seq_upd (.cells v16.cells 158 (0, 0)) r (fun R => zz07 r hr17.shape rfl rfl h_b1 ts158 rfl) rfl fun fr w18 u19 r => ?_
  have z_w18 := u19.size
  have h_b1 := u19.at_
  obtain ⟨hB, zB⟩ := u19.on hB (by omega)
  refine wn ?_
  refine wp_ret ?_
  have hd : D.zz8r j c0 c1 c2 c3 a0 = (T.bind (D.zz6m j c0 c2) (fun x => (D.zz8c j c0 c3 x))) := (cond_f h4).trans (rfl)
  have hs := hr17.shape.cells
  refine zz06 r rfl rfl h_b1 (k := 9) hs.1 ta158 ?_
  rw [← hs.2.2, hd]
  exact rfin hF hB hr17 u19 (by omega) (by omega) (by omega)

def D.zzey (j : Nat) (a0 : Plan) (a1 : Int) (a2 : Int) : T Grant := (T.bind (D.zzb2 j a0) (fun x => (D.zz8r j a0 a2 a1 (fun x => (D.zz70 a0 a2 x)) x)))

theorem zzf7 {n : Nat} {F : Nat → Prop} {j : Nat} {w0 : World} (hF : ∀ b, F b → b < w0.heap.size) (hj : n < j)
    (a0 : Plan) (a1 : Int) (a2 : Int) :
    Calls Tryz.prog 89 #[.agg (planC a0).toArray, .int .i64 a1, .int .i64 a2] w0 (RepRes Tryz.prog encGrant n (D.zzey j a0 a1 a2) F w0) := by
 refine enter Tryz.func89 rfl 13 rfl rfl fun fr r => ?_
 have hB := Below.refl w0.heap.size w0
 refine wsr ?_
 refine seq_new (.cells ((planC a0)).toArray 25 (0, 0)) r (fun R => y_box r (v := (.agg (planC a0).toArray)) rfl) rfl fun fr b1 w2 n3 r => ?_
 obtain ⟨e_b1, z_w2, h_b1, hB, zB⟩ := n3.all hB
 refine seq_new (.cells #[(I a1)] 3 (0, 0)) r (fun R => y_box r (v := (I a1)) rfl) rfl fun fr b4 w5 n6 r => ?_
 have h_b1 := keep n6.below h_b1
 obtain ⟨e_b4, z_w5, h_b4, hB, zB⟩ := n6.all hB
 refine seq_new (.cells #[(I a2)] 3 (0, 0)) r (fun R => y_box r (v := (I a2)) rfl) rfl fun fr b7 w8 n9 r => ?_
 have h_b1 := keep n9.below h_b1
 have h_b4 := keep n9.below h_b4
 obtain ⟨e_b7, z_w8, h_b7, hB, zB⟩ := n9.all hB
 refine seq_new (.cells (progCells false encGrant.zero 0 0 0 0 .nilFunc) 158 (0, 0)) r (fun R => y_alloc tz158) rfl fun fr b10 w11 n12 r => ?_
 have h_b1 := keep n12.below h_b1
 have h_b4 := keep n12.below h_b4
 have h_b7 := keep n12.below h_b7
 obtain ⟨e_b10, z_w11, h_b10, hB, zB⟩ := n12.all hB
 refine wn ?_
 refine wsr ?_
 refine seq_val (.func (.func 187) #[] #[.pointer (some ⟨b1, 0, none⟩), .pointer (some ⟨b7, 0, none⟩)]) r (fun R => zz0d r rfl) rfl fun fr r => ?_
 refine seq_new (.cells #[.nilFunc] 246 (0, 0)) r (fun R => y_alloc tz246) rfl fun fr b13 w14 n15 r => ?_
 have h_b1 := keep n15.below h_b1
 have h_b4 := keep n15.below h_b4
 have h_b7 := keep n15.below h_b7
 have h_b10 := keep n15.below h_b10
 obtain ⟨e_b13, z_w14, h_b13, hB, zB⟩ := n15.all hB
 refine seq_upd (.cells #[.func (.func 187) #[] #[.pointer (some ⟨b1, 0, none⟩), .pointer (some ⟨b7, 0, none⟩)]] 246 (0, 0)) r (fun R => y_store r (o := 0) (v := (.func (.func 187) #[] #[.pointer (some ⟨b1, 0, none⟩), .pointer (some ⟨b7, 0, none⟩)])) rfl rfl h_b13 ts246 (Nat.le_of_ble_eq_true rfl) rfl rfl) rfl fun fr w16 u17 r => ?_
 have z_w16 := u17.size
 have h_b1 := u17.keep h_b1 (by omega)
 have h_b4 := u17.keep h_b4 (by omega)
 have h_b7 := u17.keep h_b7 (by omega)
 have h_b10 := u17.keep h_b10 (by omega)
 have h_b13 := u17.at_
 obtain ⟨hB, zB⟩ := u17.on hB (by omega)
 refine wn ?_
 refine wsr ?_
 refine seq_val (.agg (planC a0).toArray) r (fun R => zz03 r (cs := (planC a0)) (n := 6) rfl h_b1 ta25 rfl) rfl fun fr r => ?_
 have hF1 := fgrow hF hB b10
 refine zz04 r ((zze9 (k := j) (n := n) (by omega)) (fun b => F b ∨ (w0.heap.size ≤ b ∧ b < w16.heap.size ∧ b ≠ b10)) _ hF1 a0) (fun R hc => y_call r rfl cl191 hc) rfl ?_
 rintro _ w18 ⟨v19, rfl, hb, hr20⟩
 refine ⟨_, rfl, fun fr r => ?_⟩
 have z_w18 := hb.size
 have h_b1 := keep hb h_b1
 have h_b4 := keep hb h_b4
 have h_b7 := keep hb h_b7
 have h_b10 := keep hb h_b10
 have h_b13 := keep hb h_b13
 obtain ⟨hB, zB⟩ := bon hb hB
 refine seq_val (.func (.func 192) #[] #[.pointer (some ⟨b1, 0, none⟩), .pointer (some ⟨b7, 0, none⟩), .pointer (some ⟨b4, 0, none⟩), .pointer (some ⟨b13, 0, none⟩)]) r (fun R => zz0d r rfl) rfl fun fr r => ?_
 have hF1 := fgrow hF hB b10
 have f21 : ((fun b => F b ∨ (w0.heap.size ≤ b ∧ b < w18.heap.size ∧ b ≠ b10))) b1 := (.inr ⟨by omega, by omega, by omega⟩)
 have f22 : ((fun b => F b ∨ (w0.heap.size ≤ b ∧ b < w18.heap.size ∧ b ≠ b10))) b7 := (.inr ⟨by omega, by omega, by omega⟩)
 have f23 : ((fun b => F b ∨ (w0.heap.size ≤ b ∧ b < w18.heap.size ∧ b ≠ b10))) b4 := (.inr ⟨by omega, by omega, by omega⟩)
 have f24 : ((fun b => F b ∨ (w0.heap.size ≤ b ∧ b < w18.heap.size ∧ b ≠ b10))) b13 := (.inr ⟨by omega, by omega, by omega⟩)
 have f26 : ((fun b => F b ∨ (w0.heap.size ≤ b ∧ b < w18.heap.size ∧ b ≠ b10))) b1 := (.inr ⟨by omega, by omega, by omega⟩)
 have f27 : ((fun b => F b ∨ (w0.heap.size ≤ b ∧ b < w18.heap.size ∧ b ≠ b10))) b7 := (.inr ⟨by omega, by omega, by omega⟩)
 have q25 : FnT Tryz.prog encGrant i64 (n + 1) (fun b => F b ∨ (w0.heap.size ≤ b ∧ b < w18.heap.size ∧ b ≠ b10)) w18 (.func (.func 187) #[] #[.pointer (some ⟨b1, 0, none⟩), .pointer (some ⟨b7, 0, none⟩)]) (fun x => (D.zz70 a0 a2 x)) := ⟨187, [], [.pointer (some ⟨b1, 0, none⟩), .pointer (some ⟨b7, 0, none⟩)], cl187, rfl, fun m hm x w' hs hz => zzdm (fun b hb => Nat.lt_of_lt_of_le (hF1 b hb) hz) a0 f26 (hs.at_ f26 h_b1) a2 f27 (hs.at_ f27 h_b7) x⟩
 refine zz04 r (zz2q (F := (fun b => F b ∨ (w0.heap.size ≤ b ∧ b < w18.heap.size ∧ b ≠ b10))) (n := n) hF1 (Rep.mono (by rintro b (h | h); (rcases h with h | ⟨h1, h2, h3⟩; exact .inl h; exact .inr ⟨h1, by omega, h3⟩); exact .inr ⟨by omega, by omega, by omega⟩) (Same.refl _ _) (by omega) n _ _ hr20) ⟨192, [], [.pointer (some ⟨b1, 0, none⟩), .pointer (some ⟨b7, 0, none⟩), .pointer (some ⟨b4, 0, none⟩), .pointer (some ⟨b13, 0, none⟩)], cl192, rfl, fun m hm x w' hs hz => zze6 (j := j) (fun b hb => Nat.lt_of_lt_of_le (hF1 b hb) hz) (by omega) a0 f21 (hs.at_ f21 h_b1) a2 f22 (hs.at_ f22 h_b7) a1 f23 (hs.at_ f23 h_b4) f24 (hs.at_ f24 h_b13) (q25.mono (by omega) (fun b h => h) hs hz) x⟩) (fun R hc => y_call r rfl cl190 hc) rfl ?_
 rintro _ w28 ⟨v29, rfl, hb, hr30⟩
 refine ⟨_, rfl, fun fr r => ?_⟩
 have z_w28 := hb.size
 have h_b1 := keep hb h_b1
 have h_b4 := keep hb h_b4
 have h_b7 := keep hb h_b7
 have h_b10 := keep hb h_b10
 have h_b13 := keep hb h_b13
 obtain ⟨hB, zB⟩ := bon hb hB
 refine seq_upd (.cells v29.cells 158 (0, 0)) r (fun R => zz07 r hr30.shape rfl rfl h_b10 ts158 rfl) rfl fun fr w31 u32 r => ?_
 have z_w31 := u32.size
 have h_b1 := u32.keep h_b1 (by omega)
 have h_b4 := u32.keep h_b4 (by omega)
 have h_b7 := u32.keep h_b7 (by omega)
 have h_b13 := u32.keep h_b13 (by omega)
 have h_b10 := u32.at_
 obtain ⟨hB, zB⟩ := u32.on hB (by omega)
 refine wn ?_
 refine wp_ret ?_
 have hs := hr30.shape.cells
 refine zz06 r rfl rfl h_b10 (k := 9) hs.1 ta158 ?_
 rw [← hs.2.2]
 exact rfin hF hB hr30 u32 (by omega) (by omega) (by omega)

def D.zz52 (c0 : Int) (a0 : Int) : T Int := (bif (a0 == (-1)) then (D.zz0w (-1)) else (D.zz0w c0))

theorem zzcn {n : Nat} {F : Nat → Prop} {w0 : World} (hF : ∀ b, F b → b < w0.heap.size)
    (c0 : Int) {c0_b : Nat} (c0_F : F c0_b) (c0_h : w0.heap[c0_b]? = some (.cells ([(.int .i64 c0)]).toArray 3 (0, 0))) (a0 : Int) :
    Calls Tryz.prog 228 #[.int .i64 a0, .pointer (some ⟨c0_b, 0, none⟩)] w0 (RepRes Tryz.prog encInt n (D.zz52 c0 a0) F w0) := by
 refine enter Tryz.func228 rfl 9 rfl rfl fun fr r => ?_
 have hB := Below.refl w0.heap.size w0
 have l_c0_b := lt_of_block c0_h
 refine wsr ?_
 refine seq_new (.cells (progCells false encInt.zero 0 0 0 0 .nilFunc) 167 (0, 0)) r (fun R => y_alloc tz167) rfl fun fr b1 w2 n3 r => ?_
 obtain ⟨e_b1, z_w2, h_b1, hB, zB⟩ := n3.all hB
 refine wn ?_
 refine wp_seq ?_
 refine wsr ?_
 refine seq_val (I a0) r (fun R => y_move r rfl) rfl fun fr r => ?_
 refine seq_val _ r (fun R => y_bin r rfl rfl rfl rfl) rfl fun fr r => ?_
 refine wn ?_
 refine wp_cond_split (t := (a0 == (-1))) (r.ev rfl) (fun h4 => ?_) (fun h4 => ?_)
 ·
  refine wsr ?_
  have hF1 := fgrow hF hB b1
  refine zz04 r (zz1g (F := (fun b => F b ∨ (w0.heap.size ≤ b ∧ b < w2.heap.size ∧ b ≠ b1))) (n := n) hF1 (-1)) (fun R hc => y_call r rfl cl229 hc) rfl ?_
  rintro _ w5 ⟨v6, rfl, hb, hr7⟩
  refine ⟨_, rfl, fun fr r => ?_⟩
  have z_w5 := hb.size
  have h_b1 := keep hb h_b1
  obtain ⟨hB, zB⟩ := bon hb hB
  refine seq_upd (.cells v6.cells 167 (0, 0)) r (fun R => zz07 r hr7.shape rfl rfl h_b1 ts167 rfl) rfl fun fr w8 u9 r => ?_
  have z_w8 := u9.size
  have h_b1 := u9.at_
  obtain ⟨hB, zB⟩ := u9.on hB (by omega)
  refine wn ?_
  refine wp_ret ?_
  have hd : D.zz52 c0 a0 = (D.zz0w (-1)) := (cond_t h4).trans (rfl)
  have hs := hr7.shape.cells
  refine zz06 r rfl rfl h_b1 (k := 7) hs.1 ta167 ?_
  rw [← hs.2.2, hd]
  exact rfin hF hB hr7 u9 (by omega) (by omega) (by omega)
 ·
  refine wp_skip ?_
  refine wsr ?_
  refine seq_val (I c0) r (fun R => zz01 r rfl (keep hB c0_h) to3 rfl) rfl fun fr r => ?_
  have hF1 := fgrow hF hB b1
  refine zz04 r (zz1g (F := (fun b => F b ∨ (w0.heap.size ≤ b ∧ b < w2.heap.size ∧ b ≠ b1))) (n := n) hF1 c0) (fun R hc => y_call r rfl cl229 hc) rfl ?_
  rintro _ w10 ⟨v11, rfl, hb, hr12⟩
  refine ⟨_, rfl, fun fr r => ?_⟩
  have z_w10 := hb.size
  have h_b1 := keep hb h_b1
  obtain ⟨hB, zB⟩ := bon hb hB
  refine seq_upd (.cells v11.cells 167 (0, 0)) r (fun R => zz07 r hr12.shape rfl rfl h_b1 ts167 rfl) rfl fun fr w13 u14 r => ?_
  have z_w13 := u14.size
  have h_b1 := u14.at_
  obtain ⟨hB, zB⟩ := u14.on hB (by omega)
  refine wn ?_
  refine wp_ret ?_
  have hd : D.zz52 c0 a0 = (D.zz0w c0) := (cond_f h4).trans (rfl)
  have hs := hr12.shape.cells
  refine zz06 r rfl rfl h_b1 (k := 7) hs.1 ta167 ?_
  rw [← hs.2.2, hd]
  exact rfin hF hB hr12 u14 (by omega) (by omega) (by omega)

def D.zz6f (c0 : Plan) (c1 : Int) (c2 : Int) (c3 : (Int → T Int)) (a0 : Int) : T Int := (T.bind (D.zza2 c0 c1 c2) c3)

theorem zzbr {n : Nat} {F : Nat → Prop} {w0 : World} (hF : ∀ b, F b → b < w0.heap.size)
    (c0 : Plan) {c0_b : Nat} (c0_F : F c0_b) (c0_h : w0.heap[c0_b]? = some (.cells ((planC c0)).toArray 25 (0, 0))) (c1 : Int) {c1_b : Nat} (c1_F : F c1_b) (c1_h : w0.heap[c1_b]? = some (.cells ([(.int .i64 c1)]).toArray 3 (0, 0))) (c2 : Int) {c2_b : Nat} (c2_F : F c2_b) (c2_h : w0.heap[c2_b]? = some (.cells ([(.int .i64 c2)]).toArray 3 (0, 0))) {c3_f : FuncId} {c3_1 c3_2 : List Value} {c3 : (Int → T Int)} {c3_b : Nat} (c3_F : F c3_b) (c3_h : w0.heap[c3_b]? = some (.cells #[.func (.func c3_f) c3_1.toArray c3_2.toArray] 271 (0, 0))) (c3_n : FnT Tryz.prog encInt i64 (n + 1) F w0 (.func (.func c3_f) c3_1.toArray c3_2.toArray) c3) (a0 : Int) :
    Calls Tryz.prog 233 #[.int .i64 a0, .pointer (some ⟨c0_b, 0, none⟩), .pointer (some ⟨c1_b, 0, none⟩), .pointer (some ⟨c2_b, 0, none⟩), .pointer (some ⟨c3_b, 0, none⟩)] w0 (RepRes Tryz.prog encInt n (D.zz6f c0 c1 c2 c3 a0) F w0) := by
 refine enter Tryz.func233 rfl 13 rfl rfl fun fr r => ?_
 have hB := Below.refl w0.heap.size w0
 have l_c0_b := lt_of_block c0_h
 have l_c1_b := lt_of_block c1_h
 have l_c2_b := lt_of_block c2_h
 have l_c3_b := lt_of_block c3_h
 refine wsr ?_
 refine seq_new (.cells (progCells false encInt.zero 0 0 0 0 .nilFunc) 167 (0, 0)) r (fun R => y_alloc tz167) rfl fun fr b1 w2 n3 r => ?_
 obtain ⟨e_b1, z_w2, h_b1, hB, zB⟩ := n3.all hB
 refine wn ?_
 refine wp_seq ?_
 have hF1 := fgrow hF hB b1
 refine zz0s 5 [.val (.agg (planC c0).toArray), .val (I c1), .val (I c2), .pred (PrepP Tryz.prog encInt n (D.zza2 c0 c1 c2) ((fun b => F b ∨ (w0.heap.size ≤ b ∧ b < w2.heap.size ∧ b ≠ b1))) w2) (PrepP.st hF1), .val (.func (.func c3_f) c3_1.toArray c3_2.toArray)] mixed r (by kernel_rfl) (zz00 (by exact trivial) (zz00 (by exact trivial) (zz00 (by exact trivial) (zz00 (by exact trivial) (zz00 (by exact trivial) zz0m))))) ?_ ?_
 ·
  refine ec r (fun _ u _ b d s => zz03 s (cs := (planC c0)) (n := 6) rfl (keep2 hB b c0_h) ta25 rfl bz) ?_
  refine ec r (fun _ u _ b d s => zz01 s rfl (keep2 hB b c1_h) to3 rfl bz) ?_
  refine ec r (fun _ u _ b d s => zz01 s rfl (keep2 hB b c2_h) to3 rfl bz) ?_
  refine ec r (fun fr1 u w' hb' hd r' => y_call r' (args := [(.agg (planC c0).toArray), (I c1), (I c2)]) (lc hd.1 (lc hd.2.1 (lc hd.2.2.1 l0))) cl231 ((zzcl (F := (fun b => F b ∨ (w0.heap.size ≤ b ∧ b < w2.heap.size ∧ b ≠ b1))) (n := n) (fun b h => Nat.lt_of_lt_of_le (hF1 b h) hb'.size) c0 c1 c2).mono (by rintro _ w2 ⟨y, rfl, hb2, hr2⟩; exact ⟨_, rfl, hb2, PrepP.of (drB hb') hb2 hr2⟩))) ?_
  refine ec r (fun _ u _ b d s => zz01 s rfl (keep2 hB b c3_h) to271 rfl bz) ?_
  exact zz10
 ·
  intro fr u w4 hb hΦ hne r
  obtain ⟨v5, hv3⟩ : ∃ v, v = u 3 := ⟨_, rfl⟩
  have g3 : u 3 = v5 := hv3.symm
  have hr6 := (hΦ 3 (by decide)).2
  rw [g3] at hr6
  have r := r.congr (sc (hΦ 4 (by decide)) (sc g3 (sc (hΦ 2 (by decide)) (sc (hΦ 1 (by decide)) (sc (hΦ 0 (by decide)) rfl)))))
  have z_w4 := hb.size
  have h_b1 := keep hb h_b1
  obtain ⟨hB, zB⟩ := bon hb hB
  have hF1 := fgrow hF hB b1
  refine zz04 r (zz38 (F := (fun b => F b ∨ (w0.heap.size ≤ b ∧ b < w4.heap.size ∧ b ≠ b1))) (n := n) hF1 (Rep.mono (by rintro b (h | h); (rcases h with h | ⟨h1, h2, h3⟩; exact .inl h; exact .inr ⟨h1, by omega, h3⟩); exact .inr ⟨by omega, by omega, by omega⟩) (Same.refl _ _) (by omega) n _ _ hr6) (c3_n.mono (by omega) (fun b h => .inl h) (Same.below hB hF) hB.size)) (fun R hc => y_call r rfl cl230 hc) rfl ?_
  rintro _ w7 ⟨v8, rfl, hb, hr9⟩
  refine ⟨_, rfl, fun fr r => ?_⟩
  have z_w7 := hb.size
  have h_b1 := keep hb h_b1
  obtain ⟨hB, zB⟩ := bon hb hB
  refine seq_upd (.cells v8.cells 167 (0, 0)) r (fun R => zz07 r hr9.shape rfl rfl h_b1 ts167 rfl) rfl fun fr w10 u11 r => ?_
  have z_w10 := u11.size
  have h_b1 := u11.at_
  obtain ⟨hB, zB⟩ := u11.on hB (by omega)
  refine wn ?_
  refine wp_ret ?_
  have hs := hr9.shape.cells
  refine zz06 r rfl rfl h_b1 (k := 7) hs.1 ta167 ?_
  rw [← hs.2.2]
  exact rfin hF hB hr9 u11 (by omega) (by omega) (by omega)

def D.zz6b (j : Nat) (c0 : Int) (c1 : Plan) (c2 : Int) (c3 : (Int → T Int)) (a0 : Int) : T Int := (bif (a0 != (-1)) then (D.zz0w c0) else (T.bind (D.zz6m j c1 c2) (fun x => (D.zz6f c1 c2 c0 c3 x))))

theorem zzcw {n : Nat} {F : Nat → Prop} {j : Nat} {w0 : World} (hF : ∀ b, F b → b < w0.heap.size) (hj : n < j)
    (c0 : Int) {c0_b : Nat} (c0_F : F c0_b) (c0_h : w0.heap[c0_b]? = some (.cells ([(.int .i64 c0)]).toArray 3 (0, 0))) (c1 : Plan) {c1_b : Nat} (c1_F : F c1_b) (c1_h : w0.heap[c1_b]? = some (.cells ((planC c1)).toArray 25 (0, 0))) (c2 : Int) {c2_b : Nat} (c2_F : F c2_b) (c2_h : w0.heap[c2_b]? = some (.cells ([(.int .i64 c2)]).toArray 3 (0, 0))) {c3_f : FuncId} {c3_1 c3_2 : List Value} {c3 : (Int → T Int)} {c3_b : Nat} (c3_F : F c3_b) (c3_h : w0.heap[c3_b]? = some (.cells #[.func (.func c3_f) c3_1.toArray c3_2.toArray] 271 (0, 0))) (c3_n : FnT Tryz.prog encInt i64 (n + 1) F w0 (.func (.func c3_f) c3_1.toArray c3_2.toArray) c3) (a0 : Int) :
    Calls Tryz.prog 232 #[.int .i64 a0, .pointer (some ⟨c0_b, 0, none⟩), .pointer (some ⟨c1_b, 0, none⟩), .pointer (some ⟨c2_b, 0, none⟩), .pointer (some ⟨c3_b, 0, none⟩)] w0 (RepRes Tryz.prog encInt n (D.zz6b j c0 c1 c2 c3 a0) F w0) := by
 refine enter Tryz.func232 rfl 16 rfl rfl fun fr r => ?_
 have hB := Below.refl w0.heap.size w0
 have l_c0_b := lt_of_block c0_h
 have l_c1_b := lt_of_block c1_h
 have l_c2_b := lt_of_block c2_h
 have l_c3_b := lt_of_block c3_h
 refine wsr ?_
 refine seq_new (.cells (progCells false encInt.zero 0 0 0 0 .nilFunc) 167 (0, 0)) r (fun R => y_alloc tz167) rfl fun fr b1 w2 n3 r => ?_
 obtain ⟨e_b1, z_w2, h_b1, hB, zB⟩ := n3.all hB
 refine wn ?_
 refine wp_seq ?_
 refine wsr ?_
 refine seq_val (I a0) r (fun R => y_move r rfl) rfl fun fr r => ?_
 refine seq_val _ r (fun R => y_bin r rfl rfl rfl rfl) rfl fun fr r => ?_
 refine wn ?_
 refine wp_cond_split (t := (a0 != (-1))) (r.ev rfl) (fun h4 => ?_) (fun h4 => ?_)
 ·
  refine wsr ?_
  refine seq_val (I c0) r (fun R => zz01 r rfl (keep hB c0_h) to3 rfl) rfl fun fr r => ?_
  have hF1 := fgrow hF hB b1
  refine zz04 r (zz1g (F := (fun b => F b ∨ (w0.heap.size ≤ b ∧ b < w2.heap.size ∧ b ≠ b1))) (n := n) hF1 c0) (fun R hc => y_call r rfl cl229 hc) rfl ?_
  rintro _ w5 ⟨v6, rfl, hb, hr7⟩
  refine ⟨_, rfl, fun fr r => ?_⟩
  have z_w5 := hb.size
  have h_b1 := keep hb h_b1
  obtain ⟨hB, zB⟩ := bon hb hB
  refine seq_upd (.cells v6.cells 167 (0, 0)) r (fun R => zz07 r hr7.shape rfl rfl h_b1 ts167 rfl) rfl fun fr w8 u9 r => ?_
  have z_w8 := u9.size
  have h_b1 := u9.at_
  obtain ⟨hB, zB⟩ := u9.on hB (by omega)
  refine wn ?_
  refine wp_ret ?_
  have hd : D.zz6b j c0 c1 c2 c3 a0 = (D.zz0w c0) := (cond_t h4).trans (rfl)
  have hs := hr7.shape.cells
  refine zz06 r rfl rfl h_b1 (k := 7) hs.1 ta167 ?_
  rw [← hs.2.2, hd]
  exact rfin hF hB hr7 u9 (by omega) (by omega) (by omega)
 ·
  refine wp_skip ?_
  refine wsr ?_
  refine seq_val (.agg (planC c1).toArray) r (fun R => zz03 r (cs := (planC c1)) (n := 6) rfl (keep hB c1_h) ta25 rfl) rfl fun fr r => ?_
  refine seq_val (I c2) r (fun R => zz01 r rfl (keep hB c2_h) to3 rfl) rfl fun fr r => ?_
  have hF1 := fgrow hF hB b1
  refine zz04 r (zzbg (j := j) (F := (fun b => F b ∨ (w0.heap.size ≤ b ∧ b < w2.heap.size ∧ b ≠ b1))) (n := n) hF1 (by omega) c1 c2) (fun R hc => y_call r rfl cl193 hc) rfl ?_
  rintro _ w10 ⟨v11, rfl, hb, hr12⟩
  refine ⟨_, rfl, fun fr r => ?_⟩
  have z_w10 := hb.size
  have h_b1 := keep hb h_b1
  obtain ⟨hB, zB⟩ := bon hb hB
  refine seq_val (.func (.func 233) #[] #[.pointer (some ⟨c1_b, 0, none⟩), .pointer (some ⟨c2_b, 0, none⟩), .pointer (some ⟨c0_b, 0, none⟩), .pointer (some ⟨c3_b, 0, none⟩)]) r (fun R => zz0d r rfl) rfl fun fr r => ?_
  have hF1 := fgrow hF hB b1
  have f13 : ((fun b => F b ∨ (w0.heap.size ≤ b ∧ b < w10.heap.size ∧ b ≠ b1))) c1_b := (.inl c1_F)
  have f14 : ((fun b => F b ∨ (w0.heap.size ≤ b ∧ b < w10.heap.size ∧ b ≠ b1))) c2_b := (.inl c2_F)
  have f15 : ((fun b => F b ∨ (w0.heap.size ≤ b ∧ b < w10.heap.size ∧ b ≠ b1))) c0_b := (.inl c0_F)
  have f16 : ((fun b => F b ∨ (w0.heap.size ≤ b ∧ b < w10.heap.size ∧ b ≠ b1))) c3_b := (.inl c3_F)
  refine zz04 r (zz38 (F := (fun b => F b ∨ (w0.heap.size ≤ b ∧ b < w10.heap.size ∧ b ≠ b1))) (n := n) hF1 (Rep.mono (by rintro b (h | h); (rcases h with h | ⟨h1, h2, h3⟩; exact .inl h; exact .inr ⟨h1, by omega, h3⟩); exact .inr ⟨by omega, by omega, by omega⟩) (Same.refl _ _) (by omega) n _ _ hr12) ⟨233, [], [.pointer (some ⟨c1_b, 0, none⟩), .pointer (some ⟨c2_b, 0, none⟩), .pointer (some ⟨c0_b, 0, none⟩), .pointer (some ⟨c3_b, 0, none⟩)], cl233, rfl, fun m hm x w' hs hz => zzbr (fun b hb => Nat.lt_of_lt_of_le (hF1 b hb) hz) c1 f13 (hs.at_ f13 (keep hB c1_h)) c2 f14 (hs.at_ f14 (keep hB c2_h)) c0 f15 (hs.at_ f15 (keep hB c0_h)) f16 (hs.at_ f16 (keep hB c3_h)) (c3_n.mono (by omega) (fun b h => .inl h) ((Same.below hB hF).trans (hs.sub (fun b h => .inl h))) (Nat.le_trans hB.size hz)) x⟩) (fun R hc => y_call r rfl cl230 hc) rfl ?_
  rintro _ w17 ⟨v18, rfl, hb, hr19⟩
  refine ⟨_, rfl, fun fr r => ?_⟩
  have z_w17 := hb.size
  have h_b1 := keep hb h_b1
  obtain ⟨hB, zB⟩ := bon hb hB
  refine seq_upd (.cells v18.cells 167 (0, 0)) r (fun R => zz07 r hr19.shape rfl rfl h_b1 ts167 rfl) rfl fun fr w20 u21 r => ?_
  have z_w20 := u21.size
  have h_b1 := u21.at_
  obtain ⟨hB, zB⟩ := u21.on hB (by omega)
  refine wn ?_
  refine wp_ret ?_
  have hd : D.zz6b j c0 c1 c2 c3 a0 = (T.bind (D.zz6m j c1 c2) (fun x => (D.zz6f c1 c2 c0 c3 x))) := (cond_f h4).trans (rfl)
  have hs := hr19.shape.cells
  refine zz06 r rfl rfl h_b1 (k := 7) hs.1 ta167 ?_
  rw [← hs.2.2, hd]
  exact rfin hF hB hr19 u21 (by omega) (by omega) (by omega)

def D.zzcy (j : Nat) (a0 : Plan) (a1 : Int) (a2 : Int) : T Int := (T.bind (D.zza2 a0 a1 a2) (fun x => (D.zz6b j a2 a0 a1 (fun x => (D.zz52 a2 x)) x)))

theorem zze1 {n : Nat} {F : Nat → Prop} {j : Nat} {w0 : World} (hF : ∀ b, F b → b < w0.heap.size) (hj : n < j)
    (a0 : Plan) (a1 : Int) (a2 : Int) :
    Calls Tryz.prog 133 #[.agg (planC a0).toArray, .int .i64 a1, .int .i64 a2] w0 (RepRes Tryz.prog encInt n (D.zzcy j a0 a1 a2) F w0) := by
 refine enter Tryz.func133 rfl 15 rfl rfl fun fr r => ?_
 have hB := Below.refl w0.heap.size w0
 refine wsr ?_
 refine seq_new (.cells ((planC a0)).toArray 25 (0, 0)) r (fun R => y_box r (v := (.agg (planC a0).toArray)) rfl) rfl fun fr b1 w2 n3 r => ?_
 obtain ⟨e_b1, z_w2, h_b1, hB, zB⟩ := n3.all hB
 refine seq_new (.cells #[(I a1)] 3 (0, 0)) r (fun R => y_box r (v := (I a1)) rfl) rfl fun fr b4 w5 n6 r => ?_
 have h_b1 := keep n6.below h_b1
 obtain ⟨e_b4, z_w5, h_b4, hB, zB⟩ := n6.all hB
 refine seq_new (.cells #[(I a2)] 3 (0, 0)) r (fun R => y_box r (v := (I a2)) rfl) rfl fun fr b7 w8 n9 r => ?_
 have h_b1 := keep n9.below h_b1
 have h_b4 := keep n9.below h_b4
 obtain ⟨e_b7, z_w8, h_b7, hB, zB⟩ := n9.all hB
 refine seq_new (.cells (progCells false encInt.zero 0 0 0 0 .nilFunc) 167 (0, 0)) r (fun R => y_alloc tz167) rfl fun fr b10 w11 n12 r => ?_
 have h_b1 := keep n12.below h_b1
 have h_b4 := keep n12.below h_b4
 have h_b7 := keep n12.below h_b7
 obtain ⟨e_b10, z_w11, h_b10, hB, zB⟩ := n12.all hB
 refine wn ?_
 refine wsr ?_
 refine seq_val (.func (.func 228) #[] #[.pointer (some ⟨b7, 0, none⟩)]) r (fun R => zz0d r rfl) rfl fun fr r => ?_
 refine seq_new (.cells #[.nilFunc] 271 (0, 0)) r (fun R => y_alloc tz271) rfl fun fr b13 w14 n15 r => ?_
 have h_b1 := keep n15.below h_b1
 have h_b4 := keep n15.below h_b4
 have h_b7 := keep n15.below h_b7
 have h_b10 := keep n15.below h_b10
 obtain ⟨e_b13, z_w14, h_b13, hB, zB⟩ := n15.all hB
 refine seq_upd (.cells #[.func (.func 228) #[] #[.pointer (some ⟨b7, 0, none⟩)]] 271 (0, 0)) r (fun R => y_store r (o := 0) (v := (.func (.func 228) #[] #[.pointer (some ⟨b7, 0, none⟩)])) rfl rfl h_b13 ts271 (Nat.le_of_ble_eq_true rfl) rfl rfl) rfl fun fr w16 u17 r => ?_
 have z_w16 := u17.size
 have h_b1 := u17.keep h_b1 (by omega)
 have h_b4 := u17.keep h_b4 (by omega)
 have h_b7 := u17.keep h_b7 (by omega)
 have h_b10 := u17.keep h_b10 (by omega)
 have h_b13 := u17.at_
 obtain ⟨hB, zB⟩ := u17.on hB (by omega)
 refine wn ?_
 refine wsr ?_
 refine seq_val (.agg (planC a0).toArray) r (fun R => zz03 r (cs := (planC a0)) (n := 6) rfl h_b1 ta25 rfl) rfl fun fr r => ?_
 refine seq_val (I a1) r (fun R => zz01 r rfl h_b4 to3 rfl) rfl fun fr r => ?_
 refine seq_val (I a2) r (fun R => zz01 r rfl h_b7 to3 rfl) rfl fun fr r => ?_
 have hF1 := fgrow hF hB b10
 refine zz04 r (zzcl (F := (fun b => F b ∨ (w0.heap.size ≤ b ∧ b < w16.heap.size ∧ b ≠ b10))) (n := n) hF1 a0 a1 a2) (fun R hc => y_call r rfl cl231 hc) rfl ?_
 rintro _ w18 ⟨v19, rfl, hb, hr20⟩
 refine ⟨_, rfl, fun fr r => ?_⟩
 have z_w18 := hb.size
 have h_b1 := keep hb h_b1
 have h_b4 := keep hb h_b4
 have h_b7 := keep hb h_b7
 have h_b10 := keep hb h_b10
 have h_b13 := keep hb h_b13
 obtain ⟨hB, zB⟩ := bon hb hB
 refine seq_val (.func (.func 232) #[] #[.pointer (some ⟨b7, 0, none⟩), .pointer (some ⟨b1, 0, none⟩), .pointer (some ⟨b4, 0, none⟩), .pointer (some ⟨b13, 0, none⟩)]) r (fun R => zz0d r rfl) rfl fun fr r => ?_
 have hF1 := fgrow hF hB b10
 have f21 : ((fun b => F b ∨ (w0.heap.size ≤ b ∧ b < w18.heap.size ∧ b ≠ b10))) b7 := (.inr ⟨by omega, by omega, by omega⟩)
 have f22 : ((fun b => F b ∨ (w0.heap.size ≤ b ∧ b < w18.heap.size ∧ b ≠ b10))) b1 := (.inr ⟨by omega, by omega, by omega⟩)
 have f23 : ((fun b => F b ∨ (w0.heap.size ≤ b ∧ b < w18.heap.size ∧ b ≠ b10))) b4 := (.inr ⟨by omega, by omega, by omega⟩)
 have f24 : ((fun b => F b ∨ (w0.heap.size ≤ b ∧ b < w18.heap.size ∧ b ≠ b10))) b13 := (.inr ⟨by omega, by omega, by omega⟩)
 have f26 : ((fun b => F b ∨ (w0.heap.size ≤ b ∧ b < w18.heap.size ∧ b ≠ b10))) b7 := (.inr ⟨by omega, by omega, by omega⟩)
 have q25 : FnT Tryz.prog encInt i64 (n + 1) (fun b => F b ∨ (w0.heap.size ≤ b ∧ b < w18.heap.size ∧ b ≠ b10)) w18 (.func (.func 228) #[] #[.pointer (some ⟨b7, 0, none⟩)]) (fun x => (D.zz52 a2 x)) := ⟨228, [], [.pointer (some ⟨b7, 0, none⟩)], cl228, rfl, fun m hm x w' hs hz => zzcn (fun b hb => Nat.lt_of_lt_of_le (hF1 b hb) hz) a2 f26 (hs.at_ f26 h_b7) x⟩
 refine zz04 r (zz38 (F := (fun b => F b ∨ (w0.heap.size ≤ b ∧ b < w18.heap.size ∧ b ≠ b10))) (n := n) hF1 (Rep.mono (by rintro b (h | h); (rcases h with h | ⟨h1, h2, h3⟩; exact .inl h; exact .inr ⟨h1, by omega, h3⟩); exact .inr ⟨by omega, by omega, by omega⟩) (Same.refl _ _) (by omega) n _ _ hr20) ⟨232, [], [.pointer (some ⟨b7, 0, none⟩), .pointer (some ⟨b1, 0, none⟩), .pointer (some ⟨b4, 0, none⟩), .pointer (some ⟨b13, 0, none⟩)], cl232, rfl, fun m hm x w' hs hz => zzcw (j := j) (fun b hb => Nat.lt_of_lt_of_le (hF1 b hb) hz) (by omega) a2 f21 (hs.at_ f21 h_b7) a0 f22 (hs.at_ f22 h_b1) a1 f23 (hs.at_ f23 h_b4) f24 (hs.at_ f24 h_b13) (q25.mono (by omega) (fun b h => h) hs hz) x⟩) (fun R hc => y_call r rfl cl230 hc) rfl ?_
 rintro _ w27 ⟨v28, rfl, hb, hr29⟩
 refine ⟨_, rfl, fun fr r => ?_⟩
 have z_w27 := hb.size
 have h_b1 := keep hb h_b1
 have h_b4 := keep hb h_b4
 have h_b7 := keep hb h_b7
 have h_b10 := keep hb h_b10
 have h_b13 := keep hb h_b13
 obtain ⟨hB, zB⟩ := bon hb hB
 refine seq_upd (.cells v28.cells 167 (0, 0)) r (fun R => zz07 r hr29.shape rfl rfl h_b10 ts167 rfl) rfl fun fr w30 u31 r => ?_
 have z_w30 := u31.size
 have h_b1 := u31.keep h_b1 (by omega)
 have h_b4 := u31.keep h_b4 (by omega)
 have h_b7 := u31.keep h_b7 (by omega)
 have h_b13 := u31.keep h_b13 (by omega)
 have h_b10 := u31.at_
 obtain ⟨hB, zB⟩ := u31.on hB (by omega)
 refine wn ?_
 refine wp_ret ?_
 have hs := hr29.shape.cells
 refine zz06 r rfl rfl h_b10 (k := 7) hs.1 ta167 ?_
 rw [← hs.2.2]
 exact rfin hF hB hr29 u31 (by omega) (by omega) (by omega)

def D.zz7z (j : Nat) (c0 : Plan) (c1 : Int) (c2 : Int) : T Int := (D.zzcy j c0 c1 c2)

theorem zzba {n : Nat} {F : Nat → Prop} {j : Nat} {w0 : World} (hF : ∀ b, F b → b < w0.heap.size) (hj : n < j)
    (c0 : Plan) {c0_b : Nat} (c0_F : F c0_b) (c0_h : w0.heap[c0_b]? = some (.cells ((planC c0)).toArray 25 (0, 0))) (c1 : Int) {c1_b : Nat} (c1_F : F c1_b) (c1_h : w0.heap[c1_b]? = some (.cells ([(.int .i64 c1)]).toArray 3 (0, 0))) (c2 : Int) {c2_b : Nat} (c2_F : F c2_b) (c2_h : w0.heap[c2_b]? = some (.cells ([(.int .i64 c2)]).toArray 3 (0, 0))) :
    Calls Tryz.prog 201 #[.pointer (some ⟨c0_b, 0, none⟩), .pointer (some ⟨c1_b, 0, none⟩), .pointer (some ⟨c2_b, 0, none⟩)] w0 (RepRes Tryz.prog encInt n (D.zz7z j c0 c1 c2) F w0) := by
 refine enter Tryz.func201 rfl 8 rfl rfl fun fr r => ?_
 have hB := Below.refl w0.heap.size w0
 have l_c0_b := lt_of_block c0_h
 have l_c1_b := lt_of_block c1_h
 have l_c2_b := lt_of_block c2_h
 refine wsr ?_
 refine seq_new (.cells (progCells false encInt.zero 0 0 0 0 .nilFunc) 167 (0, 0)) r (fun R => y_alloc tz167) rfl fun fr b1 w2 n3 r => ?_
 obtain ⟨e_b1, z_w2, h_b1, hB, zB⟩ := n3.all hB
 refine wn ?_
 refine wsr ?_
 refine seq_val (.agg (planC c0).toArray) r (fun R => zz03 r (cs := (planC c0)) (n := 6) rfl (keep hB c0_h) ta25 rfl) rfl fun fr r => ?_
 refine seq_val (I c1) r (fun R => zz01 r rfl (keep hB c1_h) to3 rfl) rfl fun fr r => ?_
 refine seq_val (I c2) r (fun R => zz01 r rfl (keep hB c2_h) to3 rfl) rfl fun fr r => ?_
 have hF1 := fgrow hF hB b1
 refine zz04 r (zze1 (j := j) (F := (fun b => F b ∨ (w0.heap.size ≤ b ∧ b < w2.heap.size ∧ b ≠ b1))) (n := n) hF1 (by omega) c0 c1 c2) (fun R hc => y_call r rfl cl133 hc) rfl ?_
 rintro _ w4 ⟨v5, rfl, hb, hr6⟩
 refine ⟨_, rfl, fun fr r => ?_⟩
 have z_w4 := hb.size
 have h_b1 := keep hb h_b1
 obtain ⟨hB, zB⟩ := bon hb hB
 refine seq_upd (.cells v5.cells 167 (0, 0)) r (fun R => zz07 r hr6.shape rfl rfl h_b1 ts167 rfl) rfl fun fr w7 u8 r => ?_
 have z_w7 := u8.size
 have h_b1 := u8.at_
 obtain ⟨hB, zB⟩ := u8.on hB (by omega)
 refine wn ?_
 refine wp_ret ?_
 have hs := hr6.shape.cells
 refine zz06 r rfl rfl h_b1 (k := 7) hs.1 ta167 ?_
 rw [← hs.2.2]
 exact rfin hF hB hr6 u8 (by omega) (by omega) (by omega)

def D.zza9 (j : Nat) (c0 : Plan) (c1 : Int) (c2 : Int) (a0 : Int) : T Int := (D.zz1l (D.zz13 c0 c1) (D.zz0v (D.zz1p ((D.zz0j a0).1))) (fun _ => (D.zz7z j c0 c2 c1)))

theorem zzc8 {n : Nat} {F : Nat → Prop} {j : Nat} {w0 : World} (hF : ∀ b, F b → b < w0.heap.size) (hj : n < j)
    (c0 : Plan) {c0_b : Nat} (c0_F : F c0_b) (c0_h : w0.heap[c0_b]? = some (.cells ((planC c0)).toArray 25 (0, 0))) (c1 : Int) {c1_b : Nat} (c1_F : F c1_b) (c1_h : w0.heap[c1_b]? = some (.cells ([(.int .i64 c1)]).toArray 3 (0, 0))) (c2 : Int) {c2_b : Nat} (c2_F : F c2_b) (c2_h : w0.heap[c2_b]? = some (.cells ([(.int .i64 c2)]).toArray 3 (0, 0))) (a0 : Int) :
    Calls Tryz.prog 199 #[.int .u64 a0, .pointer (some ⟨c0_b, 0, none⟩), .pointer (some ⟨c1_b, 0, none⟩), .pointer (some ⟨c2_b, 0, none⟩)] w0 (RepRes Tryz.prog encInt n (D.zza9 j c0 c1 c2 a0) F w0) := by
 refine enter Tryz.func199 rfl 21 rfl rfl fun fr r => ?_
 have hB := Below.refl w0.heap.size w0
 have l_c0_b := lt_of_block c0_h
 have l_c1_b := lt_of_block c1_h
 have l_c2_b := lt_of_block c2_h
 refine wsr ?_
 refine seq_new (.cells (progCells false encInt.zero 0 0 0 0 .nilFunc) 167 (0, 0)) r (fun R => y_alloc tz167) rfl fun fr b1 w2 n3 r => ?_
 obtain ⟨e_b1, z_w2, h_b1, hB, zB⟩ := n3.all hB
 refine wn ?_
 refine wsr ?_
 refine seq_val (U a0) r (fun R => y_move r rfl) rfl fun fr r => ?_
 refine zz04 r (zz8k w2 a0) (fun R hc => y_call r rfl cl67 hc) rfl ?_
 rintro _ w4 ⟨rfl, hb⟩
 refine ⟨_, rfl, fun fr r => ?_⟩
 have z_w4 := hb.size
 have h_b1 := keep hb h_b1
 obtain ⟨hB, zB⟩ := bon hb hB
 refine seq_val (.tuple #[(.agg (stateC (D.zz0j a0).1).toArray), (.bool (D.zz0j a0).2)]) r (fun R => y_move r rfl) rfl fun fr r => ?_
 refine seq_val (.agg (stateC (D.zz0j a0).1).toArray) r (fun R => zz0t r (vs := #[(.agg (stateC (D.zz0j a0).1).toArray), (.bool (D.zz0j a0).2)]) rfl rfl) rfl fun fr r => ?_
 refine seq_val (.bool (D.zz0j a0).2) r (fun R => zz0t r (vs := #[(.agg (stateC (D.zz0j a0).1).toArray), (.bool (D.zz0j a0).2)]) rfl rfl) rfl fun fr r => ?_
 refine seq_new (.cells ((stateC (⟨0, 0, 0⟩ : State))).toArray 118 (0, 0)) r (fun R => y_alloc tz118) rfl fun fr b5 w6 n7 r => ?_
 have h_b1 := keep n7.below h_b1
 obtain ⟨e_b5, z_w6, h_b5, hB, zB⟩ := n7.all hB
 refine seq_upd (.cells ((stateC ((D.zz0j a0).1))).toArray 118 (0, 0)) r (fun R => y_store r (o := 0) (v := (.agg (stateC (D.zz0j a0).1).toArray)) rfl rfl h_b5 ts118 (Nat.le_of_ble_eq_true rfl) rfl rfl) rfl fun fr w8 u9 r => ?_
 have z_w8 := u9.size
 have h_b1 := u9.keep h_b1 (by omega)
 have h_b5 := u9.at_
 obtain ⟨hB, zB⟩ := u9.on hB (by omega)
 refine seq_val (.bool (D.zz0j a0).2) r (fun R => zz05 r rfl) rfl fun fr r => ?_
 refine wn ?_
 refine wp_seq ?_
 refine zz0s 7 [.val (.agg (planC c0).toArray), .val (I c1), .val (I (D.zz13 c0 c1)), .val (.agg (stateC (D.zz0j a0).1).toArray), .val (.agg (stateC (D.zz1p ((D.zz0j a0).1))).toArray), .val (U (D.zz0v (D.zz1p ((D.zz0j a0).1)))), .val (.func (.func 201) #[] #[.pointer (some ⟨c0_b, 0, none⟩), .pointer (some ⟨c2_b, 0, none⟩), .pointer (some ⟨c1_b, 0, none⟩)])] mixed r (by kernel_rfl) (zz00 (by exact trivial) (zz00 (by exact trivial) (zz00 (by exact trivial) (zz00 (by exact trivial) (zz00 (by exact trivial) (zz00 (by exact trivial) (zz00 (by exact trivial) zz0m))))))) ?_ ?_
 ·
  refine ec r (fun _ u _ b d s => zz03 s (cs := (planC c0)) (n := 6) rfl (keep2 hB b c0_h) ta25 rfl bz) ?_
  refine ec r (fun _ u _ b d s => zz01 s rfl (keep2 hB b c1_h) to3 rfl bz) ?_
  refine ec r (fun fr1 u w' hb' hd r' => y_call r' (args := [(.agg (planC c0).toArray), (I c1)]) (lc hd.1 (lc hd.2.1 l0)) cl68 ((zz28 _ c0 c1).mono (by rintro _ w2 ⟨rfl, hb2⟩; exact ⟨_, rfl, hb2, rfl⟩))) ?_
  refine ec r (fun _ u _ b d s => zz03 s (cs := (stateC ((D.zz0j a0).1))) (n := 3) rfl (keep b h_b5) ta118 rfl bz) ?_
  refine ec r (fun fr1 u w' hb' hd r' => y_call r' (args := [(.agg (stateC (D.zz0j a0).1).toArray)]) (lc hd.1 l0) cl130 ((zz9m _ ((D.zz0j a0).1)).mono (by rintro _ w2 ⟨rfl, hb2⟩; exact ⟨_, rfl, hb2, rfl⟩))) ?_
  refine ec r (fun fr1 u w' hb' hd r' => y_call r' (args := [(.agg (stateC (D.zz1p ((D.zz0j a0).1))).toArray)]) (lc hd.1 l0) cl91 ((zz2e _ (D.zz1p ((D.zz0j a0).1))).mono (by rintro _ w2 ⟨rfl, hb2⟩; exact ⟨_, rfl, hb2, rfl⟩))) ?_
  refine ec r (fun _ u _ b d s => zz0d s (v := (.func (.func 201) #[] #[.pointer (some ⟨c0_b, 0, none⟩), .pointer (some ⟨c2_b, 0, none⟩), .pointer (some ⟨c1_b, 0, none⟩)])) rfl bz) ?_
  exact zz10
 ·
  intro fr u w10 hb hΦ hne r
  have r := r.congr (sc (hΦ 6 (by decide)) (sc (hΦ 5 (by decide)) (sc (hΦ 4 (by decide)) (sc (hΦ 3 (by decide)) (sc (hΦ 2 (by decide)) (sc (hΦ 1 (by decide)) (sc (hΦ 0 (by decide)) rfl)))))))
  have z_w10 := hb.size
  have h_b1 := keep hb h_b1
  have h_b5 := keep hb h_b5
  obtain ⟨hB, zB⟩ := bon hb hB
  have hF1 := fgrow hF hB b1
  have f11 : ((fun b => F b ∨ (w0.heap.size ≤ b ∧ b < w10.heap.size ∧ b ≠ b1))) c0_b := (.inl c0_F)
  have f12 : ((fun b => F b ∨ (w0.heap.size ≤ b ∧ b < w10.heap.size ∧ b ≠ b1))) c2_b := (.inl c2_F)
  have f13 : ((fun b => F b ∨ (w0.heap.size ≤ b ∧ b < w10.heap.size ∧ b ≠ b1))) c1_b := (.inl c1_F)
  refine zz04 r (zz1t (F := (fun b => F b ∨ (w0.heap.size ≤ b ∧ b < w10.heap.size ∧ b ≠ b1))) (n := n) hF1 (D.zz13 c0 c1) (D.zz0v (D.zz1p ((D.zz0j a0).1))) ⟨201, [], [.pointer (some ⟨c0_b, 0, none⟩), .pointer (some ⟨c2_b, 0, none⟩), .pointer (some ⟨c1_b, 0, none⟩)], cl201, rfl, fun m hm _ w' hs hz => zzba (j := j) (fun b hb => Nat.lt_of_lt_of_le (hF1 b hb) hz) (by omega) c0 f11 (hs.at_ f11 (keep hB c0_h)) c2 f12 (hs.at_ f12 (keep hB c2_h)) c1 f13 (hs.at_ f13 (keep hB c1_h))⟩) (fun R hc => y_call r rfl cl200 hc) rfl ?_
  rintro _ w14 ⟨v15, rfl, hb, hr16⟩
  refine ⟨_, rfl, fun fr r => ?_⟩
  have z_w14 := hb.size
  have h_b1 := keep hb h_b1
  have h_b5 := keep hb h_b5
  obtain ⟨hB, zB⟩ := bon hb hB
  refine seq_upd (.cells v15.cells 167 (0, 0)) r (fun R => zz07 r hr16.shape rfl rfl h_b1 ts167 rfl) rfl fun fr w17 u18 r => ?_
  have z_w17 := u18.size
  have h_b5 := u18.keep h_b5 (by omega)
  have h_b1 := u18.at_
  obtain ⟨hB, zB⟩ := u18.on hB (by omega)
  refine wn ?_
  refine wp_ret ?_
  have hs := hr16.shape.cells
  refine zz06 r rfl rfl h_b1 (k := 7) hs.1 ta167 ?_
  rw [← hs.2.2]
  exact rfin hF hB hr16 u18 (by omega) (by omega) (by omega)

def D.zz9o (j : Nat) (a0 : Plan) (a1 : Int) (a2 : Int) : T Int := (D.zz1f (D.zz13 a0 a2) (fun x => (D.zza9 j a0 a2 a1 x)))

theorem zzdc {n : Nat} {F : Nat → Prop} {j : Nat} {w0 : World} (hF : ∀ b, F b → b < w0.heap.size) (hj : n < j)
    (a0 : Plan) (a1 : Int) (a2 : Int) :
    Calls Tryz.prog 93 #[.agg (planC a0).toArray, .int .i64 a1, .int .i64 a2] w0 (RepRes Tryz.prog encInt n (D.zz9o j a0 a1 a2) F w0) := by
 refine enter Tryz.func93 rfl 12 rfl rfl fun fr r => ?_
 have hB := Below.refl w0.heap.size w0
 refine wsr ?_
 refine seq_new (.cells ((planC a0)).toArray 25 (0, 0)) r (fun R => y_box r (v := (.agg (planC a0).toArray)) rfl) rfl fun fr b1 w2 n3 r => ?_
 obtain ⟨e_b1, z_w2, h_b1, hB, zB⟩ := n3.all hB
 refine seq_new (.cells #[(I a1)] 3 (0, 0)) r (fun R => y_box r (v := (I a1)) rfl) rfl fun fr b4 w5 n6 r => ?_
 have h_b1 := keep n6.below h_b1
 obtain ⟨e_b4, z_w5, h_b4, hB, zB⟩ := n6.all hB
 refine seq_new (.cells #[(I a2)] 3 (0, 0)) r (fun R => y_box r (v := (I a2)) rfl) rfl fun fr b7 w8 n9 r => ?_
 have h_b1 := keep n9.below h_b1
 have h_b4 := keep n9.below h_b4
 obtain ⟨e_b7, z_w8, h_b7, hB, zB⟩ := n9.all hB
 refine seq_new (.cells (progCells false encInt.zero 0 0 0 0 .nilFunc) 167 (0, 0)) r (fun R => y_alloc tz167) rfl fun fr b10 w11 n12 r => ?_
 have h_b1 := keep n12.below h_b1
 have h_b4 := keep n12.below h_b4
 have h_b7 := keep n12.below h_b7
 obtain ⟨e_b10, z_w11, h_b10, hB, zB⟩ := n12.all hB
 refine wn ?_
 refine wsr ?_
 refine seq_val (.agg (planC a0).toArray) r (fun R => zz03 r (cs := (planC a0)) (n := 6) rfl h_b1 ta25 rfl) rfl fun fr r => ?_
 refine seq_val (I a2) r (fun R => zz01 r rfl h_b7 to3 rfl) rfl fun fr r => ?_
 refine zz04 r (zz28 w11 a0 a2) (fun R hc => y_call r rfl cl68 hc) rfl ?_
 rintro _ w13 ⟨rfl, hb⟩
 refine ⟨_, rfl, fun fr r => ?_⟩
 have z_w13 := hb.size
 have h_b1 := keep hb h_b1
 have h_b4 := keep hb h_b4
 have h_b7 := keep hb h_b7
 have h_b10 := keep hb h_b10
 obtain ⟨hB, zB⟩ := bon hb hB
 refine seq_val (.func (.func 199) #[] #[.pointer (some ⟨b1, 0, none⟩), .pointer (some ⟨b7, 0, none⟩), .pointer (some ⟨b4, 0, none⟩)]) r (fun R => zz0d r rfl) rfl fun fr r => ?_
 have hF1 := fgrow hF hB b10
 have f14 : ((fun b => F b ∨ (w0.heap.size ≤ b ∧ b < w13.heap.size ∧ b ≠ b10))) b1 := (.inr ⟨by omega, by omega, by omega⟩)
 have f15 : ((fun b => F b ∨ (w0.heap.size ≤ b ∧ b < w13.heap.size ∧ b ≠ b10))) b7 := (.inr ⟨by omega, by omega, by omega⟩)
 have f16 : ((fun b => F b ∨ (w0.heap.size ≤ b ∧ b < w13.heap.size ∧ b ≠ b10))) b4 := (.inr ⟨by omega, by omega, by omega⟩)
 refine zz04 r (zz1q (F := (fun b => F b ∨ (w0.heap.size ≤ b ∧ b < w13.heap.size ∧ b ≠ b10))) (n := n) hF1 (D.zz13 a0 a2) ⟨199, [], [.pointer (some ⟨b1, 0, none⟩), .pointer (some ⟨b7, 0, none⟩), .pointer (some ⟨b4, 0, none⟩)], cl199, rfl, fun m hm x w' hs hz => zzc8 (j := j) (fun b hb => Nat.lt_of_lt_of_le (hF1 b hb) hz) (by omega) a0 f14 (hs.at_ f14 h_b1) a2 f15 (hs.at_ f15 h_b7) a1 f16 (hs.at_ f16 h_b4) x⟩) (fun R hc => y_call r rfl cl198 hc) rfl ?_
 rintro _ w17 ⟨v18, rfl, hb, hr19⟩
 refine ⟨_, rfl, fun fr r => ?_⟩
 have z_w17 := hb.size
 have h_b1 := keep hb h_b1
 have h_b4 := keep hb h_b4
 have h_b7 := keep hb h_b7
 have h_b10 := keep hb h_b10
 obtain ⟨hB, zB⟩ := bon hb hB
 refine seq_upd (.cells v18.cells 167 (0, 0)) r (fun R => zz07 r hr19.shape rfl rfl h_b10 ts167 rfl) rfl fun fr w20 u21 r => ?_
 have z_w20 := u21.size
 have h_b1 := u21.keep h_b1 (by omega)
 have h_b4 := u21.keep h_b4 (by omega)
 have h_b7 := u21.keep h_b7 (by omega)
 have h_b10 := u21.at_
 obtain ⟨hB, zB⟩ := u21.on hB (by omega)
 refine wn ?_
 refine wp_ret ?_
 have hs := hr19.shape.cells
 refine zz06 r rfl rfl h_b10 (k := 7) hs.1 ta167 ?_
 rw [← hs.2.2]
 exact rfin hF hB hr19 u21 (by omega) (by omega) (by omega)

end Go.Proofs.YtjkinpbfmihhdaaGreat

/- Functions into trees that take a function into trees. -/
namespace Go.Proofs.YtjkinpbfmihhdaaGreat
open Go.RowKit

/-- A function value takes a number and a function of words, and stands for a function into trees, at all levels. -/
def FnHAt {R : Type} (P : Program) (E : Enc R) (F : Nat → Prop) (w : World) (f : FuncId) (first cap : List Value) (d : Int → (Int → T R) → T R) : Prop :=
  ∀ (m : Nat) (x : Int) {nf : FuncId} {n1 n2 : List Value} {g : Int → T R} (F' : Nat → Prop) (w' : World), (∀ b, F b → F' b) → Same F w w' → w.heap.size ≤ w'.heap.size → (∀ b, F' b → b < w'.heap.size) →
    FnT P E u64 m F' w' (.func (.func nf) n1.toArray n2.toArray) g → Calls P f (first ++ [Value.int .i64 x, Value.func (.func nf) n1.toArray n2.toArray] ++ cap).toArray w' (RepRes P E m (d x g) F' w')

def FnH {R : Type} (P : Program) (E : Enc R) (F : Nat → Prop) (w : World) (fv : Value) (d : Int → (Int → T R) → T R) : Prop :=
  ∃ (f : FuncId) (first cap : List Value), callable P f = true ∧ fv = .func (.func f) first.toArray cap.toArray ∧ FnHAt P E F w f first cap d

section
variable {R : Type} {P : Program} {E : Enc R}
theorem FnH.mono {F F' : Nat → Prop} {w w' : World} {fv : Value} {d : Int → (Int → T R) → T R} (h : FnH P E F w fv d)
    (hs : ∀ b, F b → F' b) (h1 : Same F w w') (h2 : w.heap.size ≤ w'.heap.size) : FnH P E F' w' fv d := by
  obtain ⟨f, first, cap, hc, hv, h⟩ := h
  exact ⟨f, first, cap, hc, hv, fun m x nf n1 n2 g F1 w1 k1 k2 k3 k4 k5 => h m x F1 w1 (fun b hb => k1 b (hs b hb)) (h1.trans (k2.sub hs)) (by omega) k4 k5⟩

theorem FnH.at_ {F : Nat → Prop} {w : World} {f : FuncId} {first cap : List Value} {d : Int → (Int → T R) → T R} (h : FnH P E F w (.func (.func f) first.toArray cap.toArray) d) :
    callable P f = true ∧ FnHAt P E F w f first cap d := by
  obtain ⟨f', first', cap', hc, he, hf⟩ := h
  simp only [Value.func.injEq, Fn.func.injEq] at he
  obtain ⟨e1, e2, e3⟩ := he
  have e2' : first = first' := by simpa using congrArg Array.toList e2
  have e3' : cap = cap' := by simpa using congrArg Array.toList e3
  subst e1; subst e2'; subst e3'
  exact ⟨hc, hf⟩

end
end Go.Proofs.YtjkinpbfmihhdaaGreat

/- Written by a program of ours (wip/gen.py): nodes by handles -/
set_option linter.unusedVariables false
set_option maxRecDepth 20000
set_option maxHeartbeats 2000000
namespace Go.Proofs.YtjkinpbfmihhdaaGreat
open Go.RowKit
theorem cl120 : callable Tryz.prog 120 = true := by kernel_rfl

theorem cl123 : callable Tryz.prog 123 = true := by kernel_rfl

theorem cl125 : callable Tryz.prog 125 = true := by kernel_rfl

theorem cl211 : callable Tryz.prog 211 = true := by kernel_rfl

theorem cl89 : callable Tryz.prog 89 = true := by kernel_rfl

theorem fo153_0 : fieldOff Tryz.prog 153 0 0 = true := by kernel_rfl

theorem fo153_2 : fieldOff Tryz.prog 153 2 2 = true := by kernel_rfl

theorem fo29_0 : fieldOff Tryz.prog 29 0 0 = true := by kernel_rfl

theorem fo29_2 : fieldOff Tryz.prog 29 2 7 = true := by kernel_rfl

theorem ta29 : tyA Tryz.prog 29 8 = true := by kernel_rfl

theorem to30 : tyO Tryz.prog 30 = true := by kernel_rfl

end Go.Proofs.YtjkinpbfmihhdaaGreat
