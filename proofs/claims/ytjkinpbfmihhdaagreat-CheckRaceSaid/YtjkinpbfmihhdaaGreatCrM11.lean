/- Some of our texts, one behind the other. -/
import Derived.Test.YtjkinpbfmihhdaaGreatCrRetires
import Derived.Test.YtjkinpbfmihhdaaGreatCrM10
import Derived.Test.YtjkinpbfmihhdaaGreatCrM0
import Derived.Test.YtjkinpbfmihhdaaGreatCrM2
import Derived.Test.YtjkinpbfmihhdaaGreatCrM3
import Derived.Test.YtjkinpbfmihhdaaGreatCrM4
set_option linter.all false
/- Written by a program of ours (wip/gen.py): nodes that are granted -/
set_option linter.unusedVariables false
set_option maxRecDepth 20000
set_option maxHeartbeats 2000000
namespace Go.Proofs.YtjkinpbfmihhdaaGreat
open Go.RowKit
theorem cl130 : callable Tryz.prog 130 = true := by kernel_rfl

theorem cl133 : callable Tryz.prog 133 = true := by kernel_rfl

theorem cl187 : callable Tryz.prog 187 = true := by kernel_rfl

theorem cl188 : callable Tryz.prog 188 = true := by kernel_rfl

theorem cl189 : callable Tryz.prog 189 = true := by kernel_rfl

theorem cl192 : callable Tryz.prog 192 = true := by kernel_rfl

theorem cl193 : callable Tryz.prog 193 = true := by kernel_rfl

theorem cl194 : callable Tryz.prog 194 = true := by kernel_rfl

theorem cl228 : callable Tryz.prog 228 = true := by kernel_rfl

theorem cl231 : callable Tryz.prog 231 = true := by kernel_rfl

theorem cl232 : callable Tryz.prog 232 = true := by kernel_rfl

theorem cl233 : callable Tryz.prog 233 = true := by kernel_rfl

theorem cl281 : callable Tryz.prog 281 = true := by kernel_rfl

theorem cl282 : callable Tryz.prog 282 = true := by kernel_rfl

theorem cl283 : callable Tryz.prog 283 = true := by kernel_rfl

theorem cl284 : callable Tryz.prog 284 = true := by kernel_rfl

theorem cl285 : callable Tryz.prog 285 = true := by kernel_rfl

theorem ts246 : sized Tryz.prog 246 1 = true := by kernel_rfl

theorem ts271 : sized Tryz.prog 271 1 = true := by kernel_rfl

theorem tz246 : zeroOf Tryz.prog 246 = some .nilFunc := by kernel_rfl

theorem tz271 : zeroOf Tryz.prog 271 = some .nilFunc := by kernel_rfl

def D.alloc_grant_1_1 (c0 : Int) (c1 : State) : T Grant := (D.zz4v (⟨c0, c1.gen, 0⟩ : Grant))

theorem c_alloc_grant_1_1 {n : Nat} {F : Nat → Prop} {w0 : World} (hF : ∀ b, F b → b < w0.heap.size)
    (c0 : Int) {c0_b : Nat} (c0_F : F c0_b) (c0_h : w0.heap[c0_b]? = some (.cells ([(.int .i64 c0)]).toArray 3 (0, 0))) (c1 : State) {c1_b : Nat} (c1_F : F c1_b) (c1_h : w0.heap[c1_b]? = some (.cells ((stateC c1)).toArray 118 (0, 0))) :
    Calls Tryz.prog 285 #[.pointer (some ⟨c0_b, 0, none⟩), .pointer (some ⟨c1_b, 0, none⟩)] w0 (RepRes Tryz.prog encGrant n (D.alloc_grant_1_1 c0 c1) F w0) := by
 refine enter Tryz.func285 rfl 8 rfl rfl fun fr r => ?_
 have hB := Below.refl w0.heap.size w0
 have l_c0_b := lt_of_block c0_h
 have l_c1_b := lt_of_block c1_h
 refine wsr ?_
 refine seq_new (.cells (progCells false encGrant.zero 0 0 0 0 .nilFunc) 158 (0, 0)) r (fun R => y_alloc tz158) rfl fun fr b1 w2 n3 r => ?_
 obtain ⟨e_b1, z_w2, h_b1, hB, zB⟩ := n3.all hB
 refine wn ?_
 refine wsr ?_
 refine seq_val (I c0) r (fun R => zz01 r rfl (keep hB c0_h) to3 rfl) rfl fun fr r => ?_
 refine seq_val _ r (fun R => zz02 r (o := 0) rfl fo118_0) rfl fun fr r => ?_
 refine seq_val (I c1.gen) r (fun R => zz01 r rfl (keep hB c1_h) to3 rfl) rfl fun fr r => ?_
 refine seq_val (.agg (grantC (⟨c0, c1.gen, 0⟩ : Grant)).toArray) r (fun R => y_build r (by kernel_rfl)) rfl fun fr r => ?_
 have hF1 := fgrow hF hB b1
 refine zz06 r (c_prog_Done_Grant (F := (fun b => F b ∨ (w0.heap.size ≤ b ∧ b < w2.heap.size ∧ b ≠ b1))) (n := n) hF1 (⟨c0, c1.gen, 0⟩ : Grant)) (fun R hc => y_call r rfl cl188 hc) rfl ?_
 rintro _ w4 ⟨v5, rfl, hb, hr6⟩
 refine ⟨_, rfl, fun fr r => ?_⟩
 have z_w4 := hb.size
 have h_b1 := keep hb h_b1
 obtain ⟨hB, zB⟩ := bon hb hB
 refine seq_upd (.cells v5.cells 158 (0, 0)) r (fun R => zz0c r hr6.shape rfl rfl h_b1 ts158 rfl) rfl fun fr w7 u8 r => ?_
 have z_w7 := u8.size
 have h_b1 := u8.at_
 obtain ⟨hB, zB⟩ := u8.on hB (by omega)
 refine wn ?_
 refine wp_ret ?_
 have hs := hr6.shape.cells
 refine zz0a r rfl rfl h_b1 (k := 9) hs.1 ta158 ?_
 rw [← hs.2.2]
 exact rfin hF hB hr6 u8 (by omega) (by omega) (by omega)

def D.alloc_grant_1 (c0 : Plan) (c1 : Int) (c2 : Int) (a0 : Int) : T Grant := (D.zz5o (D.zz0h c0 c1) (D.zz0e (D.zz1e ((D.zz0v a0).1) c2)) (fun _ => (D.alloc_grant_1_1 c1 ((D.zz0v a0).1))))

theorem c_alloc_grant_1 {n : Nat} {F : Nat → Prop} {w0 : World} (hF : ∀ b, F b → b < w0.heap.size)
    (c0 : Plan) {c0_b : Nat} (c0_F : F c0_b) (c0_h : w0.heap[c0_b]? = some (.cells ((planC c0)).toArray 25 (0, 0))) (c1 : Int) {c1_b : Nat} (c1_F : F c1_b) (c1_h : w0.heap[c1_b]? = some (.cells ([(.int .i64 c1)]).toArray 3 (0, 0))) (c2 : Int) {c2_b : Nat} (c2_F : F c2_b) (c2_h : w0.heap[c2_b]? = some (.cells ([(.int .i64 c2)]).toArray 3 (0, 0))) (a0 : Int) :
    Calls Tryz.prog 282 #[.int .u64 a0, .pointer (some ⟨c0_b, 0, none⟩), .pointer (some ⟨c1_b, 0, none⟩), .pointer (some ⟨c2_b, 0, none⟩)] w0 (RepRes Tryz.prog encGrant n (D.alloc_grant_1 c0 c1 c2 a0) F w0) := by
 refine enter Tryz.func282 rfl 22 rfl rfl fun fr r => ?_
 have hB := Below.refl w0.heap.size w0
 have l_c0_b := lt_of_block c0_h
 have l_c1_b := lt_of_block c1_h
 have l_c2_b := lt_of_block c2_h
 refine wsr ?_
 refine seq_new (.cells (progCells false encGrant.zero 0 0 0 0 .nilFunc) 158 (0, 0)) r (fun R => y_alloc tz158) rfl fun fr b1 w2 n3 r => ?_
 obtain ⟨e_b1, z_w2, h_b1, hB, zB⟩ := n3.all hB
 refine wn ?_
 refine wsr ?_
 refine seq_val (U a0) r (fun R => y_move r rfl) rfl fun fr r => ?_
 refine zz06 r (c_state_Of w2 a0) (fun R hc => y_call r rfl cl67 hc) rfl ?_
 rintro _ w4 ⟨rfl, hb⟩
 refine ⟨_, rfl, fun fr r => ?_⟩
 have z_w4 := hb.size
 have h_b1 := keep hb h_b1
 obtain ⟨hB, zB⟩ := bon hb hB
 refine seq_val (.tuple #[(.agg (stateC (D.zz0v a0).1).toArray), (.bool (D.zz0v a0).2)]) r (fun R => y_move r rfl) rfl fun fr r => ?_
 refine seq_val (.agg (stateC (D.zz0v a0).1).toArray) r (fun R => zz0t r (vs := #[(.agg (stateC (D.zz0v a0).1).toArray), (.bool (D.zz0v a0).2)]) rfl rfl) rfl fun fr r => ?_
 refine seq_val (.bool (D.zz0v a0).2) r (fun R => zz0t r (vs := #[(.agg (stateC (D.zz0v a0).1).toArray), (.bool (D.zz0v a0).2)]) rfl rfl) rfl fun fr r => ?_
 refine seq_new (.cells ((stateC (⟨0, 0, 0⟩ : State))).toArray 118 (0, 0)) r (fun R => y_alloc tz118) rfl fun fr b5 w6 n7 r => ?_
 have h_b1 := keep n7.below h_b1
 obtain ⟨e_b5, z_w6, h_b5, hB, zB⟩ := n7.all hB
 refine seq_upd (.cells ((stateC ((D.zz0v a0).1))).toArray 118 (0, 0)) r (fun R => y_store r (o := 0) (v := (.agg (stateC (D.zz0v a0).1).toArray)) rfl rfl h_b5 ts118 (Nat.le_of_ble_eq_true rfl) rfl rfl) rfl fun fr w8 u9 r => ?_
 have z_w8 := u9.size
 have h_b1 := u9.keep h_b1 (by omega)
 have h_b5 := u9.at_
 obtain ⟨hB, zB⟩ := u9.on hB (by omega)
 refine seq_val (.bool (D.zz0v a0).2) r (fun R => zz04 r rfl) rfl fun fr r => ?_
 refine wn ?_
 refine wp_seq ?_
 refine zz1c 8 [.val (.agg (planC c0).toArray), .val (I c1), .val (I (D.zz0h c0 c1)), .val (.agg (stateC (D.zz0v a0).1).toArray), .val (I c2), .val (.agg (stateC (D.zz1e ((D.zz0v a0).1) c2)).toArray), .val (U (D.zz0e (D.zz1e ((D.zz0v a0).1) c2))), .val (.func (.func 285) #[] #[.pointer (some ⟨c1_b, 0, none⟩), .pointer (some ⟨b5, 0, none⟩)])] mixed r (by kernel_rfl) (zz00 (by exact trivial) (zz00 (by exact trivial) (zz00 (by exact trivial) (zz00 (by exact trivial) (zz00 (by exact trivial) (zz00 (by exact trivial) (zz00 (by exact trivial) (zz00 (by exact trivial) zz12)))))))) ?_ ?_
 ·
  refine ec r (fun _ u _ b d s => zz03 s (cs := (planC c0)) (n := 6) rfl (keep2 hB b c0_h) ta25 rfl bz) ?_
  refine ec r (fun _ u _ b d s => zz01 s rfl (keep2 hB b c1_h) to3 rfl bz) ?_
  refine ec r (fun fr1 u w' hb' hd r' => y_call r' (args := [(.agg (planC c0).toArray), (I c1)]) (lc hd.1 (lc hd.2.1 l0)) cl68 ((zz2j _ c0 c1).mono (by rintro _ w2 ⟨rfl, hb2⟩; exact ⟨_, rfl, hb2, rfl⟩))) ?_
  refine ec r (fun _ u _ b d s => zz03 s (cs := (stateC ((D.zz0v a0).1))) (n := 3) rfl (keep b h_b5) ta118 rfl bz) ?_
  refine ec r (fun _ u _ b d s => zz01 s rfl (keep2 hB b c2_h) to3 rfl bz) ?_
  refine ec r (fun fr1 u w' hb' hd r' => y_call r' (args := [(.agg (stateC (D.zz0v a0).1).toArray), (I c2)]) (lc hd.1 (lc hd.2.1 l0)) cl284 ((c_state_State_Live _ ((D.zz0v a0).1) c2).mono (by rintro _ w2 ⟨rfl, hb2⟩; exact ⟨_, rfl, hb2, rfl⟩))) ?_
  refine ec r (fun fr1 u w' hb' hd r' => y_call r' (args := [(.agg (stateC (D.zz1e ((D.zz0v a0).1) c2)).toArray)]) (lc hd.1 l0) cl91 ((zz27 _ (D.zz1e ((D.zz0v a0).1) c2)).mono (by rintro _ w2 ⟨rfl, hb2⟩; exact ⟨_, rfl, hb2, rfl⟩))) ?_
  refine ec r (fun _ u _ b d s => zz0o s (v := (.func (.func 285) #[] #[.pointer (some ⟨c1_b, 0, none⟩), .pointer (some ⟨b5, 0, none⟩)])) rfl bz) ?_
  exact zz1l
 ·
  intro fr u w10 hb hΦ hne r
  have r := r.congr (sc (hΦ 7 (by decide)) (sc (hΦ 6 (by decide)) (sc (hΦ 5 (by decide)) (sc (hΦ 4 (by decide)) (sc (hΦ 3 (by decide)) (sc (hΦ 2 (by decide)) (sc (hΦ 1 (by decide)) (sc (hΦ 0 (by decide)) rfl))))))))
  have z_w10 := hb.size
  have h_b1 := keep hb h_b1
  have h_b5 := keep hb h_b5
  obtain ⟨hB, zB⟩ := bon hb hB
  have hF1 := fgrow hF hB b1
  have f11 : ((fun b => F b ∨ (w0.heap.size ≤ b ∧ b < w10.heap.size ∧ b ≠ b1))) c1_b := (.inl c1_F)
  have f12 : ((fun b => F b ∨ (w0.heap.size ≤ b ∧ b < w10.heap.size ∧ b ≠ b1))) b5 := (.inr ⟨by omega, by omega, by omega⟩)
  refine zz06 r (c_prog_Store_Grant (F := (fun b => F b ∨ (w0.heap.size ≤ b ∧ b < w10.heap.size ∧ b ≠ b1))) (n := n) hF1 (D.zz0h c0 c1) (D.zz0e (D.zz1e ((D.zz0v a0).1) c2)) ⟨285, [], [.pointer (some ⟨c1_b, 0, none⟩), .pointer (some ⟨b5, 0, none⟩)], cl285, rfl, fun m hm _ w' hs hz => c_alloc_grant_1_1 (fun b hb => Nat.lt_of_lt_of_le (hF1 b hb) hz) c1 f11 (hs.at_ f11 (keep hB c1_h)) ((D.zz0v a0).1) f12 (hs.at_ f12 h_b5)⟩) (fun R hc => y_call r rfl cl283 hc) rfl ?_
  rintro _ w13 ⟨v14, rfl, hb, hr15⟩
  refine ⟨_, rfl, fun fr r => ?_⟩
  have z_w13 := hb.size
  have h_b1 := keep hb h_b1
  have h_b5 := keep hb h_b5
  obtain ⟨hB, zB⟩ := bon hb hB
  refine seq_upd (.cells v14.cells 158 (0, 0)) r (fun R => zz0c r hr15.shape rfl rfl h_b1 ts158 rfl) rfl fun fr w16 u17 r => ?_
  have z_w16 := u17.size
  have h_b5 := u17.keep h_b5 (by omega)
  have h_b1 := u17.at_
  obtain ⟨hB, zB⟩ := u17.on hB (by omega)
  refine wn ?_
  refine wp_ret ?_
  have hs := hr15.shape.cells
  refine zz0a r rfl rfl h_b1 (k := 9) hs.1 ta158 ?_
  rw [← hs.2.2]
  exact rfin hF hB hr15 u17 (by omega) (by omega) (by omega)

def D.zz3v (a0 : Plan) (a1 : Int) (a2 : Int) : T Grant := (D.zz66 (D.zz0h a0 a1) (fun x => (D.alloc_grant_1 a0 a1 a2 x)))

theorem c_alloc_grant {n : Nat} {F : Nat → Prop} {w0 : World} (hF : ∀ b, F b → b < w0.heap.size)
    (a0 : Plan) (a1 : Int) (a2 : Int) :
    Calls Tryz.prog 189 #[.agg (planC a0).toArray, .int .i64 a1, .int .i64 a2] w0 (RepRes Tryz.prog encGrant n (D.zz3v a0 a1 a2) F w0) := by
 refine enter Tryz.func189 rfl 12 rfl rfl fun fr r => ?_
 have hB := Below.refl w0.heap.size w0
 refine wsr ?_
 refine seq_new (.cells ((planC a0)).toArray 25 (0, 0)) r (fun R => y_box r (v := (.agg (planC a0).toArray)) rfl) rfl fun fr b1 w2 n3 r => ?_
 obtain ⟨e_b1, z_w2, h_b1, hB, zB⟩ := n3.all hB
 refine seq_new (.cells #[(I a1)] 3 (0, 0)) r (fun R => y_box r (v := (I a1)) rfl) rfl fun fr b4 w5 n6 r => ?_
 have h_b1 := keep n6.below h_b1
 obtain ⟨e_b4, z_w5, h_b4, hB, zB⟩ := n6.all hB
 refine seq_new (.cells #[(I a2)] 3 (0, 0)) r (fun R => y_box r (v := (I a2)) rfl) rfl fun fr b7 w8 n9 r => ?_
 have h_b1 := keep n9.below h_b1
 have h_b4 := keep n9.below h_b4
 obtain ⟨e_b7, z_w8, h_b7, hB, zB⟩ := n9.all hB
 refine seq_new (.cells (progCells false encGrant.zero 0 0 0 0 .nilFunc) 158 (0, 0)) r (fun R => y_alloc tz158) rfl fun fr b10 w11 n12 r => ?_
 have h_b1 := keep n12.below h_b1
 have h_b4 := keep n12.below h_b4
 have h_b7 := keep n12.below h_b7
 obtain ⟨e_b10, z_w11, h_b10, hB, zB⟩ := n12.all hB
 refine wn ?_
 refine wsr ?_
 refine seq_val (.agg (planC a0).toArray) r (fun R => zz03 r (cs := (planC a0)) (n := 6) rfl h_b1 ta25 rfl) rfl fun fr r => ?_
 refine seq_val (I a1) r (fun R => zz01 r rfl h_b4 to3 rfl) rfl fun fr r => ?_
 refine zz06 r (zz2j w11 a0 a1) (fun R hc => y_call r rfl cl68 hc) rfl ?_
 rintro _ w13 ⟨rfl, hb⟩
 refine ⟨_, rfl, fun fr r => ?_⟩
 have z_w13 := hb.size
 have h_b1 := keep hb h_b1
 have h_b4 := keep hb h_b4
 have h_b7 := keep hb h_b7
 have h_b10 := keep hb h_b10
 obtain ⟨hB, zB⟩ := bon hb hB
 refine seq_val (.func (.func 282) #[] #[.pointer (some ⟨b1, 0, none⟩), .pointer (some ⟨b4, 0, none⟩), .pointer (some ⟨b7, 0, none⟩)]) r (fun R => zz0o r rfl) rfl fun fr r => ?_
 have hF1 := fgrow hF hB b10
 have f14 : ((fun b => F b ∨ (w0.heap.size ≤ b ∧ b < w13.heap.size ∧ b ≠ b10))) b1 := (.inr ⟨by omega, by omega, by omega⟩)
 have f15 : ((fun b => F b ∨ (w0.heap.size ≤ b ∧ b < w13.heap.size ∧ b ≠ b10))) b4 := (.inr ⟨by omega, by omega, by omega⟩)
 have f16 : ((fun b => F b ∨ (w0.heap.size ≤ b ∧ b < w13.heap.size ∧ b ≠ b10))) b7 := (.inr ⟨by omega, by omega, by omega⟩)
 refine zz06 r (c_prog_Load_Grant (F := (fun b => F b ∨ (w0.heap.size ≤ b ∧ b < w13.heap.size ∧ b ≠ b10))) (n := n) hF1 (D.zz0h a0 a1) ⟨282, [], [.pointer (some ⟨b1, 0, none⟩), .pointer (some ⟨b4, 0, none⟩), .pointer (some ⟨b7, 0, none⟩)], cl282, rfl, fun m hm x w' hs hz => c_alloc_grant_1 (fun b hb => Nat.lt_of_lt_of_le (hF1 b hb) hz) a0 f14 (hs.at_ f14 h_b1) a1 f15 (hs.at_ f15 h_b4) a2 f16 (hs.at_ f16 h_b7) x⟩) (fun R hc => y_call r rfl cl281 hc) rfl ?_
 rintro _ w17 ⟨v18, rfl, hb, hr19⟩
 refine ⟨_, rfl, fun fr r => ?_⟩
 have z_w17 := hb.size
 have h_b1 := keep hb h_b1
 have h_b4 := keep hb h_b4
 have h_b7 := keep hb h_b7
 have h_b10 := keep hb h_b10
 obtain ⟨hB, zB⟩ := bon hb hB
 refine seq_upd (.cells v18.cells 158 (0, 0)) r (fun R => zz0c r hr19.shape rfl rfl h_b10 ts158 rfl) rfl fun fr w20 u21 r => ?_
 have z_w20 := u21.size
 have h_b1 := u21.keep h_b1 (by omega)
 have h_b4 := u21.keep h_b4 (by omega)
 have h_b7 := u21.keep h_b7 (by omega)
 have h_b10 := u21.at_
 obtain ⟨hB, zB⟩ := u21.on hB (by omega)
 refine wn ?_
 refine wp_ret ?_
 have hs := hr19.shape.cells
 refine zz0a r rfl rfl h_b10 (k := 9) hs.1 ta158 ?_
 rw [← hs.2.2]
 exact rfin hF hB hr19 u21 (by omega) (by omega) (by omega)

def D.zz5b (c0 : Plan) (c1 : Int) (a0 : Int) : T Grant := (bif (a0 == (-1)) then (D.zz4v (⟨(-1), 0, 4⟩ : Grant)) else (D.zz3v c0 a0 c1))

theorem c_alloc_New_1 {n : Nat} {F : Nat → Prop} {w0 : World} (hF : ∀ b, F b → b < w0.heap.size)
    (c0 : Plan) {c0_b : Nat} (c0_F : F c0_b) (c0_h : w0.heap[c0_b]? = some (.cells ((planC c0)).toArray 25 (0, 0))) (c1 : Int) {c1_b : Nat} (c1_F : F c1_b) (c1_h : w0.heap[c1_b]? = some (.cells ([(.int .i64 c1)]).toArray 3 (0, 0))) (a0 : Int) :
    Calls Tryz.prog 187 #[.int .i64 a0, .pointer (some ⟨c0_b, 0, none⟩), .pointer (some ⟨c1_b, 0, none⟩)] w0 (RepRes Tryz.prog encGrant n (D.zz5b c0 c1 a0) F w0) := by
 refine enter Tryz.func187 rfl 13 rfl rfl fun fr r => ?_
 have hB := Below.refl w0.heap.size w0
 have l_c0_b := lt_of_block c0_h
 have l_c1_b := lt_of_block c1_h
 refine wsr ?_
 refine seq_new (.cells (progCells false encGrant.zero 0 0 0 0 .nilFunc) 158 (0, 0)) r (fun R => y_alloc tz158) rfl fun fr b1 w2 n3 r => ?_
 obtain ⟨e_b1, z_w2, h_b1, hB, zB⟩ := n3.all hB
 refine wn ?_
 refine wp_seq ?_
 refine wsr ?_
 refine seq_val (I a0) r (fun R => y_move r rfl) rfl fun fr r => ?_
 refine seq_val _ r (fun R => y_bin r rfl rfl rfl rfl) rfl fun fr r => ?_
 refine wn ?_
 refine wp_cond_split (t := (a0 == (-1))) (r.ev rfl) (fun h4 => ?_) (fun h4 => ?_)
 ·
  refine wsr ?_
  refine seq_val (.agg (grantC (⟨(-1), 0, 4⟩ : Grant)).toArray) r (fun R => y_build r (by kernel_rfl)) rfl fun fr r => ?_
  have hF1 := fgrow hF hB b1
  refine zz06 r (c_prog_Done_Grant (F := (fun b => F b ∨ (w0.heap.size ≤ b ∧ b < w2.heap.size ∧ b ≠ b1))) (n := n) hF1 (⟨(-1), 0, 4⟩ : Grant)) (fun R hc => y_call r rfl cl188 hc) rfl ?_
  rintro _ w5 ⟨v6, rfl, hb, hr7⟩
  refine ⟨_, rfl, fun fr r => ?_⟩
  have z_w5 := hb.size
  have h_b1 := keep hb h_b1
  obtain ⟨hB, zB⟩ := bon hb hB
  refine seq_upd (.cells v6.cells 158 (0, 0)) r (fun R => zz0c r hr7.shape rfl rfl h_b1 ts158 rfl) rfl fun fr w8 u9 r => ?_
  have z_w8 := u9.size
  have h_b1 := u9.at_
  obtain ⟨hB, zB⟩ := u9.on hB (by omega)
  refine wn ?_
  refine wp_ret ?_
  have hd : D.zz5b c0 c1 a0 = (D.zz4v (⟨(-1), 0, 4⟩ : Grant)) := (cond_t h4).trans (rfl)
  have hs := hr7.shape.cells
  refine zz0a r rfl rfl h_b1 (k := 9) hs.1 ta158 ?_
  rw [← hs.2.2, hd]
  exact rfin hF hB hr7 u9 (by omega) (by omega) (by omega)
 ·
  refine wp_skip ?_
  refine wsr ?_
  refine seq_val (.agg (planC c0).toArray) r (fun R => zz03 r (cs := (planC c0)) (n := 6) rfl (keep hB c0_h) ta25 rfl) rfl fun fr r => ?_
  refine seq_val (I a0) r (fun R => y_move r rfl) rfl fun fr r => ?_
  refine seq_val (I c1) r (fun R => zz01 r rfl (keep hB c1_h) to3 rfl) rfl fun fr r => ?_
  have hF1 := fgrow hF hB b1
  refine zz06 r (c_alloc_grant (F := (fun b => F b ∨ (w0.heap.size ≤ b ∧ b < w2.heap.size ∧ b ≠ b1))) (n := n) hF1 c0 a0 c1) (fun R hc => y_call r rfl cl189 hc) rfl ?_
  rintro _ w10 ⟨v11, rfl, hb, hr12⟩
  refine ⟨_, rfl, fun fr r => ?_⟩
  have z_w10 := hb.size
  have h_b1 := keep hb h_b1
  obtain ⟨hB, zB⟩ := bon hb hB
  refine seq_upd (.cells v11.cells 158 (0, 0)) r (fun R => zz0c r hr12.shape rfl rfl h_b1 ts158 rfl) rfl fun fr w13 u14 r => ?_
  have z_w13 := u14.size
  have h_b1 := u14.at_
  obtain ⟨hB, zB⟩ := u14.on hB (by omega)
  refine wn ?_
  refine wp_ret ?_
  have hd : D.zz5b c0 c1 a0 = (D.zz3v c0 a0 c1) := (cond_f h4).trans (rfl)
  have hs := hr12.shape.cells
  refine zz0a r rfl rfl h_b1 (k := 9) hs.1 ta158 ?_
  rw [← hs.2.2, hd]
  exact rfin hF hB hr12 u14 (by omega) (by omega) (by omega)

def D.alloc_New_2_1 (j : Nat) (c0 : Plan) (c1 : (Int → T Grant)) (a0 : Int) : T Grant := (T.bind (D.zz4j j c0) c1)

theorem c_alloc_New_2_1 {n : Nat} {F : Nat → Prop} {j : Nat} {w0 : World} (hF : ∀ b, F b → b < w0.heap.size) (hj : n < j)
    (c0 : Plan) {c0_b : Nat} (c0_F : F c0_b) (c0_h : w0.heap[c0_b]? = some (.cells ((planC c0)).toArray 25 (0, 0))) {c1_f : FuncId} {c1_1 c1_2 : List Value} {c1 : (Int → T Grant)} {c1_b : Nat} (c1_F : F c1_b) (c1_h : w0.heap[c1_b]? = some (.cells #[.func (.func c1_f) c1_1.toArray c1_2.toArray] 246 (0, 0))) (c1_n : FnT Tryz.prog encGrant i64 (n + 1) F w0 (.func (.func c1_f) c1_1.toArray c1_2.toArray) c1) (a0 : Int) :
    Calls Tryz.prog 194 #[.int .i64 a0, .pointer (some ⟨c0_b, 0, none⟩), .pointer (some ⟨c1_b, 0, none⟩)] w0 (RepRes Tryz.prog encGrant n (D.alloc_New_2_1 j c0 c1 a0) F w0) := by
 refine enter Tryz.func194 rfl 9 rfl rfl fun fr r => ?_
 have hB := Below.refl w0.heap.size w0
 have l_c0_b := lt_of_block c0_h
 have l_c1_b := lt_of_block c1_h
 refine wsr ?_
 refine seq_new (.cells (progCells false encGrant.zero 0 0 0 0 .nilFunc) 158 (0, 0)) r (fun R => y_alloc tz158) rfl fun fr b1 w2 n3 r => ?_
 obtain ⟨e_b1, z_w2, h_b1, hB, zB⟩ := n3.all hB
 refine wn ?_
 refine wp_seq ?_
 have hF1 := fgrow hF hB b1
 refine zz1c 3 [.val (.agg (planC c0).toArray), .pred (PrepP Tryz.prog encInt n (D.zz4j j c0) ((fun b => F b ∨ (w0.heap.size ≤ b ∧ b < w2.heap.size ∧ b ≠ b1))) w2) (PrepP.st hF1), .val (.func (.func c1_f) c1_1.toArray c1_2.toArray)] mixed r (by kernel_rfl) (zz00 (by exact trivial) (zz00 (by exact trivial) (zz00 (by exact trivial) zz12))) ?_ ?_
 ·
  refine ec r (fun _ u _ b d s => zz03 s (cs := (planC c0)) (n := 6) rfl (keep2 hB b c0_h) ta25 rfl bz) ?_
  refine ec r (fun fr1 u w' hb' hd r' => y_call r' (args := [(.agg (planC c0).toArray)]) (lc hd.1 l0) cl191 (((c_free_Pop (k := j) (n := n) (by omega)) ((fun b => F b ∨ (w0.heap.size ≤ b ∧ b < w2.heap.size ∧ b ≠ b1))) _ (fun b h => Nat.lt_of_lt_of_le (hF1 b h) hb'.size) c0).mono (by rintro _ w2 ⟨y, rfl, hb2, hr2⟩; exact ⟨_, rfl, hb2, PrepP.of (drB hb') hb2 hr2⟩))) ?_
  refine ec r (fun _ u _ b d s => zz01 s rfl (keep2 hB b c1_h) to246 rfl bz) ?_
  exact zz1l
 ·
  intro fr u w4 hb hΦ hne r
  obtain ⟨v5, hv1⟩ : ∃ v, v = u 1 := ⟨_, rfl⟩
  have g1 : u 1 = v5 := hv1.symm
  have hr6 := (hΦ 1 (by decide)).2
  rw [g1] at hr6
  have r := r.congr (sc (hΦ 2 (by decide)) (sc g1 (sc (hΦ 0 (by decide)) rfl)))
  have z_w4 := hb.size
  have h_b1 := keep hb h_b1
  obtain ⟨hB, zB⟩ := bon hb hB
  have hF1 := fgrow hF hB b1
  refine zz06 r (zz2x (F := (fun b => F b ∨ (w0.heap.size ≤ b ∧ b < w4.heap.size ∧ b ≠ b1))) (n := n) hF1 (Rep.mono (by rintro b (h | h); (rcases h with h | ⟨h1, h2, h3⟩; exact .inl h; exact .inr ⟨h1, by omega, h3⟩); exact .inr ⟨by omega, by omega, by omega⟩) (Same.refl _ _) (by omega) n _ _ hr6) (c1_n.mono (by omega) (fun b h => .inl h) (Same.below hB hF) hB.size)) (fun R hc => y_call r rfl cl190 hc) rfl ?_
  rintro _ w7 ⟨v8, rfl, hb, hr9⟩
  refine ⟨_, rfl, fun fr r => ?_⟩
  have z_w7 := hb.size
  have h_b1 := keep hb h_b1
  obtain ⟨hB, zB⟩ := bon hb hB
  refine seq_upd (.cells v8.cells 158 (0, 0)) r (fun R => zz0c r hr9.shape rfl rfl h_b1 ts158 rfl) rfl fun fr w10 u11 r => ?_
  have z_w10 := u11.size
  have h_b1 := u11.at_
  obtain ⟨hB, zB⟩ := u11.on hB (by omega)
  refine wn ?_
  refine wp_ret ?_
  have hs := hr9.shape.cells
  refine zz0a r rfl rfl h_b1 (k := 9) hs.1 ta158 ?_
  rw [← hs.2.2]
  exact rfin hF hB hr9 u11 (by omega) (by omega) (by omega)

def D.zz5a (j : Nat) (c0 : Plan) (c1 : Int) (c2 : Int) (c3 : (Int → T Grant)) (a0 : Int) : T Grant := (bif (a0 != (-1)) then (D.zz3v c0 a0 c1) else (T.bind (D.zz3u j c0 c2) (fun x => (D.alloc_New_2_1 j c0 c3 x))))

theorem c_alloc_New_2 {n : Nat} {F : Nat → Prop} {j : Nat} {w0 : World} (hF : ∀ b, F b → b < w0.heap.size) (hj : n < j)
    (c0 : Plan) {c0_b : Nat} (c0_F : F c0_b) (c0_h : w0.heap[c0_b]? = some (.cells ((planC c0)).toArray 25 (0, 0))) (c1 : Int) {c1_b : Nat} (c1_F : F c1_b) (c1_h : w0.heap[c1_b]? = some (.cells ([(.int .i64 c1)]).toArray 3 (0, 0))) (c2 : Int) {c2_b : Nat} (c2_F : F c2_b) (c2_h : w0.heap[c2_b]? = some (.cells ([(.int .i64 c2)]).toArray 3 (0, 0))) {c3_f : FuncId} {c3_1 c3_2 : List Value} {c3 : (Int → T Grant)} {c3_b : Nat} (c3_F : F c3_b) (c3_h : w0.heap[c3_b]? = some (.cells #[.func (.func c3_f) c3_1.toArray c3_2.toArray] 246 (0, 0))) (c3_n : FnT Tryz.prog encGrant i64 (n + 1) F w0 (.func (.func c3_f) c3_1.toArray c3_2.toArray) c3) (a0 : Int) :
    Calls Tryz.prog 192 #[.int .i64 a0, .pointer (some ⟨c0_b, 0, none⟩), .pointer (some ⟨c1_b, 0, none⟩), .pointer (some ⟨c2_b, 0, none⟩), .pointer (some ⟨c3_b, 0, none⟩)] w0 (RepRes Tryz.prog encGrant n (D.zz5a j c0 c1 c2 c3 a0) F w0) := by
 refine enter Tryz.func192 rfl 18 rfl rfl fun fr r => ?_
 have hB := Below.refl w0.heap.size w0
 have l_c0_b := lt_of_block c0_h
 have l_c1_b := lt_of_block c1_h
 have l_c2_b := lt_of_block c2_h
 have l_c3_b := lt_of_block c3_h
 refine wsr ?_
 refine seq_new (.cells (progCells false encGrant.zero 0 0 0 0 .nilFunc) 158 (0, 0)) r (fun R => y_alloc tz158) rfl fun fr b1 w2 n3 r => ?_
 obtain ⟨e_b1, z_w2, h_b1, hB, zB⟩ := n3.all hB
 refine wn ?_
 refine wp_seq ?_
 refine wsr ?_
 refine seq_val (I a0) r (fun R => y_move r rfl) rfl fun fr r => ?_
 refine seq_val _ r (fun R => y_bin r rfl rfl rfl rfl) rfl fun fr r => ?_
 refine wn ?_
 refine wp_cond_split (t := (a0 != (-1))) (r.ev rfl) (fun h4 => ?_) (fun h4 => ?_)
 ·
  refine wsr ?_
  refine seq_val (.agg (planC c0).toArray) r (fun R => zz03 r (cs := (planC c0)) (n := 6) rfl (keep hB c0_h) ta25 rfl) rfl fun fr r => ?_
  refine seq_val (I a0) r (fun R => y_move r rfl) rfl fun fr r => ?_
  refine seq_val (I c1) r (fun R => zz01 r rfl (keep hB c1_h) to3 rfl) rfl fun fr r => ?_
  have hF1 := fgrow hF hB b1
  refine zz06 r (c_alloc_grant (F := (fun b => F b ∨ (w0.heap.size ≤ b ∧ b < w2.heap.size ∧ b ≠ b1))) (n := n) hF1 c0 a0 c1) (fun R hc => y_call r rfl cl189 hc) rfl ?_
  rintro _ w5 ⟨v6, rfl, hb, hr7⟩
  refine ⟨_, rfl, fun fr r => ?_⟩
  have z_w5 := hb.size
  have h_b1 := keep hb h_b1
  obtain ⟨hB, zB⟩ := bon hb hB
  refine seq_upd (.cells v6.cells 158 (0, 0)) r (fun R => zz0c r hr7.shape rfl rfl h_b1 ts158 rfl) rfl fun fr w8 u9 r => ?_
  have z_w8 := u9.size
  have h_b1 := u9.at_
  obtain ⟨hB, zB⟩ := u9.on hB (by omega)
  refine wn ?_
  refine wp_ret ?_
  have hd : D.zz5a j c0 c1 c2 c3 a0 = (D.zz3v c0 a0 c1) := (cond_t h4).trans (rfl)
  have hs := hr7.shape.cells
  refine zz0a r rfl rfl h_b1 (k := 9) hs.1 ta158 ?_
  rw [← hs.2.2, hd]
  exact rfin hF hB hr7 u9 (by omega) (by omega) (by omega)
 ·
  refine wp_skip ?_
  refine wsr ?_
  refine seq_val (.agg (planC c0).toArray) r (fun R => zz03 r (cs := (planC c0)) (n := 6) rfl (keep hB c0_h) ta25 rfl) rfl fun fr r => ?_
  refine seq_val (I c2) r (fun R => zz01 r rfl (keep hB c2_h) to3 rfl) rfl fun fr r => ?_
  have hF1 := fgrow hF hB b1
  refine zz06 r (c_retire_Scan (j := j) (F := (fun b => F b ∨ (w0.heap.size ≤ b ∧ b < w2.heap.size ∧ b ≠ b1))) (n := n) hF1 (by omega) c0 c2) (fun R hc => y_call r rfl cl193 hc) rfl ?_
  rintro _ w10 ⟨v11, rfl, hb, hr12⟩
  refine ⟨_, rfl, fun fr r => ?_⟩
  have z_w10 := hb.size
  have h_b1 := keep hb h_b1
  obtain ⟨hB, zB⟩ := bon hb hB
  refine seq_val (.func (.func 194) #[] #[.pointer (some ⟨c0_b, 0, none⟩), .pointer (some ⟨c3_b, 0, none⟩)]) r (fun R => zz0o r rfl) rfl fun fr r => ?_
  have hF1 := fgrow hF hB b1
  have f13 : ((fun b => F b ∨ (w0.heap.size ≤ b ∧ b < w10.heap.size ∧ b ≠ b1))) c0_b := (.inl c0_F)
  have f14 : ((fun b => F b ∨ (w0.heap.size ≤ b ∧ b < w10.heap.size ∧ b ≠ b1))) c3_b := (.inl c3_F)
  refine zz06 r (zz2x (F := (fun b => F b ∨ (w0.heap.size ≤ b ∧ b < w10.heap.size ∧ b ≠ b1))) (n := n) hF1 (Rep.mono (by rintro b (h | h); (rcases h with h | ⟨h1, h2, h3⟩; exact .inl h; exact .inr ⟨h1, by omega, h3⟩); exact .inr ⟨by omega, by omega, by omega⟩) (Same.refl _ _) (by omega) n _ _ hr12) ⟨194, [], [.pointer (some ⟨c0_b, 0, none⟩), .pointer (some ⟨c3_b, 0, none⟩)], cl194, rfl, fun m hm x w' hs hz => c_alloc_New_2_1 (j := j) (fun b hb => Nat.lt_of_lt_of_le (hF1 b hb) hz) (by omega) c0 f13 (hs.at_ f13 (keep hB c0_h)) f14 (hs.at_ f14 (keep hB c3_h)) (c3_n.mono (by omega) (fun b h => .inl h) ((Same.below hB hF).trans (hs.sub (fun b h => .inl h))) (Nat.le_trans hB.size hz)) x⟩) (fun R hc => y_call r rfl cl190 hc) rfl ?_
  rintro _ w15 ⟨v16, rfl, hb, hr17⟩
  refine ⟨_, rfl, fun fr r => ?_⟩
  have z_w15 := hb.size
  have h_b1 := keep hb h_b1
  obtain ⟨hB, zB⟩ := bon hb hB
  refine seq_upd (.cells v16.cells 158 (0, 0)) r (fun R => zz0c r hr17.shape rfl rfl h_b1 ts158 rfl) rfl fun fr w18 u19 r => ?_
  have z_w18 := u19.size
  have h_b1 := u19.at_
  obtain ⟨hB, zB⟩ := u19.on hB (by omega)
  refine wn ?_
  refine wp_ret ?_
  have hd : D.zz5a j c0 c1 c2 c3 a0 = (T.bind (D.zz3u j c0 c2) (fun x => (D.alloc_New_2_1 j c0 c3 x))) := (cond_f h4).trans (rfl)
  have hs := hr17.shape.cells
  refine zz0a r rfl rfl h_b1 (k := 9) hs.1 ta158 ?_
  rw [← hs.2.2, hd]
  exact rfin hF hB hr17 u19 (by omega) (by omega) (by omega)

def D.alloc_New (j : Nat) (a0 : Plan) (a1 : Int) (a2 : Int) : T Grant := (T.bind (D.zz4j j a0) (fun x => (D.zz5a j a0 a2 a1 (fun x => (D.zz5b a0 a2 x)) x)))

theorem c_alloc_New {n : Nat} {F : Nat → Prop} {j : Nat} {w0 : World} (hF : ∀ b, F b → b < w0.heap.size) (hj : n < j)
    (a0 : Plan) (a1 : Int) (a2 : Int) :
    Calls Tryz.prog 89 #[.agg (planC a0).toArray, .int .i64 a1, .int .i64 a2] w0 (RepRes Tryz.prog encGrant n (D.alloc_New j a0 a1 a2) F w0) := by
 refine enter Tryz.func89 rfl 13 rfl rfl fun fr r => ?_
 have hB := Below.refl w0.heap.size w0
 refine wsr ?_
 refine seq_new (.cells ((planC a0)).toArray 25 (0, 0)) r (fun R => y_box r (v := (.agg (planC a0).toArray)) rfl) rfl fun fr b1 w2 n3 r => ?_
 obtain ⟨e_b1, z_w2, h_b1, hB, zB⟩ := n3.all hB
 refine seq_new (.cells #[(I a1)] 3 (0, 0)) r (fun R => y_box r (v := (I a1)) rfl) rfl fun fr b4 w5 n6 r => ?_
 have h_b1 := keep n6.below h_b1
 obtain ⟨e_b4, z_w5, h_b4, hB, zB⟩ := n6.all hB
 refine seq_new (.cells #[(I a2)] 3 (0, 0)) r (fun R => y_box r (v := (I a2)) rfl) rfl fun fr b7 w8 n9 r => ?_
 have h_b1 := keep n9.below h_b1
 have h_b4 := keep n9.below h_b4
 obtain ⟨e_b7, z_w8, h_b7, hB, zB⟩ := n9.all hB
 refine seq_new (.cells (progCells false encGrant.zero 0 0 0 0 .nilFunc) 158 (0, 0)) r (fun R => y_alloc tz158) rfl fun fr b10 w11 n12 r => ?_
 have h_b1 := keep n12.below h_b1
 have h_b4 := keep n12.below h_b4
 have h_b7 := keep n12.below h_b7
 obtain ⟨e_b10, z_w11, h_b10, hB, zB⟩ := n12.all hB
 refine wn ?_
 refine wsr ?_
 refine seq_val (.func (.func 187) #[] #[.pointer (some ⟨b1, 0, none⟩), .pointer (some ⟨b7, 0, none⟩)]) r (fun R => zz0o r rfl) rfl fun fr r => ?_
 refine seq_new (.cells #[.nilFunc] 246 (0, 0)) r (fun R => y_alloc tz246) rfl fun fr b13 w14 n15 r => ?_
 have h_b1 := keep n15.below h_b1
 have h_b4 := keep n15.below h_b4
 have h_b7 := keep n15.below h_b7
 have h_b10 := keep n15.below h_b10
 obtain ⟨e_b13, z_w14, h_b13, hB, zB⟩ := n15.all hB
 refine seq_upd (.cells #[.func (.func 187) #[] #[.pointer (some ⟨b1, 0, none⟩), .pointer (some ⟨b7, 0, none⟩)]] 246 (0, 0)) r (fun R => y_store r (o := 0) (v := (.func (.func 187) #[] #[.pointer (some ⟨b1, 0, none⟩), .pointer (some ⟨b7, 0, none⟩)])) rfl rfl h_b13 ts246 (Nat.le_of_ble_eq_true rfl) rfl rfl) rfl fun fr w16 u17 r => ?_
 have z_w16 := u17.size
 have h_b1 := u17.keep h_b1 (by omega)
 have h_b4 := u17.keep h_b4 (by omega)
 have h_b7 := u17.keep h_b7 (by omega)
 have h_b10 := u17.keep h_b10 (by omega)
 have h_b13 := u17.at_
 obtain ⟨hB, zB⟩ := u17.on hB (by omega)
 refine wn ?_
 refine wsr ?_
 refine seq_val (.agg (planC a0).toArray) r (fun R => zz03 r (cs := (planC a0)) (n := 6) rfl h_b1 ta25 rfl) rfl fun fr r => ?_
 have hF1 := fgrow hF hB b10
 refine zz06 r ((c_free_Pop (k := j) (n := n) (by omega)) (fun b => F b ∨ (w0.heap.size ≤ b ∧ b < w16.heap.size ∧ b ≠ b10)) _ hF1 a0) (fun R hc => y_call r rfl cl191 hc) rfl ?_
 rintro _ w18 ⟨v19, rfl, hb, hr20⟩
 refine ⟨_, rfl, fun fr r => ?_⟩
 have z_w18 := hb.size
 have h_b1 := keep hb h_b1
 have h_b4 := keep hb h_b4
 have h_b7 := keep hb h_b7
 have h_b10 := keep hb h_b10
 have h_b13 := keep hb h_b13
 obtain ⟨hB, zB⟩ := bon hb hB
 refine seq_val (.func (.func 192) #[] #[.pointer (some ⟨b1, 0, none⟩), .pointer (some ⟨b7, 0, none⟩), .pointer (some ⟨b4, 0, none⟩), .pointer (some ⟨b13, 0, none⟩)]) r (fun R => zz0o r rfl) rfl fun fr r => ?_
 have hF1 := fgrow hF hB b10
 have f21 : ((fun b => F b ∨ (w0.heap.size ≤ b ∧ b < w18.heap.size ∧ b ≠ b10))) b1 := (.inr ⟨by omega, by omega, by omega⟩)
 have f22 : ((fun b => F b ∨ (w0.heap.size ≤ b ∧ b < w18.heap.size ∧ b ≠ b10))) b7 := (.inr ⟨by omega, by omega, by omega⟩)
 have f23 : ((fun b => F b ∨ (w0.heap.size ≤ b ∧ b < w18.heap.size ∧ b ≠ b10))) b4 := (.inr ⟨by omega, by omega, by omega⟩)
 have f24 : ((fun b => F b ∨ (w0.heap.size ≤ b ∧ b < w18.heap.size ∧ b ≠ b10))) b13 := (.inr ⟨by omega, by omega, by omega⟩)
 have f26 : ((fun b => F b ∨ (w0.heap.size ≤ b ∧ b < w18.heap.size ∧ b ≠ b10))) b1 := (.inr ⟨by omega, by omega, by omega⟩)
 have f27 : ((fun b => F b ∨ (w0.heap.size ≤ b ∧ b < w18.heap.size ∧ b ≠ b10))) b7 := (.inr ⟨by omega, by omega, by omega⟩)
 have q25 : FnT Tryz.prog encGrant i64 (n + 1) (fun b => F b ∨ (w0.heap.size ≤ b ∧ b < w18.heap.size ∧ b ≠ b10)) w18 (.func (.func 187) #[] #[.pointer (some ⟨b1, 0, none⟩), .pointer (some ⟨b7, 0, none⟩)]) (fun x => (D.zz5b a0 a2 x)) := ⟨187, [], [.pointer (some ⟨b1, 0, none⟩), .pointer (some ⟨b7, 0, none⟩)], cl187, rfl, fun m hm x w' hs hz => c_alloc_New_1 (fun b hb => Nat.lt_of_lt_of_le (hF1 b hb) hz) a0 f26 (hs.at_ f26 h_b1) a2 f27 (hs.at_ f27 h_b7) x⟩
 refine zz06 r (zz2x (F := (fun b => F b ∨ (w0.heap.size ≤ b ∧ b < w18.heap.size ∧ b ≠ b10))) (n := n) hF1 (Rep.mono (by rintro b (h | h); (rcases h with h | ⟨h1, h2, h3⟩; exact .inl h; exact .inr ⟨h1, by omega, h3⟩); exact .inr ⟨by omega, by omega, by omega⟩) (Same.refl _ _) (by omega) n _ _ hr20) ⟨192, [], [.pointer (some ⟨b1, 0, none⟩), .pointer (some ⟨b7, 0, none⟩), .pointer (some ⟨b4, 0, none⟩), .pointer (some ⟨b13, 0, none⟩)], cl192, rfl, fun m hm x w' hs hz => c_alloc_New_2 (j := j) (fun b hb => Nat.lt_of_lt_of_le (hF1 b hb) hz) (by omega) a0 f21 (hs.at_ f21 h_b1) a2 f22 (hs.at_ f22 h_b7) a1 f23 (hs.at_ f23 h_b4) f24 (hs.at_ f24 h_b13) (q25.mono (by omega) (fun b h => h) hs hz) x⟩) (fun R hc => y_call r rfl cl190 hc) rfl ?_
 rintro _ w28 ⟨v29, rfl, hb, hr30⟩
 refine ⟨_, rfl, fun fr r => ?_⟩
 have z_w28 := hb.size
 have h_b1 := keep hb h_b1
 have h_b4 := keep hb h_b4
 have h_b7 := keep hb h_b7
 have h_b10 := keep hb h_b10
 have h_b13 := keep hb h_b13
 obtain ⟨hB, zB⟩ := bon hb hB
 refine seq_upd (.cells v29.cells 158 (0, 0)) r (fun R => zz0c r hr30.shape rfl rfl h_b10 ts158 rfl) rfl fun fr w31 u32 r => ?_
 have z_w31 := u32.size
 have h_b1 := u32.keep h_b1 (by omega)
 have h_b4 := u32.keep h_b4 (by omega)
 have h_b7 := u32.keep h_b7 (by omega)
 have h_b13 := u32.keep h_b13 (by omega)
 have h_b10 := u32.at_
 obtain ⟨hB, zB⟩ := u32.on hB (by omega)
 refine wn ?_
 refine wp_ret ?_
 have hs := hr30.shape.cells
 refine zz0a r rfl rfl h_b10 (k := 9) hs.1 ta158 ?_
 rw [← hs.2.2]
 exact rfin hF hB hr30 u32 (by omega) (by omega) (by omega)

def D.zz54 (c0 : Int) (a0 : Int) : T Int := (bif (a0 == (-1)) then (D.zz16 (-1)) else (D.zz16 c0))

theorem c_alloc_Stash_1 {n : Nat} {F : Nat → Prop} {w0 : World} (hF : ∀ b, F b → b < w0.heap.size)
    (c0 : Int) {c0_b : Nat} (c0_F : F c0_b) (c0_h : w0.heap[c0_b]? = some (.cells ([(.int .i64 c0)]).toArray 3 (0, 0))) (a0 : Int) :
    Calls Tryz.prog 228 #[.int .i64 a0, .pointer (some ⟨c0_b, 0, none⟩)] w0 (RepRes Tryz.prog encInt n (D.zz54 c0 a0) F w0) := by
 refine enter Tryz.func228 rfl 9 rfl rfl fun fr r => ?_
 have hB := Below.refl w0.heap.size w0
 have l_c0_b := lt_of_block c0_h
 refine wsr ?_
 refine seq_new (.cells (progCells false encInt.zero 0 0 0 0 .nilFunc) 167 (0, 0)) r (fun R => y_alloc tz167) rfl fun fr b1 w2 n3 r => ?_
 obtain ⟨e_b1, z_w2, h_b1, hB, zB⟩ := n3.all hB
 refine wn ?_
 refine wp_seq ?_
 refine wsr ?_
 refine seq_val (I a0) r (fun R => y_move r rfl) rfl fun fr r => ?_
 refine seq_val _ r (fun R => y_bin r rfl rfl rfl rfl) rfl fun fr r => ?_
 refine wn ?_
 refine wp_cond_split (t := (a0 == (-1))) (r.ev rfl) (fun h4 => ?_) (fun h4 => ?_)
 ·
  refine wsr ?_
  have hF1 := fgrow hF hB b1
  refine zz06 r (zz1v (F := (fun b => F b ∨ (w0.heap.size ≤ b ∧ b < w2.heap.size ∧ b ≠ b1))) (n := n) hF1 (-1)) (fun R hc => y_call r rfl cl229 hc) rfl ?_
  rintro _ w5 ⟨v6, rfl, hb, hr7⟩
  refine ⟨_, rfl, fun fr r => ?_⟩
  have z_w5 := hb.size
  have h_b1 := keep hb h_b1
  obtain ⟨hB, zB⟩ := bon hb hB
  refine seq_upd (.cells v6.cells 167 (0, 0)) r (fun R => zz0c r hr7.shape rfl rfl h_b1 ts167 rfl) rfl fun fr w8 u9 r => ?_
  have z_w8 := u9.size
  have h_b1 := u9.at_
  obtain ⟨hB, zB⟩ := u9.on hB (by omega)
  refine wn ?_
  refine wp_ret ?_
  have hd : D.zz54 c0 a0 = (D.zz16 (-1)) := (cond_t h4).trans (rfl)
  have hs := hr7.shape.cells
  refine zz0a r rfl rfl h_b1 (k := 7) hs.1 ta167 ?_
  rw [← hs.2.2, hd]
  exact rfin hF hB hr7 u9 (by omega) (by omega) (by omega)
 ·
  refine wp_skip ?_
  refine wsr ?_
  refine seq_val (I c0) r (fun R => zz01 r rfl (keep hB c0_h) to3 rfl) rfl fun fr r => ?_
  have hF1 := fgrow hF hB b1
  refine zz06 r (zz1v (F := (fun b => F b ∨ (w0.heap.size ≤ b ∧ b < w2.heap.size ∧ b ≠ b1))) (n := n) hF1 c0) (fun R hc => y_call r rfl cl229 hc) rfl ?_
  rintro _ w10 ⟨v11, rfl, hb, hr12⟩
  refine ⟨_, rfl, fun fr r => ?_⟩
  have z_w10 := hb.size
  have h_b1 := keep hb h_b1
  obtain ⟨hB, zB⟩ := bon hb hB
  refine seq_upd (.cells v11.cells 167 (0, 0)) r (fun R => zz0c r hr12.shape rfl rfl h_b1 ts167 rfl) rfl fun fr w13 u14 r => ?_
  have z_w13 := u14.size
  have h_b1 := u14.at_
  obtain ⟨hB, zB⟩ := u14.on hB (by omega)
  refine wn ?_
  refine wp_ret ?_
  have hd : D.zz54 c0 a0 = (D.zz16 c0) := (cond_f h4).trans (rfl)
  have hs := hr12.shape.cells
  refine zz0a r rfl rfl h_b1 (k := 7) hs.1 ta167 ?_
  rw [← hs.2.2, hd]
  exact rfin hF hB hr12 u14 (by omega) (by omega) (by omega)

def D.zz67 (c0 : Plan) (c1 : Int) (c2 : Int) (c3 : (Int → T Int)) (a0 : Int) : T Int := (T.bind (D.retire_Put c0 c1 c2) c3)

theorem c_alloc_Stash_2_1 {n : Nat} {F : Nat → Prop} {w0 : World} (hF : ∀ b, F b → b < w0.heap.size)
    (c0 : Plan) {c0_b : Nat} (c0_F : F c0_b) (c0_h : w0.heap[c0_b]? = some (.cells ((planC c0)).toArray 25 (0, 0))) (c1 : Int) {c1_b : Nat} (c1_F : F c1_b) (c1_h : w0.heap[c1_b]? = some (.cells ([(.int .i64 c1)]).toArray 3 (0, 0))) (c2 : Int) {c2_b : Nat} (c2_F : F c2_b) (c2_h : w0.heap[c2_b]? = some (.cells ([(.int .i64 c2)]).toArray 3 (0, 0))) {c3_f : FuncId} {c3_1 c3_2 : List Value} {c3 : (Int → T Int)} {c3_b : Nat} (c3_F : F c3_b) (c3_h : w0.heap[c3_b]? = some (.cells #[.func (.func c3_f) c3_1.toArray c3_2.toArray] 271 (0, 0))) (c3_n : FnT Tryz.prog encInt i64 (n + 1) F w0 (.func (.func c3_f) c3_1.toArray c3_2.toArray) c3) (a0 : Int) :
    Calls Tryz.prog 233 #[.int .i64 a0, .pointer (some ⟨c0_b, 0, none⟩), .pointer (some ⟨c1_b, 0, none⟩), .pointer (some ⟨c2_b, 0, none⟩), .pointer (some ⟨c3_b, 0, none⟩)] w0 (RepRes Tryz.prog encInt n (D.zz67 c0 c1 c2 c3 a0) F w0) := by
 refine enter Tryz.func233 rfl 13 rfl rfl fun fr r => ?_
 have hB := Below.refl w0.heap.size w0
 have l_c0_b := lt_of_block c0_h
 have l_c1_b := lt_of_block c1_h
 have l_c2_b := lt_of_block c2_h
 have l_c3_b := lt_of_block c3_h
 refine wsr ?_
 refine seq_new (.cells (progCells false encInt.zero 0 0 0 0 .nilFunc) 167 (0, 0)) r (fun R => y_alloc tz167) rfl fun fr b1 w2 n3 r => ?_
 obtain ⟨e_b1, z_w2, h_b1, hB, zB⟩ := n3.all hB
 refine wn ?_
 refine wp_seq ?_
 have hF1 := fgrow hF hB b1
 refine zz1c 5 [.val (.agg (planC c0).toArray), .val (I c1), .val (I c2), .pred (PrepP Tryz.prog encInt n (D.retire_Put c0 c1 c2) ((fun b => F b ∨ (w0.heap.size ≤ b ∧ b < w2.heap.size ∧ b ≠ b1))) w2) (PrepP.st hF1), .val (.func (.func c3_f) c3_1.toArray c3_2.toArray)] mixed r (by kernel_rfl) (zz00 (by exact trivial) (zz00 (by exact trivial) (zz00 (by exact trivial) (zz00 (by exact trivial) (zz00 (by exact trivial) zz12))))) ?_ ?_
 ·
  refine ec r (fun _ u _ b d s => zz03 s (cs := (planC c0)) (n := 6) rfl (keep2 hB b c0_h) ta25 rfl bz) ?_
  refine ec r (fun _ u _ b d s => zz01 s rfl (keep2 hB b c1_h) to3 rfl bz) ?_
  refine ec r (fun _ u _ b d s => zz01 s rfl (keep2 hB b c2_h) to3 rfl bz) ?_
  refine ec r (fun fr1 u w' hb' hd r' => y_call r' (args := [(.agg (planC c0).toArray), (I c1), (I c2)]) (lc hd.1 (lc hd.2.1 (lc hd.2.2.1 l0))) cl231 ((c_retire_Put (F := (fun b => F b ∨ (w0.heap.size ≤ b ∧ b < w2.heap.size ∧ b ≠ b1))) (n := n) (fun b h => Nat.lt_of_lt_of_le (hF1 b h) hb'.size) c0 c1 c2).mono (by rintro _ w2 ⟨y, rfl, hb2, hr2⟩; exact ⟨_, rfl, hb2, PrepP.of (drB hb') hb2 hr2⟩))) ?_
  refine ec r (fun _ u _ b d s => zz01 s rfl (keep2 hB b c3_h) to271 rfl bz) ?_
  exact zz1l
 ·
  intro fr u w4 hb hΦ hne r
  obtain ⟨v5, hv3⟩ : ∃ v, v = u 3 := ⟨_, rfl⟩
  have g3 : u 3 = v5 := hv3.symm
  have hr6 := (hΦ 3 (by decide)).2
  rw [g3] at hr6
  have r := r.congr (sc (hΦ 4 (by decide)) (sc g3 (sc (hΦ 2 (by decide)) (sc (hΦ 1 (by decide)) (sc (hΦ 0 (by decide)) rfl)))))
  have z_w4 := hb.size
  have h_b1 := keep hb h_b1
  obtain ⟨hB, zB⟩ := bon hb hB
  have hF1 := fgrow hF hB b1
  refine zz06 r (zz3e (F := (fun b => F b ∨ (w0.heap.size ≤ b ∧ b < w4.heap.size ∧ b ≠ b1))) (n := n) hF1 (Rep.mono (by rintro b (h | h); (rcases h with h | ⟨h1, h2, h3⟩; exact .inl h; exact .inr ⟨h1, by omega, h3⟩); exact .inr ⟨by omega, by omega, by omega⟩) (Same.refl _ _) (by omega) n _ _ hr6) (c3_n.mono (by omega) (fun b h => .inl h) (Same.below hB hF) hB.size)) (fun R hc => y_call r rfl cl230 hc) rfl ?_
  rintro _ w7 ⟨v8, rfl, hb, hr9⟩
  refine ⟨_, rfl, fun fr r => ?_⟩
  have z_w7 := hb.size
  have h_b1 := keep hb h_b1
  obtain ⟨hB, zB⟩ := bon hb hB
  refine seq_upd (.cells v8.cells 167 (0, 0)) r (fun R => zz0c r hr9.shape rfl rfl h_b1 ts167 rfl) rfl fun fr w10 u11 r => ?_
  have z_w10 := u11.size
  have h_b1 := u11.at_
  obtain ⟨hB, zB⟩ := u11.on hB (by omega)
  refine wn ?_
  refine wp_ret ?_
  have hs := hr9.shape.cells
  refine zz0a r rfl rfl h_b1 (k := 7) hs.1 ta167 ?_
  rw [← hs.2.2]
  exact rfin hF hB hr9 u11 (by omega) (by omega) (by omega)

def D.zz5v (j : Nat) (c0 : Int) (c1 : Plan) (c2 : Int) (c3 : (Int → T Int)) (a0 : Int) : T Int := (bif (a0 != (-1)) then (D.zz16 c0) else (T.bind (D.zz3u j c1 c2) (fun x => (D.zz67 c1 c2 c0 c3 x))))

theorem c_alloc_Stash_2 {n : Nat} {F : Nat → Prop} {j : Nat} {w0 : World} (hF : ∀ b, F b → b < w0.heap.size) (hj : n < j)
    (c0 : Int) {c0_b : Nat} (c0_F : F c0_b) (c0_h : w0.heap[c0_b]? = some (.cells ([(.int .i64 c0)]).toArray 3 (0, 0))) (c1 : Plan) {c1_b : Nat} (c1_F : F c1_b) (c1_h : w0.heap[c1_b]? = some (.cells ((planC c1)).toArray 25 (0, 0))) (c2 : Int) {c2_b : Nat} (c2_F : F c2_b) (c2_h : w0.heap[c2_b]? = some (.cells ([(.int .i64 c2)]).toArray 3 (0, 0))) {c3_f : FuncId} {c3_1 c3_2 : List Value} {c3 : (Int → T Int)} {c3_b : Nat} (c3_F : F c3_b) (c3_h : w0.heap[c3_b]? = some (.cells #[.func (.func c3_f) c3_1.toArray c3_2.toArray] 271 (0, 0))) (c3_n : FnT Tryz.prog encInt i64 (n + 1) F w0 (.func (.func c3_f) c3_1.toArray c3_2.toArray) c3) (a0 : Int) :
    Calls Tryz.prog 232 #[.int .i64 a0, .pointer (some ⟨c0_b, 0, none⟩), .pointer (some ⟨c1_b, 0, none⟩), .pointer (some ⟨c2_b, 0, none⟩), .pointer (some ⟨c3_b, 0, none⟩)] w0 (RepRes Tryz.prog encInt n (D.zz5v j c0 c1 c2 c3 a0) F w0) := by
 refine enter Tryz.func232 rfl 16 rfl rfl fun fr r => ?_
 have hB := Below.refl w0.heap.size w0
 have l_c0_b := lt_of_block c0_h
 have l_c1_b := lt_of_block c1_h
 have l_c2_b := lt_of_block c2_h
 have l_c3_b := lt_of_block c3_h
 refine wsr ?_
 refine seq_new (.cells (progCells false encInt.zero 0 0 0 0 .nilFunc) 167 (0, 0)) r (fun R => y_alloc tz167) rfl fun fr b1 w2 n3 r => ?_
 obtain ⟨e_b1, z_w2, h_b1, hB, zB⟩ := n3.all hB
 refine wn ?_
 refine wp_seq ?_
 refine wsr ?_
 refine seq_val (I a0) r (fun R => y_move r rfl) rfl fun fr r => ?_
 refine seq_val _ r (fun R => y_bin r rfl rfl rfl rfl) rfl fun fr r => ?_
 refine wn ?_
 refine wp_cond_split (t := (a0 != (-1))) (r.ev rfl) (fun h4 => ?_) (fun h4 => ?_)
 ·
  refine wsr ?_
  refine seq_val (I c0) r (fun R => zz01 r rfl (keep hB c0_h) to3 rfl) rfl fun fr r => ?_
  have hF1 := fgrow hF hB b1
  refine zz06 r (zz1v (F := (fun b => F b ∨ (w0.heap.size ≤ b ∧ b < w2.heap.size ∧ b ≠ b1))) (n := n) hF1 c0) (fun R hc => y_call r rfl cl229 hc) rfl ?_
  rintro _ w5 ⟨v6, rfl, hb, hr7⟩
  refine ⟨_, rfl, fun fr r => ?_⟩
  have z_w5 := hb.size
  have h_b1 := keep hb h_b1
  obtain ⟨hB, zB⟩ := bon hb hB
  refine seq_upd (.cells v6.cells 167 (0, 0)) r (fun R => zz0c r hr7.shape rfl rfl h_b1 ts167 rfl) rfl fun fr w8 u9 r => ?_
  have z_w8 := u9.size
  have h_b1 := u9.at_
  obtain ⟨hB, zB⟩ := u9.on hB (by omega)
  refine wn ?_
  refine wp_ret ?_
  have hd : D.zz5v j c0 c1 c2 c3 a0 = (D.zz16 c0) := (cond_t h4).trans (rfl)
  have hs := hr7.shape.cells
  refine zz0a r rfl rfl h_b1 (k := 7) hs.1 ta167 ?_
  rw [← hs.2.2, hd]
  exact rfin hF hB hr7 u9 (by omega) (by omega) (by omega)
 ·
  refine wp_skip ?_
  refine wsr ?_
  refine seq_val (.agg (planC c1).toArray) r (fun R => zz03 r (cs := (planC c1)) (n := 6) rfl (keep hB c1_h) ta25 rfl) rfl fun fr r => ?_
  refine seq_val (I c2) r (fun R => zz01 r rfl (keep hB c2_h) to3 rfl) rfl fun fr r => ?_
  have hF1 := fgrow hF hB b1
  refine zz06 r (c_retire_Scan (j := j) (F := (fun b => F b ∨ (w0.heap.size ≤ b ∧ b < w2.heap.size ∧ b ≠ b1))) (n := n) hF1 (by omega) c1 c2) (fun R hc => y_call r rfl cl193 hc) rfl ?_
  rintro _ w10 ⟨v11, rfl, hb, hr12⟩
  refine ⟨_, rfl, fun fr r => ?_⟩
  have z_w10 := hb.size
  have h_b1 := keep hb h_b1
  obtain ⟨hB, zB⟩ := bon hb hB
  refine seq_val (.func (.func 233) #[] #[.pointer (some ⟨c1_b, 0, none⟩), .pointer (some ⟨c2_b, 0, none⟩), .pointer (some ⟨c0_b, 0, none⟩), .pointer (some ⟨c3_b, 0, none⟩)]) r (fun R => zz0o r rfl) rfl fun fr r => ?_
  have hF1 := fgrow hF hB b1
  have f13 : ((fun b => F b ∨ (w0.heap.size ≤ b ∧ b < w10.heap.size ∧ b ≠ b1))) c1_b := (.inl c1_F)
  have f14 : ((fun b => F b ∨ (w0.heap.size ≤ b ∧ b < w10.heap.size ∧ b ≠ b1))) c2_b := (.inl c2_F)
  have f15 : ((fun b => F b ∨ (w0.heap.size ≤ b ∧ b < w10.heap.size ∧ b ≠ b1))) c0_b := (.inl c0_F)
  have f16 : ((fun b => F b ∨ (w0.heap.size ≤ b ∧ b < w10.heap.size ∧ b ≠ b1))) c3_b := (.inl c3_F)
  refine zz06 r (zz3e (F := (fun b => F b ∨ (w0.heap.size ≤ b ∧ b < w10.heap.size ∧ b ≠ b1))) (n := n) hF1 (Rep.mono (by rintro b (h | h); (rcases h with h | ⟨h1, h2, h3⟩; exact .inl h; exact .inr ⟨h1, by omega, h3⟩); exact .inr ⟨by omega, by omega, by omega⟩) (Same.refl _ _) (by omega) n _ _ hr12) ⟨233, [], [.pointer (some ⟨c1_b, 0, none⟩), .pointer (some ⟨c2_b, 0, none⟩), .pointer (some ⟨c0_b, 0, none⟩), .pointer (some ⟨c3_b, 0, none⟩)], cl233, rfl, fun m hm x w' hs hz => c_alloc_Stash_2_1 (fun b hb => Nat.lt_of_lt_of_le (hF1 b hb) hz) c1 f13 (hs.at_ f13 (keep hB c1_h)) c2 f14 (hs.at_ f14 (keep hB c2_h)) c0 f15 (hs.at_ f15 (keep hB c0_h)) f16 (hs.at_ f16 (keep hB c3_h)) (c3_n.mono (by omega) (fun b h => .inl h) ((Same.below hB hF).trans (hs.sub (fun b h => .inl h))) (Nat.le_trans hB.size hz)) x⟩) (fun R hc => y_call r rfl cl230 hc) rfl ?_
  rintro _ w17 ⟨v18, rfl, hb, hr19⟩
  refine ⟨_, rfl, fun fr r => ?_⟩
  have z_w17 := hb.size
  have h_b1 := keep hb h_b1
  obtain ⟨hB, zB⟩ := bon hb hB
  refine seq_upd (.cells v18.cells 167 (0, 0)) r (fun R => zz0c r hr19.shape rfl rfl h_b1 ts167 rfl) rfl fun fr w20 u21 r => ?_
  have z_w20 := u21.size
  have h_b1 := u21.at_
  obtain ⟨hB, zB⟩ := u21.on hB (by omega)
  refine wn ?_
  refine wp_ret ?_
  have hd : D.zz5v j c0 c1 c2 c3 a0 = (T.bind (D.zz3u j c1 c2) (fun x => (D.zz67 c1 c2 c0 c3 x))) := (cond_f h4).trans (rfl)
  have hs := hr19.shape.cells
  refine zz0a r rfl rfl h_b1 (k := 7) hs.1 ta167 ?_
  rw [← hs.2.2, hd]
  exact rfin hF hB hr19 u21 (by omega) (by omega) (by omega)

def D.alloc_Stash (j : Nat) (a0 : Plan) (a1 : Int) (a2 : Int) : T Int := (T.bind (D.retire_Put a0 a1 a2) (fun x => (D.zz5v j a2 a0 a1 (fun x => (D.zz54 a2 x)) x)))

theorem c_alloc_Stash {n : Nat} {F : Nat → Prop} {j : Nat} {w0 : World} (hF : ∀ b, F b → b < w0.heap.size) (hj : n < j)
    (a0 : Plan) (a1 : Int) (a2 : Int) :
    Calls Tryz.prog 133 #[.agg (planC a0).toArray, .int .i64 a1, .int .i64 a2] w0 (RepRes Tryz.prog encInt n (D.alloc_Stash j a0 a1 a2) F w0) := by
 refine enter Tryz.func133 rfl 15 rfl rfl fun fr r => ?_
 have hB := Below.refl w0.heap.size w0
 refine wsr ?_
 refine seq_new (.cells ((planC a0)).toArray 25 (0, 0)) r (fun R => y_box r (v := (.agg (planC a0).toArray)) rfl) rfl fun fr b1 w2 n3 r => ?_
 obtain ⟨e_b1, z_w2, h_b1, hB, zB⟩ := n3.all hB
 refine seq_new (.cells #[(I a1)] 3 (0, 0)) r (fun R => y_box r (v := (I a1)) rfl) rfl fun fr b4 w5 n6 r => ?_
 have h_b1 := keep n6.below h_b1
 obtain ⟨e_b4, z_w5, h_b4, hB, zB⟩ := n6.all hB
 refine seq_new (.cells #[(I a2)] 3 (0, 0)) r (fun R => y_box r (v := (I a2)) rfl) rfl fun fr b7 w8 n9 r => ?_
 have h_b1 := keep n9.below h_b1
 have h_b4 := keep n9.below h_b4
 obtain ⟨e_b7, z_w8, h_b7, hB, zB⟩ := n9.all hB
 refine seq_new (.cells (progCells false encInt.zero 0 0 0 0 .nilFunc) 167 (0, 0)) r (fun R => y_alloc tz167) rfl fun fr b10 w11 n12 r => ?_
 have h_b1 := keep n12.below h_b1
 have h_b4 := keep n12.below h_b4
 have h_b7 := keep n12.below h_b7
 obtain ⟨e_b10, z_w11, h_b10, hB, zB⟩ := n12.all hB
 refine wn ?_
 refine wsr ?_
 refine seq_val (.func (.func 228) #[] #[.pointer (some ⟨b7, 0, none⟩)]) r (fun R => zz0o r rfl) rfl fun fr r => ?_
 refine seq_new (.cells #[.nilFunc] 271 (0, 0)) r (fun R => y_alloc tz271) rfl fun fr b13 w14 n15 r => ?_
 have h_b1 := keep n15.below h_b1
 have h_b4 := keep n15.below h_b4
 have h_b7 := keep n15.below h_b7
 have h_b10 := keep n15.below h_b10
 obtain ⟨e_b13, z_w14, h_b13, hB, zB⟩ := n15.all hB
 refine seq_upd (.cells #[.func (.func 228) #[] #[.pointer (some ⟨b7, 0, none⟩)]] 271 (0, 0)) r (fun R => y_store r (o := 0) (v := (.func (.func 228) #[] #[.pointer (some ⟨b7, 0, none⟩)])) rfl rfl h_b13 ts271 (Nat.le_of_ble_eq_true rfl) rfl rfl) rfl fun fr w16 u17 r => ?_
 have z_w16 := u17.size
 have h_b1 := u17.keep h_b1 (by omega)
 have h_b4 := u17.keep h_b4 (by omega)
 have h_b7 := u17.keep h_b7 (by omega)
 have h_b10 := u17.keep h_b10 (by omega)
 have h_b13 := u17.at_
 obtain ⟨hB, zB⟩ := u17.on hB (by omega)
 refine wn ?_
 refine wsr ?_
 refine seq_val (.agg (planC a0).toArray) r (fun R => zz03 r (cs := (planC a0)) (n := 6) rfl h_b1 ta25 rfl) rfl fun fr r => ?_
 refine seq_val (I a1) r (fun R => zz01 r rfl h_b4 to3 rfl) rfl fun fr r => ?_
 refine seq_val (I a2) r (fun R => zz01 r rfl h_b7 to3 rfl) rfl fun fr r => ?_
 have hF1 := fgrow hF hB b10
 refine zz06 r (c_retire_Put (F := (fun b => F b ∨ (w0.heap.size ≤ b ∧ b < w16.heap.size ∧ b ≠ b10))) (n := n) hF1 a0 a1 a2) (fun R hc => y_call r rfl cl231 hc) rfl ?_
 rintro _ w18 ⟨v19, rfl, hb, hr20⟩
 refine ⟨_, rfl, fun fr r => ?_⟩
 have z_w18 := hb.size
 have h_b1 := keep hb h_b1
 have h_b4 := keep hb h_b4
 have h_b7 := keep hb h_b7
 have h_b10 := keep hb h_b10
 have h_b13 := keep hb h_b13
 obtain ⟨hB, zB⟩ := bon hb hB
 refine seq_val (.func (.func 232) #[] #[.pointer (some ⟨b7, 0, none⟩), .pointer (some ⟨b1, 0, none⟩), .pointer (some ⟨b4, 0, none⟩), .pointer (some ⟨b13, 0, none⟩)]) r (fun R => zz0o r rfl) rfl fun fr r => ?_
 have hF1 := fgrow hF hB b10
 have f21 : ((fun b => F b ∨ (w0.heap.size ≤ b ∧ b < w18.heap.size ∧ b ≠ b10))) b7 := (.inr ⟨by omega, by omega, by omega⟩)
 have f22 : ((fun b => F b ∨ (w0.heap.size ≤ b ∧ b < w18.heap.size ∧ b ≠ b10))) b1 := (.inr ⟨by omega, by omega, by omega⟩)
 have f23 : ((fun b => F b ∨ (w0.heap.size ≤ b ∧ b < w18.heap.size ∧ b ≠ b10))) b4 := (.inr ⟨by omega, by omega, by omega⟩)
 have f24 : ((fun b => F b ∨ (w0.heap.size ≤ b ∧ b < w18.heap.size ∧ b ≠ b10))) b13 := (.inr ⟨by omega, by omega, by omega⟩)
 have f26 : ((fun b => F b ∨ (w0.heap.size ≤ b ∧ b < w18.heap.size ∧ b ≠ b10))) b7 := (.inr ⟨by omega, by omega, by omega⟩)
 have q25 : FnT Tryz.prog encInt i64 (n + 1) (fun b => F b ∨ (w0.heap.size ≤ b ∧ b < w18.heap.size ∧ b ≠ b10)) w18 (.func (.func 228) #[] #[.pointer (some ⟨b7, 0, none⟩)]) (fun x => (D.zz54 a2 x)) := ⟨228, [], [.pointer (some ⟨b7, 0, none⟩)], cl228, rfl, fun m hm x w' hs hz => c_alloc_Stash_1 (fun b hb => Nat.lt_of_lt_of_le (hF1 b hb) hz) a2 f26 (hs.at_ f26 h_b7) x⟩
 refine zz06 r (zz3e (F := (fun b => F b ∨ (w0.heap.size ≤ b ∧ b < w18.heap.size ∧ b ≠ b10))) (n := n) hF1 (Rep.mono (by rintro b (h | h); (rcases h with h | ⟨h1, h2, h3⟩; exact .inl h; exact .inr ⟨h1, by omega, h3⟩); exact .inr ⟨by omega, by omega, by omega⟩) (Same.refl _ _) (by omega) n _ _ hr20) ⟨232, [], [.pointer (some ⟨b7, 0, none⟩), .pointer (some ⟨b1, 0, none⟩), .pointer (some ⟨b4, 0, none⟩), .pointer (some ⟨b13, 0, none⟩)], cl232, rfl, fun m hm x w' hs hz => c_alloc_Stash_2 (j := j) (fun b hb => Nat.lt_of_lt_of_le (hF1 b hb) hz) (by omega) a2 f21 (hs.at_ f21 h_b7) a0 f22 (hs.at_ f22 h_b1) a1 f23 (hs.at_ f23 h_b4) f24 (hs.at_ f24 h_b13) (q25.mono (by omega) (fun b h => h) hs hz) x⟩) (fun R hc => y_call r rfl cl230 hc) rfl ?_
 rintro _ w27 ⟨v28, rfl, hb, hr29⟩
 refine ⟨_, rfl, fun fr r => ?_⟩
 have z_w27 := hb.size
 have h_b1 := keep hb h_b1
 have h_b4 := keep hb h_b4
 have h_b7 := keep hb h_b7
 have h_b10 := keep hb h_b10
 have h_b13 := keep hb h_b13
 obtain ⟨hB, zB⟩ := bon hb hB
 refine seq_upd (.cells v28.cells 167 (0, 0)) r (fun R => zz0c r hr29.shape rfl rfl h_b10 ts167 rfl) rfl fun fr w30 u31 r => ?_
 have z_w30 := u31.size
 have h_b1 := u31.keep h_b1 (by omega)
 have h_b4 := u31.keep h_b4 (by omega)
 have h_b7 := u31.keep h_b7 (by omega)
 have h_b13 := u31.keep h_b13 (by omega)
 have h_b10 := u31.at_
 obtain ⟨hB, zB⟩ := u31.on hB (by omega)
 refine wn ?_
 refine wp_ret ?_
 have hs := hr29.shape.cells
 refine zz0a r rfl rfl h_b10 (k := 7) hs.1 ta167 ?_
 rw [← hs.2.2]
 exact rfin hF hB hr29 u31 (by omega) (by omega) (by omega)

end Go.Proofs.YtjkinpbfmihhdaaGreat

/- Written by a program of ours (wip/gen.py): layer 12 -/
set_option linter.unusedVariables false
set_option maxRecDepth 20000
set_option maxHeartbeats 2000000
namespace Go.Proofs.YtjkinpbfmihhdaaGreat
open Go.RowKit
theorem cl28 : callable Tryz.prog 28 = true := by kernel_rfl

theorem cl89 : callable Tryz.prog 89 = true := by kernel_rfl

theorem fo153_0 : fieldOff Tryz.prog 153 0 0 = true := by kernel_rfl

theorem fo153_2 : fieldOff Tryz.prog 153 2 2 = true := by kernel_rfl

theorem to30 : tyO Tryz.prog 30 = true := by kernel_rfl

theorem ts25 : sized Tryz.prog 25 6 = true := by kernel_rfl

theorem tz25 : zeroOf Tryz.prog 25 = some (.agg (planC (⟨0, 0, 0, 0, 0, 0⟩ : Plan)).toArray) := by kernel_rfl

end Go.Proofs.YtjkinpbfmihhdaaGreat

/- Nodes granted and retired, alone: what the programs come to, without the code. -/
namespace Go.Proofs.YtjkinpbfmihhdaaGreat
open Go.RowKit
theorem load_runsG {at_ : Int} {f : Int → T Grant} {ws ws' : List Int} {n : Nat} {r : Grant} (h0 : 0 ≤ at_) (h1 : at_ < ws.length) (h : Runs (f (rd ws at_)) ws n r ws') : Runs (D.zz66 at_ f) ws (n + 1) r ws' := Runs.load h0 h1 h

theorem store_runsG {at_ w : Int} {f : Unit → T Grant} {ws ws' : List Int} {n : Nat} {r : Grant} (h0 : 0 ≤ at_) (h1 : at_ < ws.length) (h : Runs (f ()) (ws.set at_.toNat w) n r ws') : Runs (D.zz5o at_ w f) ws (n + 1) r ws' := Runs.store h0 h1 h

/-- The place of a node's state. -/
def sp (p : Plan) (n : Int) : Int := D.zz05 p + n * 5

section
variable {p : Plan} (hp : PF p) {n : Int} (hn : 0 ≤ n ∧ n < p.nodes)
include hp hn
theorem sp_in : 0 < sp p n ∧ sp p n + 5 ≤ D.zz14 p ∧ D.zz0h p n = sp p n := by
  have hN := zz3s hp
  have hS := Size_eq hp
  refine ⟨by unfold sp; omega, by unfold sp; omega, by rw [st_at hp hn]; rfl⟩

end
theorem SF.live {s : State} (h : SF s) {k : Int} (hk : 0 ≤ k ∧ k ≤ 2) : SF (D.zz1e s k) := ⟨h.g0, h.g1, by show (0 : Int) ≤ 1; omega, by show (1 : Int) ≤ 3; omega, hk.1, hk.2⟩

theorem SF.retire {s : State} (h : SF s) : SF (D.zz1p s) := ⟨h.g0, h.g1, by show (0 : Int) ≤ 2; omega, by show (2 : Int) ≤ 3; omega, h.k0, h.k1⟩

theorem SF.freed {s : State} (h : SF s) {m : Int} (hm : m ≤ 1073741823) : SF (D.zz0j s m) := by
  unfold D.zz0j
  have := h.g0
  have := h.g1
  by_cases e : s.gen ≥ m
  · rw [show decide (s.gen ≥ m) = true from by simpa using e]
    exact ⟨h.g0, h.g1, by show (0 : Int) ≤ 3; omega, by show (3 : Int) ≤ 3; omega, by show (0 : Int) ≤ 0; omega, by show (0 : Int) ≤ 2; omega⟩
  · rw [show decide (s.gen ≥ m) = false from by simpa using e]
    simp only [cond_false]
    rw [wrap_id (x := s.gen + 1) (by omega) (by omega)]
    exact ⟨by show 0 ≤ s.gen + 1; omega, by show s.gen + 1 ≤ _; omega, by show (0 : Int) ≤ 0; omega, by show (0 : Int) ≤ 3; omega, by show (0 : Int) ≤ 0; omega, by show (0 : Int) ≤ 2; omega⟩

/-- What a node's state is. -/
def StAt (p : Plan) (ws : List Int) (n : Int) (s : State) : Prop := rd ws (sp p n) = D.zz0e s ∧ SF s

theorem StAt.of {p : Plan} {ws : List Int} {n : Int} {s : State} (h : StAt p ws n s) : D.zz0v (rd ws (sp p n)) = (s, true) := by rw [h.1]; exact of_word h.2

theorem grant_runs {p : Plan} (hp : PF p) {ws : List Int} {n k : Int} {s : State} (hn : 0 ≤ n ∧ n < p.nodes) (hl : Len p ws) (hs : StAt p ws n s) :
    Runs (D.zz3v p n k) ws 2 ⟨n, s.gen, 0⟩ (ws.set (sp p n).toNat (D.zz0e (D.zz1e s k))) := by
  obtain ⟨q1, q2, q3⟩ := sp_in hp hn
  unfold Len at hl
  unfold D.zz3v
  rw [q3]
  refine load_runsG (by omega) (by omega) ?_
  unfold D.alloc_grant_1
  rw [hs.of, q3]
  exact store_runsG (by omega) (by omega) (.done _ _)

/-- A node is popped, and granted. -/
theorem pop_grant {p : Plan} (hp : PF p) {ws : List Int} {n k : Int} {l : List Int} {g : Int} {s : State} (hF : FreeAt p ws (n :: l) g) (hnn : p.nodes ≤ 1000000) (hg : g < 1000000) (hs : StAt p ws n s) (hk : 0 ≤ k ∧ k ≤ 2) (J : Nat) {G : Int → T Grant} (hG : G n = D.zz3v p n k) :
    ∃ ws', Runs (T.bind (D.zz4j (J + 1) p) G) ws 5 ⟨n, s.gen, 0⟩ ws' ∧ ws'.length = ws.length ∧ FreeAt p ws' l (g + 1) ∧ StAt p ws' n (D.zz1e s k) ∧ ∀ j, 0 < j → j ≠ sp p n → rd ws' j = rd ws j := by
  have hn := hF.range n (List.mem_cons_self ..)
  obtain ⟨q1, q2, q3⟩ := sp_in hp hn
  obtain ⟨hr, hF2⟩ := pop_runs hp hF hnn hg J
  have hN := zz3s hp
  have hl := hF.len
  have hl2 := hF2.len
  have hs0 := hs.1
  generalize hu : ws.set (0 : Int).toNat ((g + 1) * 2097152 + first l) = u at hr hF2 hl2
  have hul : u.length = ws.length := by rw [← hu, List.length_set]
  have hur : ∀ j, 0 < j → rd u j = rd ws j := fun j hj => by rw [← hu, rd_set (by omega) (by omega) (by omega), if_neg (by omega)]
  have hsu : StAt p u n s := ⟨by rw [hur _ q1]; exact hs0, hs.2⟩
  have hg2 := grant_runs hp (k := k) hn hl2 hsu
  refine ⟨u.set (sp p n).toNat (D.zz0e (D.zz1e s k)), ?_, by rw [List.length_set, hul], ?_, ⟨?_, hs.2.live hk⟩, fun j hj hne => ?_⟩
  · exact (Runs.bind (g := G) hr (by rw [hG]; exact hg2)).cast (show 3 + 2 = 5 from rfl)
  · refine hF2.keep (by rw [List.length_set]) ?_ fun m hm => ?_
    · rw [rd_set (by omega) (by omega) (by omega), if_neg (by omega)]
    · have hmr := hF2.range m hm
      have : nx p m ≠ sp p n := by unfold nx sp; omega
      rw [rd_set (by omega) (by omega) (by unfold nx; omega), if_neg this]
  · rw [rd_set (by omega) (by omega) (by omega), if_pos rfl]
  · rw [rd_set (by omega) (by omega) (by omega), if_neg hne, hur j hj]

/-- A node is granted out of the list. -/
theorem new_pop {p : Plan} (hp : PF p) {ws : List Int} {n k t : Int} {l : List Int} {g : Int} {s : State} (hF : FreeAt p ws (n :: l) g) (hnn : p.nodes ≤ 1000000) (hg : g < 1000000) (hs : StAt p ws n s) (hk : 0 ≤ k ∧ k ≤ 2) (J : Nat) :
    ∃ ws', Runs (D.alloc_New (J + 1) p t k) ws 5 ⟨n, s.gen, 0⟩ ws' ∧ ws'.length = ws.length ∧ FreeAt p ws' l (g + 1) ∧ StAt p ws' n (D.zz1e s k) ∧ ∀ j, 0 < j → j ≠ sp p n → rd ws' j = rd ws j := by
  have hn := hF.range n (List.mem_cons_self ..)
  refine pop_grant hp hF hnn hg hs hk J (G := fun x => D.zz5a (J + 1) p k t (fun x => D.zz5b p k x) x) ?_
  unfold D.zz5a
  rw [show (n != -1) = true from by simp; omega]
  rfl

theorem s0_word : D.zz0e ⟨0, 0, 0⟩ = 0 := by rw [word_val ⟨by decide, by decide, by decide, by decide, by decide, by decide⟩]; rfl

theorem laid_state {p : Plan} (hp : PF p) {ws : List Int} (h : LaidAt p ws) {n : Int} (hn : 0 ≤ n ∧ n < p.nodes) : StAt p ws n ⟨0, 0, 0⟩ := by
  obtain ⟨q1, q2, q3⟩ := sp_in hp hn
  refine ⟨?_, by decide, by decide, by decide, by decide, by decide, by decide⟩
  rw [s0_word]
  exact h.zero _ q1 fun m _ _ => by unfold sp; omega

theorem laid_ret {p : Plan} (hp : PF p) {ws : List Int} (h : LaidAt p ws) {t : Int} (ht : 0 ≤ t ∧ t < p.threads) : RetAt p ws t [] := by
  obtain ⟨q1, q2, q3⟩ := rb_in hp ht
  have hr1 := hp.r1
  have ht1 := hp.t1
  exact ⟨h.zero _ q3 fun m _ _ => by omega, by simp; omega, fun i hi => (by cases hi), fun _ h => (by cases h)⟩

/-- The nodes below i are granted. -/
structure GrantI (p : Plan) (k : Int) (i : Nat) (ws : List Int) : Prop where
  free : FreeAt p ws ((List.range' i (p.nodes.toNat - i)).map fun (q : Nat) => (q : Int)) i
  ret : RetAt p ws 0 []
  live : ∀ n : Int, 0 ≤ n → n < i → StAt p ws n ⟨0, 1, k⟩
  rest : ∀ n : Int, i ≤ n → n < p.nodes → StAt p ws n ⟨0, 0, 0⟩

theorem GrantI.start {p : Plan} (hp : PF p) {ws : List Int} (h : LaidAt p ws) (k : Int) : GrantI p k 0 ws := by
  have hn1 := hp.n1
  have ht1 := hp.t1
  exact ⟨laid_free hp h, laid_ret hp h ⟨by omega, by omega⟩, fun n h0 h1 => by omega, fun n h0 h1 => laid_state hp h ⟨by omega, h1⟩⟩

theorem GrantI.step {p : Plan} (hp : PF p) (hnn : p.nodes ≤ 40) {k : Int} (hk : 0 ≤ k ∧ k ≤ 2) {i : Nat} {ws : List Int} (h : GrantI p k i ws) (hi : (i : Int) < p.nodes) (J : Nat) :
    ∃ ws', Runs (D.alloc_New (J + 1) p 0 k) ws 5 ⟨i, 0, 0⟩ ws' ∧ GrantI p k (i + 1) ws' ∧ ∀ j, 0 < j → j < D.zz05 p → rd ws' j = rd ws j := by
  have hN := zz3s hp
  have ht1 := hp.t1
  obtain ⟨d, hd⟩ : ∃ d, p.nodes.toNat - i = d + 1 := ⟨p.nodes.toNat - i - 1, by omega⟩
  have hF := h.free
  rw [hd, List.range'_succ, List.map_cons] at hF
  have hs := h.rest i (by omega) hi
  obtain ⟨ws', hr, hl, hF2, hst, ho⟩ := new_pop hp (t := 0) hF (by omega) (by omega) hs hk J
  obtain ⟨p1, p2, p3⟩ := rb_in hp (t := 0) ⟨by omega, by omega⟩
  refine ⟨ws', hr, ⟨?_, h.ret.keep fun j h0 h1 => ho j (by omega) (by unfold sp; omega), fun n h0 h1 => ?_, fun n h0 h1 => ?_⟩, fun j h0 h1 => ho j h0 (by unfold sp; omega)⟩
  · rw [show p.nodes.toNat - (i + 1) = d from by omega]
    exact hF2
  · by_cases e : n = (i : Int)
    · subst e; exact hst
    · have hv := h.live n h0 (by omega)
      exact ⟨by rw [ho _ (by unfold sp; omega) (by unfold sp; omega)]; exact hv.1, hv.2⟩
  · have hv := h.rest n (by omega) h1
    exact ⟨by rw [ho _ (by unfold sp; omega) (by unfold sp; omega)]; exact hv.1, hv.2⟩

end Go.Proofs.YtjkinpbfmihhdaaGreat

/- A thread alone: nodes that are free, retired, or out; what granting and retiring come to. -/
set_option linter.unusedVariables false
namespace Go.Proofs.YtjkinpbfmihhdaaGreat
open Go.RowKit

theorem scanL_free : ∀ (k : Nat) (r : List Int), k = r.length → scanL (fun _ => false) k r = ([], r.reverse)
  | 0, r, h => by rw [List.length_eq_zero_iff.1 h.symm]; rfl
  | k + 1, r, h => by
    rcases List.eq_nil_or_concat r with rfl | ⟨s, z, rfl⟩
    · cases h
    rw [List.concat_eq_append] at *
    have hk : k = s.length := by simpa using h
    have e1 : (s ++ [z])[k]? = some z := by rw [hk]; simp
    have e2 : ((s ++ [z]).set k (((s ++ [z]).getLast?).getD 0)).dropLast = s := by
      rw [hk]; simp
    simp only [scanL, e1, Bool.false_eq_true, if_false, e2, scanL_free k s hk]
    simp

/-- Nodes: the free ones, those that are retired, and each one's state. -/
structure Pool where
  fr : List Int
  rt : List Int
  st : Int → State

/-- A node is free, or gone. -/
def Pool.back (m : Int) (P : Pool) (n : Int) : Pool :=
  ⟨if (D.zz0j (P.st n) m).mode = 3 then P.fr else n :: P.fr, P.rt, fun q => if q = n then D.zz0j (P.st n) m else P.st q⟩

/-- What is retired is free, or gone. -/
def Pool.scan (P : Pool) (m : Int) : Pool := P.rt.reverse.foldl (Pool.back m) ⟨P.fr, [], P.st⟩

theorem back_rt (m : Int) : ∀ (l : List Int) (P : Pool), (l.foldl (Pool.back m) P).rt = P.rt
  | [], _ => rfl
  | n :: l, P => by rw [List.foldl_cons, back_rt m l]; rfl

theorem back_st (m : Int) : ∀ (l : List Int) (P : Pool), l.Nodup → ∀ n, (l.foldl (Pool.back m) P).st n = if n ∈ l then D.zz0j (P.st n) m else P.st n
  | [], _, _, _ => rfl
  | a :: l, P, hn, n => by
    obtain ⟨h1, h2⟩ := List.nodup_cons.1 hn
    rw [List.foldl_cons, back_st m l _ h2]
    by_cases e : n = a
    · subst e
      rw [if_neg h1, if_pos (List.mem_cons_self ..)]
      exact if_pos rfl
    · have hs : (Pool.back m P a).st n = P.st n := if_neg e
      rw [hs]
      by_cases h : n ∈ l
      · rw [if_pos h, if_pos (List.mem_cons_of_mem _ h)]
      · rw [if_neg h, if_neg (fun h' => by rcases List.mem_cons.1 h' with h' | h'; exact e h'; exact h h')]

theorem back_fr (m : Int) : ∀ (l : List Int) (P : Pool), l.Nodup → (l.foldl (Pool.back m) P).fr = l.foldl (fun l n => if (D.zz0j (P.st n) m).mode = 3 then l else n :: l) P.fr
  | [], _, _ => rfl
  | a :: l, P, hn => by
    obtain ⟨h1, h2⟩ := List.nodup_cons.1 hn
    rw [List.foldl_cons, List.foldl_cons, back_fr m l _ h2]
    have : ∀ (k : List Int) (L L' : List Int), (∀ q, q ∈ k → q ≠ a) → L = L' → k.foldl (fun l n => if (D.zz0j ((Pool.back m P a).st n) m).mode = 3 then l else n :: l) L = k.foldl (fun l n => if (D.zz0j (P.st n) m).mode = 3 then l else n :: l) L' := by
      intro k
      induction k with
      | nil => rintro L _ _ rfl; rfl
      | cons q k ih =>
        rintro L _ hq rfl
        rw [List.foldl_cons, List.foldl_cons]
        have hs : (Pool.back m P a).st q = P.st q := if_neg (hq q (List.mem_cons_self ..))
        exact ih _ _ (fun q' h => hq q' (List.mem_cons_of_mem _ h)) (by rw [hs])
    exact this l _ _ (fun q hq e => h1 (e ▸ hq)) rfl

/-- A thread's memory, alone: no hazard stands. -/
structure PoolAt (p : Plan) (t : Int) (ws : List Int) (P : Pool) (g : Int) : Prop where
  free : FreeAt p ws P.fr g
  ret : RetAt p ws t P.rt
  nod : P.rt.Nodup
  dis : ∀ n, n ∈ P.rt → n ∉ P.fr
  st : ∀ n, 0 ≤ n → n < p.nodes → StAt p ws n (P.st n)
  hz : ∀ j, 0 ≤ j → j < p.threads * 3 → rd ws (D.zz0f p + j) = 0
  zero : ∀ n f, n ∈ P.fr → 0 ≤ f → f < 3 → rd ws (sp p n + 2 + f) = 0

/-- What a call that grants or retires leaves as it was. -/
def KeptP (p : Plan) (t : Int) (P : Pool) (ws ws' : List Int) : Prop :=
  ws'.length = ws.length ∧ ∀ j, 0 < j → (∀ n, n ∈ P.fr ∨ n ∈ P.rt → ¬ ofNode p n j) → ¬ (rb p t ≤ j ∧ j < rb p t + 1 + p.retire) → rd ws' j = rd ws j

theorem PoolAt.scan {p : Plan} (hp : PF p) (hnn : p.nodes ≤ 1000) {t : Int} (ht : 0 ≤ t ∧ t < p.threads) {ws : List Int} {P : Pool} {g : Int} (h : PoolAt p t ws P g) (hg : g < 900000) (J : Nat) (hJ : 1100 < J) :
    ∃ (m : Nat) (ws' : List Int) (g' : Int), m ≤ 70 * P.rt.length + 1 ∧ g' ≤ g + P.rt.length ∧ Runs (D.zz3u J p t) ws m (P.rt.length : Int) ws' ∧ PoolAt p t ws' (P.scan p.gen) g' ∧ KeptP p t P ws ws' := by
  have hN := zz3s hp
  have hz := hz_in hp
  obtain ⟨p1, p2, p3⟩ := rb_in hp ht
  have hh : ∀ n, n ∈ P.rt → ((fun _ => false) n = true ↔ heldW p ws n) := by
    intro n hn
    have := (h.ret.range n hn).1
    constructor
    · intro h; cases h
    · rintro ⟨j, j0, j1, hj⟩
      rw [h.hz j j0 j1] at hj
      omega
  obtain ⟨m, ws', hm, hr, hs⟩ := scan_runs hp hnn ht J hJ h.free.len h.ret h.free (fun n hn => h.dis n hn) h.nod hh hg
  rw [scanL_free P.rt.length P.rt rfl] at hr hs
  simp only [List.length_reverse] at hr
  obtain ⟨g', hg', hF⟩ := hs.free
  have hnr : P.rt.reverse.Nodup := List.pairwise_reverse.2 (h.nod.imp fun h e => h e.symm)
  have htof : ∀ n, n ∈ P.rt → tof p ws n = D.zz0j (P.st n) p.gen := fun n hn => by
    have hn' := h.ret.range n hn
    unfold tof
    have := (h.st n hn'.1 hn'.2).of
    unfold sp at this
    rw [this]
  have hfr : pushAll p ws P.rt.reverse P.fr = (P.scan p.gen).fr := by
    unfold Pool.scan
    rw [back_fr _ _ _ hnr]
    unfold pushAll
    have : ∀ (k L : List Int), (∀ n, n ∈ k → n ∈ P.rt) → k.foldl (fun l n => if (tof p ws n).mode = 3 then l else n :: l) L = k.foldl (fun l n => if (D.zz0j (P.st n) p.gen).mode = 3 then l else n :: l) L := by
      intro k
      induction k with
      | nil => intro _ _; rfl
      | cons q k ih =>
        intro L hq
        rw [List.foldl_cons, List.foldl_cons, htof q (hq q (List.mem_cons_self ..))]
        exact ih _ fun n hn => hq n (List.mem_cons_of_mem _ hn)
    exact this _ _ fun n hn => List.mem_reverse.1 hn
  have hsub : ∀ n, n ∈ (P.scan p.gen).fr → n ∈ P.rt ∨ n ∈ P.fr := fun n hn => by
    rw [← hfr] at hn
    rcases pushAll_sub hn with h | h
    · exact .inl (List.mem_reverse.1 h)
    · exact .inr h
  have hrt : (P.scan p.gen).rt = [] := back_rt _ _ _
  rw [hfr] at hF
  have hst : ∀ n, (P.scan p.gen).st n = if n ∈ P.rt then D.zz0j (P.st n) p.gen else P.st n := fun n => by
    unfold Pool.scan
    rw [back_st _ _ _ hnr]
    simp only [List.mem_reverse]
  have hrr := h.ret.range
  have hkeep : ∀ j, 0 < j → (∀ n, n ∈ P.rt → ¬ ofNode p n j) → ¬ (rb p t ≤ j ∧ j < rb p t + 1 + p.retire) → rd ws' j = rd ws j := fun j j0 h1 h2 => hs.others j j0 (fun n hn => h1 n (List.mem_reverse.1 hn)) h2
  have hge := hp.g2
  refine ⟨m, ws', g', hm, by simpa using hg', hr, ⟨hF, by rw [hrt]; exact hs.ret, by rw [hrt]; exact List.nodup_nil, fun n hn => (by rw [hrt] at hn; cases hn), fun n n0 n1 => ?_, fun j j0 j1 => ?_, fun n f hn f0 f1 => ?_⟩, hs.len, fun j j0 h1 h2 => hkeep j j0 (fun n hn => h1 n (.inr hn)) h2⟩
  · rw [hst]
    by_cases hn : n ∈ P.rt
    · rw [if_pos hn]
      refine ⟨?_, (h.st n n0 n1).2.freed (by omega)⟩
      have := hs.states n (List.mem_reverse.2 hn)
      rw [htof n hn] at this
      exact this
    · rw [if_neg hn]
      refine ⟨?_, (h.st n n0 n1).2⟩
      rw [hkeep (sp p n) (by unfold sp; omega) (fun q hq hq' => ?_) (by unfold sp; omega)]
      · exact (h.st n n0 n1).1
      · unfold ofNode sp at hq'
        exact hn (by rw [show n = q by omega]; exact hq)
  · rw [hkeep _ (by omega) (fun q hq => by have := (hrr q hq).1; unfold ofNode; omega) (by omega)]
    exact h.hz j j0 j1
  · by_cases hq : n ∈ P.rt
    · exact hs.fields n f (List.mem_reverse.2 hq) f0 f1
    · have hnf : n ∈ P.fr := (hsub n hn).resolve_left hq
      have := h.free.range n hnf
      rw [hkeep _ (by unfold sp; omega) (fun q hq' hq'' => ?_) (by unfold sp; omega)]
      · exact h.zero n f hnf f0 f1
      · unfold ofNode sp at hq''
        exact hq (by rw [show n = q by omega]; exact hq')

/-- What is changed apart from a pool's words stays a pool. -/
theorem PoolAt.keep {p : Plan} (hp : PF p) {t : Int} (ht : 0 ≤ t ∧ t < p.threads) {ws ws' : List Int} {P : Pool} {g : Int} (h : PoolAt p t ws P g) {st : Int → State} (hl : ws'.length = ws.length) (h0 : rd ws' 0 = rd ws 0)
    (hr : ∀ j, rb p t ≤ j → j < rb p t + 1 + p.retire → rd ws' j = rd ws j) (hf : ∀ n f, n ∈ P.fr → 1 ≤ f → f < 5 → rd ws' (sp p n + f) = rd ws (sp p n + f)) (hz : ∀ j, 0 ≤ j → j < p.threads * 3 → rd ws' (D.zz0f p + j) = rd ws (D.zz0f p + j))
    (hs : ∀ n, 0 ≤ n → n < p.nodes → StAt p ws' n (st n)) : PoolAt p t ws' ⟨P.fr, P.rt, st⟩ g :=
  ⟨h.free.keep hl h0 fun n hn => by have := hf n 1 hn (by omega) (by omega); unfold sp at this; exact this, h.ret.keep hr, h.nod, h.dis, hs, fun j j0 j1 => (hz j j0 j1).trans (h.hz j j0 j1), fun n f hn f0 f1 => by
    have := hf n (2 + f) hn (by omega) (by omega)
    rw [← Int.add_assoc] at this
    exact this.trans (h.zero n f hn f0 f1)⟩

/-- A node out of the list. -/
def Pool.out (P : Pool) (k : Int) : Pool × Grant :=
  match P.fr with
  | [] => (P, ⟨-1, 0, 4⟩)
  | n :: l => (⟨l, P.rt, fun q => if q = n then D.zz1e (P.st n) k else P.st q⟩, ⟨n, (P.st n).gen, 0⟩)

theorem PoolAt.put {p : Plan} (hp : PF p) {t : Int} (ht : 0 ≤ t ∧ t < p.threads) {ws ws' : List Int} {P : Pool} {g n : Int} (h : PoolAt p t ws P g) (hnr : n ∉ P.rt) (hnf : n ∉ P.fr)
    (hf : (P.rt.length : Int) < p.retire) (hl : ws'.length = ws.length) (hR : RetAt p ws' t (P.rt ++ [n])) (ho : ∀ j, 0 ≤ j → j ≠ rb p t → j ≠ rb p t + 1 + P.rt.length → rd ws' j = rd ws j) :
    PoolAt p t ws' ⟨P.fr, P.rt ++ [n], P.st⟩ g := by
  have hN := zz3s hp
  have hz := hz_in hp
  obtain ⟨p1, p2, p3⟩ := rb_in hp ht
  refine ⟨h.free.keep hl (ho 0 (by omega) (by omega) (by omega)) fun q hq => ?_, hR, ?_, fun q hq => ?_, fun q q0 q1 => ?_, fun j j0 j1 => ?_, fun q f hq f0 f1 => ?_⟩
  · have := h.free.range q hq
    exact ho _ (by unfold nx; omega) (by unfold nx; omega) (by unfold nx; omega)
  · refine List.nodup_append.2 ⟨h.nod, List.nodup_cons.2 ⟨List.not_mem_nil, List.nodup_nil⟩, fun a ha b hb e => ?_⟩
    rw [List.mem_singleton.1 hb] at e
    exact hnr (e ▸ ha)
  · rcases List.mem_append.1 hq with hq | hq
    · exact h.dis q hq
    · rw [List.mem_singleton.1 hq]; exact hnf
  · have := h.st q q0 q1
    exact ⟨by rw [ho _ (by unfold sp; omega) (by unfold sp; omega) (by unfold sp; omega)]; exact this.1, this.2⟩
  · rw [ho _ (by omega) (by omega) (by omega)]; exact h.hz j j0 j1
  · have := h.free.range q hq
    rw [ho _ (by unfold sp; omega) (by unfold sp; omega) (by unfold sp; omega)]
    exact h.zero q f hq f0 f1

end Go.Proofs.YtjkinpbfmihhdaaGreat

/- Values built of more parts. -/
namespace Go.Proofs.YtjkinpbfmihhdaaGreat
open Go.RowKit
theorem bs4 {x1 y1 x2 y2 x3 y3 x4 y4 : Nat × Value} {P : Program} {α : Type} {f : Array (Nat × Value) → Sem α} {w : World} {r : Result α} (h1 : x1 = y1) (h2 : x2 = y2) (h3 : x3 = y3) (h4 : x4 = y4) (h : (f [y1, y2, y3, y4].toArray).run P w = r) : (f [x1, x2, x3, x4].toArray).run P w = r := by rw [h1, h2, h3, h4]; exact h

end Go.Proofs.YtjkinpbfmihhdaaGreat

/- Written by a program of ours (wip/gen.py): handles -/
set_option linter.unusedVariables false
set_option maxRecDepth 20000
set_option maxHeartbeats 2000000
namespace Go.Proofs.YtjkinpbfmihhdaaGreat
open Go.RowKit
theorem fo63_0 : fieldOff Tryz.prog 63 0 0 = true := by kernel_rfl

theorem fo63_1 : fieldOff Tryz.prog 63 1 1 = true := by kernel_rfl

theorem fo63_2 : fieldOff Tryz.prog 63 2 2 = true := by kernel_rfl

def D.zz15 (a0 : Handle) : Bool := (bif (decide (a0.index ≥ 0)) then (bif (decide (a0.index < 1048576)) then (bif (decide (a0.gen ≥ 0)) then (bif (decide (a0.gen ≤ 1073741823)) then (bif (decide (a0.tenant ≥ 0)) then (decide (a0.tenant < 64)) else false) else false) else false) else false) else false)

theorem c_handle_Handle_Formed (w0 : World) 
    (a0 : Handle) :
    Calls Tryz.prog 214 #[.agg (handleC a0).toArray] w0 (PureRes (.bool (D.zz15 a0)) w0) := by
 refine enter Tryz.func214 rfl 31 rfl rfl fun fr r => ?_
 have hB := Below.refl w0.heap.size w0
 refine wsr ?_
 refine seq_new (.cells ((handleC a0)).toArray 63 (0, 0)) r (fun R => y_box r (v := (.agg (handleC a0).toArray)) rfl) rfl fun fr b1 w2 n3 r => ?_
 obtain ⟨e_b1, z_w2, h_b1, hB, zB⟩ := n3.all hB
 refine seq_val (.bool false) r (fun R => zz04 r rfl) rfl fun fr r => ?_
 refine wn ?_
 refine wsr ?_
 refine seq_val _ r (fun R => zz02 r (o := 0) rfl fo63_0) rfl fun fr r => ?_
 refine seq_val (I a0.index) r (fun R => zz01 r rfl h_b1 to3 rfl) rfl fun fr r => ?_
 refine seq_val _ r (fun R => y_bin r rfl rfl rfl rfl) rfl fun fr r => ?_
 refine seq_val (.bool (decide (a0.index ≥ 0))) r (fun R => y_move r rfl) rfl fun fr r => ?_
 refine zz0r (decide (a0.index ≥ 0)) (fun h4 => ?_) (fun h4 => ?_)
 ·
  refine s1 r h4 ?_
  refine seq_val _ r (fun R => zz02 r (o := 0) rfl fo63_0) rfl fun fr r => ?_
  refine s1 r h4 ?_
  refine seq_val (I a0.index) r (fun R => zz01 r rfl h_b1 to3 rfl) rfl fun fr r => ?_
  refine s1 r h4 ?_
  refine seq_val _ r (fun R => y_bin r rfl rfl rfl rfl) rfl fun fr r => ?_
  refine seq_val (.bool (decide (a0.index < 1048576))) r (fun R => y_pick r (b := true) (congrArg Value.bool h4) rfl) rfl fun fr r => ?_
  refine seq_val (.bool (decide (a0.index < 1048576))) r (fun R => y_move r rfl) rfl fun fr r => ?_
  refine zz0r (decide (a0.index < 1048576)) (fun h5 => ?_) (fun h5 => ?_)
  ·
   refine s1 r h5 ?_
   refine seq_val _ r (fun R => zz02 r (o := 0) rfl fo63_1) rfl fun fr r => ?_
   refine s1 r h5 ?_
   refine seq_val (I a0.gen) r (fun R => zz01 r rfl h_b1 to3 rfl) rfl fun fr r => ?_
   refine s1 r h5 ?_
   refine seq_val _ r (fun R => y_bin r rfl rfl rfl rfl) rfl fun fr r => ?_
   refine seq_val (.bool (decide (a0.gen ≥ 0))) r (fun R => y_pick r (b := true) (congrArg Value.bool h5) rfl) rfl fun fr r => ?_
   refine seq_val (.bool (decide (a0.gen ≥ 0))) r (fun R => y_move r rfl) rfl fun fr r => ?_
   refine zz0r (decide (a0.gen ≥ 0)) (fun h6 => ?_) (fun h6 => ?_)
   ·
    refine s1 r h6 ?_
    refine seq_val _ r (fun R => zz02 r (o := 0) rfl fo63_1) rfl fun fr r => ?_
    refine s1 r h6 ?_
    refine seq_val (I a0.gen) r (fun R => zz01 r rfl h_b1 to3 rfl) rfl fun fr r => ?_
    refine s1 r h6 ?_
    refine seq_val _ r (fun R => y_bin r rfl rfl rfl rfl) rfl fun fr r => ?_
    refine seq_val (.bool (decide (a0.gen ≤ 1073741823))) r (fun R => y_pick r (b := true) (congrArg Value.bool h6) rfl) rfl fun fr r => ?_
    refine seq_val (.bool (decide (a0.gen ≤ 1073741823))) r (fun R => y_move r rfl) rfl fun fr r => ?_
    refine zz0r (decide (a0.gen ≤ 1073741823)) (fun h7 => ?_) (fun h7 => ?_)
    ·
     refine s1 r h7 ?_
     refine seq_val _ r (fun R => zz02 r (o := 0) rfl fo63_2) rfl fun fr r => ?_
     refine s1 r h7 ?_
     refine seq_val (I a0.tenant) r (fun R => zz01 r rfl h_b1 to3 rfl) rfl fun fr r => ?_
     refine s1 r h7 ?_
     refine seq_val _ r (fun R => y_bin r rfl rfl rfl rfl) rfl fun fr r => ?_
     refine seq_val (.bool (decide (a0.tenant ≥ 0))) r (fun R => y_pick r (b := true) (congrArg Value.bool h7) rfl) rfl fun fr r => ?_
     refine seq_val (.bool (decide (a0.tenant ≥ 0))) r (fun R => y_move r rfl) rfl fun fr r => ?_
     refine zz0r (decide (a0.tenant ≥ 0)) (fun h8 => ?_) (fun h8 => ?_)
     ·
      refine s1 r h8 ?_
      refine seq_val _ r (fun R => zz02 r (o := 0) rfl fo63_2) rfl fun fr r => ?_
      refine s1 r h8 ?_
      refine seq_val (I a0.tenant) r (fun R => zz01 r rfl h_b1 to3 rfl) rfl fun fr r => ?_
      refine s1 r h8 ?_
      refine seq_val _ r (fun R => y_bin r rfl rfl rfl rfl) rfl fun fr r => ?_
      refine seq_val (.bool (decide (a0.tenant < 64))) r (fun R => y_pick r (b := true) (congrArg Value.bool h8) rfl) rfl fun fr r => ?_
      refine seq_val (.bool (decide (a0.tenant < 64))) r (fun R => zz04 r rfl) rfl fun fr r => ?_
      refine wn ?_
      refine wp_ret ?_
      have hd : D.zz15 a0 = (decide (a0.tenant < 64)) := (cond_t h4).trans ((cond_t h5).trans ((cond_t h6).trans ((cond_t h7).trans ((cond_t h8).trans (rfl)))))
      refine ret_tmp r rfl rfl ?_
      rw [hd]
      exact ⟨rfl, hB⟩
     ·
      refine s0 r h8 fun fr r => ?_
      refine s0 r h8 fun fr r => ?_
      refine s0 r h8 fun fr r => ?_
      refine seq_val (.bool false) r (fun R => y_pick r (b := false) (congrArg Value.bool h8) rfl) rfl fun fr r => ?_
      refine seq_val (.bool false) r (fun R => zz04 r rfl) rfl fun fr r => ?_
      refine wn ?_
      refine wp_ret ?_
      have hd : D.zz15 a0 = false := (cond_t h4).trans ((cond_t h5).trans ((cond_t h6).trans ((cond_t h7).trans ((cond_f h8).trans (rfl)))))
      refine ret_tmp r rfl rfl ?_
      rw [hd]
      exact ⟨rfl, hB⟩
    ·
     refine s0 r h7 fun fr r => ?_
     refine s0 r h7 fun fr r => ?_
     refine s0 r h7 fun fr r => ?_
     refine seq_val (.bool false) r (fun R => y_pick r (b := false) (congrArg Value.bool h7) rfl) rfl fun fr r => ?_
     refine seq_val (.bool false) r (fun R => y_move r rfl) rfl fun fr r => ?_
     refine s0 r (rfl : false = _) fun fr r => ?_
     refine s0 r (rfl : false = _) fun fr r => ?_
     refine s0 r (rfl : false = _) fun fr r => ?_
     refine seq_val (.bool false) r (fun R => y_pick r (b := false) (congrArg Value.bool (rfl : false = _)) rfl) rfl fun fr r => ?_
     refine seq_val (.bool false) r (fun R => zz04 r rfl) rfl fun fr r => ?_
     refine wn ?_
     refine wp_ret ?_
     have hd : D.zz15 a0 = false := (cond_t h4).trans ((cond_t h5).trans ((cond_t h6).trans ((cond_f h7).trans (rfl))))
     refine ret_tmp r rfl rfl ?_
     rw [hd]
     exact ⟨rfl, hB⟩
   ·
    refine s0 r h6 fun fr r => ?_
    refine s0 r h6 fun fr r => ?_
    refine s0 r h6 fun fr r => ?_
    refine seq_val (.bool false) r (fun R => y_pick r (b := false) (congrArg Value.bool h6) rfl) rfl fun fr r => ?_
    refine seq_val (.bool false) r (fun R => y_move r rfl) rfl fun fr r => ?_
    refine s0 r (rfl : false = _) fun fr r => ?_
    refine s0 r (rfl : false = _) fun fr r => ?_
    refine s0 r (rfl : false = _) fun fr r => ?_
    refine seq_val (.bool false) r (fun R => y_pick r (b := false) (congrArg Value.bool (rfl : false = _)) rfl) rfl fun fr r => ?_
    refine seq_val (.bool false) r (fun R => y_move r rfl) rfl fun fr r => ?_
    refine s0 r (rfl : false = _) fun fr r => ?_
    refine s0 r (rfl : false = _) fun fr r => ?_
    refine s0 r (rfl : false = _) fun fr r => ?_
    refine seq_val (.bool false) r (fun R => y_pick r (b := false) (congrArg Value.bool (rfl : false = _)) rfl) rfl fun fr r => ?_
    refine seq_val (.bool false) r (fun R => zz04 r rfl) rfl fun fr r => ?_
    refine wn ?_
    refine wp_ret ?_
    have hd : D.zz15 a0 = false := (cond_t h4).trans ((cond_t h5).trans ((cond_f h6).trans (rfl)))
    refine ret_tmp r rfl rfl ?_
    rw [hd]
    exact ⟨rfl, hB⟩
  ·
   refine s0 r h5 fun fr r => ?_
   refine s0 r h5 fun fr r => ?_
   refine s0 r h5 fun fr r => ?_
   refine seq_val (.bool false) r (fun R => y_pick r (b := false) (congrArg Value.bool h5) rfl) rfl fun fr r => ?_
   refine seq_val (.bool false) r (fun R => y_move r rfl) rfl fun fr r => ?_
   refine s0 r (rfl : false = _) fun fr r => ?_
   refine s0 r (rfl : false = _) fun fr r => ?_
   refine s0 r (rfl : false = _) fun fr r => ?_
   refine seq_val (.bool false) r (fun R => y_pick r (b := false) (congrArg Value.bool (rfl : false = _)) rfl) rfl fun fr r => ?_
   refine seq_val (.bool false) r (fun R => y_move r rfl) rfl fun fr r => ?_
   refine s0 r (rfl : false = _) fun fr r => ?_
   refine s0 r (rfl : false = _) fun fr r => ?_
   refine s0 r (rfl : false = _) fun fr r => ?_
   refine seq_val (.bool false) r (fun R => y_pick r (b := false) (congrArg Value.bool (rfl : false = _)) rfl) rfl fun fr r => ?_
   refine seq_val (.bool false) r (fun R => y_move r rfl) rfl fun fr r => ?_
   refine s0 r (rfl : false = _) fun fr r => ?_
   refine s0 r (rfl : false = _) fun fr r => ?_
   refine s0 r (rfl : false = _) fun fr r => ?_
   refine seq_val (.bool false) r (fun R => y_pick r (b := false) (congrArg Value.bool (rfl : false = _)) rfl) rfl fun fr r => ?_
   refine seq_val (.bool false) r (fun R => zz04 r rfl) rfl fun fr r => ?_
   refine wn ?_
   refine wp_ret ?_
   have hd : D.zz15 a0 = false := (cond_t h4).trans ((cond_f h5).trans (rfl))
   refine ret_tmp r rfl rfl ?_
   rw [hd]
   exact ⟨rfl, hB⟩
 ·
  refine s0 r h4 fun fr r => ?_
  refine s0 r h4 fun fr r => ?_
  refine s0 r h4 fun fr r => ?_
  refine seq_val (.bool false) r (fun R => y_pick r (b := false) (congrArg Value.bool h4) rfl) rfl fun fr r => ?_
  refine seq_val (.bool false) r (fun R => y_move r rfl) rfl fun fr r => ?_
  refine s0 r (rfl : false = _) fun fr r => ?_
  refine s0 r (rfl : false = _) fun fr r => ?_
  refine s0 r (rfl : false = _) fun fr r => ?_
  refine seq_val (.bool false) r (fun R => y_pick r (b := false) (congrArg Value.bool (rfl : false = _)) rfl) rfl fun fr r => ?_
  refine seq_val (.bool false) r (fun R => y_move r rfl) rfl fun fr r => ?_
  refine s0 r (rfl : false = _) fun fr r => ?_
  refine s0 r (rfl : false = _) fun fr r => ?_
  refine s0 r (rfl : false = _) fun fr r => ?_
  refine seq_val (.bool false) r (fun R => y_pick r (b := false) (congrArg Value.bool (rfl : false = _)) rfl) rfl fun fr r => ?_
  refine seq_val (.bool false) r (fun R => y_move r rfl) rfl fun fr r => ?_
  refine s0 r (rfl : false = _) fun fr r => ?_
  refine s0 r (rfl : false = _) fun fr r => ?_
  refine s0 r (rfl : false = _) fun fr r => ?_
  refine seq_val (.bool false) r (fun R => y_pick r (b := false) (congrArg Value.bool (rfl : false = _)) rfl) rfl fun fr r => ?_
  refine seq_val (.bool false) r (fun R => y_move r rfl) rfl fun fr r => ?_
  refine s0 r (rfl : false = _) fun fr r => ?_
  refine s0 r (rfl : false = _) fun fr r => ?_
  refine s0 r (rfl : false = _) fun fr r => ?_
  refine seq_val (.bool false) r (fun R => y_pick r (b := false) (congrArg Value.bool (rfl : false = _)) rfl) rfl fun fr r => ?_
  refine seq_val (.bool false) r (fun R => zz04 r rfl) rfl fun fr r => ?_
  refine wn ?_
  refine wp_ret ?_
  have hd : D.zz15 a0 = false := (cond_f h4).trans (rfl)
  refine ret_tmp r rfl rfl ?_
  rw [hd]
  exact ⟨rfl, hB⟩

end Go.Proofs.YtjkinpbfmihhdaaGreat

/- Written by a program of ours (wip/gen.py): handles and their words -/
set_option linter.unusedVariables false
set_option maxRecDepth 20000
set_option maxHeartbeats 2000000
namespace Go.Proofs.YtjkinpbfmihhdaaGreat.St
open Go.RowKit
theorem cl214 : callable Tryz.prog 214 = true := by kernel_rfl

theorem cl215 : callable Tryz.prog 215 = true := by kernel_rfl

theorem ta63 : tyA Tryz.prog 63 3 = true := by kernel_rfl

theorem ts63 : sized Tryz.prog 63 3 = true := by kernel_rfl

theorem tz63 : zeroOf Tryz.prog 63 = some (.agg (handleC (⟨0, 0, 0⟩ : Handle)).toArray) := by kernel_rfl

def D.zz5u (fu : Nat)  : Option (List Field) := (some ([(⟨0, 20⟩ : Field), (⟨20, 30⟩ : Field), (⟨50, 6⟩ : Field), (⟨58, 6⟩ : Field)]))

theorem c_handle_layout {fu : Nat} (w0 : World) {res : List Field} (hD : D.zz5u fu  = some res) :
    Calls Tryz.prog 215 #[] w0 (fun e w' => ∃ (v0 : Value), e = .returned v0 ∧ Done No No [rowK 223 2 fieldC v0 res] w0 w') := by
 refine enter Tryz.func215 rfl 6 rfl rfl fun fr r => ?_
 have hP : Post No [] w0 w0 := Post.nil w0
 unfold D.zz5u at hD
 refine wsr ?_
 refine seq_val (Value.slice none 0 0) r (fun R => zz04 r rfl) rfl fun fr r => ?_
 refine wn ?_
 refine wsr ?_
 refine seq_val (.agg (fieldC (⟨0, 20⟩ : Field)).toArray) r (fun R => y_build r (by kernel_rfl)) rfl fun fr r => ?_
 refine seq_val (.agg (fieldC (⟨20, 30⟩ : Field)).toArray) r (fun R => y_build r (by kernel_rfl)) rfl fun fr r => ?_
 refine seq_val (.agg (fieldC (⟨50, 6⟩ : Field)).toArray) r (fun R => y_build r (by kernel_rfl)) rfl fun fr r => ?_
 refine seq_val (.agg (fieldC (⟨58, 6⟩ : Field)).toArray) r (fun R => y_build r (by kernel_rfl)) rfl fun fr r => ?_
 refine seq_newS (.cells (([(⟨0, 20⟩ : Field), (⟨20, 30⟩ : Field), (⟨50, 6⟩ : Field), (⟨58, 6⟩ : Field)]).flatMap fieldC).toArray 223 (0, 0)) 4 r (fun R => zz40 r (by kernel_rfl)) rfl fun fr b1 w2 n3 r => ?_
 have hP : Post No [rowK 223 2 fieldC (.slice (some ⟨b1, 0, none⟩) 4 4) ([(⟨0, 20⟩ : Field), (⟨20, 30⟩ : Field), (⟨50, 6⟩ : Field), (⟨58, 6⟩ : Field)])] w0 w2 := hP.newRow n3 (fun _ => rfl) rfl
 refine seq_val (.slice (some ⟨b1, 0, none⟩) 4 4) r (fun R => zz04 r rfl) rfl fun fr r => ?_
 refine wn ?_
 refine wp_ret ?_
 have hv : [(⟨0, 20⟩ : Field), (⟨20, 30⟩ : Field), (⟨50, 6⟩ : Field), (⟨58, 6⟩ : Field)] = res := Option.some.inj hD
 try dsimp only [Exit.then, Exit.inBlock]
 refine ret_tmp (fn := Tryz.f215) r (t := 0) rfl (v := (.slice (some ⟨b1, 0, none⟩) 4 4)) rfl ?_
 subst hv
 exact ⟨(.slice (some ⟨b1, 0, none⟩) 4 4), rfl, (hP.pick [0] rfl rfl).done (zz2p rfl zz3c)⟩

def D.zz1d (fu : Nat) (a0 : Handle) : Option (Int) := (bif (!(D.zz15 a0)) then (some 0) else ((D.zz5u fu ).bind (fun (x7 : List Field) => ((D.zz3b fu x7 ([(IntKind.u64.wrap a0.index), (IntKind.u64.wrap a0.gen), (IntKind.u64.wrap a0.tenant), 42])).bind (fun (x12 : Int × Int) => (some x12.1))))))

theorem zz3t {fu : Nat} (w0 : World) (a0 : Handle) {res : Int} (hD : D.zz1d fu a0 = some res) :
    Calls Tryz.prog 116 #[.agg (handleC a0).toArray] w0 (PureRes (.int .u64 res) w0) := by
 refine enter Tryz.func116 rfl 24 rfl rfl fun fr r => ?_
 have hP : Post No [] w0 w0 := Post.nil w0
 unfold D.zz1d at hD
 refine wsr ?_
 refine seq_new (.cells ((handleC a0)).toArray 63 (0, 0)) r (fun R => y_box r (v := (.agg (handleC a0).toArray)) rfl) rfl fun fr b1 w2 n3 r => ?_
 have hP : Post No [cellC b1 ((handleC a0)).toArray 63] w0 w2 := hP.new n3
 refine seq_val (U 0) r (fun R => zz04 r rfl) rfl fun fr r => ?_
 refine wn ?_
 refine wp_seq ?_
 refine wsr ?_
 refine seq_val (.agg (handleC a0).toArray) r (fun R => zz03 r (cs := (handleC a0)) (n := 3) rfl (hP.cell (i := 0) rfl) ta63 rfl) rfl fun fr r => ?_
 refine zz06 r (c_handle_Handle_Formed w2 a0) (fun R hc => y_call r rfl cl214 hc) rfl ?_
 rintro _ w5 ⟨rfl, hb⟩
 refine ⟨_, rfl, fun fr r => ?_⟩
 have hP : Post No [cellC b1 ((handleC a0)).toArray 63] w0 w5 := hP.below hb
 refine seq_val (.bool (!(D.zz15 a0))) r (fun R => y_un r (u := (.bool (D.zz15 a0))) rfl rfl) rfl fun fr r => ?_
 refine wn ?_
 refine wp_cond_split (t := (!(D.zz15 a0))) (r.ev rfl) (fun h6 => ?_) (fun h6 => ?_)
 ·
  have hD := (cond_t h6).symm.trans hD
  refine wsr ?_
  refine seq_val (U 0) r (fun R => zz04 r rfl) rfl fun fr r => ?_
  refine wn ?_
  refine wp_ret ?_
  have hv : 0 = res := Option.some.inj hD
  try dsimp only [Exit.then, Exit.inBlock]
  refine ret_tmp (fn := Tryz.f116) r (t := 2) rfl (v := (U 0)) rfl ?_
  subst hv
  exact ⟨rfl, hP.chg.below⟩
 ·
  have hD := (cond_f h6).symm.trans hD
  refine wp_skip ?_
  refine wp_seq ?_
  obtain ⟨x7, hx7, hD⟩ := zz0i hD
  obtain ⟨x12, hx12, hD⟩ := zz0i hD
  refine zz43 [.pred (MkP (fun v8 : Value => v8) (fun v8 : Value => [rowK 223 2 fieldC v8 x7])) (MkP.st _ _), .val (.pointer (some ⟨b1, 0, none⟩)), .val (I a0.index), .val (U (V a0.index)), .val (.pointer (some ⟨b1, 1, none⟩)), .val (I a0.gen), .val (U (V a0.gen)), .val (.pointer (some ⟨b1, 2, none⟩)), .val (I a0.tenant), .val (U (V a0.tenant)), .pred (MkP (fun v : Value => v) (fun v : Value => [rowK 22 1 u64 v ([(V a0.index), (V a0.gen), (V a0.tenant), 42])])) (MkP.st _ _), .val (.tuple #[(U x12.1), (I x12.2)]), .val (.tuple #[(U x12.1), (I x12.2)]), .val (U x12.1), .val (I x12.2), .val (U x12.1), .val (I x12.2)] mixed r (by kernel_rfl) ?_ ?_
  ·
   refine fc r (fun fr1 g w' hb' hd r' => y_call r' (args := []) (l0) cl215 ((c_handle_layout _ hx7).mono (by rintro _ w2 ⟨y, rfl, hq⟩; exact ⟨_, rfl, hq.chg.below, MkP.of y hq⟩))) ?_
   refine fc r (fun fr1 g w' hb' hd r' => zz02 r' (b := b1) (o := 0) rfl fo63_0 bz) ?_
   refine fc r (fun fr1 g w' hb' hd r' => zz01 r' (hd 1 rfl).1 ((hP.below (dr hb')).cell (i := 0) rfl) to3 rfl bz) ?_
   refine fc r (fun fr1 g w' hb' hd r' => zz20 r' (n := a0.index) (hd 2 rfl).1 ti3 ti22 bz) ?_
   refine fc r (fun fr1 g w' hb' hd r' => zz02 r' (b := b1) (o := 0) rfl fo63_1 bz) ?_
   refine fc r (fun fr1 g w' hb' hd r' => zz01 r' (hd 4 rfl).1 ((hP.below (dr hb')).cell (i := 0) rfl) to3 rfl bz) ?_
   refine fc r (fun fr1 g w' hb' hd r' => zz20 r' (n := a0.gen) (hd 5 rfl).1 ti3 ti22 bz) ?_
   refine fc r (fun fr1 g w' hb' hd r' => zz02 r' (b := b1) (o := 0) rfl fo63_2 bz) ?_
   refine fc r (fun fr1 g w' hb' hd r' => zz01 r' (hd 7 rfl).1 ((hP.below (dr hb')).cell (i := 0) rfl) to3 rfl bz) ?_
   refine fc r (fun fr1 g w' hb' hd r' => zz20 r' (n := a0.tenant) (hd 8 rfl).1 ti3 ti22 bz) ?_
   refine fc r (fun fr1 g w' hb' hd r' => zz40 r' (c := (([(V a0.index), (V a0.gen), (V a0.tenant), 42]).flatMap u64).toArray) (E := 22) (bs4 (congrArg (fun z => (0, z)) (hd 3 rfl).1) (congrArg (fun z => (1, z)) (hd 6 rfl).1) (congrArg (fun z => (2, z)) (hd 9 rfl).1) (rfl) (by kernel_rfl)) (fun b w2 n2 => ⟨n2.below, MkP.newRow n2 (fun _ => rfl) rfl⟩)) ?_
   refine fc r (fun fr1 g w' hb' hd r' => y_call r' (args := [(g 0).v, (g 10).v]) (lc rfl (lc rfl l0)) cl196 ((c_field_Pack _ x7 (MkP.row (hd 0 rfl).1) ([(V a0.index), (V a0.gen), (V a0.tenant), 42]) (MkP.row (hd 10 rfl).1) hx12).mono (by rintro _ w2 ⟨rfl, hb2⟩; exact ⟨_, rfl, hb2, rfl⟩))) ?_
   refine fc r (fun fr1 g w' hb' hd r' => y_move r' (hd 11 rfl).1 bz) ?_
   refine fc r (fun fr1 g w' hb' hd r' => zz0t r' (vs := #[(U x12.1), (I x12.2)]) (hd 12 rfl).1 rfl bz) ?_
   refine fc r (fun fr1 g w' hb' hd r' => zz0t r' (vs := #[(U x12.1), (I x12.2)]) (hd 12 rfl).1 rfl bz) ?_
   refine fc r (fun fr1 g w' hb' hd r' => zz04 r' (hd 13 rfl).1 bz) ?_
   refine fc r (fun fr1 g w' hb' hd r' => zz04 r' (hd 14 rfl).1 bz) ?_
   exact zz1z
  ·
   intro fr gg w13 hb hΦ hap r
   obtain ⟨v8, g0, hs0⟩ := (hΦ 0 rfl).1
   obtain ⟨v10, g10, hs10⟩ := (hΦ 10 rfl).1
   have r := r.congr (sc ((hΦ 16 rfl).1) (sc ((hΦ 15 rfl).1) (sc ((hΦ 14 rfl).1) (sc ((hΦ 13 rfl).1) (sc ((hΦ 12 rfl).1) (sc ((hΦ 11 rfl).1) (sc g10 (sc ((hΦ 9 rfl).1) (sc ((hΦ 8 rfl).1) (sc ((hΦ 7 rfl).1) (sc ((hΦ 6 rfl).1) (sc ((hΦ 5 rfl).1) (sc ((hΦ 4 rfl).1) (sc ((hΦ 3 rfl).1) (sc ((hΦ 2 rfl).1) (sc ((hΦ 1 rfl).1) (sc g0 rfl)))))))))))))))))
   have hP : Post No [cellC b1 ((handleC a0)).toArray 63, rowK 223 2 fieldC v8 x7, rowK 22 1 u64 v10 ([(V a0.index), (V a0.gen), (V a0.tenant), 42])] w0 w13 := hP.addL (l := [([rowK 223 2 fieldC v8 x7], (gg 0).lo, (gg 0).hi), ([rowK 22 1 u64 v10 ([(V a0.index), (V a0.gen), (V a0.tenant), 42])], (gg 10).lo, (gg 10).hi)]) hb ⟨hs0, (hΦ 0 rfl).2.1, (zz2o (hap 0 10 rfl) zz2f), ⟨hs10, (hΦ 10 rfl).2.1, zz2f, trivial⟩⟩
   refine wsr ?_
   refine seq_val (U x12.1) r (fun R => y_move r rfl) rfl fun fr r => ?_
   refine seq_val (U x12.1) r (fun R => zz04 r rfl) rfl fun fr r => ?_
   refine wn ?_
   refine wp_ret ?_
   have hv : x12.1 = res := Option.some.inj hD
   try dsimp only [Exit.then, Exit.inBlock]
   refine ret_tmp (fn := Tryz.f116) r (t := 2) rfl (v := (U x12.1)) rfl ?_
   subst hv
   exact ⟨rfl, hP.chg.below⟩

def D.zz13 (fu : Nat) (a0 : Int) : Option (Handle × Bool) := ((D.zz5u fu ).bind (fun (x5 : List Field) => ((D.zz2t fu x5 a0).bind (fun (x9 : List Int × Int) => (Option.bind (bif (x9.2 != 0) then (some true) else ((getI x9.1 3).bind (fun (x15 : Int) => (some (x15 != 42))))) (fun (x16 : Bool) => (bif x16 then (some ((⟨0, 0, 0⟩ : Handle), false)) else ((getI x9.1 0).bind (fun (x22 : Int) => ((getI x9.1 1).bind (fun (x23 : Int) => ((getI x9.1 2).bind (fun (x24 : Int) => (some ((⟨(IntKind.i64.wrap x22), (IntKind.i64.wrap x23), (IntKind.i64.wrap x24)⟩ : Handle), true)))))))))))))))

theorem c_handle_Of {fu : Nat} (w0 : World) (a0 : Int) {res : Handle × Bool} (hD : D.zz13 fu a0 = some res) :
    Calls Tryz.prog 226 #[.int .u64 a0] w0 (PureRes (.tuple #[(.agg (handleC res.1).toArray), (.bool res.2)]) w0) := by
 refine enter Tryz.func226 rfl 34 rfl rfl fun fr r => ?_
 have hP : Post No [] w0 w0 := Post.nil w0
 unfold D.zz13 at hD
 refine wsr ?_
 refine seq_new (.cells ((handleC (⟨0, 0, 0⟩ : Handle))).toArray 63 (0, 0)) r (fun R => y_alloc tz63) rfl fun fr b1 w2 n3 r => ?_
 have hP : Post No [cellC b1 ((handleC (⟨0, 0, 0⟩ : Handle))).toArray 63] w0 w2 := hP.new n3
 refine seq_val (.bool false) r (fun R => zz04 r rfl) rfl fun fr r => ?_
 refine wn ?_
 refine wsr ?_
 obtain ⟨x5, hx5, hD⟩ := zz0i hD
 refine zz06 r (c_handle_layout w2  hx5) (fun R hc => y_call r rfl cl215 hc) rfl ?_
 rintro _ w6 ⟨v7, rfl, hq⟩
 refine ⟨_, rfl, fun fr r => ?_⟩
 have hP : Post No [cellC b1 ((handleC (⟨0, 0, 0⟩ : Handle))).toArray 63, rowK 223 2 fieldC v7 x5] w0 w6 := hP.add hq
 refine seq_val (U a0) r (fun R => y_move r rfl) rfl fun fr r => ?_
 obtain ⟨x9, hx9, hD⟩ := zz0i hD
 refine zz06 r (c_field_Split w6 x5 (hP.row (i := 1) rfl).ro a0 hx9) (fun R hc => y_call r rfl cl156 hc) rfl ?_
 rintro _ w10 ⟨v11, rfl, hq⟩
 refine ⟨_, rfl, fun fr r => ?_⟩
 have hP : Post No [cellC b1 ((handleC (⟨0, 0, 0⟩ : Handle))).toArray 63, rowK 223 2 fieldC v7 x5, rowK 22 1 u64 v11 x9.1] w0 w10 := hP.add hq
 refine seq_val (.tuple #[v11, (I x9.2)]) r (fun R => y_move r rfl) rfl fun fr r => ?_
 refine seq_val v11 r (fun R => zz0t r (vs := #[v11, (I x9.2)]) rfl rfl) rfl fun fr r => ?_
 refine seq_val (I x9.2) r (fun R => zz0t r (vs := #[v11, (I x9.2)]) rfl rfl) rfl fun fr r => ?_
 refine seq_val v11 r (fun R => zz04 r rfl) rfl fun fr r => ?_
 refine seq_val (I x9.2) r (fun R => zz04 r rfl) rfl fun fr r => ?_
 refine wn ?_
 refine wp_seq ?_
 refine wp_seq ?_
 have hP : Post No [cellC b1 ((handleC (⟨0, 0, 0⟩ : Handle))).toArray 63, rowK 22 1 u64 v11 x9.1] w0 w10 := hP.pick [0, 2] rfl rfl
 refine zz31 (N := 34) (Y := Bool) (G := Unit) (fun x γ => [(0, (U a0)), (2, (.pointer (some ⟨b1, 0, none⟩))), (3, (.bool false)), (4, v11), (5, (I x9.2)), (19, (.bool x))]) (fun x γ w => Post No [cellC b1 ((handleC (⟨0, 0, 0⟩ : Handle))).toArray 63, rowK 22 1 u64 v11 x9.1] w0 w) hD ?_ ?_
 ·
  rintro y13 RPy13 nxy13 hD
  refine wp_region_lit ?_
  refine seq_val (I x9.2) r (fun R => y_move r rfl) rfl fun fr r => ?_
  refine seq_val _ r (fun R => y_bin r rfl rfl rfl rfl) rfl fun fr r => ?_
  refine seq_val (.bool (x9.2 != 0)) r (fun R => y_move r rfl) rfl fun fr r => ?_
  refine zz0r (x9.2 != 0) (fun h14 => ?_) (fun h14 => ?_)
  ·
   have hD := (cond_t h14).symm.trans hD
   refine s0 r h14 fun fr r => ?_
   refine s0 r h14 fun fr r => ?_
   refine s0 r h14 fun fr r => ?_
   refine s0 r h14 fun fr r => ?_
   refine seq_val (.bool true) r (fun R => y_pick r (b := true) (congrArg Value.bool h14) rfl) rfl fun fr r => ?_
   refine wn ?_
   exact nxy13 true () _ _ _ hD r (hs_cons rfl (hs_cons rfl (hs_cons rfl (hs_cons rfl (hs_cons rfl (hs_cons rfl hs_nil)))))) (hP.pick [0, 1] rfl rfl)
  ·
   have hD := (cond_f h14).symm.trans hD
   refine s1 r h14 ?_
   refine seq_val v11 r (fun R => y_move r rfl) rfl fun fr r => ?_
   refine s1 r h14 ?_
   obtain ⟨x15, hx15, hD⟩ := zz0i hD
   refine seq_val (.pointer (some ⟨rowB v11, rowO v11 + (3 : Int).toNat * 1, none⟩)) r (fun R => zz2v r (hP.row (i := 1) rfl).ro hx15 sl49 rfl rfl) rfl fun fr r => ?_
   refine s1 r h14 ?_
   refine seq_val (U x15) r (fun R => zz2l r (u := (U x15)) (RoAt.at_ (f := u64) (x := x15) (hP.row (i := 1) rfl).ro (fun _ => rfl) hx15) rfl to22) rfl fun fr r => ?_
   refine s1 r h14 ?_
   refine seq_val _ r (fun R => y_bin r rfl rfl rfl rfl) rfl fun fr r => ?_
   refine seq_val (.bool (x15 != 42)) r (fun R => y_pick r (b := false) (congrArg Value.bool h14) rfl) rfl fun fr r => ?_
   refine wn ?_
   exact nxy13 (x15 != 42) () _ _ _ hD r (hs_cons rfl (hs_cons rfl (hs_cons rfl (hs_cons rfl (hs_cons rfl (hs_cons rfl hs_nil)))))) (hP.pick [0, 1] rfl rfl)
 ·
  rintro x16 γ17 fr w18 g r hP hD
  have hP : Post No [cellC b1 ((handleC (⟨0, 0, 0⟩ : Handle))).toArray 63, rowK 22 1 u64 v11 x9.1] w0 w18 := hP
  refine wp_cond_split (t := x16) (r.ev rfl) (fun h19 => ?_) (fun h19 => ?_)
  ·
   have hD := (cond_t h19).symm.trans hD
   refine wsr ?_
   refine seq_val (.agg (handleC (⟨0, 0, 0⟩ : Handle)).toArray) r (fun R => y_build r (by kernel_rfl)) rfl fun fr r => ?_
   refine seq_upd (.cells ((handleC (⟨0, 0, 0⟩ : Handle))).toArray 63 (0, 0)) r (fun R => y_store r (o := 0) (v := (.agg (handleC (⟨0, 0, 0⟩ : Handle)).toArray)) rfl rfl (hP.cell (i := 0) rfl) ts63 (Nat.le_of_ble_eq_true rfl) rfl rfl) rfl fun fr w20 u21 r => ?_
   have hP : Post No [cellC b1 ((handleC (⟨0, 0, 0⟩ : Handle))).toArray 63, rowK 22 1 u64 v11 x9.1] w0 w20 := hP.upd (i := 0) rfl u21
   refine seq_val (.bool false) r (fun R => zz04 r rfl) rfl fun fr r => ?_
   refine wn ?_
   refine wp_ret ?_
   have hv : ((⟨0, 0, 0⟩ : Handle), false) = res := Option.some.inj hD
   try dsimp only [Exit.then, Exit.inBlock]
   refine zz21 (fn := Tryz.f226) r rfl rfl (v' := (.bool false)) rfl (hP.cell (i := 0) rfl) (k := 3) rfl ta63 ?_
   subst hv
   exact ⟨rfl, hP.chg.below⟩
  ·
   have hD := (cond_f h19).symm.trans hD
   refine wp_skip ?_
   refine wp_seq ?_
   obtain ⟨x22, hx22, hD⟩ := zz0i hD
   obtain ⟨x23, hx23, hD⟩ := zz0i hD
   obtain ⟨x24, hx24, hD⟩ := zz0i hD
   refine zz5j [b1] [.val v11, .val (.pointer (some ⟨rowB v11, rowO v11 + (0 : Int).toNat * 1, none⟩)), .val (U x22), .val (I (W x22)), .val v11, .val (.pointer (some ⟨rowB v11, rowO v11 + (1 : Int).toNat * 1, none⟩)), .val (U x23), .val (I (W x23)), .val v11, .val (.pointer (some ⟨rowB v11, rowO v11 + (2 : Int).toNat * 1, none⟩)), .val (U x24), .val (I (W x24)), .val (.agg (handleC (⟨(W x22), (W x23), (W x24)⟩ : Handle)).toArray), .eff (EffP w18.heap.size (cellC b1 ((handleC (⟨(W x22), (W x23), (W x24)⟩ : Handle))).toArray 63) (fun _ : Unit => undef) (fun _ : Unit => [])) (EffP.st _ _ _ _), .val (.bool true)] mixed r (fun b hb => hP.sep.lt (i := 0) rfl (.inl hb)) (by kernel_rfl) ?_ ?_
   ·
    refine zz0k r rfl (by kernel_rfl) (fun fr1 g w' hb' hd r' => ?_) ?_
    · exact y_move r' (v := v11) rfl ⟨Below.refl _ _, rfl⟩
    refine zz0k r rfl (by kernel_rfl) (fun fr1 g w' hb' hd r' => ?_) ?_
    · exact zz2v r' ((hP.below (dr hb')).row (i := 1) rfl).ro hx22 sl49 (hd 0 rfl).1 rfl ⟨Below.refl _ _, rfl⟩
    refine zz0k r rfl (by kernel_rfl) (fun fr1 g w' hb' hd r' => ?_) ?_
    · exact zz2l r' (u := (U x22)) (RoAt.at_ (f := u64) (x := x22) ((hP.below (dr hb')).row (i := 1) rfl).ro (fun _ => rfl) hx22) (hd 1 rfl).1 to22 ⟨Below.refl _ _, rfl⟩
    refine zz0k r rfl (by kernel_rfl) (fun fr1 g w' hb' hd r' => ?_) ?_
    · exact zz20 r' (n := x22) (hd 2 rfl).1 ti22 ti3 ⟨Below.refl _ _, rfl⟩
    refine zz0k r rfl (by kernel_rfl) (fun fr1 g w' hb' hd r' => ?_) ?_
    · exact y_move r' (v := v11) rfl ⟨Below.refl _ _, rfl⟩
    refine zz0k r rfl (by kernel_rfl) (fun fr1 g w' hb' hd r' => ?_) ?_
    · exact zz2v r' ((hP.below (dr hb')).row (i := 1) rfl).ro hx23 sl49 (hd 4 rfl).1 rfl ⟨Below.refl _ _, rfl⟩
    refine zz0k r rfl (by kernel_rfl) (fun fr1 g w' hb' hd r' => ?_) ?_
    · exact zz2l r' (u := (U x23)) (RoAt.at_ (f := u64) (x := x23) ((hP.below (dr hb')).row (i := 1) rfl).ro (fun _ => rfl) hx23) (hd 5 rfl).1 to22 ⟨Below.refl _ _, rfl⟩
    refine zz0k r rfl (by kernel_rfl) (fun fr1 g w' hb' hd r' => ?_) ?_
    · exact zz20 r' (n := x23) (hd 6 rfl).1 ti22 ti3 ⟨Below.refl _ _, rfl⟩
    refine zz0k r rfl (by kernel_rfl) (fun fr1 g w' hb' hd r' => ?_) ?_
    · exact y_move r' (v := v11) rfl ⟨Below.refl _ _, rfl⟩
    refine zz0k r rfl (by kernel_rfl) (fun fr1 g w' hb' hd r' => ?_) ?_
    · exact zz2v r' ((hP.below (dr hb')).row (i := 1) rfl).ro hx24 sl49 (hd 8 rfl).1 rfl ⟨Below.refl _ _, rfl⟩
    refine zz0k r rfl (by kernel_rfl) (fun fr1 g w' hb' hd r' => ?_) ?_
    · exact zz2l r' (u := (U x24)) (RoAt.at_ (f := u64) (x := x24) ((hP.below (dr hb')).row (i := 1) rfl).ro (fun _ => rfl) hx24) (hd 9 rfl).1 to22 ⟨Below.refl _ _, rfl⟩
    refine zz0k r rfl (by kernel_rfl) (fun fr1 g w' hb' hd r' => ?_) ?_
    · exact zz20 r' (n := x24) (hd 10 rfl).1 ti22 ti3 ⟨Below.refl _ _, rfl⟩
    refine zz0k r rfl (by kernel_rfl) (fun fr1 g w' hb' hd r' => ?_) ?_
    · exact y_build r' (v := (.agg (handleC (⟨(W x22), (W x23), (W x24)⟩ : Handle)).toArray)) (bs3 (congrArg (fun z => (0, z)) (hd 3 rfl).1) (congrArg (fun z => (1, z)) (hd 7 rfl).1) (congrArg (fun z => (2, z)) (hd 11 rfl).1) (by kernel_rfl)) ⟨Below.refl _ _, rfl⟩
    refine zz0k r rfl (by kernel_rfl) (fun fr1 g w' hb' hd r' => ?_) ?_
    · exact y_store r' (o := 0) (v := (.agg (handleC (⟨(W x22), (W x23), (W x24)⟩ : Handle)).toArray)) rfl (hd 12 rfl).1 ((hP.below (dr hb')).cell (i := 0) rfl) ts63 (Nat.le_of_ble_eq_true rfl) rfl rfl (fun w2 u2 => ⟨u2.kept, (), rfl, u2.at_, (fun b hb => hP.sep.lt (i := 0) rfl hb), fresh_nil⟩)
    refine zz0b r rfl (fun fr1 g w' hk' hd r' => ?_) ?_
    · exact zz04 r' (v := (.bool true)) rfl ⟨Below.refl _ _, rfl⟩
    exact zz1z
   ·
    intro fr gg w25 hb hΦ hap r
    obtain ⟨⟨⟩, g13, hcE, _, hs13⟩ := (hΦ 13 rfl).1
    have r := r.congr (sc ((hΦ 14 rfl).1) (sc ((hΦ 12 rfl).1) (sc ((hΦ 11 rfl).1) (sc ((hΦ 10 rfl).1) (sc ((hΦ 9 rfl).1) (sc ((hΦ 8 rfl).1) (sc ((hΦ 7 rfl).1) (sc ((hΦ 6 rfl).1) (sc ((hΦ 5 rfl).1) (sc ((hΦ 4 rfl).1) (sc ((hΦ 3 rfl).1) (sc ((hΦ 2 rfl).1) (sc ((hΦ 1 rfl).1) (sc ((hΦ 0 rfl).1) rfl))))))))))))))
    have hP : Post No [cellC b1 ((handleC (⟨(W x22), (W x23), (W x24)⟩ : Handle))).toArray 63, rowK 22 1 u64 v11 x9.1] w0 w25 := hP.effL (i := 0) (l := []) rfl hb hcE rfl rfl trivial
    refine wp_ret ?_
    have hv : ((⟨(W x22), (W x23), (W x24)⟩ : Handle), true) = res := Option.some.inj hD
    try dsimp only [Exit.then, Exit.inBlock]
    refine zz21 (fn := Tryz.f226) r rfl rfl (v' := (.bool true)) rfl (hP.cell (i := 0) rfl) (k := 3) rfl ta63 ?_
    subst hv
    exact ⟨rfl, hP.chg.below⟩

end Go.Proofs.YtjkinpbfmihhdaaGreat.St

/- Handles' words: the code's answers by closed forms. -/
namespace Go.Proofs.YtjkinpbfmihhdaaGreat
open Go.RowKit

def hIdx : Field := ⟨0, 20⟩

def hGen : Field := ⟨20, 30⟩

def hTen : Field := ⟨50, 6⟩

def hSeal : Field := ⟨58, 6⟩

theorem hlay_formed : St.D.zz4i 10 [hIdx, hGen, hTen, hSeal] = some true := by decide +kernel

theorem hsplit (w : Int) : St.D.zz2t 10 [hIdx, hGen, hTen, hSeal] w = bif (zz11 .u64 (zz11 .u64 (zz11 .u64 (zz11 .u64 w (D.zz0g hIdx)) (D.zz0g hGen)) (D.zz0g hTen)) (D.zz0g hSeal) != 0) then some ([], 10)
    else some ([D.zz09 hIdx w, D.zz09 hGen w, D.zz09 hTen w, D.zz09 hSeal w], 0) := by
  unfold St.D.zz2t
  rw [hlay_formed]
  rfl

theorem hpack (a b c d : Int) : St.D.zz3b 10 [hIdx, hGen, hTen, hSeal] [a, b, c, d] = bif (decide (a > D.zz08 hIdx)) then some (0, 1) else bif (decide (b > D.zz08 hGen)) then some (0, 1) else bif (decide (c > D.zz08 hTen)) then some (0, 1)
    else bif (decide (d > D.zz08 hSeal)) then some (0, 1) else some (D.zz0n hSeal (D.zz0n hTen (D.zz0n hGen (D.zz0n hIdx 0 a) b) c) d, 0) := by
  unfold St.D.zz3b
  rw [hlay_formed]
  have w1 : IntKind.i64.wrap ((0 : Int) + 1) = 1 := rfl
  have w2 : IntKind.i64.wrap ((1 : Int) + 1) = 2 := rfl
  have w3 : IntKind.i64.wrap ((2 : Int) + 1) = 3 := rfl
  have w4 : IntKind.i64.wrap ((3 : Int) + 1) = 4 := rfl
  have g0 : ∀ {α : Type} (x y z u : α), getI [x, y, z, u] 0 = some x := fun _ _ _ _ => rfl
  have g1 : ∀ {α : Type} (x y z u : α), getI [x, y, z, u] 1 = some y := fun _ _ _ _ => rfl
  have g2 : ∀ {α : Type} (x y z u : α), getI [x, y, z, u] 2 = some z := fun _ _ _ _ => rfl
  have g3 : ∀ {α : Type} (x y z u : α), getI [x, y, z, u] 3 = some u := fun _ _ _ _ => rfl
  have l4 : ∀ {α : Type} (x y z u : α), (([x, y, z, u] : List α).length : Int) = 4 := fun _ _ _ _ => rfl
  cases h1 : decide (a > D.zz08 hIdx) <;> cases h2 : decide (b > D.zz08 hGen) <;> cases h3 : decide (c > D.zz08 hTen) <;> cases h4 : decide (d > D.zz08 hSeal) <;>
    simp only [loopThen, runLoop, goOn, afterLoop, w1, w2, w3, w4, g0, g1, g2, g3, l4, h1, h2, h3, h4, Option.bind_some, cond_true, cond_false, Bool.not_true, bne_self_eq_false, show decide ((0 : Int) < 4) = true from rfl, show decide ((1 : Int) < 4) = true from rfl, show decide ((2 : Int) < 4) = true from rfl, show decide ((3 : Int) < 4) = true from rfl, show decide ((4 : Int) < 4) = false from rfl]

/-- A handle's word. -/
def D.zz1d (h : Handle) : Int := (St.D.zz1d 10 h).getD 0

/-- A word's handle, and if it is one. -/
def D.zz13 (w : Int) : Handle × Bool := (St.D.zz13 10 w).getD (⟨0, 0, 0⟩, false)

theorem hword_some (h : Handle) : ∃ r, St.D.zz1d 10 h = some r := by
  unfold St.D.zz1d
  cases (!(D.zz15 h))
  · show ∃ r, (((St.D.zz3b 10 [hIdx, hGen, hTen, hSeal] [IntKind.u64.wrap h.index, IntKind.u64.wrap h.gen, IntKind.u64.wrap h.tenant, 42]).bind (fun (x17 : Int × Int) => (some x17.1)))) = some r
    rw [hpack]
    generalize decide (IntKind.u64.wrap h.index > D.zz08 hIdx) = b1
    generalize decide (IntKind.u64.wrap h.gen > D.zz08 hGen) = b2
    generalize decide (IntKind.u64.wrap h.tenant > D.zz08 hTen) = b3
    generalize decide ((42 : Int) > D.zz08 hSeal) = b4
    cases b1 <;> cases b2 <;> cases b3 <;> cases b4 <;> exact ⟨_, rfl⟩
  · exact ⟨_, rfl⟩

theorem hof_some (w : Int) : ∃ r, St.D.zz13 10 w = some r := by
  unfold St.D.zz13
  show ∃ r, (St.D.zz2t 10 [hIdx, hGen, hTen, hSeal] w).bind _ = some r
  rw [hsplit]
  generalize (zz11 .u64 (zz11 .u64 (zz11 .u64 (zz11 .u64 w (D.zz0g hIdx)) (D.zz0g hGen)) (D.zz0g hTen)) (D.zz0g hSeal) != 0) = b
  cases b
  · show ∃ r, (bif (D.zz09 hSeal w != 42) then _ else _) = some r
    generalize (D.zz09 hSeal w != 42) = b
    cases b <;> exact ⟨_, rfl⟩
  · exact ⟨_, rfl⟩

theorem zz3t (w0 : World) (a0 : Handle) : Calls Tryz.prog 116 #[.agg (handleC a0).toArray] w0 (PureRes (.int .u64 (D.zz1d a0)) w0) := by
  obtain ⟨r, hr⟩ := hword_some a0
  unfold D.zz1d
  rw [hr]
  exact St.zz3t w0 a0 hr

theorem c_handle_Of (w0 : World) (a0 : Int) : Calls Tryz.prog 226 #[.int .u64 a0] w0 (PureRes (.tuple #[(.agg (handleC (D.zz13 a0).1).toArray), (.bool (D.zz13 a0).2)]) w0) := by
  obtain ⟨r, hr⟩ := hof_some a0
  unfold D.zz13
  rw [hr]
  exact St.c_handle_Of w0 a0 hr

end Go.Proofs.YtjkinpbfmihhdaaGreat
