/- Some of our texts, one behind the other. -/
import Derived.Test.YtjkinpbfmihhdaaGreatDfM9
import Derived.Test.YtjkinpbfmihhdaaGreatDfM10
import Derived.Test.YtjkinpbfmihhdaaGreatDfM4
import Derived.Test.YtjkinpbfmihhdaaGreatDfM3
import Derived.Test.YtjkinpbfmihhdaaGreatDfM0
set_option linter.all false
/- Written by a program of ours (wip/gen.py): nodes that are granted -/
set_option linter.unusedVariables false
set_option maxRecDepth 20000
set_option maxHeartbeats 2000000
namespace Go.Proofs.YtjkinpbfmihhdaaGreat
open Go.RowKit
theorem cl187 : callable Tryz.prog 187 = true := by kernel_rfl

theorem cl188 : callable Tryz.prog 188 = true := by kernel_rfl

theorem cl189 : callable Tryz.prog 189 = true := by kernel_rfl

theorem cl192 : callable Tryz.prog 192 = true := by kernel_rfl

theorem cl193 : callable Tryz.prog 193 = true := by kernel_rfl

theorem cl194 : callable Tryz.prog 194 = true := by kernel_rfl

theorem cl281 : callable Tryz.prog 281 = true := by kernel_rfl

theorem cl282 : callable Tryz.prog 282 = true := by kernel_rfl

theorem cl283 : callable Tryz.prog 283 = true := by kernel_rfl

theorem cl284 : callable Tryz.prog 284 = true := by kernel_rfl

theorem cl285 : callable Tryz.prog 285 = true := by kernel_rfl

theorem ts246 : sized Tryz.prog 246 1 = true := by kernel_rfl

theorem tz246 : zeroOf Tryz.prog 246 = some .nilFunc := by kernel_rfl

def D.alloc_grant_1_1 (c0 : Int) (c1 : State) : T Grant := (D.prog_Done_Grant (⟨c0, c1.gen, 0⟩ : Grant))

theorem c_alloc_grant_1_1 {n : Nat} {F : Nat → Prop} {w0 : World} (hF : ∀ b, F b → b < w0.heap.size)
    (c0 : Int) {c0_b : Nat} (c0_F : F c0_b) (c0_h : w0.heap[c0_b]? = some (.cells ([(.int .i64 c0)]).toArray 3 (0, 0))) (c1 : State) {c1_b : Nat} (c1_F : F c1_b) (c1_h : w0.heap[c1_b]? = some (.cells ((stateC c1)).toArray 118 (0, 0))) :
    Calls Tryz.prog 285 #[.pointer (some ⟨c0_b, 0, none⟩), .pointer (some ⟨c1_b, 0, none⟩)] w0 (RepRes Tryz.prog encGrant n (D.alloc_grant_1_1 c0 c1) F w0) := by
 refine enter Tryz.func285 rfl 8 rfl rfl fun fr r => ?_
 have hB := Below.refl w0.heap.size w0
 have l_c0_b := lt_of_block c0_h
 have l_c1_b := lt_of_block c1_h
 refine wsr ?_
 refine seq_new (.cells (progCells false encGrant.zero 0 0 0 0 .nilFunc) 158 (0, 0)) r (fun R => y_alloc tz158) rfl fun fr b1 w2 n3 r => ?_
 obtain ⟨e_b1, z_w2, h_b1, hB, zB⟩ := n3.all hB
 refine wn ?_
 refine wsr ?_
 refine seq_val (I c0) r (fun R => y_load_one r rfl (keep hB c0_h) to3 rfl) rfl fun fr r => ?_
 refine seq_val _ r (fun R => y_fieldAddr r (o := 0) rfl fo118_0) rfl fun fr r => ?_
 refine seq_val (I c1.gen) r (fun R => y_load_one r rfl (keep hB c1_h) to3 rfl) rfl fun fr r => ?_
 refine seq_val (.agg (grantC (⟨c0, c1.gen, 0⟩ : Grant)).toArray) r (fun R => y_build r (by kernel_rfl)) rfl fun fr r => ?_
 have hF1 := fgrow hF hB b1
 refine seq_call r (c_prog_Done_Grant (F := (fun b => F b ∨ (w0.heap.size ≤ b ∧ b < w2.heap.size ∧ b ≠ b1))) (n := n) hF1 (⟨c0, c1.gen, 0⟩ : Grant)) (fun R hc => y_call r rfl cl188 hc) rfl ?_
 rintro _ w4 ⟨v5, rfl, hb, hr6⟩
 refine ⟨_, rfl, fun fr r => ?_⟩
 have z_w4 := hb.size
 have h_b1 := keep hb h_b1
 obtain ⟨hB, zB⟩ := bon hb hB
 refine seq_upd (.cells v5.cells 158 (0, 0)) r (fun R => y_storep r hr6.shape rfl rfl h_b1 ts158 rfl) rfl fun fr w7 u8 r => ?_
 have z_w7 := u8.size
 have h_b1 := u8.at_
 obtain ⟨hB, zB⟩ := u8.on hB (by omega)
 refine wn ?_
 refine wp_ret ?_
 have hs := hr6.shape.cells
 refine ret_cell r rfl rfl h_b1 (k := 9) hs.1 ta158 ?_
 rw [← hs.2.2]
 exact rfin hF hB hr6 u8 (by omega) (by omega) (by omega)

def D.alloc_grant_1 (c0 : Plan) (c1 : Int) (c2 : Int) (a0 : Int) : T Grant := (D.prog_Store_Grant (D.plan_Plan_State c0 c1) (D.state_State_Word (D.state_State_Live ((D.state_Of a0).1) c2)) (fun _ => (D.alloc_grant_1_1 c1 ((D.state_Of a0).1))))

theorem c_alloc_grant_1 {n : Nat} {F : Nat → Prop} {w0 : World} (hF : ∀ b, F b → b < w0.heap.size)
    (c0 : Plan) {c0_b : Nat} (c0_F : F c0_b) (c0_h : w0.heap[c0_b]? = some (.cells ((planC c0)).toArray 25 (0, 0))) (c1 : Int) {c1_b : Nat} (c1_F : F c1_b) (c1_h : w0.heap[c1_b]? = some (.cells ([(.int .i64 c1)]).toArray 3 (0, 0))) (c2 : Int) {c2_b : Nat} (c2_F : F c2_b) (c2_h : w0.heap[c2_b]? = some (.cells ([(.int .i64 c2)]).toArray 3 (0, 0))) (a0 : Int) :
    Calls Tryz.prog 282 #[.int .u64 a0, .pointer (some ⟨c0_b, 0, none⟩), .pointer (some ⟨c1_b, 0, none⟩), .pointer (some ⟨c2_b, 0, none⟩)] w0 (RepRes Tryz.prog encGrant n (D.alloc_grant_1 c0 c1 c2 a0) F w0) := by
 refine enter Tryz.func282 rfl 22 rfl rfl fun fr r => ?_
 have hB := Below.refl w0.heap.size w0
 have l_c0_b := lt_of_block c0_h
 have l_c1_b := lt_of_block c1_h
 have l_c2_b := lt_of_block c2_h
 refine wsr ?_
 refine seq_new (.cells (progCells false encGrant.zero 0 0 0 0 .nilFunc) 158 (0, 0)) r (fun R => y_alloc tz158) rfl fun fr b1 w2 n3 r => ?_
 obtain ⟨e_b1, z_w2, h_b1, hB, zB⟩ := n3.all hB
 refine wn ?_
 refine wsr ?_
 refine seq_val (U a0) r (fun R => y_move r rfl) rfl fun fr r => ?_
 refine seq_call r (c_state_Of w2 a0) (fun R hc => y_call r rfl cl67 hc) rfl ?_
 rintro _ w4 ⟨rfl, hb⟩
 refine ⟨_, rfl, fun fr r => ?_⟩
 have z_w4 := hb.size
 have h_b1 := keep hb h_b1
 obtain ⟨hB, zB⟩ := bon hb hB
 refine seq_val (.tuple #[(.agg (stateC (D.state_Of a0).1).toArray), (.bool (D.state_Of a0).2)]) r (fun R => y_move r rfl) rfl fun fr r => ?_
 refine seq_val (.agg (stateC (D.state_Of a0).1).toArray) r (fun R => y_extract r (vs := #[(.agg (stateC (D.state_Of a0).1).toArray), (.bool (D.state_Of a0).2)]) rfl rfl) rfl fun fr r => ?_
 refine seq_val (.bool (D.state_Of a0).2) r (fun R => y_extract r (vs := #[(.agg (stateC (D.state_Of a0).1).toArray), (.bool (D.state_Of a0).2)]) rfl rfl) rfl fun fr r => ?_
 refine seq_new (.cells ((stateC (⟨0, 0, 0⟩ : State))).toArray 118 (0, 0)) r (fun R => y_alloc tz118) rfl fun fr b5 w6 n7 r => ?_
 have h_b1 := keep n7.below h_b1
 obtain ⟨e_b5, z_w6, h_b5, hB, zB⟩ := n7.all hB
 refine seq_upd (.cells ((stateC ((D.state_Of a0).1))).toArray 118 (0, 0)) r (fun R => y_store r (o := 0) (v := (.agg (stateC (D.state_Of a0).1).toArray)) rfl rfl h_b5 ts118 (Nat.le_of_ble_eq_true rfl) rfl rfl) rfl fun fr w8 u9 r => ?_
 have z_w8 := u9.size
 have h_b1 := u9.keep h_b1 (by omega)
 have h_b5 := u9.at_
 obtain ⟨hB, zB⟩ := u9.on hB (by omega)
 refine seq_val (.bool (D.state_Of a0).2) r (fun R => y_assign r rfl) rfl fun fr r => ?_
 refine wn ?_
 refine wp_seq ?_
 refine wp_drawnF 8 [.val (.agg (planC c0).toArray), .val (I c1), .val (I (D.plan_Plan_State c0 c1)), .val (.agg (stateC (D.state_Of a0).1).toArray), .val (I c2), .val (.agg (stateC (D.state_State_Live ((D.state_Of a0).1) c2)).toArray), .val (U (D.state_State_Word (D.state_State_Live ((D.state_Of a0).1) c2))), .val (.func (.func 285) #[] #[.pointer (some ⟨c1_b, 0, none⟩), .pointer (some ⟨b5, 0, none⟩)])] mixed r (by kernel_rfl) (within_cons (by exact trivial) (within_cons (by exact trivial) (within_cons (by exact trivial) (within_cons (by exact trivial) (within_cons (by exact trivial) (within_cons (by exact trivial) (within_cons (by exact trivial) (within_cons (by exact trivial) within_nil)))))))) ?_ ?_
 ·
  refine ec r (fun _ u _ b d s => y_load_agg s (cs := (planC c0)) (n := 6) rfl (keep2 hB b c0_h) ta25 rfl bz) ?_
  refine ec r (fun _ u _ b d s => y_load_one s rfl (keep2 hB b c1_h) to3 rfl bz) ?_
  refine ec r (fun fr1 u w' hb' hd r' => y_call r' (args := [(.agg (planC c0).toArray), (I c1)]) (lc hd.1 (lc hd.2.1 l0)) cl68 ((c_plan_Plan_State _ c0 c1).mono (by rintro _ w2 ⟨rfl, hb2⟩; exact ⟨_, rfl, hb2, rfl⟩))) ?_
  refine ec r (fun _ u _ b d s => y_load_agg s (cs := (stateC ((D.state_Of a0).1))) (n := 3) rfl (keep b h_b5) ta118 rfl bz) ?_
  refine ec r (fun _ u _ b d s => y_load_one s rfl (keep2 hB b c2_h) to3 rfl bz) ?_
  refine ec r (fun fr1 u w' hb' hd r' => y_call r' (args := [(.agg (stateC (D.state_Of a0).1).toArray), (I c2)]) (lc hd.1 (lc hd.2.1 l0)) cl284 ((c_state_State_Live _ ((D.state_Of a0).1) c2).mono (by rintro _ w2 ⟨rfl, hb2⟩; exact ⟨_, rfl, hb2, rfl⟩))) ?_
  refine ec r (fun fr1 u w' hb' hd r' => y_call r' (args := [(.agg (stateC (D.state_State_Live ((D.state_Of a0).1) c2)).toArray)]) (lc hd.1 l0) cl91 ((c_state_State_Word _ (D.state_State_Live ((D.state_Of a0).1) c2)).mono (by rintro _ w2 ⟨rfl, hb2⟩; exact ⟨_, rfl, hb2, rfl⟩))) ?_
  refine ec r (fun _ u _ b d s => y_makeFunc s (v := (.func (.func 285) #[] #[.pointer (some ⟨c1_b, 0, none⟩), .pointer (some ⟨b5, 0, none⟩)])) rfl bz) ?_
  exact each_nil
 ·
  intro fr u w10 hb hΦ hne r
  have r := r.congr (sc (hΦ 7 (by decide)) (sc (hΦ 6 (by decide)) (sc (hΦ 5 (by decide)) (sc (hΦ 4 (by decide)) (sc (hΦ 3 (by decide)) (sc (hΦ 2 (by decide)) (sc (hΦ 1 (by decide)) (sc (hΦ 0 (by decide)) rfl))))))))
  have z_w10 := hb.size
  have h_b1 := keep hb h_b1
  have h_b5 := keep hb h_b5
  obtain ⟨hB, zB⟩ := bon hb hB
  have hF1 := fgrow hF hB b1
  have f11 : ((fun b => F b ∨ (w0.heap.size ≤ b ∧ b < w10.heap.size ∧ b ≠ b1))) c1_b := (.inl c1_F)
  have f12 : ((fun b => F b ∨ (w0.heap.size ≤ b ∧ b < w10.heap.size ∧ b ≠ b1))) b5 := (.inr ⟨by omega, by omega, by omega⟩)
  refine seq_call r (c_prog_Store_Grant (F := (fun b => F b ∨ (w0.heap.size ≤ b ∧ b < w10.heap.size ∧ b ≠ b1))) (n := n) hF1 (D.plan_Plan_State c0 c1) (D.state_State_Word (D.state_State_Live ((D.state_Of a0).1) c2)) ⟨285, [], [.pointer (some ⟨c1_b, 0, none⟩), .pointer (some ⟨b5, 0, none⟩)], cl285, rfl, fun m hm _ w' hs hz => c_alloc_grant_1_1 (fun b hb => Nat.lt_of_lt_of_le (hF1 b hb) hz) c1 f11 (hs.at_ f11 (keep hB c1_h)) ((D.state_Of a0).1) f12 (hs.at_ f12 h_b5)⟩) (fun R hc => y_call r rfl cl283 hc) rfl ?_
  rintro _ w13 ⟨v14, rfl, hb, hr15⟩
  refine ⟨_, rfl, fun fr r => ?_⟩
  have z_w13 := hb.size
  have h_b1 := keep hb h_b1
  have h_b5 := keep hb h_b5
  obtain ⟨hB, zB⟩ := bon hb hB
  refine seq_upd (.cells v14.cells 158 (0, 0)) r (fun R => y_storep r hr15.shape rfl rfl h_b1 ts158 rfl) rfl fun fr w16 u17 r => ?_
  have z_w16 := u17.size
  have h_b5 := u17.keep h_b5 (by omega)
  have h_b1 := u17.at_
  obtain ⟨hB, zB⟩ := u17.on hB (by omega)
  refine wn ?_
  refine wp_ret ?_
  have hs := hr15.shape.cells
  refine ret_cell r rfl rfl h_b1 (k := 9) hs.1 ta158 ?_
  rw [← hs.2.2]
  exact rfin hF hB hr15 u17 (by omega) (by omega) (by omega)

def D.alloc_grant (a0 : Plan) (a1 : Int) (a2 : Int) : T Grant := (D.prog_Load_Grant (D.plan_Plan_State a0 a1) (fun x => (D.alloc_grant_1 a0 a1 a2 x)))

theorem c_alloc_grant {n : Nat} {F : Nat → Prop} {w0 : World} (hF : ∀ b, F b → b < w0.heap.size)
    (a0 : Plan) (a1 : Int) (a2 : Int) :
    Calls Tryz.prog 189 #[.agg (planC a0).toArray, .int .i64 a1, .int .i64 a2] w0 (RepRes Tryz.prog encGrant n (D.alloc_grant a0 a1 a2) F w0) := by
 refine enter Tryz.func189 rfl 12 rfl rfl fun fr r => ?_
 have hB := Below.refl w0.heap.size w0
 refine wsr ?_
 refine seq_new (.cells ((planC a0)).toArray 25 (0, 0)) r (fun R => y_box r (v := (.agg (planC a0).toArray)) rfl) rfl fun fr b1 w2 n3 r => ?_
 obtain ⟨e_b1, z_w2, h_b1, hB, zB⟩ := n3.all hB
 refine seq_new (.cells #[(I a1)] 3 (0, 0)) r (fun R => y_box r (v := (I a1)) rfl) rfl fun fr b4 w5 n6 r => ?_
 have h_b1 := keep n6.below h_b1
 obtain ⟨e_b4, z_w5, h_b4, hB, zB⟩ := n6.all hB
 refine seq_new (.cells #[(I a2)] 3 (0, 0)) r (fun R => y_box r (v := (I a2)) rfl) rfl fun fr b7 w8 n9 r => ?_
 have h_b1 := keep n9.below h_b1
 have h_b4 := keep n9.below h_b4
 obtain ⟨e_b7, z_w8, h_b7, hB, zB⟩ := n9.all hB
 refine seq_new (.cells (progCells false encGrant.zero 0 0 0 0 .nilFunc) 158 (0, 0)) r (fun R => y_alloc tz158) rfl fun fr b10 w11 n12 r => ?_
 have h_b1 := keep n12.below h_b1
 have h_b4 := keep n12.below h_b4
 have h_b7 := keep n12.below h_b7
 obtain ⟨e_b10, z_w11, h_b10, hB, zB⟩ := n12.all hB
 refine wn ?_
 refine wsr ?_
 refine seq_val (.agg (planC a0).toArray) r (fun R => y_load_agg r (cs := (planC a0)) (n := 6) rfl h_b1 ta25 rfl) rfl fun fr r => ?_
 refine seq_val (I a1) r (fun R => y_load_one r rfl h_b4 to3 rfl) rfl fun fr r => ?_
 refine seq_call r (c_plan_Plan_State w11 a0 a1) (fun R hc => y_call r rfl cl68 hc) rfl ?_
 rintro _ w13 ⟨rfl, hb⟩
 refine ⟨_, rfl, fun fr r => ?_⟩
 have z_w13 := hb.size
 have h_b1 := keep hb h_b1
 have h_b4 := keep hb h_b4
 have h_b7 := keep hb h_b7
 have h_b10 := keep hb h_b10
 obtain ⟨hB, zB⟩ := bon hb hB
 refine seq_val (.func (.func 282) #[] #[.pointer (some ⟨b1, 0, none⟩), .pointer (some ⟨b4, 0, none⟩), .pointer (some ⟨b7, 0, none⟩)]) r (fun R => y_makeFunc r rfl) rfl fun fr r => ?_
 have hF1 := fgrow hF hB b10
 have f14 : ((fun b => F b ∨ (w0.heap.size ≤ b ∧ b < w13.heap.size ∧ b ≠ b10))) b1 := (.inr ⟨by omega, by omega, by omega⟩)
 have f15 : ((fun b => F b ∨ (w0.heap.size ≤ b ∧ b < w13.heap.size ∧ b ≠ b10))) b4 := (.inr ⟨by omega, by omega, by omega⟩)
 have f16 : ((fun b => F b ∨ (w0.heap.size ≤ b ∧ b < w13.heap.size ∧ b ≠ b10))) b7 := (.inr ⟨by omega, by omega, by omega⟩)
 refine seq_call r (c_prog_Load_Grant (F := (fun b => F b ∨ (w0.heap.size ≤ b ∧ b < w13.heap.size ∧ b ≠ b10))) (n := n) hF1 (D.plan_Plan_State a0 a1) ⟨282, [], [.pointer (some ⟨b1, 0, none⟩), .pointer (some ⟨b4, 0, none⟩), .pointer (some ⟨b7, 0, none⟩)], cl282, rfl, fun m hm x w' hs hz => c_alloc_grant_1 (fun b hb => Nat.lt_of_lt_of_le (hF1 b hb) hz) a0 f14 (hs.at_ f14 h_b1) a1 f15 (hs.at_ f15 h_b4) a2 f16 (hs.at_ f16 h_b7) x⟩) (fun R hc => y_call r rfl cl281 hc) rfl ?_
 rintro _ w17 ⟨v18, rfl, hb, hr19⟩
 refine ⟨_, rfl, fun fr r => ?_⟩
 have z_w17 := hb.size
 have h_b1 := keep hb h_b1
 have h_b4 := keep hb h_b4
 have h_b7 := keep hb h_b7
 have h_b10 := keep hb h_b10
 obtain ⟨hB, zB⟩ := bon hb hB
 refine seq_upd (.cells v18.cells 158 (0, 0)) r (fun R => y_storep r hr19.shape rfl rfl h_b10 ts158 rfl) rfl fun fr w20 u21 r => ?_
 have z_w20 := u21.size
 have h_b1 := u21.keep h_b1 (by omega)
 have h_b4 := u21.keep h_b4 (by omega)
 have h_b7 := u21.keep h_b7 (by omega)
 have h_b10 := u21.at_
 obtain ⟨hB, zB⟩ := u21.on hB (by omega)
 refine wn ?_
 refine wp_ret ?_
 have hs := hr19.shape.cells
 refine ret_cell r rfl rfl h_b10 (k := 9) hs.1 ta158 ?_
 rw [← hs.2.2]
 exact rfin hF hB hr19 u21 (by omega) (by omega) (by omega)

def D.alloc_New_1 (c0 : Plan) (c1 : Int) (a0 : Int) : T Grant := (bif (a0 == (-1)) then (D.prog_Done_Grant (⟨(-1), 0, 4⟩ : Grant)) else (D.alloc_grant c0 a0 c1))

theorem c_alloc_New_1 {n : Nat} {F : Nat → Prop} {w0 : World} (hF : ∀ b, F b → b < w0.heap.size)
    (c0 : Plan) {c0_b : Nat} (c0_F : F c0_b) (c0_h : w0.heap[c0_b]? = some (.cells ((planC c0)).toArray 25 (0, 0))) (c1 : Int) {c1_b : Nat} (c1_F : F c1_b) (c1_h : w0.heap[c1_b]? = some (.cells ([(.int .i64 c1)]).toArray 3 (0, 0))) (a0 : Int) :
    Calls Tryz.prog 187 #[.int .i64 a0, .pointer (some ⟨c0_b, 0, none⟩), .pointer (some ⟨c1_b, 0, none⟩)] w0 (RepRes Tryz.prog encGrant n (D.alloc_New_1 c0 c1 a0) F w0) := by
 refine enter Tryz.func187 rfl 13 rfl rfl fun fr r => ?_
 have hB := Below.refl w0.heap.size w0
 have l_c0_b := lt_of_block c0_h
 have l_c1_b := lt_of_block c1_h
 refine wsr ?_
 refine seq_new (.cells (progCells false encGrant.zero 0 0 0 0 .nilFunc) 158 (0, 0)) r (fun R => y_alloc tz158) rfl fun fr b1 w2 n3 r => ?_
 obtain ⟨e_b1, z_w2, h_b1, hB, zB⟩ := n3.all hB
 refine wn ?_
 refine wp_seq ?_
 refine wsr ?_
 refine seq_val (I a0) r (fun R => y_move r rfl) rfl fun fr r => ?_
 refine seq_val _ r (fun R => y_bin r rfl rfl rfl rfl) rfl fun fr r => ?_
 refine wn ?_
 refine wp_cond_split (t := (a0 == (-1))) (r.ev rfl) (fun h4 => ?_) (fun h4 => ?_)
 ·
  refine wsr ?_
  refine seq_val (.agg (grantC (⟨(-1), 0, 4⟩ : Grant)).toArray) r (fun R => y_build r (by kernel_rfl)) rfl fun fr r => ?_
  have hF1 := fgrow hF hB b1
  refine seq_call r (c_prog_Done_Grant (F := (fun b => F b ∨ (w0.heap.size ≤ b ∧ b < w2.heap.size ∧ b ≠ b1))) (n := n) hF1 (⟨(-1), 0, 4⟩ : Grant)) (fun R hc => y_call r rfl cl188 hc) rfl ?_
  rintro _ w5 ⟨v6, rfl, hb, hr7⟩
  refine ⟨_, rfl, fun fr r => ?_⟩
  have z_w5 := hb.size
  have h_b1 := keep hb h_b1
  obtain ⟨hB, zB⟩ := bon hb hB
  refine seq_upd (.cells v6.cells 158 (0, 0)) r (fun R => y_storep r hr7.shape rfl rfl h_b1 ts158 rfl) rfl fun fr w8 u9 r => ?_
  have z_w8 := u9.size
  have h_b1 := u9.at_
  obtain ⟨hB, zB⟩ := u9.on hB (by omega)
  refine wn ?_
  refine wp_ret ?_
  have hd : D.alloc_New_1 c0 c1 a0 = (D.prog_Done_Grant (⟨(-1), 0, 4⟩ : Grant)) := (cond_t h4).trans (rfl)
  have hs := hr7.shape.cells
  refine ret_cell r rfl rfl h_b1 (k := 9) hs.1 ta158 ?_
  rw [← hs.2.2, hd]
  exact rfin hF hB hr7 u9 (by omega) (by omega) (by omega)
 ·
  refine wp_skip ?_
  refine wsr ?_
  refine seq_val (.agg (planC c0).toArray) r (fun R => y_load_agg r (cs := (planC c0)) (n := 6) rfl (keep hB c0_h) ta25 rfl) rfl fun fr r => ?_
  refine seq_val (I a0) r (fun R => y_move r rfl) rfl fun fr r => ?_
  refine seq_val (I c1) r (fun R => y_load_one r rfl (keep hB c1_h) to3 rfl) rfl fun fr r => ?_
  have hF1 := fgrow hF hB b1
  refine seq_call r (c_alloc_grant (F := (fun b => F b ∨ (w0.heap.size ≤ b ∧ b < w2.heap.size ∧ b ≠ b1))) (n := n) hF1 c0 a0 c1) (fun R hc => y_call r rfl cl189 hc) rfl ?_
  rintro _ w10 ⟨v11, rfl, hb, hr12⟩
  refine ⟨_, rfl, fun fr r => ?_⟩
  have z_w10 := hb.size
  have h_b1 := keep hb h_b1
  obtain ⟨hB, zB⟩ := bon hb hB
  refine seq_upd (.cells v11.cells 158 (0, 0)) r (fun R => y_storep r hr12.shape rfl rfl h_b1 ts158 rfl) rfl fun fr w13 u14 r => ?_
  have z_w13 := u14.size
  have h_b1 := u14.at_
  obtain ⟨hB, zB⟩ := u14.on hB (by omega)
  refine wn ?_
  refine wp_ret ?_
  have hd : D.alloc_New_1 c0 c1 a0 = (D.alloc_grant c0 a0 c1) := (cond_f h4).trans (rfl)
  have hs := hr12.shape.cells
  refine ret_cell r rfl rfl h_b1 (k := 9) hs.1 ta158 ?_
  rw [← hs.2.2, hd]
  exact rfin hF hB hr12 u14 (by omega) (by omega) (by omega)

def D.alloc_New_2_1 (j : Nat) (c0 : Plan) (c1 : (Int → T Grant)) (a0 : Int) : T Grant := (T.bind (D.free_Pop j c0) c1)

theorem c_alloc_New_2_1 {n : Nat} {F : Nat → Prop} {j : Nat} {w0 : World} (hF : ∀ b, F b → b < w0.heap.size) (hj : n < j)
    (c0 : Plan) {c0_b : Nat} (c0_F : F c0_b) (c0_h : w0.heap[c0_b]? = some (.cells ((planC c0)).toArray 25 (0, 0))) {c1_f : FuncId} {c1_1 c1_2 : List Value} {c1 : (Int → T Grant)} {c1_b : Nat} (c1_F : F c1_b) (c1_h : w0.heap[c1_b]? = some (.cells #[.func (.func c1_f) c1_1.toArray c1_2.toArray] 246 (0, 0))) (c1_n : FnT Tryz.prog encGrant i64 (n + 1) F w0 (.func (.func c1_f) c1_1.toArray c1_2.toArray) c1) (a0 : Int) :
    Calls Tryz.prog 194 #[.int .i64 a0, .pointer (some ⟨c0_b, 0, none⟩), .pointer (some ⟨c1_b, 0, none⟩)] w0 (RepRes Tryz.prog encGrant n (D.alloc_New_2_1 j c0 c1 a0) F w0) := by
 refine enter Tryz.func194 rfl 9 rfl rfl fun fr r => ?_
 have hB := Below.refl w0.heap.size w0
 have l_c0_b := lt_of_block c0_h
 have l_c1_b := lt_of_block c1_h
 refine wsr ?_
 refine seq_new (.cells (progCells false encGrant.zero 0 0 0 0 .nilFunc) 158 (0, 0)) r (fun R => y_alloc tz158) rfl fun fr b1 w2 n3 r => ?_
 obtain ⟨e_b1, z_w2, h_b1, hB, zB⟩ := n3.all hB
 refine wn ?_
 refine wp_seq ?_
 have hF1 := fgrow hF hB b1
 refine wp_drawnF 3 [.val (.agg (planC c0).toArray), .pred (PrepP Tryz.prog encInt n (D.free_Pop j c0) ((fun b => F b ∨ (w0.heap.size ≤ b ∧ b < w2.heap.size ∧ b ≠ b1))) w2) (PrepP.st hF1), .val (.func (.func c1_f) c1_1.toArray c1_2.toArray)] mixed r (by kernel_rfl) (within_cons (by exact trivial) (within_cons (by exact trivial) (within_cons (by exact trivial) within_nil))) ?_ ?_
 ·
  refine ec r (fun _ u _ b d s => y_load_agg s (cs := (planC c0)) (n := 6) rfl (keep2 hB b c0_h) ta25 rfl bz) ?_
  refine ec r (fun fr1 u w' hb' hd r' => y_call r' (args := [(.agg (planC c0).toArray)]) (lc hd.1 l0) cl191 (((c_free_Pop (k := j) (n := n) (by omega)) ((fun b => F b ∨ (w0.heap.size ≤ b ∧ b < w2.heap.size ∧ b ≠ b1))) _ (fun b h => Nat.lt_of_lt_of_le (hF1 b h) hb'.size) c0).mono (by rintro _ w2 ⟨y, rfl, hb2, hr2⟩; exact ⟨_, rfl, hb2, PrepP.of (drB hb') hb2 hr2⟩))) ?_
  refine ec r (fun _ u _ b d s => y_load_one s rfl (keep2 hB b c1_h) to246 rfl bz) ?_
  exact each_nil
 ·
  intro fr u w4 hb hΦ hne r
  obtain ⟨v5, hv1⟩ : ∃ v, v = u 1 := ⟨_, rfl⟩
  have g1 : u 1 = v5 := hv1.symm
  have hr6 := (hΦ 1 (by decide)).2
  rw [g1] at hr6
  have r := r.congr (sc (hΦ 2 (by decide)) (sc g1 (sc (hΦ 0 (by decide)) rfl)))
  have z_w4 := hb.size
  have h_b1 := keep hb h_b1
  obtain ⟨hB, zB⟩ := bon hb hB
  have hF1 := fgrow hF hB b1
  refine seq_call r (c_prog_Then_int_Grant_le (F := (fun b => F b ∨ (w0.heap.size ≤ b ∧ b < w4.heap.size ∧ b ≠ b1))) (n := n) hF1 (Rep.mono (by rintro b (h | h); (rcases h with h | ⟨h1, h2, h3⟩; exact .inl h; exact .inr ⟨h1, by omega, h3⟩); exact .inr ⟨by omega, by omega, by omega⟩) (Same.refl _ _) (by omega) n _ _ hr6) (c1_n.mono (by omega) (fun b h => .inl h) (Same.below hB hF) hB.size)) (fun R hc => y_call r rfl cl190 hc) rfl ?_
  rintro _ w7 ⟨v8, rfl, hb, hr9⟩
  refine ⟨_, rfl, fun fr r => ?_⟩
  have z_w7 := hb.size
  have h_b1 := keep hb h_b1
  obtain ⟨hB, zB⟩ := bon hb hB
  refine seq_upd (.cells v8.cells 158 (0, 0)) r (fun R => y_storep r hr9.shape rfl rfl h_b1 ts158 rfl) rfl fun fr w10 u11 r => ?_
  have z_w10 := u11.size
  have h_b1 := u11.at_
  obtain ⟨hB, zB⟩ := u11.on hB (by omega)
  refine wn ?_
  refine wp_ret ?_
  have hs := hr9.shape.cells
  refine ret_cell r rfl rfl h_b1 (k := 9) hs.1 ta158 ?_
  rw [← hs.2.2]
  exact rfin hF hB hr9 u11 (by omega) (by omega) (by omega)

def D.alloc_New_2 (j : Nat) (c0 : Plan) (c1 : Int) (c2 : Int) (c3 : (Int → T Grant)) (a0 : Int) : T Grant := (bif (a0 != (-1)) then (D.alloc_grant c0 a0 c1) else (T.bind (D.retire_Scan j c0 c2) (fun x => (D.alloc_New_2_1 j c0 c3 x))))

theorem c_alloc_New_2 {n : Nat} {F : Nat → Prop} {j : Nat} {w0 : World} (hF : ∀ b, F b → b < w0.heap.size) (hj : n < j)
    (c0 : Plan) {c0_b : Nat} (c0_F : F c0_b) (c0_h : w0.heap[c0_b]? = some (.cells ((planC c0)).toArray 25 (0, 0))) (c1 : Int) {c1_b : Nat} (c1_F : F c1_b) (c1_h : w0.heap[c1_b]? = some (.cells ([(.int .i64 c1)]).toArray 3 (0, 0))) (c2 : Int) {c2_b : Nat} (c2_F : F c2_b) (c2_h : w0.heap[c2_b]? = some (.cells ([(.int .i64 c2)]).toArray 3 (0, 0))) {c3_f : FuncId} {c3_1 c3_2 : List Value} {c3 : (Int → T Grant)} {c3_b : Nat} (c3_F : F c3_b) (c3_h : w0.heap[c3_b]? = some (.cells #[.func (.func c3_f) c3_1.toArray c3_2.toArray] 246 (0, 0))) (c3_n : FnT Tryz.prog encGrant i64 (n + 1) F w0 (.func (.func c3_f) c3_1.toArray c3_2.toArray) c3) (a0 : Int) :
    Calls Tryz.prog 192 #[.int .i64 a0, .pointer (some ⟨c0_b, 0, none⟩), .pointer (some ⟨c1_b, 0, none⟩), .pointer (some ⟨c2_b, 0, none⟩), .pointer (some ⟨c3_b, 0, none⟩)] w0 (RepRes Tryz.prog encGrant n (D.alloc_New_2 j c0 c1 c2 c3 a0) F w0) := by
 refine enter Tryz.func192 rfl 18 rfl rfl fun fr r => ?_
 have hB := Below.refl w0.heap.size w0
 have l_c0_b := lt_of_block c0_h
 have l_c1_b := lt_of_block c1_h
 have l_c2_b := lt_of_block c2_h
 have l_c3_b := lt_of_block c3_h
 refine wsr ?_
 refine seq_new (.cells (progCells false encGrant.zero 0 0 0 0 .nilFunc) 158 (0, 0)) r (fun R => y_alloc tz158) rfl fun fr b1 w2 n3 r => ?_
 obtain ⟨e_b1, z_w2, h_b1, hB, zB⟩ := n3.all hB
 refine wn ?_
 refine wp_seq ?_
 refine wsr ?_
 refine seq_val (I a0) r (fun R => y_move r rfl) rfl fun fr r => ?_
 refine seq_val _ r (fun R => y_bin r rfl rfl rfl rfl) rfl fun fr r => ?_
 refine wn ?_
 refine wp_cond_split (t := (a0 != (-1))) (r.ev rfl) (fun h4 => ?_) (fun h4 => ?_)
 ·
  refine wsr ?_
  refine seq_val (.agg (planC c0).toArray) r (fun R => y_load_agg r (cs := (planC c0)) (n := 6) rfl (keep hB c0_h) ta25 rfl) rfl fun fr r => ?_
  refine seq_val (I a0) r (fun R => y_move r rfl) rfl fun fr r => ?_
  refine seq_val (I c1) r (fun R => y_load_one r rfl (keep hB c1_h) to3 rfl) rfl fun fr r => ?_
  have hF1 := fgrow hF hB b1
  refine seq_call r (c_alloc_grant (F := (fun b => F b ∨ (w0.heap.size ≤ b ∧ b < w2.heap.size ∧ b ≠ b1))) (n := n) hF1 c0 a0 c1) (fun R hc => y_call r rfl cl189 hc) rfl ?_
  rintro _ w5 ⟨v6, rfl, hb, hr7⟩
  refine ⟨_, rfl, fun fr r => ?_⟩
  have z_w5 := hb.size
  have h_b1 := keep hb h_b1
  obtain ⟨hB, zB⟩ := bon hb hB
  refine seq_upd (.cells v6.cells 158 (0, 0)) r (fun R => y_storep r hr7.shape rfl rfl h_b1 ts158 rfl) rfl fun fr w8 u9 r => ?_
  have z_w8 := u9.size
  have h_b1 := u9.at_
  obtain ⟨hB, zB⟩ := u9.on hB (by omega)
  refine wn ?_
  refine wp_ret ?_
  have hd : D.alloc_New_2 j c0 c1 c2 c3 a0 = (D.alloc_grant c0 a0 c1) := (cond_t h4).trans (rfl)
  have hs := hr7.shape.cells
  refine ret_cell r rfl rfl h_b1 (k := 9) hs.1 ta158 ?_
  rw [← hs.2.2, hd]
  exact rfin hF hB hr7 u9 (by omega) (by omega) (by omega)
 ·
  refine wp_skip ?_
  refine wsr ?_
  refine seq_val (.agg (planC c0).toArray) r (fun R => y_load_agg r (cs := (planC c0)) (n := 6) rfl (keep hB c0_h) ta25 rfl) rfl fun fr r => ?_
  refine seq_val (I c2) r (fun R => y_load_one r rfl (keep hB c2_h) to3 rfl) rfl fun fr r => ?_
  have hF1 := fgrow hF hB b1
  refine seq_call r (c_retire_Scan (j := j) (F := (fun b => F b ∨ (w0.heap.size ≤ b ∧ b < w2.heap.size ∧ b ≠ b1))) (n := n) hF1 (by omega) c0 c2) (fun R hc => y_call r rfl cl193 hc) rfl ?_
  rintro _ w10 ⟨v11, rfl, hb, hr12⟩
  refine ⟨_, rfl, fun fr r => ?_⟩
  have z_w10 := hb.size
  have h_b1 := keep hb h_b1
  obtain ⟨hB, zB⟩ := bon hb hB
  refine seq_val (.func (.func 194) #[] #[.pointer (some ⟨c0_b, 0, none⟩), .pointer (some ⟨c3_b, 0, none⟩)]) r (fun R => y_makeFunc r rfl) rfl fun fr r => ?_
  have hF1 := fgrow hF hB b1
  have f13 : ((fun b => F b ∨ (w0.heap.size ≤ b ∧ b < w10.heap.size ∧ b ≠ b1))) c0_b := (.inl c0_F)
  have f14 : ((fun b => F b ∨ (w0.heap.size ≤ b ∧ b < w10.heap.size ∧ b ≠ b1))) c3_b := (.inl c3_F)
  refine seq_call r (c_prog_Then_int_Grant_le (F := (fun b => F b ∨ (w0.heap.size ≤ b ∧ b < w10.heap.size ∧ b ≠ b1))) (n := n) hF1 (Rep.mono (by rintro b (h | h); (rcases h with h | ⟨h1, h2, h3⟩; exact .inl h; exact .inr ⟨h1, by omega, h3⟩); exact .inr ⟨by omega, by omega, by omega⟩) (Same.refl _ _) (by omega) n _ _ hr12) ⟨194, [], [.pointer (some ⟨c0_b, 0, none⟩), .pointer (some ⟨c3_b, 0, none⟩)], cl194, rfl, fun m hm x w' hs hz => c_alloc_New_2_1 (j := j) (fun b hb => Nat.lt_of_lt_of_le (hF1 b hb) hz) (by omega) c0 f13 (hs.at_ f13 (keep hB c0_h)) f14 (hs.at_ f14 (keep hB c3_h)) (c3_n.mono (by omega) (fun b h => .inl h) ((Same.below hB hF).trans (hs.sub (fun b h => .inl h))) (Nat.le_trans hB.size hz)) x⟩) (fun R hc => y_call r rfl cl190 hc) rfl ?_
  rintro _ w15 ⟨v16, rfl, hb, hr17⟩
  refine ⟨_, rfl, fun fr r => ?_⟩
  have z_w15 := hb.size
  have h_b1 := keep hb h_b1
  obtain ⟨hB, zB⟩ := bon hb hB
  refine seq_upd (.cells v16.cells 158 (0, 0)) r (fun R => y_storep r hr17.shape rfl rfl h_b1 ts158 rfl) rfl fun fr w18 u19 r => ?_
  have z_w18 := u19.size
  have h_b1 := u19.at_
  obtain ⟨hB, zB⟩ := u19.on hB (by omega)
  refine wn ?_
  refine wp_ret ?_
  have hd : D.alloc_New_2 j c0 c1 c2 c3 a0 = (T.bind (D.retire_Scan j c0 c2) (fun x => (D.alloc_New_2_1 j c0 c3 x))) := (cond_f h4).trans (rfl)
  have hs := hr17.shape.cells
  refine ret_cell r rfl rfl h_b1 (k := 9) hs.1 ta158 ?_
  rw [← hs.2.2, hd]
  exact rfin hF hB hr17 u19 (by omega) (by omega) (by omega)

def D.alloc_New (j : Nat) (a0 : Plan) (a1 : Int) (a2 : Int) : T Grant := (T.bind (D.free_Pop j a0) (fun x => (D.alloc_New_2 j a0 a2 a1 (fun x => (D.alloc_New_1 a0 a2 x)) x)))

theorem c_alloc_New {n : Nat} {F : Nat → Prop} {j : Nat} {w0 : World} (hF : ∀ b, F b → b < w0.heap.size) (hj : n < j)
    (a0 : Plan) (a1 : Int) (a2 : Int) :
    Calls Tryz.prog 89 #[.agg (planC a0).toArray, .int .i64 a1, .int .i64 a2] w0 (RepRes Tryz.prog encGrant n (D.alloc_New j a0 a1 a2) F w0) := by
 refine enter Tryz.func89 rfl 13 rfl rfl fun fr r => ?_
 have hB := Below.refl w0.heap.size w0
 refine wsr ?_
 refine seq_new (.cells ((planC a0)).toArray 25 (0, 0)) r (fun R => y_box r (v := (.agg (planC a0).toArray)) rfl) rfl fun fr b1 w2 n3 r => ?_
 obtain ⟨e_b1, z_w2, h_b1, hB, zB⟩ := n3.all hB
 refine seq_new (.cells #[(I a1)] 3 (0, 0)) r (fun R => y_box r (v := (I a1)) rfl) rfl fun fr b4 w5 n6 r => ?_
 have h_b1 := keep n6.below h_b1
 obtain ⟨e_b4, z_w5, h_b4, hB, zB⟩ := n6.all hB
 refine seq_new (.cells #[(I a2)] 3 (0, 0)) r (fun R => y_box r (v := (I a2)) rfl) rfl fun fr b7 w8 n9 r => ?_
 have h_b1 := keep n9.below h_b1
 have h_b4 := keep n9.below h_b4
 obtain ⟨e_b7, z_w8, h_b7, hB, zB⟩ := n9.all hB
 refine seq_new (.cells (progCells false encGrant.zero 0 0 0 0 .nilFunc) 158 (0, 0)) r (fun R => y_alloc tz158) rfl fun fr b10 w11 n12 r => ?_
 have h_b1 := keep n12.below h_b1
 have h_b4 := keep n12.below h_b4
 have h_b7 := keep n12.below h_b7
 obtain ⟨e_b10, z_w11, h_b10, hB, zB⟩ := n12.all hB
 refine wn ?_
 refine wsr ?_
 refine seq_val (.func (.func 187) #[] #[.pointer (some ⟨b1, 0, none⟩), .pointer (some ⟨b7, 0, none⟩)]) r (fun R => y_makeFunc r rfl) rfl fun fr r => ?_
 refine seq_new (.cells #[.nilFunc] 246 (0, 0)) r (fun R => y_alloc tz246) rfl fun fr b13 w14 n15 r => ?_
 have h_b1 := keep n15.below h_b1
 have h_b4 := keep n15.below h_b4
 have h_b7 := keep n15.below h_b7
 have h_b10 := keep n15.below h_b10
 obtain ⟨e_b13, z_w14, h_b13, hB, zB⟩ := n15.all hB
 refine seq_upd (.cells #[.func (.func 187) #[] #[.pointer (some ⟨b1, 0, none⟩), .pointer (some ⟨b7, 0, none⟩)]] 246 (0, 0)) r (fun R => y_store r (o := 0) (v := (.func (.func 187) #[] #[.pointer (some ⟨b1, 0, none⟩), .pointer (some ⟨b7, 0, none⟩)])) rfl rfl h_b13 ts246 (Nat.le_of_ble_eq_true rfl) rfl rfl) rfl fun fr w16 u17 r => ?_
 have z_w16 := u17.size
 have h_b1 := u17.keep h_b1 (by omega)
 have h_b4 := u17.keep h_b4 (by omega)
 have h_b7 := u17.keep h_b7 (by omega)
 have h_b10 := u17.keep h_b10 (by omega)
 have h_b13 := u17.at_
 obtain ⟨hB, zB⟩ := u17.on hB (by omega)
 refine wn ?_
 refine wsr ?_
 refine seq_val (.agg (planC a0).toArray) r (fun R => y_load_agg r (cs := (planC a0)) (n := 6) rfl h_b1 ta25 rfl) rfl fun fr r => ?_
 have hF1 := fgrow hF hB b10
 refine seq_call r ((c_free_Pop (k := j) (n := n) (by omega)) (fun b => F b ∨ (w0.heap.size ≤ b ∧ b < w16.heap.size ∧ b ≠ b10)) _ hF1 a0) (fun R hc => y_call r rfl cl191 hc) rfl ?_
 rintro _ w18 ⟨v19, rfl, hb, hr20⟩
 refine ⟨_, rfl, fun fr r => ?_⟩
 have z_w18 := hb.size
 have h_b1 := keep hb h_b1
 have h_b4 := keep hb h_b4
 have h_b7 := keep hb h_b7
 have h_b10 := keep hb h_b10
 have h_b13 := keep hb h_b13
 obtain ⟨hB, zB⟩ := bon hb hB
 refine seq_val (.func (.func 192) #[] #[.pointer (some ⟨b1, 0, none⟩), .pointer (some ⟨b7, 0, none⟩), .pointer (some ⟨b4, 0, none⟩), .pointer (some ⟨b13, 0, none⟩)]) r (fun R => y_makeFunc r rfl) rfl fun fr r => ?_
 have hF1 := fgrow hF hB b10
 have f21 : ((fun b => F b ∨ (w0.heap.size ≤ b ∧ b < w18.heap.size ∧ b ≠ b10))) b1 := (.inr ⟨by omega, by omega, by omega⟩)
 have f22 : ((fun b => F b ∨ (w0.heap.size ≤ b ∧ b < w18.heap.size ∧ b ≠ b10))) b7 := (.inr ⟨by omega, by omega, by omega⟩)
 have f23 : ((fun b => F b ∨ (w0.heap.size ≤ b ∧ b < w18.heap.size ∧ b ≠ b10))) b4 := (.inr ⟨by omega, by omega, by omega⟩)
 have f24 : ((fun b => F b ∨ (w0.heap.size ≤ b ∧ b < w18.heap.size ∧ b ≠ b10))) b13 := (.inr ⟨by omega, by omega, by omega⟩)
 have f26 : ((fun b => F b ∨ (w0.heap.size ≤ b ∧ b < w18.heap.size ∧ b ≠ b10))) b1 := (.inr ⟨by omega, by omega, by omega⟩)
 have f27 : ((fun b => F b ∨ (w0.heap.size ≤ b ∧ b < w18.heap.size ∧ b ≠ b10))) b7 := (.inr ⟨by omega, by omega, by omega⟩)
 have q25 : FnT Tryz.prog encGrant i64 (n + 1) (fun b => F b ∨ (w0.heap.size ≤ b ∧ b < w18.heap.size ∧ b ≠ b10)) w18 (.func (.func 187) #[] #[.pointer (some ⟨b1, 0, none⟩), .pointer (some ⟨b7, 0, none⟩)]) (fun x => (D.alloc_New_1 a0 a2 x)) := ⟨187, [], [.pointer (some ⟨b1, 0, none⟩), .pointer (some ⟨b7, 0, none⟩)], cl187, rfl, fun m hm x w' hs hz => c_alloc_New_1 (fun b hb => Nat.lt_of_lt_of_le (hF1 b hb) hz) a0 f26 (hs.at_ f26 h_b1) a2 f27 (hs.at_ f27 h_b7) x⟩
 refine seq_call r (c_prog_Then_int_Grant_le (F := (fun b => F b ∨ (w0.heap.size ≤ b ∧ b < w18.heap.size ∧ b ≠ b10))) (n := n) hF1 (Rep.mono (by rintro b (h | h); (rcases h with h | ⟨h1, h2, h3⟩; exact .inl h; exact .inr ⟨h1, by omega, h3⟩); exact .inr ⟨by omega, by omega, by omega⟩) (Same.refl _ _) (by omega) n _ _ hr20) ⟨192, [], [.pointer (some ⟨b1, 0, none⟩), .pointer (some ⟨b7, 0, none⟩), .pointer (some ⟨b4, 0, none⟩), .pointer (some ⟨b13, 0, none⟩)], cl192, rfl, fun m hm x w' hs hz => c_alloc_New_2 (j := j) (fun b hb => Nat.lt_of_lt_of_le (hF1 b hb) hz) (by omega) a0 f21 (hs.at_ f21 h_b1) a2 f22 (hs.at_ f22 h_b7) a1 f23 (hs.at_ f23 h_b4) f24 (hs.at_ f24 h_b13) (q25.mono (by omega) (fun b h => h) hs hz) x⟩) (fun R hc => y_call r rfl cl190 hc) rfl ?_
 rintro _ w28 ⟨v29, rfl, hb, hr30⟩
 refine ⟨_, rfl, fun fr r => ?_⟩
 have z_w28 := hb.size
 have h_b1 := keep hb h_b1
 have h_b4 := keep hb h_b4
 have h_b7 := keep hb h_b7
 have h_b10 := keep hb h_b10
 have h_b13 := keep hb h_b13
 obtain ⟨hB, zB⟩ := bon hb hB
 refine seq_upd (.cells v29.cells 158 (0, 0)) r (fun R => y_storep r hr30.shape rfl rfl h_b10 ts158 rfl) rfl fun fr w31 u32 r => ?_
 have z_w31 := u32.size
 have h_b1 := u32.keep h_b1 (by omega)
 have h_b4 := u32.keep h_b4 (by omega)
 have h_b7 := u32.keep h_b7 (by omega)
 have h_b13 := u32.keep h_b13 (by omega)
 have h_b10 := u32.at_
 obtain ⟨hB, zB⟩ := u32.on hB (by omega)
 refine wn ?_
 refine wp_ret ?_
 have hs := hr30.shape.cells
 refine ret_cell r rfl rfl h_b10 (k := 9) hs.1 ta158 ?_
 rw [← hs.2.2]
 exact rfin hF hB hr30 u32 (by omega) (by omega) (by omega)

end Go.Proofs.YtjkinpbfmihhdaaGreat

/- Written by a program of ours (wip/gen.py): layer 12 -/
set_option linter.unusedVariables false
set_option maxRecDepth 20000
set_option maxHeartbeats 2000000
namespace Go.Proofs.YtjkinpbfmihhdaaGreat
open Go.RowKit
theorem cl28 : callable Tryz.prog 28 = true := by kernel_rfl

theorem cl39 : callable Tryz.prog 39 = true := by kernel_rfl

theorem cl89 : callable Tryz.prog 89 = true := by kernel_rfl

theorem fo153_0 : fieldOff Tryz.prog 153 0 0 = true := by kernel_rfl

theorem fo153_2 : fieldOff Tryz.prog 153 2 2 = true := by kernel_rfl

theorem to30 : tyO Tryz.prog 30 = true := by kernel_rfl

theorem ts25 : sized Tryz.prog 25 6 = true := by kernel_rfl

theorem tz25 : zeroOf Tryz.prog 25 = some (.agg (planC (⟨0, 0, 0, 0, 0, 0⟩ : Plan)).toArray) := by kernel_rfl

end Go.Proofs.YtjkinpbfmihhdaaGreat

/- Nodes granted and retired, alone: what the programs come to, without the code. -/
namespace Go.Proofs.YtjkinpbfmihhdaaGreat
open Go.RowKit
theorem load_runsG {at_ : Int} {f : Int → T Grant} {ws ws' : List Int} {n : Nat} {r : Grant} (h0 : 0 ≤ at_) (h1 : at_ < ws.length) (h : Runs (f (rd ws at_)) ws n r ws') : Runs (D.prog_Load_Grant at_ f) ws (n + 1) r ws' := Runs.load h0 h1 h

theorem store_runsG {at_ w : Int} {f : Unit → T Grant} {ws ws' : List Int} {n : Nat} {r : Grant} (h0 : 0 ≤ at_) (h1 : at_ < ws.length) (h : Runs (f ()) (ws.set at_.toNat w) n r ws') : Runs (D.prog_Store_Grant at_ w f) ws (n + 1) r ws' := Runs.store h0 h1 h

/-- The place of a node's state. -/
def sp (p : Plan) (n : Int) : Int := D.plan_Plan_nodes p + n * 5

section
variable {p : Plan} (hp : PF p) {n : Int} (hn : 0 ≤ n ∧ n < p.nodes)
include hp hn
theorem sp_in : 0 < sp p n ∧ sp p n + 5 ≤ D.plan_Plan_Size p ∧ D.plan_Plan_State p n = sp p n := by
  have hN := nodes_le hp
  have hS := Size_eq hp
  refine ⟨by unfold sp; omega, by unfold sp; omega, by rw [st_at hp hn]; rfl⟩

end
theorem SF.live {s : State} (h : SF s) {k : Int} (hk : 0 ≤ k ∧ k ≤ 2) : SF (D.state_State_Live s k) := ⟨h.g0, h.g1, by show (0 : Int) ≤ 1; omega, by show (1 : Int) ≤ 3; omega, hk.1, hk.2⟩

theorem SF.retire {s : State} (h : SF s) : SF (D.state_State_Retire s) := ⟨h.g0, h.g1, by show (0 : Int) ≤ 2; omega, by show (2 : Int) ≤ 3; omega, h.k0, h.k1⟩

theorem SF.freed {s : State} (h : SF s) {m : Int} (hm : m ≤ 1073741823) : SF (D.state_State_Freed s m) := by
  unfold D.state_State_Freed
  have := h.g0
  have := h.g1
  by_cases e : s.gen ≥ m
  · rw [show decide (s.gen ≥ m) = true from by simpa using e]
    exact ⟨h.g0, h.g1, by show (0 : Int) ≤ 3; omega, by show (3 : Int) ≤ 3; omega, by show (0 : Int) ≤ 0; omega, by show (0 : Int) ≤ 2; omega⟩
  · rw [show decide (s.gen ≥ m) = false from by simpa using e]
    simp only [cond_false]
    rw [wrap_id (x := s.gen + 1) (by omega) (by omega)]
    exact ⟨by show 0 ≤ s.gen + 1; omega, by show s.gen + 1 ≤ _; omega, by show (0 : Int) ≤ 0; omega, by show (0 : Int) ≤ 3; omega, by show (0 : Int) ≤ 0; omega, by show (0 : Int) ≤ 2; omega⟩

/-- What a node's state is. -/
def StAt (p : Plan) (ws : List Int) (n : Int) (s : State) : Prop := rd ws (sp p n) = D.state_State_Word s ∧ SF s

theorem StAt.of {p : Plan} {ws : List Int} {n : Int} {s : State} (h : StAt p ws n s) : D.state_Of (rd ws (sp p n)) = (s, true) := by rw [h.1]; exact of_word h.2

theorem grant_runs {p : Plan} (hp : PF p) {ws : List Int} {n k : Int} {s : State} (hn : 0 ≤ n ∧ n < p.nodes) (hl : Len p ws) (hs : StAt p ws n s) :
    Runs (D.alloc_grant p n k) ws 2 ⟨n, s.gen, 0⟩ (ws.set (sp p n).toNat (D.state_State_Word (D.state_State_Live s k))) := by
  obtain ⟨q1, q2, q3⟩ := sp_in hp hn
  unfold Len at hl
  unfold D.alloc_grant
  rw [q3]
  refine load_runsG (by omega) (by omega) ?_
  unfold D.alloc_grant_1
  rw [hs.of, q3]
  exact store_runsG (by omega) (by omega) (.done _ _)

/-- A node is popped, and granted. -/
theorem pop_grant {p : Plan} (hp : PF p) {ws : List Int} {n k : Int} {l : List Int} {g : Int} {s : State} (hF : FreeAt p ws (n :: l) g) (hnn : p.nodes ≤ 1000000) (hg : g < 1000000) (hs : StAt p ws n s) (hk : 0 ≤ k ∧ k ≤ 2) (J : Nat) {G : Int → T Grant} (hG : G n = D.alloc_grant p n k) :
    ∃ ws', Runs (T.bind (D.free_Pop (J + 1) p) G) ws 5 ⟨n, s.gen, 0⟩ ws' ∧ ws'.length = ws.length ∧ FreeAt p ws' l (g + 1) ∧ StAt p ws' n (D.state_State_Live s k) ∧ ∀ j, 0 < j → j ≠ sp p n → rd ws' j = rd ws j := by
  have hn := hF.range n (List.mem_cons_self ..)
  obtain ⟨q1, q2, q3⟩ := sp_in hp hn
  obtain ⟨hr, hF2⟩ := pop_runs hp hF hnn hg J
  have hN := nodes_le hp
  have hl := hF.len
  have hl2 := hF2.len
  have hs0 := hs.1
  generalize hu : ws.set (0 : Int).toNat ((g + 1) * 2097152 + first l) = u at hr hF2 hl2
  have hul : u.length = ws.length := by rw [← hu, List.length_set]
  have hur : ∀ j, 0 < j → rd u j = rd ws j := fun j hj => by rw [← hu, rd_set (by omega) (by omega) (by omega), if_neg (by omega)]
  have hsu : StAt p u n s := ⟨by rw [hur _ q1]; exact hs0, hs.2⟩
  have hg2 := grant_runs hp (k := k) hn hl2 hsu
  refine ⟨u.set (sp p n).toNat (D.state_State_Word (D.state_State_Live s k)), ?_, by rw [List.length_set, hul], ?_, ⟨?_, hs.2.live hk⟩, fun j hj hne => ?_⟩
  · exact (Runs.bind (g := G) hr (by rw [hG]; exact hg2)).cast (show 3 + 2 = 5 from rfl)
  · refine hF2.keep (by rw [List.length_set]) ?_ fun m hm => ?_
    · rw [rd_set (by omega) (by omega) (by omega), if_neg (by omega)]
    · have hmr := hF2.range m hm
      have : nx p m ≠ sp p n := by unfold nx sp; omega
      rw [rd_set (by omega) (by omega) (by unfold nx; omega), if_neg this]
  · rw [rd_set (by omega) (by omega) (by omega), if_pos rfl]
  · rw [rd_set (by omega) (by omega) (by omega), if_neg hne, hur j hj]

/-- A node is granted out of the list. -/
theorem new_pop {p : Plan} (hp : PF p) {ws : List Int} {n k t : Int} {l : List Int} {g : Int} {s : State} (hF : FreeAt p ws (n :: l) g) (hnn : p.nodes ≤ 1000000) (hg : g < 1000000) (hs : StAt p ws n s) (hk : 0 ≤ k ∧ k ≤ 2) (J : Nat) :
    ∃ ws', Runs (D.alloc_New (J + 1) p t k) ws 5 ⟨n, s.gen, 0⟩ ws' ∧ ws'.length = ws.length ∧ FreeAt p ws' l (g + 1) ∧ StAt p ws' n (D.state_State_Live s k) ∧ ∀ j, 0 < j → j ≠ sp p n → rd ws' j = rd ws j := by
  have hn := hF.range n (List.mem_cons_self ..)
  refine pop_grant hp hF hnn hg hs hk J (G := fun x => D.alloc_New_2 (J + 1) p k t (fun x => D.alloc_New_1 p k x) x) ?_
  unfold D.alloc_New_2
  rw [show (n != -1) = true from by simp; omega]
  rfl

theorem s0_word : D.state_State_Word ⟨0, 0, 0⟩ = 0 := by rw [word_val ⟨by decide, by decide, by decide, by decide, by decide, by decide⟩]; rfl

theorem laid_state {p : Plan} (hp : PF p) {ws : List Int} (h : LaidAt p ws) {n : Int} (hn : 0 ≤ n ∧ n < p.nodes) : StAt p ws n ⟨0, 0, 0⟩ := by
  obtain ⟨q1, q2, q3⟩ := sp_in hp hn
  refine ⟨?_, by decide, by decide, by decide, by decide, by decide, by decide⟩
  rw [s0_word]
  exact h.zero _ q1 fun m _ _ => by unfold sp; omega

theorem laid_ret {p : Plan} (hp : PF p) {ws : List Int} (h : LaidAt p ws) {t : Int} (ht : 0 ≤ t ∧ t < p.threads) : RetAt p ws t [] := by
  obtain ⟨q1, q2, q3⟩ := rb_in hp ht
  have hr1 := hp.r1
  have ht1 := hp.t1
  exact ⟨h.zero _ q3 fun m _ _ => by omega, by simp; omega, fun i hi => (by cases hi), fun _ h => (by cases h)⟩

/-- The nodes below i are granted. -/
structure GrantI (p : Plan) (k : Int) (i : Nat) (ws : List Int) : Prop where
  free : FreeAt p ws ((List.range' i (p.nodes.toNat - i)).map fun (q : Nat) => (q : Int)) i
  ret : RetAt p ws 0 []
  live : ∀ n : Int, 0 ≤ n → n < i → StAt p ws n ⟨0, 1, k⟩
  rest : ∀ n : Int, i ≤ n → n < p.nodes → StAt p ws n ⟨0, 0, 0⟩

theorem GrantI.start {p : Plan} (hp : PF p) {ws : List Int} (h : LaidAt p ws) (k : Int) : GrantI p k 0 ws := by
  have hn1 := hp.n1
  have ht1 := hp.t1
  exact ⟨laid_free hp h, laid_ret hp h ⟨by omega, by omega⟩, fun n h0 h1 => by omega, fun n h0 h1 => laid_state hp h ⟨by omega, h1⟩⟩

theorem GrantI.step {p : Plan} (hp : PF p) (hnn : p.nodes ≤ 40) {k : Int} (hk : 0 ≤ k ∧ k ≤ 2) {i : Nat} {ws : List Int} (h : GrantI p k i ws) (hi : (i : Int) < p.nodes) (J : Nat) :
    ∃ ws', Runs (D.alloc_New (J + 1) p 0 k) ws 5 ⟨i, 0, 0⟩ ws' ∧ GrantI p k (i + 1) ws' ∧ ∀ j, 0 < j → j < D.plan_Plan_nodes p → rd ws' j = rd ws j := by
  have hN := nodes_le hp
  have ht1 := hp.t1
  obtain ⟨d, hd⟩ : ∃ d, p.nodes.toNat - i = d + 1 := ⟨p.nodes.toNat - i - 1, by omega⟩
  have hF := h.free
  rw [hd, List.range'_succ, List.map_cons] at hF
  have hs := h.rest i (by omega) hi
  obtain ⟨ws', hr, hl, hF2, hst, ho⟩ := new_pop hp (t := 0) hF (by omega) (by omega) hs hk J
  obtain ⟨p1, p2, p3⟩ := rb_in hp (t := 0) ⟨by omega, by omega⟩
  refine ⟨ws', hr, ⟨?_, h.ret.keep fun j h0 h1 => ho j (by omega) (by unfold sp; omega), fun n h0 h1 => ?_, fun n h0 h1 => ?_⟩, fun j h0 h1 => ho j h0 (by unfold sp; omega)⟩
  · rw [show p.nodes.toNat - (i + 1) = d from by omega]
    exact hF2
  · by_cases e : n = (i : Int)
    · subst e; exact hst
    · have hv := h.live n h0 (by omega)
      exact ⟨by rw [ho _ (by unfold sp; omega) (by unfold sp; omega)]; exact hv.1, hv.2⟩
  · have hv := h.rest n (by omega) h1
    exact ⟨by rw [ho _ (by unfold sp; omega) (by unfold sp; omega)]; exact hv.1, hv.2⟩

end Go.Proofs.YtjkinpbfmihhdaaGreat

/- A thread alone: nodes that are free, retired, or out; what granting and retiring come to. -/
set_option linter.unusedVariables false
namespace Go.Proofs.YtjkinpbfmihhdaaGreat
open Go.RowKit

theorem scanL_free : ∀ (k : Nat) (r : List Int), k = r.length → scanL (fun _ => false) k r = ([], r.reverse)
  | 0, r, h => by rw [List.length_eq_zero_iff.1 h.symm]; rfl
  | k + 1, r, h => by
    rcases List.eq_nil_or_concat r with rfl | ⟨s, z, rfl⟩
    · cases h
    rw [List.concat_eq_append] at *
    have hk : k = s.length := by simpa using h
    have e1 : (s ++ [z])[k]? = some z := by rw [hk]; simp
    have e2 : ((s ++ [z]).set k (((s ++ [z]).getLast?).getD 0)).dropLast = s := by
      rw [hk]; simp
    simp only [scanL, e1, Bool.false_eq_true, if_false, e2, scanL_free k s hk]
    simp

/-- Nodes: the free ones, those that are retired, and each one's state. -/
structure Pool where
  fr : List Int
  rt : List Int
  st : Int → State

/-- A node is free, or gone. -/
def Pool.back (m : Int) (P : Pool) (n : Int) : Pool :=
  ⟨if (D.state_State_Freed (P.st n) m).mode = 3 then P.fr else n :: P.fr, P.rt, fun q => if q = n then D.state_State_Freed (P.st n) m else P.st q⟩

/-- What is retired is free, or gone. -/
def Pool.scan (P : Pool) (m : Int) : Pool := P.rt.reverse.foldl (Pool.back m) ⟨P.fr, [], P.st⟩

theorem back_rt (m : Int) : ∀ (l : List Int) (P : Pool), (l.foldl (Pool.back m) P).rt = P.rt
  | [], _ => rfl
  | n :: l, P => by rw [List.foldl_cons, back_rt m l]; rfl

theorem back_st (m : Int) : ∀ (l : List Int) (P : Pool), l.Nodup → ∀ n, (l.foldl (Pool.back m) P).st n = if n ∈ l then D.state_State_Freed (P.st n) m else P.st n
  | [], _, _, _ => rfl
  | a :: l, P, hn, n => by
    obtain ⟨h1, h2⟩ := List.nodup_cons.1 hn
    rw [List.foldl_cons, back_st m l _ h2]
    by_cases e : n = a
    · subst e
      rw [if_neg h1, if_pos (List.mem_cons_self ..)]
      exact if_pos rfl
    · have hs : (Pool.back m P a).st n = P.st n := if_neg e
      rw [hs]
      by_cases h : n ∈ l
      · rw [if_pos h, if_pos (List.mem_cons_of_mem _ h)]
      · rw [if_neg h, if_neg (fun h' => by rcases List.mem_cons.1 h' with h' | h'; exact e h'; exact h h')]

theorem back_fr (m : Int) : ∀ (l : List Int) (P : Pool), l.Nodup → (l.foldl (Pool.back m) P).fr = l.foldl (fun l n => if (D.state_State_Freed (P.st n) m).mode = 3 then l else n :: l) P.fr
  | [], _, _ => rfl
  | a :: l, P, hn => by
    obtain ⟨h1, h2⟩ := List.nodup_cons.1 hn
    rw [List.foldl_cons, List.foldl_cons, back_fr m l _ h2]
    have : ∀ (k : List Int) (L L' : List Int), (∀ q, q ∈ k → q ≠ a) → L = L' → k.foldl (fun l n => if (D.state_State_Freed ((Pool.back m P a).st n) m).mode = 3 then l else n :: l) L = k.foldl (fun l n => if (D.state_State_Freed (P.st n) m).mode = 3 then l else n :: l) L' := by
      intro k
      induction k with
      | nil => rintro L _ _ rfl; rfl
      | cons q k ih =>
        rintro L _ hq rfl
        rw [List.foldl_cons, List.foldl_cons]
        have hs : (Pool.back m P a).st q = P.st q := if_neg (hq q (List.mem_cons_self ..))
        exact ih _ _ (fun q' h => hq q' (List.mem_cons_of_mem _ h)) (by rw [hs])
    exact this l _ _ (fun q hq e => h1 (e ▸ hq)) rfl

/-- A thread's memory, alone: no hazard stands. -/
structure PoolAt (p : Plan) (t : Int) (ws : List Int) (P : Pool) (g : Int) : Prop where
  free : FreeAt p ws P.fr g
  ret : RetAt p ws t P.rt
  nod : P.rt.Nodup
  dis : ∀ n, n ∈ P.rt → n ∉ P.fr
  st : ∀ n, 0 ≤ n → n < p.nodes → StAt p ws n (P.st n)
  hz : ∀ j, 0 ≤ j → j < p.threads * 3 → rd ws (D.plan_Plan_hazards p + j) = 0
  zero : ∀ n f, n ∈ P.fr → 0 ≤ f → f < 3 → rd ws (sp p n + 2 + f) = 0

/-- What a call that grants or retires leaves as it was. -/
def KeptP (p : Plan) (t : Int) (P : Pool) (ws ws' : List Int) : Prop :=
  ws'.length = ws.length ∧ ∀ j, 0 < j → (∀ n, n ∈ P.fr ∨ n ∈ P.rt → ¬ ofNode p n j) → ¬ (rb p t ≤ j ∧ j < rb p t + 1 + p.retire) → rd ws' j = rd ws j

theorem PoolAt.scan {p : Plan} (hp : PF p) (hnn : p.nodes ≤ 1000) {t : Int} (ht : 0 ≤ t ∧ t < p.threads) {ws : List Int} {P : Pool} {g : Int} (h : PoolAt p t ws P g) (hg : g < 900000) (J : Nat) (hJ : 1100 < J) :
    ∃ (m : Nat) (ws' : List Int) (g' : Int), m ≤ 70 * P.rt.length + 1 ∧ g' ≤ g + P.rt.length ∧ Runs (D.retire_Scan J p t) ws m (P.rt.length : Int) ws' ∧ PoolAt p t ws' (P.scan p.gen) g' ∧ KeptP p t P ws ws' := by
  have hN := nodes_le hp
  have hz := hz_in hp
  obtain ⟨p1, p2, p3⟩ := rb_in hp ht
  have hh : ∀ n, n ∈ P.rt → ((fun _ => false) n = true ↔ heldW p ws n) := by
    intro n hn
    have := (h.ret.range n hn).1
    constructor
    · intro h; cases h
    · rintro ⟨j, j0, j1, hj⟩
      rw [h.hz j j0 j1] at hj
      omega
  obtain ⟨m, ws', hm, hr, hs⟩ := scan_runs hp hnn ht J hJ h.free.len h.ret h.free (fun n hn => h.dis n hn) h.nod hh hg
  rw [scanL_free P.rt.length P.rt rfl] at hr hs
  simp only [List.length_reverse] at hr
  obtain ⟨g', hg', hF⟩ := hs.free
  have hnr : P.rt.reverse.Nodup := List.pairwise_reverse.2 (h.nod.imp fun h e => h e.symm)
  have htof : ∀ n, n ∈ P.rt → tof p ws n = D.state_State_Freed (P.st n) p.gen := fun n hn => by
    have hn' := h.ret.range n hn
    unfold tof
    have := (h.st n hn'.1 hn'.2).of
    unfold sp at this
    rw [this]
  have hfr : pushAll p ws P.rt.reverse P.fr = (P.scan p.gen).fr := by
    unfold Pool.scan
    rw [back_fr _ _ _ hnr]
    unfold pushAll
    have : ∀ (k L : List Int), (∀ n, n ∈ k → n ∈ P.rt) → k.foldl (fun l n => if (tof p ws n).mode = 3 then l else n :: l) L = k.foldl (fun l n => if (D.state_State_Freed (P.st n) p.gen).mode = 3 then l else n :: l) L := by
      intro k
      induction k with
      | nil => intro _ _; rfl
      | cons q k ih =>
        intro L hq
        rw [List.foldl_cons, List.foldl_cons, htof q (hq q (List.mem_cons_self ..))]
        exact ih _ fun n hn => hq n (List.mem_cons_of_mem _ hn)
    exact this _ _ fun n hn => List.mem_reverse.1 hn
  have hsub : ∀ n, n ∈ (P.scan p.gen).fr → n ∈ P.rt ∨ n ∈ P.fr := fun n hn => by
    rw [← hfr] at hn
    rcases pushAll_sub hn with h | h
    · exact .inl (List.mem_reverse.1 h)
    · exact .inr h
  have hrt : (P.scan p.gen).rt = [] := back_rt _ _ _
  rw [hfr] at hF
  have hst : ∀ n, (P.scan p.gen).st n = if n ∈ P.rt then D.state_State_Freed (P.st n) p.gen else P.st n := fun n => by
    unfold Pool.scan
    rw [back_st _ _ _ hnr]
    simp only [List.mem_reverse]
  have hrr := h.ret.range
  have hkeep : ∀ j, 0 < j → (∀ n, n ∈ P.rt → ¬ ofNode p n j) → ¬ (rb p t ≤ j ∧ j < rb p t + 1 + p.retire) → rd ws' j = rd ws j := fun j j0 h1 h2 => hs.others j j0 (fun n hn => h1 n (List.mem_reverse.1 hn)) h2
  have hge := hp.g2
  refine ⟨m, ws', g', hm, by simpa using hg', hr, ⟨hF, by rw [hrt]; exact hs.ret, by rw [hrt]; exact List.nodup_nil, fun n hn => (by rw [hrt] at hn; cases hn), fun n n0 n1 => ?_, fun j j0 j1 => ?_, fun n f hn f0 f1 => ?_⟩, hs.len, fun j j0 h1 h2 => hkeep j j0 (fun n hn => h1 n (.inr hn)) h2⟩
  · rw [hst]
    by_cases hn : n ∈ P.rt
    · rw [if_pos hn]
      refine ⟨?_, (h.st n n0 n1).2.freed (by omega)⟩
      have := hs.states n (List.mem_reverse.2 hn)
      rw [htof n hn] at this
      exact this
    · rw [if_neg hn]
      refine ⟨?_, (h.st n n0 n1).2⟩
      rw [hkeep (sp p n) (by unfold sp; omega) (fun q hq hq' => ?_) (by unfold sp; omega)]
      · exact (h.st n n0 n1).1
      · unfold ofNode sp at hq'
        exact hn (by rw [show n = q by omega]; exact hq)
  · rw [hkeep _ (by omega) (fun q hq => by have := (hrr q hq).1; unfold ofNode; omega) (by omega)]
    exact h.hz j j0 j1
  · by_cases hq : n ∈ P.rt
    · exact hs.fields n f (List.mem_reverse.2 hq) f0 f1
    · have hnf : n ∈ P.fr := (hsub n hn).resolve_left hq
      have := h.free.range n hnf
      rw [hkeep _ (by unfold sp; omega) (fun q hq' hq'' => ?_) (by unfold sp; omega)]
      · exact h.zero n f hnf f0 f1
      · unfold ofNode sp at hq''
        exact hq (by rw [show n = q by omega]; exact hq')

/-- What is changed apart from a pool's words stays a pool. -/
theorem PoolAt.keep {p : Plan} (hp : PF p) {t : Int} (ht : 0 ≤ t ∧ t < p.threads) {ws ws' : List Int} {P : Pool} {g : Int} (h : PoolAt p t ws P g) {st : Int → State} (hl : ws'.length = ws.length) (h0 : rd ws' 0 = rd ws 0)
    (hr : ∀ j, rb p t ≤ j → j < rb p t + 1 + p.retire → rd ws' j = rd ws j) (hf : ∀ n f, n ∈ P.fr → 1 ≤ f → f < 5 → rd ws' (sp p n + f) = rd ws (sp p n + f)) (hz : ∀ j, 0 ≤ j → j < p.threads * 3 → rd ws' (D.plan_Plan_hazards p + j) = rd ws (D.plan_Plan_hazards p + j))
    (hs : ∀ n, 0 ≤ n → n < p.nodes → StAt p ws' n (st n)) : PoolAt p t ws' ⟨P.fr, P.rt, st⟩ g :=
  ⟨h.free.keep hl h0 fun n hn => by have := hf n 1 hn (by omega) (by omega); unfold sp at this; exact this, h.ret.keep hr, h.nod, h.dis, hs, fun j j0 j1 => (hz j j0 j1).trans (h.hz j j0 j1), fun n f hn f0 f1 => by
    have := hf n (2 + f) hn (by omega) (by omega)
    rw [← Int.add_assoc] at this
    exact this.trans (h.zero n f hn f0 f1)⟩

/-- A node out of the list. -/
def Pool.out (P : Pool) (k : Int) : Pool × Grant :=
  match P.fr with
  | [] => (P, ⟨-1, 0, 4⟩)
  | n :: l => (⟨l, P.rt, fun q => if q = n then D.state_State_Live (P.st n) k else P.st q⟩, ⟨n, (P.st n).gen, 0⟩)

theorem PoolAt.put {p : Plan} (hp : PF p) {t : Int} (ht : 0 ≤ t ∧ t < p.threads) {ws ws' : List Int} {P : Pool} {g n : Int} (h : PoolAt p t ws P g) (hnr : n ∉ P.rt) (hnf : n ∉ P.fr)
    (hf : (P.rt.length : Int) < p.retire) (hl : ws'.length = ws.length) (hR : RetAt p ws' t (P.rt ++ [n])) (ho : ∀ j, 0 ≤ j → j ≠ rb p t → j ≠ rb p t + 1 + P.rt.length → rd ws' j = rd ws j) :
    PoolAt p t ws' ⟨P.fr, P.rt ++ [n], P.st⟩ g := by
  have hN := nodes_le hp
  have hz := hz_in hp
  obtain ⟨p1, p2, p3⟩ := rb_in hp ht
  refine ⟨h.free.keep hl (ho 0 (by omega) (by omega) (by omega)) fun q hq => ?_, hR, ?_, fun q hq => ?_, fun q q0 q1 => ?_, fun j j0 j1 => ?_, fun q f hq f0 f1 => ?_⟩
  · have := h.free.range q hq
    exact ho _ (by unfold nx; omega) (by unfold nx; omega) (by unfold nx; omega)
  · refine List.nodup_append.2 ⟨h.nod, List.nodup_cons.2 ⟨List.not_mem_nil, List.nodup_nil⟩, fun a ha b hb e => ?_⟩
    rw [List.mem_singleton.1 hb] at e
    exact hnr (e ▸ ha)
  · rcases List.mem_append.1 hq with hq | hq
    · exact h.dis q hq
    · rw [List.mem_singleton.1 hq]; exact hnf
  · have := h.st q q0 q1
    exact ⟨by rw [ho _ (by unfold sp; omega) (by unfold sp; omega) (by unfold sp; omega)]; exact this.1, this.2⟩
  · rw [ho _ (by omega) (by omega) (by omega)]; exact h.hz j j0 j1
  · have := h.free.range q hq
    rw [ho _ (by unfold sp; omega) (by unfold sp; omega) (by unfold sp; omega)]
    exact h.zero q f hq f0 f1

end Go.Proofs.YtjkinpbfmihhdaaGreat

/- Written by a program of ours (wip/gen.py): handles and their words -/
set_option linter.unusedVariables false
set_option maxRecDepth 20000
set_option maxHeartbeats 2000000
namespace Go.Proofs.YtjkinpbfmihhdaaGreat.St
open Go.RowKit
def D.handle_layout (fu : Nat)  : Option (List Field) := (some ([(⟨0, 20⟩ : Field), (⟨20, 30⟩ : Field), (⟨50, 6⟩ : Field), (⟨58, 6⟩ : Field)]))

def D.handle_Of (fu : Nat) (a0 : Int) : Option (Handle × Bool) := ((D.handle_layout fu ).bind (fun (x5 : List Field) => ((D.field_Split fu x5 a0).bind (fun (x9 : List Int × Int) => (Option.bind (bif (x9.2 != 0) then (some true) else ((getI x9.1 3).bind (fun (x15 : Int) => (some (x15 != 42))))) (fun (x16 : Bool) => (bif x16 then (some ((⟨0, 0, 0⟩ : Handle), false)) else ((getI x9.1 0).bind (fun (x22 : Int) => ((getI x9.1 1).bind (fun (x23 : Int) => ((getI x9.1 2).bind (fun (x24 : Int) => (some ((⟨(IntKind.i64.wrap x22), (IntKind.i64.wrap x23), (IntKind.i64.wrap x24)⟩ : Handle), true)))))))))))))))

end Go.Proofs.YtjkinpbfmihhdaaGreat.St

/- Handles' words: the code's answers by closed forms. -/
namespace Go.Proofs.YtjkinpbfmihhdaaGreat
open Go.RowKit

/-- A word's handle, and if it is one. -/
def D.handle_Of (w : Int) : Handle × Bool := (St.D.handle_Of 10 w).getD (⟨0, 0, 0⟩, false)

end Go.Proofs.YtjkinpbfmihhdaaGreat

/- Written by a program of ours (wip/gen.py): handles -/
set_option linter.unusedVariables false
set_option maxRecDepth 20000
set_option maxHeartbeats 2000000
namespace Go.Proofs.YtjkinpbfmihhdaaGreat
open Go.RowKit
def D.handle_Mine (a0 : Int) (a1 : Int) (a2 : Int) : Handle × Bool := (bif (!((D.handle_Of a0).2)) then ((⟨0, 0, 0⟩ : Handle), false) else (bif ((((D.handle_Of a0).1).tenant) != a1) then ((⟨0, 0, 0⟩ : Handle), false) else (bif (decide ((((D.handle_Of a0).1).index) ≥ a2)) then ((⟨0, 0, 0⟩ : Handle), false) else ((D.handle_Of a0).1, true))))

end Go.Proofs.YtjkinpbfmihhdaaGreat

/- Functions into trees that take a function into trees. -/
namespace Go.Proofs.YtjkinpbfmihhdaaGreat
open Go.RowKit

/-- A function value takes a number and a function of words, and stands for a function into trees, at all levels. -/
def FnHAt {R : Type} (P : Program) (E : Enc R) (F : Nat → Prop) (w : World) (f : FuncId) (first cap : List Value) (d : Int → (Int → T R) → T R) : Prop :=
  ∀ (m : Nat) (x : Int) {nf : FuncId} {n1 n2 : List Value} {g : Int → T R} (F' : Nat → Prop) (w' : World), (∀ b, F b → F' b) → Same F w w' → w.heap.size ≤ w'.heap.size → (∀ b, F' b → b < w'.heap.size) →
    FnT P E u64 m F' w' (.func (.func nf) n1.toArray n2.toArray) g → Calls P f (first ++ [Value.int .i64 x, Value.func (.func nf) n1.toArray n2.toArray] ++ cap).toArray w' (RepRes P E m (d x g) F' w')

def FnH {R : Type} (P : Program) (E : Enc R) (F : Nat → Prop) (w : World) (fv : Value) (d : Int → (Int → T R) → T R) : Prop :=
  ∃ (f : FuncId) (first cap : List Value), callable P f = true ∧ fv = .func (.func f) first.toArray cap.toArray ∧ FnHAt P E F w f first cap d

section
variable {R : Type} {P : Program} {E : Enc R}
theorem FnH.mono {F F' : Nat → Prop} {w w' : World} {fv : Value} {d : Int → (Int → T R) → T R} (h : FnH P E F w fv d)
    (hs : ∀ b, F b → F' b) (h1 : Same F w w') (h2 : w.heap.size ≤ w'.heap.size) : FnH P E F' w' fv d := by
  obtain ⟨f, first, cap, hc, hv, h⟩ := h
  exact ⟨f, first, cap, hc, hv, fun m x nf n1 n2 g F1 w1 k1 k2 k3 k4 k5 => h m x F1 w1 (fun b hb => k1 b (hs b hb)) (h1.trans (k2.sub hs)) (by omega) k4 k5⟩

theorem FnH.at_ {F : Nat → Prop} {w : World} {f : FuncId} {first cap : List Value} {d : Int → (Int → T R) → T R} (h : FnH P E F w (.func (.func f) first.toArray cap.toArray) d) :
    callable P f = true ∧ FnHAt P E F w f first cap d := by
  obtain ⟨f', first', cap', hc, he, hf⟩ := h
  simp only [Value.func.injEq, Fn.func.injEq] at he
  obtain ⟨e1, e2, e3⟩ := he
  have e2' : first = first' := by simpa using congrArg Array.toList e2
  have e3' : cap = cap' := by simpa using congrArg Array.toList e3
  subst e1; subst e2'; subst e3'
  exact ⟨hc, hf⟩

end
end Go.Proofs.YtjkinpbfmihhdaaGreat

/- Written by a program of ours (wip/gen.py): nodes by handles -/
set_option linter.unusedVariables false
set_option maxRecDepth 20000
set_option maxHeartbeats 2000000
namespace Go.Proofs.YtjkinpbfmihhdaaGreat
open Go.RowKit
theorem cl120 : callable Tryz.prog 120 = true := by kernel_rfl

theorem cl123 : callable Tryz.prog 123 = true := by kernel_rfl

theorem cl125 : callable Tryz.prog 125 = true := by kernel_rfl

theorem cl211 : callable Tryz.prog 211 = true := by kernel_rfl

theorem fo29_0 : fieldOff Tryz.prog 29 0 0 = true := by kernel_rfl

theorem fo29_2 : fieldOff Tryz.prog 29 2 7 = true := by kernel_rfl

theorem ta29 : tyA Tryz.prog 29 8 = true := by kernel_rfl

def D.check_Seat_Formed (a0 : Seat) : Bool := (bif (D.plan_Plan_Formed a0.p) then (bif (decide (a0.tenant ≥ 0)) then (bif (decide (a0.tenant < 64)) then (bif (decide (a0.thread ≥ 0)) then (decide (a0.thread < a0.p.threads)) else false) else false) else false) else false)

end Go.Proofs.YtjkinpbfmihhdaaGreat

/- A region that draws its order, with stores into two cells of ours beside values. -/
namespace Go.Proofs.YtjkinpbfmihhdaaGreat
open Go.RowKit

/-- What an operation comes to: a value, or a store into the k-th of some old blocks. -/
inductive FP where
  | val (c : Value)
  | put (k : Nat) (c : Array Value) (T : TypeId)

def FP.v : FP → Value
  | .val c => c
  | .put _ _ _ => undef

def FP.slot : FP → Option Nat
  | .put k _ _ => some k
  | .val _ => none

def FP.mk (bs : List Nat) (w' w'' : World) : FP → Prop
  | .val _ => Below w'.heap.size w' w''
  | .put k c T => ∃ b, bs[k]? = some b ∧ Upd w' w'' b (.cells c T (0, 0))

def fct : List FP → Nat → FP
  | [], _ => .val undef
  | f :: _, 0 => f
  | _ :: l, n + 1 => fct l n

section
variable {P : Program} {Q : Exit → Act → World → Prop} {L : List Oper} {a : Act} {w : World} {fl : List FP} {bs : List Nat}
structure PInv (L : List Oper) (fl : List FP) (bs : List Nat) (a : Act) (w0 : World) (listed : Array Bool) (g : Nat → Value) (a' : Act) (w' : World) : Prop where
  act : a' = puts L g 0 a
  closed : ∀ i o, L[i]? = some o → listed.getD i false = true → ∀ e, e ∈ o.after → Region.binds .any e = true → listed.getD e.on false = true
  os : w'.os = w0.os
  tape : w'.tape = w0.tape
  output : w'.output = w0.output
  size : w0.heap.size ≤ w'.heap.size
  old : ∀ b, b < w0.heap.size → b ∉ bs → w'.heap[b]? = w0.heap[b]?
  vals : ∀ i, i < L.length → listed.getD i false = true → g i = (fct fl i).v
  un : ∀ k b, bs[k]? = some b → (∀ i, i < L.length → listed.getD i false = true → (fct fl i).slot ≠ some k) → w'.heap[b]? = w0.heap[b]?
  done : ∀ i k c T b, i < L.length → listed.getD i false = true → fct fl i = .put k c T → bs[k]? = some b → w'.heap[b]? = some (.cells c T (0, 0))

variable {N : Nat} {s : SL}
end
/-! ### Chunks -/
section
variable {L : List Ck} {d : Ck} {w w' w0 : World} {i i1 i2 b1 b2 : Nat} {a1 a2 c1 c2 : Array Value} {T1 T2 S1 S2 : TypeId} {Z : Nat → Prop}
end
end Go.Proofs.YtjkinpbfmihhdaaGreat

/- Written by a program of ours (wip/gen.py): layer 13 -/
set_option linter.unusedVariables false
set_option maxRecDepth 20000
set_option maxHeartbeats 2000000
namespace Go.Proofs.YtjkinpbfmihhdaaGreat
open Go.RowKit
theorem cl29 : callable Tryz.prog 29 = true := by kernel_rfl

theorem fo32_0 : fieldOff Tryz.prog 32 0 0 = true := by kernel_rfl

end Go.Proofs.YtjkinpbfmihhdaaGreat

/- Handles and their words, in numbers. -/
namespace Go.Proofs.YtjkinpbfmihhdaaGreat
open Go.RowKit

/-- A handle that is formed. -/
structure HF (h : Handle) : Prop where
  i0 : 0 ≤ h.index
  i1 : h.index < 1048576
  g0 : 0 ≤ h.gen
  g1 : h.gen ≤ 1073741823
  t0 : 0 ≤ h.tenant
  t1 : h.tenant < 64

end Go.Proofs.YtjkinpbfmihhdaaGreat

/- Nodes by handles, alone: what reading, writing, swapping, granting and dropping come to, without the code. -/
set_option linter.unusedVariables false
namespace Go.Proofs.YtjkinpbfmihhdaaGreat
open Go.RowKit

theorem runR {t : T Res} {M : Mem} {ws' : List Int} {n : Nat} {most : Int} {r : Res} {fu : Nat} (h : Runs t M.ws n r ws') (hm : (n : Int) ≤ most) (hm2 : most ≤ 1000000) (hn : n < fu) : ∃ c, D.prog_Run_Res fu (fu, t) M cap0 most = some (r, (n : Int), true, ⟨ws', c⟩) := by
  have h2 := runG_eq (z := (⟨0, 0⟩ : Res)) (fu := fu) (d := fu) (most := most) h hm hm2 (Nat.le_of_lt hn) hn
  exact h2

theorem load_runsR {at_ : Int} {f : Int → T Res} {ws ws' : List Int} {n : Nat} {r : Res} (h0 : 0 ≤ at_) (h1 : at_ < ws.length) (h : Runs (f (rd ws at_)) ws n r ws') : Runs (D.prog_Load_Res at_ f) ws (n + 1) r ws' := Runs.load h0 h1 h

theorem store_runsR {at_ w : Int} {f : Unit → T Res} {ws ws' : List Int} {n : Nat} {r : Res} (h0 : 0 ≤ at_) (h1 : at_ < ws.length) (h : Runs (f ()) (ws.set at_.toNat w) n r ws') : Runs (D.prog_Store_Res at_ w f) ws (n + 1) r ws' := Runs.store h0 h1 h

theorem swap_runsR {at_ was w : Int} {f : Bool → T Res} {ws ws' : List Int} {n : Nat} {r : Res} (h0 : 0 ≤ at_) (h1 : at_ < ws.length) (h : Runs (f (rd ws at_ == was)) (if rd ws at_ = was then ws.set at_.toNat w else ws) n r ws') : Runs (D.prog_Swap_Res at_ was w f) ws (n + 1) r ws' := by
  refine Runs.act (op := 2) (by omega) (getI_rd h0 h1) ?_
  have : acted 2 at_ was w (rd ws at_) ws = (if rd ws at_ = was then ws.set at_.toNat w else ws) := by simp [acted]
  rw [this]
  exact h

section
variable {s : Seat} (hs : D.check_Seat_Formed s = true) {ws : List Int} (hl : Len s.p ws) {w f : Int} {h : Handle} (hm : D.handle_Mine w s.tenant s.p.nodes = (h, true)) (hn : 0 ≤ h.index ∧ h.index < s.p.nodes)
include hs hl hm hn
end
end Go.Proofs.YtjkinpbfmihhdaaGreat

/- Nodes by handles, alone: granting and dropping; what is laid out at first. -/
set_option linter.unusedVariables false
namespace Go.Proofs.YtjkinpbfmihhdaaGreat
open Go.RowKit

theorem PoolAt.start {p : Plan} (hp : PF p) {ws : List Int} (h : LaidAt p ws) {t : Int} (ht : 0 ≤ t ∧ t < p.threads) : PoolAt p t ws ⟨allN p, [], fun _ => ⟨0, 0, 0⟩⟩ 0 := by
  have hN := nodes_le hp
  have hF := laid_free hp h
  refine ⟨hF, laid_ret hp h ht, List.nodup_nil, fun _ h => (by cases h), fun n n0 n1 => laid_state hp h ⟨n0, n1⟩, fun j j0 j1 => laid_hz hp h j0 j1, fun n f hn f0 f1 => ?_⟩
  have hr := hF.range n hn
  exact h.zero _ (by unfold sp; omega) fun m _ _ => by unfold sp; omega

section
variable {s : Seat} (hs : D.check_Seat_Formed s = true) (hnn : s.p.nodes ≤ 1000) {ws : List Int} {P : Pool} {g : Int} (h : PoolAt s.p s.thread ws P g) (hg : g < 900000)
include hs hnn h hg
end
end Go.Proofs.YtjkinpbfmihhdaaGreat

/- Closed forms of the plan's places of kinds and cells. -/
namespace Go.Proofs.YtjkinpbfmihhdaaGreat
open Go.RowKit
section
variable {p : Plan} (hp : PF p)
include hp
theorem Kind_eq (d : Int) : D.plan_Plan_Kind p d = if 0 ≤ d ∧ d < p.domains then 1 + d * (1 + D.plan_Plan_cells p) else -1 := by
  have hc := cells_le hp
  have d1 := hp.d1
  have d2 := hp.d2
  unfold D.plan_Plan_Kind D.plan_Plan_domain
  refine place_if hp ?_ ?_
  · simp only [all_cons, all_nil, and_true]
    rw [wrap_id (by omega) (by omega)]
    omega
  · intro hq
    have h2 := dc_le hp hq.1 hq.2
    rw [wrap_id (x := 1 + D.plan_Plan_cells p) (by omega) (by omega), wrap_id (x := d * _) (by omega) (by omega), wrap_id (by omega) (by omega)]

end
end Go.Proofs.YtjkinpbfmihhdaaGreat

/- Written by a program of ours (wip/gen.py): queues -/
set_option linter.unusedVariables false
set_option maxRecDepth 20000
set_option maxHeartbeats 2000000
namespace Go.Proofs.YtjkinpbfmihhdaaGreat
open Go.RowKit
theorem cl146 : callable Tryz.prog 146 = true := by kernel_rfl

theorem cl148 : callable Tryz.prog 148 = true := by kernel_rfl

theorem cl237 : callable Tryz.prog 237 = true := by kernel_rfl

theorem cl238 : callable Tryz.prog 238 = true := by kernel_rfl

theorem cl239 : callable Tryz.prog 239 = true := by kernel_rfl

theorem cl240 : callable Tryz.prog 240 = true := by kernel_rfl

theorem cl241 : callable Tryz.prog 241 = true := by kernel_rfl

theorem cl251 : callable Tryz.prog 251 = true := by kernel_rfl

theorem cl72 : callable Tryz.prog 72 = true := by kernel_rfl

theorem fo219_0 : fieldOff Tryz.prog 219 0 0 = true := by kernel_rfl

theorem fo219_1 : fieldOff Tryz.prog 219 1 8 = true := by kernel_rfl

theorem fo219_2 : fieldOff Tryz.prog 219 2 9 = true := by kernel_rfl

theorem ta219 : tyA Tryz.prog 219 10 = true := by kernel_rfl

theorem ts219 : sized Tryz.prog 219 10 = true := by kernel_rfl

theorem tz219 : zeroOf Tryz.prog 219 = some (.agg (whereC (⟨(⟨(⟨0, 0, 0, 0, 0, 0⟩ : Plan), 0, 0⟩ : Seat), 0, 0⟩ : Where)).toArray) := by kernel_rfl

def D.queue_at (a0 : Seat) (a1 : Int) : Where := (⟨a0, (D.plan_Plan_Cell a0.p a1 0), (D.plan_Plan_Cell a0.p a1 1)⟩ : Where)

theorem c_queue_at (w0 : World) 
    (a0 : Seat) (a1 : Int) :
    Calls Tryz.prog 146 #[.agg (seatC a0).toArray, .int .i64 a1] w0 (PureRes (.agg (whereC (D.queue_at a0 a1)).toArray) w0) := by
 refine enter Tryz.func146 rfl 15 rfl rfl fun fr r => ?_
 have hB := Below.refl w0.heap.size w0
 refine wsr ?_
 refine seq_new (.cells ((seatC a0)).toArray 29 (0, 0)) r (fun R => y_box r (v := (.agg (seatC a0).toArray)) rfl) rfl fun fr b1 w2 n3 r => ?_
 obtain ⟨e_b1, z_w2, h_b1, hB, zB⟩ := n3.all hB
 refine seq_new (.cells ((whereC (⟨(⟨(⟨0, 0, 0, 0, 0, 0⟩ : Plan), 0, 0⟩ : Seat), 0, 0⟩ : Where))).toArray 219 (0, 0)) r (fun R => y_alloc tz219) rfl fun fr b4 w5 n6 r => ?_
 have h_b1 := keep n6.below h_b1
 obtain ⟨e_b4, z_w5, h_b4, hB, zB⟩ := n6.all hB
 refine wn ?_
 refine wp_seq ?_
 refine wp_drawnF 10 [.val (.agg (seatC a0).toArray), .val (.pointer (some ⟨b1, 0, none⟩)), .val (.agg (planC a0.p).toArray), .val (I a1), .val (I (D.plan_Plan_Cell a0.p a1 0)), .val (.pointer (some ⟨b1, 0, none⟩)), .val (.agg (planC a0.p).toArray), .val (I a1), .val (I (D.plan_Plan_Cell a0.p a1 1)), .val (.agg (whereC (⟨a0, (D.plan_Plan_Cell a0.p a1 0), (D.plan_Plan_Cell a0.p a1 1)⟩ : Where)).toArray)] mixed r (by kernel_rfl) (within_cons (by exact trivial) (within_cons (by exact trivial) (within_cons (by exact trivial) (within_cons (by exact trivial) (within_cons (by exact trivial) (within_cons (by exact trivial) (within_cons (by exact trivial) (within_cons (by exact trivial) (within_cons (by exact trivial) (within_cons (by exact trivial) within_nil)))))))))) ?_ ?_
 ·
  refine ec r (fun _ u _ b d s => y_load_agg s (cs := (seatC a0)) (n := 8) rfl (keep b h_b1) ta29 rfl bz) ?_
  refine ec r (fun _ u _ b d s => y_fieldAddr s (b := b1) (o := 0) rfl fo29_0 bz) ?_
  refine ec r (fun _ u _ b d s => y_load_agg s (cs := (planC a0.p)) (n := 6) d.1 (keep b h_b1) ta25 rfl bz) ?_
  refine ec r (fun _ u _ b d s => y_move s rfl bz) ?_
  refine ec r (fun fr1 u w' hb' hd r' => y_call r' (args := [(.agg (planC a0.p).toArray), (I a1), (I 0)]) (lc hd.1 (lc hd.2.1 (lc rfl l0))) cl72 ((c_plan_Plan_Cell _ a0.p a1 0).mono (by rintro _ w2 ⟨rfl, hb2⟩; exact ⟨_, rfl, hb2, rfl⟩))) ?_
  refine ec r (fun _ u _ b d s => y_fieldAddr s (b := b1) (o := 0) rfl fo29_0 bz) ?_
  refine ec r (fun _ u _ b d s => y_load_agg s (cs := (planC a0.p)) (n := 6) d.1 (keep b h_b1) ta25 rfl bz) ?_
  refine ec r (fun _ u _ b d s => y_move s rfl bz) ?_
  refine ec r (fun fr1 u w' hb' hd r' => y_call r' (args := [(.agg (planC a0.p).toArray), (I a1), (I 1)]) (lc hd.1 (lc hd.2.1 (lc rfl l0))) cl72 ((c_plan_Plan_Cell _ a0.p a1 1).mono (by rintro _ w2 ⟨rfl, hb2⟩; exact ⟨_, rfl, hb2, rfl⟩))) ?_
  refine ec r (fun fr1 u w' hb' hd r' => y_build r' (v := (.agg (whereC (⟨a0, (D.plan_Plan_Cell a0.p a1 0), (D.plan_Plan_Cell a0.p a1 1)⟩ : Where)).toArray)) (bs3 (congrArg (fun z => (0, z)) hd.1) (congrArg (fun z => (1, z)) hd.2.1) (congrArg (fun z => (2, z)) hd.2.2.1) (by kernel_rfl)) bz) ?_
  exact each_nil
 ·
  intro fr u w7 hb hΦ hne r
  have r := r.congr (sc (hΦ 9 (by decide)) (sc (hΦ 8 (by decide)) (sc (hΦ 7 (by decide)) (sc (hΦ 6 (by decide)) (sc (hΦ 5 (by decide)) (sc (hΦ 4 (by decide)) (sc (hΦ 3 (by decide)) (sc (hΦ 2 (by decide)) (sc (hΦ 1 (by decide)) (sc (hΦ 0 (by decide)) rfl))))))))))
  have z_w7 := hb.size
  have h_b1 := keep hb h_b1
  have h_b4 := keep hb h_b4
  obtain ⟨hB, zB⟩ := bon hb hB
  refine seq_upd (.cells ((whereC (⟨a0, (D.plan_Plan_Cell a0.p a1 0), (D.plan_Plan_Cell a0.p a1 1)⟩ : Where))).toArray 219 (0, 0)) r (fun R => y_store r (o := 0) (v := (.agg (whereC (⟨a0, (D.plan_Plan_Cell a0.p a1 0), (D.plan_Plan_Cell a0.p a1 1)⟩ : Where)).toArray)) rfl rfl h_b4 ts219 (Nat.le_of_ble_eq_true rfl) rfl (over_all rfl)) rfl fun fr w8 u9 r => ?_
  have z_w8 := u9.size
  have h_b1 := u9.keep h_b1 (by omega)
  have h_b4 := u9.at_
  obtain ⟨hB, zB⟩ := u9.on hB (by omega)
  refine wn ?_
  refine wp_ret ?_
  refine ret_cell r rfl rfl h_b4 (k := 10) rfl ta219 ?_
  exact ⟨rfl, hB⟩

def D.queue_fail (a0 : Int) : T Res := (D.prog_Done_Res (⟨a0, 0⟩ : Res))

theorem c_queue_fail {n : Nat} {F : Nat → Prop} {w0 : World} (hF : ∀ b, F b → b < w0.heap.size)
    (a0 : Int) :
    Calls Tryz.prog 241 #[.int .i64 a0] w0 (RepRes Tryz.prog encRes n (D.queue_fail a0) F w0) := by
 refine enter Tryz.func241 rfl 6 rfl rfl fun fr r => ?_
 have hB := Below.refl w0.heap.size w0
 refine wsr ?_
 refine seq_new (.cells (progCells false encRes.zero 0 0 0 0 .nilFunc) 39 (0, 0)) r (fun R => y_alloc tz39) rfl fun fr b1 w2 n3 r => ?_
 obtain ⟨e_b1, z_w2, h_b1, hB, zB⟩ := n3.all hB
 refine wn ?_
 refine wsr ?_
 refine seq_val (I a0) r (fun R => y_move r rfl) rfl fun fr r => ?_
 refine seq_val (.agg (resC (⟨a0, 0⟩ : Res)).toArray) r (fun R => y_build r (by kernel_rfl)) rfl fun fr r => ?_
 have hF1 := fgrow hF hB b1
 refine seq_call r (c_prog_Done_Res (F := (fun b => F b ∨ (w0.heap.size ≤ b ∧ b < w2.heap.size ∧ b ≠ b1))) (n := n) hF1 (⟨a0, 0⟩ : Res)) (fun R hc => y_call r rfl cl211 hc) rfl ?_
 rintro _ w4 ⟨v5, rfl, hb, hr6⟩
 refine ⟨_, rfl, fun fr r => ?_⟩
 have z_w4 := hb.size
 have h_b1 := keep hb h_b1
 obtain ⟨hB, zB⟩ := bon hb hB
 refine seq_upd (.cells v5.cells 39 (0, 0)) r (fun R => y_storep r hr6.shape rfl rfl h_b1 ts39 rfl) rfl fun fr w7 u8 r => ?_
 have z_w7 := u8.size
 have h_b1 := u8.at_
 obtain ⟨hB, zB⟩ := u8.on hB (by omega)
 refine wn ?_
 refine wp_ret ?_
 have hs := hr6.shape.cells
 refine ret_cell r rfl rfl h_b1 (k := 8) hs.1 ta39 ?_
 rw [← hs.2.2]
 exact rfin hF hB hr6 u8 (by omega) (by omega) (by omega)

def D.queue_where_granted_1 (c0 : (Int → T Res)) (a0 : Grant) : T Res := (bif (a0.e != 0) then (D.queue_fail a0.e) else (c0 a0.node))

theorem c_queue_where_granted_1 {n : Nat} {F : Nat → Prop} {w0 : World} (hF : ∀ b, F b → b < w0.heap.size)
    {c0_f : FuncId} {c0_1 c0_2 : List Value} {c0 : (Int → T Res)} {c0_b : Nat} (c0_F : F c0_b) (c0_h : w0.heap[c0_b]? = some (.cells #[.func (.func c0_f) c0_1.toArray c0_2.toArray] 204 (0, 0))) (c0_n : FnT Tryz.prog encRes i64 (n + 1) F w0 (.func (.func c0_f) c0_1.toArray c0_2.toArray) c0) (a0 : Grant) :
    Calls Tryz.prog 251 #[.agg (grantC a0).toArray, .pointer (some ⟨c0_b, 0, none⟩)] w0 (RepRes Tryz.prog encRes n (D.queue_where_granted_1 c0 a0) F w0) := by
 refine enter Tryz.func251 rfl 14 rfl rfl fun fr r => ?_
 have hB := Below.refl w0.heap.size w0
 have l_c0_b := lt_of_block c0_h
 refine wsr ?_
 refine seq_new (.cells ((grantC a0)).toArray 153 (0, 0)) r (fun R => y_box r (v := (.agg (grantC a0).toArray)) rfl) rfl fun fr b1 w2 n3 r => ?_
 obtain ⟨e_b1, z_w2, h_b1, hB, zB⟩ := n3.all hB
 refine seq_new (.cells (progCells false encRes.zero 0 0 0 0 .nilFunc) 39 (0, 0)) r (fun R => y_alloc tz39) rfl fun fr b4 w5 n6 r => ?_
 have h_b1 := keep n6.below h_b1
 obtain ⟨e_b4, z_w5, h_b4, hB, zB⟩ := n6.all hB
 refine wn ?_
 refine wp_seq ?_
 refine wsr ?_
 refine seq_val _ r (fun R => y_fieldAddr r (o := 0) rfl fo153_2) rfl fun fr r => ?_
 refine seq_val (I a0.e) r (fun R => y_load_one r rfl h_b1 to30 rfl) rfl fun fr r => ?_
 refine seq_val _ r (fun R => y_bin r rfl rfl rfl rfl) rfl fun fr r => ?_
 refine wn ?_
 refine wp_cond_split (t := (a0.e != 0)) (r.ev rfl) (fun h7 => ?_) (fun h7 => ?_)
 ·
  refine wsr ?_
  refine seq_val _ r (fun R => y_fieldAddr r (o := 0) rfl fo153_2) rfl fun fr r => ?_
  refine seq_val (I a0.e) r (fun R => y_load_one r rfl h_b1 to30 rfl) rfl fun fr r => ?_
  have hF1 := fgrow hF hB b4
  refine seq_call r (c_queue_fail (F := (fun b => F b ∨ (w0.heap.size ≤ b ∧ b < w5.heap.size ∧ b ≠ b4))) (n := n) hF1 a0.e) (fun R hc => y_call r rfl cl241 hc) rfl ?_
  rintro _ w8 ⟨v9, rfl, hb, hr10⟩
  refine ⟨_, rfl, fun fr r => ?_⟩
  have z_w8 := hb.size
  have h_b1 := keep hb h_b1
  have h_b4 := keep hb h_b4
  obtain ⟨hB, zB⟩ := bon hb hB
  refine seq_upd (.cells v9.cells 39 (0, 0)) r (fun R => y_storep r hr10.shape rfl rfl h_b4 ts39 rfl) rfl fun fr w11 u12 r => ?_
  have z_w11 := u12.size
  have h_b1 := u12.keep h_b1 (by omega)
  have h_b4 := u12.at_
  obtain ⟨hB, zB⟩ := u12.on hB (by omega)
  refine wn ?_
  refine wp_ret ?_
  have hd : D.queue_where_granted_1 c0 a0 = (D.queue_fail a0.e) := (cond_t h7).trans (rfl)
  have hs := hr10.shape.cells
  refine ret_cell r rfl rfl h_b4 (k := 8) hs.1 ta39 ?_
  rw [← hs.2.2, hd]
  exact rfin hF hB hr10 u12 (by omega) (by omega) (by omega)
 ·
  refine wp_skip ?_
  refine wsr ?_
  refine seq_val (.func (.func c0_f) c0_1.toArray c0_2.toArray) r (fun R => y_load_one r rfl (keep hB c0_h) to204 rfl) rfl fun fr r => ?_
  refine seq_val _ r (fun R => y_fieldAddr r (o := 0) rfl fo153_0) rfl fun fr r => ?_
  refine seq_val (I a0.node) r (fun R => y_load_one r rfl h_b1 to3 rfl) rfl fun fr r => ?_
  refine seq_call r (c0_n.at_.2 n (Nat.lt_succ_self n) a0.node w5 (Same.below hB hF) hB.size) (fun R hc => y_callv1 r rfl rfl c0_n.at_.1 hc) rfl ?_
  rintro _ w13 ⟨v14, rfl, hb, hr15⟩
  refine ⟨_, rfl, fun fr r => ?_⟩
  have z_w13 := hb.size
  have h_b1 := keep hb h_b1
  have h_b4 := keep hb h_b4
  obtain ⟨hB, zB⟩ := bon hb hB
  refine seq_upd (.cells v14.cells 39 (0, 0)) r (fun R => y_storep r hr15.shape rfl rfl h_b4 ts39 rfl) rfl fun fr w16 u17 r => ?_
  have z_w16 := u17.size
  have h_b1 := u17.keep h_b1 (by omega)
  have h_b4 := u17.at_
  obtain ⟨hB, zB⟩ := u17.on hB (by omega)
  refine wn ?_
  refine wp_ret ?_
  have hd : D.queue_where_granted_1 c0 a0 = (c0 a0.node) := (cond_f h7).trans (rfl)
  have hs := hr15.shape.cells
  refine ret_cell r rfl rfl h_b4 (k := 8) hs.1 ta39 ?_
  rw [← hs.2.2, hd]
  exact RepRes.fin hB hr15 u17 (fun b hb => .inl hb) (fun h => by have := hF _ h; omega) (by omega) (by omega) (by omega)

def D.queue_where_granted (j : Nat) (a0 : Where) (a1 : (Int → T Res)) : T Res := (T.bind (D.alloc_New j a0.seat.p a0.seat.thread 1) (fun x => (D.queue_where_granted_1 a1 x)))

theorem c_queue_where_granted {n : Nat} {F : Nat → Prop} {j : Nat} {w0 : World} (hF : ∀ b, F b → b < w0.heap.size) (hj : n < j)
    (a0 : Where) {a1_f : FuncId} {a1_1 a1_2 : List Value} {a1 : (Int → T Res)} (a1_n : FnT Tryz.prog encRes i64 (n + 1) F w0 (.func (.func a1_f) a1_1.toArray a1_2.toArray) a1) :
    Calls Tryz.prog 148 #[.agg (whereC a0).toArray, .func (.func a1_f) a1_1.toArray a1_2.toArray] w0 (RepRes Tryz.prog encRes n (D.queue_where_granted j a0 a1) F w0) := by
 refine enter Tryz.func148 rfl 14 rfl rfl fun fr r => ?_
 have hB := Below.refl w0.heap.size w0
 refine wsr ?_
 refine seq_new (.cells ((whereC a0)).toArray 219 (0, 0)) r (fun R => y_box r (v := (.agg (whereC a0).toArray)) rfl) rfl fun fr b1 w2 n3 r => ?_
 obtain ⟨e_b1, z_w2, h_b1, hB, zB⟩ := n3.all hB
 refine seq_new (.cells #[.func (.func a1_f) a1_1.toArray a1_2.toArray] 204 (0, 0)) r (fun R => y_box r (v := (.func (.func a1_f) a1_1.toArray a1_2.toArray)) rfl) rfl fun fr b4 w5 n6 r => ?_
 have h_b1 := keep n6.below h_b1
 obtain ⟨e_b4, z_w5, h_b4, hB, zB⟩ := n6.all hB
 refine seq_new (.cells (progCells false encRes.zero 0 0 0 0 .nilFunc) 39 (0, 0)) r (fun R => y_alloc tz39) rfl fun fr b7 w8 n9 r => ?_
 have h_b1 := keep n9.below h_b1
 have h_b4 := keep n9.below h_b4
 obtain ⟨e_b7, z_w8, h_b7, hB, zB⟩ := n9.all hB
 refine wn ?_
 refine wsr ?_
 refine seq_val _ r (fun R => y_fieldAddr r (o := 0) rfl fo219_0) rfl fun fr r => ?_
 refine seq_val _ r (fun R => y_fieldAddr r (o := 0) rfl fo29_0) rfl fun fr r => ?_
 refine seq_val (.agg (planC a0.seat.p).toArray) r (fun R => y_load_agg r (cs := (planC a0.seat.p)) (n := 6) rfl h_b1 ta25 rfl) rfl fun fr r => ?_
 refine seq_val _ r (fun R => y_fieldAddr r (o := 0) rfl fo219_0) rfl fun fr r => ?_
 refine seq_val _ r (fun R => y_fieldAddr r (o := 0) rfl fo29_2) rfl fun fr r => ?_
 refine seq_val (I a0.seat.thread) r (fun R => y_load_one r rfl h_b1 to3 rfl) rfl fun fr r => ?_
 have hF1 := fgrow hF hB b7
 refine seq_call r (c_alloc_New (j := j) (F := (fun b => F b ∨ (w0.heap.size ≤ b ∧ b < w8.heap.size ∧ b ≠ b7))) (n := n) hF1 (by omega) a0.seat.p a0.seat.thread 1) (fun R hc => y_call r rfl cl89 hc) rfl ?_
 rintro _ w10 ⟨v11, rfl, hb, hr12⟩
 refine ⟨_, rfl, fun fr r => ?_⟩
 have z_w10 := hb.size
 have h_b1 := keep hb h_b1
 have h_b4 := keep hb h_b4
 have h_b7 := keep hb h_b7
 obtain ⟨hB, zB⟩ := bon hb hB
 refine seq_val (.func (.func 251) #[] #[.pointer (some ⟨b4, 0, none⟩)]) r (fun R => y_makeFunc r rfl) rfl fun fr r => ?_
 have hF1 := fgrow hF hB b7
 have f13 : ((fun b => F b ∨ (w0.heap.size ≤ b ∧ b < w10.heap.size ∧ b ≠ b7))) b4 := (.inr ⟨by omega, by omega, by omega⟩)
 refine seq_call r (c_prog_Then_Grant_Res_le (F := (fun b => F b ∨ (w0.heap.size ≤ b ∧ b < w10.heap.size ∧ b ≠ b7))) (n := n) hF1 (Rep.mono (by rintro b (h | h); (rcases h with h | ⟨h1, h2, h3⟩; exact .inl h; exact .inr ⟨h1, by omega, h3⟩); exact .inr ⟨by omega, by omega, by omega⟩) (Same.refl _ _) (by omega) n _ _ hr12) ⟨251, [], [.pointer (some ⟨b4, 0, none⟩)], cl251, rfl, fun m hm x w' hs hz => c_queue_where_granted_1 (fun b hb => Nat.lt_of_lt_of_le (hF1 b hb) hz) f13 (hs.at_ f13 h_b4) (a1_n.mono (by omega) (fun b h => .inl h) ((Same.below hB hF).trans (hs.sub (fun b h => .inl h))) (Nat.le_trans hB.size hz)) x⟩) (fun R hc => y_call r rfl cl113 hc) rfl ?_
 rintro _ w14 ⟨v15, rfl, hb, hr16⟩
 refine ⟨_, rfl, fun fr r => ?_⟩
 have z_w14 := hb.size
 have h_b1 := keep hb h_b1
 have h_b4 := keep hb h_b4
 have h_b7 := keep hb h_b7
 obtain ⟨hB, zB⟩ := bon hb hB
 refine seq_upd (.cells v15.cells 39 (0, 0)) r (fun R => y_storep r hr16.shape rfl rfl h_b7 ts39 rfl) rfl fun fr w17 u18 r => ?_
 have z_w17 := u18.size
 have h_b1 := u18.keep h_b1 (by omega)
 have h_b4 := u18.keep h_b4 (by omega)
 have h_b7 := u18.at_
 obtain ⟨hB, zB⟩ := u18.on hB (by omega)
 refine wn ?_
 refine wp_ret ?_
 have hs := hr16.shape.cells
 refine ret_cell r rfl rfl h_b7 (k := 8) hs.1 ta39 ?_
 rw [← hs.2.2]
 exact rfin hF hB hr16 u18 (by omega) (by omega) (by omega)

def D.queue_word (a0 : Int) : Int := (IntKind.u64.wrap (IntKind.i64.wrap (a0 + 1)))

theorem c_queue_word (w0 : World) 
    (a0 : Int) :
    Calls Tryz.prog 238 #[.int .i64 a0] w0 (PureRes (.int .u64 (D.queue_word a0)) w0) := by
 refine enter Tryz.func238 rfl 6 rfl rfl fun fr r => ?_
 have hB := Below.refl w0.heap.size w0
 refine wsr ?_
 refine seq_val (U 0) r (fun R => y_assign r rfl) rfl fun fr r => ?_
 refine wn ?_
 refine wsr ?_
 refine seq_val (I a0) r (fun R => y_move r rfl) rfl fun fr r => ?_
 refine seq_val _ r (fun R => y_bin r rfl rfl rfl rfl) rfl fun fr r => ?_
 refine seq_val (U (V (W (a0 + 1)))) r (fun R => y_convert r rfl ti3 ti22) rfl fun fr r => ?_
 refine seq_val (U (V (W (a0 + 1)))) r (fun R => y_assign r rfl) rfl fun fr r => ?_
 refine wn ?_
 refine wp_ret ?_
 refine ret_tmp r rfl rfl ?_
 exact ⟨rfl, hB⟩

def D.queue_Make_1_1_1  : T Res := (D.queue_fail 0)

theorem c_queue_Make_1_1_1 {n : Nat} {F : Nat → Prop} {w0 : World} (hF : ∀ b, F b → b < w0.heap.size)
     :
    Calls Tryz.prog 240 #[] w0 (RepRes Tryz.prog encRes n D.queue_Make_1_1_1 F w0) := by
 refine enter Tryz.func240 rfl 2 rfl rfl fun fr r => ?_
 have hB := Below.refl w0.heap.size w0
 refine wsr ?_
 refine seq_new (.cells (progCells false encRes.zero 0 0 0 0 .nilFunc) 39 (0, 0)) r (fun R => y_alloc tz39) rfl fun fr b1 w2 n3 r => ?_
 obtain ⟨e_b1, z_w2, h_b1, hB, zB⟩ := n3.all hB
 refine wn ?_
 refine wsr ?_
 have hF1 := fgrow hF hB b1
 refine seq_call r (c_queue_fail (F := (fun b => F b ∨ (w0.heap.size ≤ b ∧ b < w2.heap.size ∧ b ≠ b1))) (n := n) hF1 0) (fun R hc => y_call r rfl cl241 hc) rfl ?_
 rintro _ w4 ⟨v5, rfl, hb, hr6⟩
 refine ⟨_, rfl, fun fr r => ?_⟩
 have z_w4 := hb.size
 have h_b1 := keep hb h_b1
 obtain ⟨hB, zB⟩ := bon hb hB
 refine seq_upd (.cells v5.cells 39 (0, 0)) r (fun R => y_storep r hr6.shape rfl rfl h_b1 ts39 rfl) rfl fun fr w7 u8 r => ?_
 have z_w7 := u8.size
 have h_b1 := u8.at_
 obtain ⟨hB, zB⟩ := u8.on hB (by omega)
 refine wn ?_
 refine wp_ret ?_
 have hs := hr6.shape.cells
 refine ret_cell r rfl rfl h_b1 (k := 8) hs.1 ta39 ?_
 rw [← hs.2.2]
 exact rfin hF hB hr6 u8 (by omega) (by omega) (by omega)

def D.queue_Make_1_1 (c0 : Where) (c1 : Int) : T Res := (D.prog_Store_Res c0.tail (D.queue_word c1) (fun _ => D.queue_Make_1_1_1))

theorem c_queue_Make_1_1 {n : Nat} {F : Nat → Prop} {w0 : World} (hF : ∀ b, F b → b < w0.heap.size)
    (c0 : Where) {c0_b : Nat} (c0_F : F c0_b) (c0_h : w0.heap[c0_b]? = some (.cells ((whereC c0)).toArray 219 (0, 0))) (c1 : Int) {c1_b : Nat} (c1_F : F c1_b) (c1_h : w0.heap[c1_b]? = some (.cells ([(.int .i64 c1)]).toArray 3 (0, 0))) :
    Calls Tryz.prog 239 #[.pointer (some ⟨c0_b, 0, none⟩), .pointer (some ⟨c1_b, 0, none⟩)] w0 (RepRes Tryz.prog encRes n (D.queue_Make_1_1 c0 c1) F w0) := by
 refine enter Tryz.func239 rfl 8 rfl rfl fun fr r => ?_
 have hB := Below.refl w0.heap.size w0
 have l_c0_b := lt_of_block c0_h
 have l_c1_b := lt_of_block c1_h
 refine wsr ?_
 refine seq_new (.cells (progCells false encRes.zero 0 0 0 0 .nilFunc) 39 (0, 0)) r (fun R => y_alloc tz39) rfl fun fr b1 w2 n3 r => ?_
 obtain ⟨e_b1, z_w2, h_b1, hB, zB⟩ := n3.all hB
 refine wn ?_
 refine wp_seq ?_
 refine wp_drawnF 4 [.val (.pointer (some ⟨c0_b, 9, none⟩)), .val (I c0.tail), .val (I c1), .val (U (D.queue_word c1))] mixed r (by kernel_rfl) (within_cons (by exact trivial) (within_cons (by exact trivial) (within_cons (by exact trivial) (within_cons (by exact trivial) within_nil)))) ?_ ?_
 ·
  refine ec r (fun _ u _ b d s => y_fieldAddr s (b := c0_b) (o := 0) rfl fo219_2 bz) ?_
  refine ec r (fun _ u _ b d s => y_load_one s d.1 (keep2 hB b c0_h) to3 rfl bz) ?_
  refine ec r (fun _ u _ b d s => y_load_one s rfl (keep2 hB b c1_h) to3 rfl bz) ?_
  refine ec r (fun fr1 u w' hb' hd r' => y_call r' (args := [(I c1)]) (lc hd.1 l0) cl238 ((c_queue_word _ c1).mono (by rintro _ w2 ⟨rfl, hb2⟩; exact ⟨_, rfl, hb2, rfl⟩))) ?_
  exact each_nil
 ·
  intro fr u w4 hb hΦ hne r
  have r := r.congr (sc (hΦ 3 (by decide)) (sc (hΦ 2 (by decide)) (sc (hΦ 1 (by decide)) (sc (hΦ 0 (by decide)) rfl))))
  have z_w4 := hb.size
  have h_b1 := keep hb h_b1
  obtain ⟨hB, zB⟩ := bon hb hB
  have hF1 := fgrow hF hB b1
  refine seq_call r (c_prog_Store_Res (F := (fun b => F b ∨ (w0.heap.size ≤ b ∧ b < w4.heap.size ∧ b ≠ b1))) (n := n) hF1 c0.tail (D.queue_word c1) ⟨240, [], [], cl240, rfl, fun m hm _ w' hs hz => c_queue_Make_1_1_1 (fun b hb => Nat.lt_of_lt_of_le (hF1 b hb) hz) ⟩) (fun R hc => y_call r rfl cl120 hc) rfl ?_
  rintro _ w5 ⟨v6, rfl, hb, hr7⟩
  refine ⟨_, rfl, fun fr r => ?_⟩
  have z_w5 := hb.size
  have h_b1 := keep hb h_b1
  obtain ⟨hB, zB⟩ := bon hb hB
  refine seq_upd (.cells v6.cells 39 (0, 0)) r (fun R => y_storep r hr7.shape rfl rfl h_b1 ts39 rfl) rfl fun fr w8 u9 r => ?_
  have z_w8 := u9.size
  have h_b1 := u9.at_
  obtain ⟨hB, zB⟩ := u9.on hB (by omega)
  refine wn ?_
  refine wp_ret ?_
  have hs := hr7.shape.cells
  refine ret_cell r rfl rfl h_b1 (k := 8) hs.1 ta39 ?_
  rw [← hs.2.2]
  exact rfin hF hB hr7 u9 (by omega) (by omega) (by omega)

def D.queue_Make_1 (c0 : Where) (a0 : Int) : T Res := (D.prog_Store_Res c0.head (D.queue_word a0) (fun _ => (D.queue_Make_1_1 c0 a0)))

theorem c_queue_Make_1 {n : Nat} {F : Nat → Prop} {w0 : World} (hF : ∀ b, F b → b < w0.heap.size)
    (c0 : Where) {c0_b : Nat} (c0_F : F c0_b) (c0_h : w0.heap[c0_b]? = some (.cells ((whereC c0)).toArray 219 (0, 0))) (a0 : Int) :
    Calls Tryz.prog 237 #[.int .i64 a0, .pointer (some ⟨c0_b, 0, none⟩)] w0 (RepRes Tryz.prog encRes n (D.queue_Make_1 c0 a0) F w0) := by
 refine enter Tryz.func237 rfl 10 rfl rfl fun fr r => ?_
 have hB := Below.refl w0.heap.size w0
 have l_c0_b := lt_of_block c0_h
 refine wsr ?_
 refine seq_new (.cells #[(I a0)] 3 (0, 0)) r (fun R => y_box r (v := (I a0)) rfl) rfl fun fr b1 w2 n3 r => ?_
 obtain ⟨e_b1, z_w2, h_b1, hB, zB⟩ := n3.all hB
 refine seq_new (.cells (progCells false encRes.zero 0 0 0 0 .nilFunc) 39 (0, 0)) r (fun R => y_alloc tz39) rfl fun fr b4 w5 n6 r => ?_
 have h_b1 := keep n6.below h_b1
 obtain ⟨e_b4, z_w5, h_b4, hB, zB⟩ := n6.all hB
 refine wn ?_
 refine wp_seq ?_
 refine wp_drawnF 5 [.val (.pointer (some ⟨c0_b, 8, none⟩)), .val (I c0.head), .val (I a0), .val (U (D.queue_word a0)), .val (.func (.func 239) #[] #[.pointer (some ⟨c0_b, 0, none⟩), .pointer (some ⟨b1, 0, none⟩)])] mixed r (by kernel_rfl) (within_cons (by exact trivial) (within_cons (by exact trivial) (within_cons (by exact trivial) (within_cons (by exact trivial) (within_cons (by exact trivial) within_nil))))) ?_ ?_
 ·
  refine ec r (fun _ u _ b d s => y_fieldAddr s (b := c0_b) (o := 0) rfl fo219_1 bz) ?_
  refine ec r (fun _ u _ b d s => y_load_one s d.1 (keep2 hB b c0_h) to3 rfl bz) ?_
  refine ec r (fun _ u _ b d s => y_load_one s rfl (keep b h_b1) to3 rfl bz) ?_
  refine ec r (fun fr1 u w' hb' hd r' => y_call r' (args := [(I a0)]) (lc hd.1 l0) cl238 ((c_queue_word _ a0).mono (by rintro _ w2 ⟨rfl, hb2⟩; exact ⟨_, rfl, hb2, rfl⟩))) ?_
  refine ec r (fun _ u _ b d s => y_makeFunc s (v := (.func (.func 239) #[] #[.pointer (some ⟨c0_b, 0, none⟩), .pointer (some ⟨b1, 0, none⟩)])) rfl bz) ?_
  exact each_nil
 ·
  intro fr u w7 hb hΦ hne r
  have r := r.congr (sc (hΦ 4 (by decide)) (sc (hΦ 3 (by decide)) (sc (hΦ 2 (by decide)) (sc (hΦ 1 (by decide)) (sc (hΦ 0 (by decide)) rfl)))))
  have z_w7 := hb.size
  have h_b1 := keep hb h_b1
  have h_b4 := keep hb h_b4
  obtain ⟨hB, zB⟩ := bon hb hB
  have hF1 := fgrow hF hB b4
  have f8 : ((fun b => F b ∨ (w0.heap.size ≤ b ∧ b < w7.heap.size ∧ b ≠ b4))) c0_b := (.inl c0_F)
  have f9 : ((fun b => F b ∨ (w0.heap.size ≤ b ∧ b < w7.heap.size ∧ b ≠ b4))) b1 := (.inr ⟨by omega, by omega, by omega⟩)
  refine seq_call r (c_prog_Store_Res (F := (fun b => F b ∨ (w0.heap.size ≤ b ∧ b < w7.heap.size ∧ b ≠ b4))) (n := n) hF1 c0.head (D.queue_word a0) ⟨239, [], [.pointer (some ⟨c0_b, 0, none⟩), .pointer (some ⟨b1, 0, none⟩)], cl239, rfl, fun m hm _ w' hs hz => c_queue_Make_1_1 (fun b hb => Nat.lt_of_lt_of_le (hF1 b hb) hz) c0 f8 (hs.at_ f8 (keep hB c0_h)) a0 f9 (hs.at_ f9 h_b1)⟩) (fun R hc => y_call r rfl cl120 hc) rfl ?_
  rintro _ w10 ⟨v11, rfl, hb, hr12⟩
  refine ⟨_, rfl, fun fr r => ?_⟩
  have z_w10 := hb.size
  have h_b1 := keep hb h_b1
  have h_b4 := keep hb h_b4
  obtain ⟨hB, zB⟩ := bon hb hB
  refine seq_upd (.cells v11.cells 39 (0, 0)) r (fun R => y_storep r hr12.shape rfl rfl h_b4 ts39 rfl) rfl fun fr w13 u14 r => ?_
  have z_w13 := u14.size
  have h_b1 := u14.keep h_b1 (by omega)
  have h_b4 := u14.at_
  obtain ⟨hB, zB⟩ := u14.on hB (by omega)
  refine wn ?_
  refine wp_ret ?_
  have hs := hr12.shape.cells
  refine ret_cell r rfl rfl h_b4 (k := 8) hs.1 ta39 ?_
  rw [← hs.2.2]
  exact rfin hF hB hr12 u14 (by omega) (by omega) (by omega)

def D.queue_Make (j : Nat) (a0 : Seat) (a1 : Int) : T Res := (D.queue_where_granted j (D.queue_at a0 a1) (fun x => (D.queue_Make_1 (D.queue_at a0 a1) x)))

theorem c_queue_Make {n : Nat} {F : Nat → Prop} {j : Nat} {w0 : World} (hF : ∀ b, F b → b < w0.heap.size) (hj : n < j)
    (a0 : Seat) (a1 : Int) :
    Calls Tryz.prog 145 #[.agg (seatC a0).toArray, .int .i64 a1] w0 (RepRes Tryz.prog encRes n (D.queue_Make j a0 a1) F w0) := by
 refine enter Tryz.func145 rfl 12 rfl rfl fun fr r => ?_
 have hB := Below.refl w0.heap.size w0
 refine wsr ?_
 refine seq_new (.cells ((seatC a0)).toArray 29 (0, 0)) r (fun R => y_box r (v := (.agg (seatC a0).toArray)) rfl) rfl fun fr b1 w2 n3 r => ?_
 obtain ⟨e_b1, z_w2, h_b1, hB, zB⟩ := n3.all hB
 refine seq_new (.cells (progCells false encRes.zero 0 0 0 0 .nilFunc) 39 (0, 0)) r (fun R => y_alloc tz39) rfl fun fr b4 w5 n6 r => ?_
 have h_b1 := keep n6.below h_b1
 obtain ⟨e_b4, z_w5, h_b4, hB, zB⟩ := n6.all hB
 refine wn ?_
 refine wsr ?_
 refine seq_val (.agg (seatC a0).toArray) r (fun R => y_load_agg r (cs := (seatC a0)) (n := 8) rfl h_b1 ta29 rfl) rfl fun fr r => ?_
 refine seq_val (I a1) r (fun R => y_move r rfl) rfl fun fr r => ?_
 refine seq_call r (c_queue_at w5 a0 a1) (fun R hc => y_call r rfl cl146 hc) rfl ?_
 rintro _ w7 ⟨rfl, hb⟩
 refine ⟨_, rfl, fun fr r => ?_⟩
 have z_w7 := hb.size
 have h_b1 := keep hb h_b1
 have h_b4 := keep hb h_b4
 obtain ⟨hB, zB⟩ := bon hb hB
 refine seq_new (.cells ((whereC (⟨(⟨(⟨0, 0, 0, 0, 0, 0⟩ : Plan), 0, 0⟩ : Seat), 0, 0⟩ : Where))).toArray 219 (0, 0)) r (fun R => y_alloc tz219) rfl fun fr b8 w9 n10 r => ?_
 have h_b1 := keep n10.below h_b1
 have h_b4 := keep n10.below h_b4
 obtain ⟨e_b8, z_w9, h_b8, hB, zB⟩ := n10.all hB
 refine seq_upd (.cells ((whereC (D.queue_at a0 a1))).toArray 219 (0, 0)) r (fun R => y_store r (o := 0) (v := (.agg (whereC (D.queue_at a0 a1)).toArray)) rfl rfl h_b8 ts219 (Nat.le_of_ble_eq_true rfl) rfl (over_all rfl)) rfl fun fr w11 u12 r => ?_
 have z_w11 := u12.size
 have h_b1 := u12.keep h_b1 (by omega)
 have h_b4 := u12.keep h_b4 (by omega)
 have h_b8 := u12.at_
 obtain ⟨hB, zB⟩ := u12.on hB (by omega)
 refine wn ?_
 refine wsr ?_
 refine seq_val (.agg (whereC (D.queue_at a0 a1)).toArray) r (fun R => y_load_agg r (cs := (whereC (D.queue_at a0 a1))) (n := 10) rfl h_b8 ta219 rfl) rfl fun fr r => ?_
 refine seq_val (.func (.func 237) #[] #[.pointer (some ⟨b8, 0, none⟩)]) r (fun R => y_makeFunc r rfl) rfl fun fr r => ?_
 have hF1 := fgrow hF hB b4
 have f13 : ((fun b => F b ∨ (w0.heap.size ≤ b ∧ b < w11.heap.size ∧ b ≠ b4))) b8 := (.inr ⟨by omega, by omega, by omega⟩)
 refine seq_call r (c_queue_where_granted (j := j) (F := (fun b => F b ∨ (w0.heap.size ≤ b ∧ b < w11.heap.size ∧ b ≠ b4))) (n := n) hF1 (by omega) (D.queue_at a0 a1) ⟨237, [], [.pointer (some ⟨b8, 0, none⟩)], cl237, rfl, fun m hm x w' hs hz => c_queue_Make_1 (fun b hb => Nat.lt_of_lt_of_le (hF1 b hb) hz) (D.queue_at a0 a1) f13 (hs.at_ f13 h_b8) x⟩) (fun R hc => y_call r rfl cl148 hc) rfl ?_
 rintro _ w14 ⟨v15, rfl, hb, hr16⟩
 refine ⟨_, rfl, fun fr r => ?_⟩
 have z_w14 := hb.size
 have h_b1 := keep hb h_b1
 have h_b4 := keep hb h_b4
 have h_b8 := keep hb h_b8
 obtain ⟨hB, zB⟩ := bon hb hB
 refine seq_upd (.cells v15.cells 39 (0, 0)) r (fun R => y_storep r hr16.shape rfl rfl h_b4 ts39 rfl) rfl fun fr w17 u18 r => ?_
 have z_w17 := u18.size
 have h_b1 := u18.keep h_b1 (by omega)
 have h_b8 := u18.keep h_b8 (by omega)
 have h_b4 := u18.at_
 obtain ⟨hB, zB⟩ := u18.on hB (by omega)
 refine wn ?_
 refine wp_ret ?_
 have hs := hr16.shape.cells
 refine ret_cell r rfl rfl h_b4 (k := 8) hs.1 ta39 ?_
 rw [← hs.2.2]
 exact rfin hF hB hr16 u18 (by omega) (by omega) (by omega)

end Go.Proofs.YtjkinpbfmihhdaaGreat
