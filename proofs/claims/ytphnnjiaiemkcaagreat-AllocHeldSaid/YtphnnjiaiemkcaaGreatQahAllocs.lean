/- Written by a program of ours (wip/gen.py): nodes that are granted -/
import Derived.Test.YtphnnjiaiemkcaaGreatQahRetires
import Derived.Test.YtphnnjiaiemkcaaGreatQahPrep
set_option linter.unusedVariables false
set_option maxRecDepth 20000
set_option maxHeartbeats 2000000
namespace Go.Proofs.YtphnnjiaiemkcaaGreat
open Go.RowKit
theorem cl125 : callable Tryz.prog 125 = true := by kernel_rfl

theorem cl126 : callable Tryz.prog 126 = true := by kernel_rfl

theorem cl127 : callable Tryz.prog 127 = true := by kernel_rfl

theorem cl128 : callable Tryz.prog 128 = true := by kernel_rfl

theorem cl129 : callable Tryz.prog 129 = true := by kernel_rfl

theorem cl17 : callable Tryz.prog 17 = true := by kernel_rfl

theorem cl19 : callable Tryz.prog 19 = true := by kernel_rfl

theorem cl26 : callable Tryz.prog 26 = true := by kernel_rfl

theorem cl41 : callable Tryz.prog 41 = true := by kernel_rfl

theorem cl81 : callable Tryz.prog 81 = true := by kernel_rfl

theorem cl82 : callable Tryz.prog 82 = true := by kernel_rfl

theorem cl83 : callable Tryz.prog 83 = true := by kernel_rfl

theorem cl85 : callable Tryz.prog 85 = true := by kernel_rfl

theorem cl86 : callable Tryz.prog 86 = true := by kernel_rfl

theorem cl87 : callable Tryz.prog 87 = true := by kernel_rfl

theorem cl89 : callable Tryz.prog 89 = true := by kernel_rfl

theorem cl90 : callable Tryz.prog 90 = true := by kernel_rfl

theorem cl92 : callable Tryz.prog 92 = true := by kernel_rfl

theorem cl94 : callable Tryz.prog 94 = true := by kernel_rfl

theorem cl95 : callable Tryz.prog 95 = true := by kernel_rfl

theorem ts107 : sized Tryz.prog 107 1 = true := by kernel_rfl

theorem ts145 : sized Tryz.prog 145 1 = true := by kernel_rfl

theorem tz107 : zeroOf Tryz.prog 107 = some .nilFunc := by kernel_rfl

theorem tz145 : zeroOf Tryz.prog 145 = some .nilFunc := by kernel_rfl

def D.alloc_grant_1_1 (c0 : Int) (c1 : State) : T Grant := (D.prog_Done_Grant (⟨c0, c1.gen, 0⟩ : Grant))

theorem c_alloc_grant_1_1 {n : Nat} {F : Nat → Prop} {w0 : World} (hF : ∀ b, F b → b < w0.heap.size)
    (c0 : Int) {c0_b : Nat} (c0_F : F c0_b) (c0_h : w0.heap[c0_b]? = some (.cells ([(.int .i64 c0)]).toArray 3 (0, 0))) (c1 : State) {c1_b : Nat} (c1_F : F c1_b) (c1_h : w0.heap[c1_b]? = some (.cells ((stateC c1)).toArray 30 (0, 0))) :
    Calls Tryz.prog 129 #[.pointer (some ⟨c0_b, 0, none⟩), .pointer (some ⟨c1_b, 0, none⟩)] w0 (RepRes Tryz.prog encGrant n (D.alloc_grant_1_1 c0 c1) F w0) := by
 refine enter Tryz.func129 rfl 8 rfl rfl fun fr r => ?_
 have hB := Below.refl w0.heap.size w0
 have l_c0_b := lt_of_block c0_h
 have l_c1_b := lt_of_block c1_h
 refine wsr ?_
 refine seq_new (.cells (progCells false encGrant.zero 0 0 0 0 .nilFunc) 75 (0, 0)) r (fun R => y_alloc tz75) rfl fun fr b1 w2 n3 r => ?_
 obtain ⟨e_b1, z_w2, h_b1, hB, zB⟩ := n3.all hB
 refine wn ?_
 refine wsr ?_
 refine seq_val (I c0) r (fun R => y_load_one r rfl (keep hB c0_h) to3 rfl) rfl fun fr r => ?_
 refine seq_val _ r (fun R => y_fieldAddr r (o := 0) rfl fo30_0) rfl fun fr r => ?_
 refine seq_val (I c1.gen) r (fun R => y_load_one r rfl (keep hB c1_h) to3 rfl) rfl fun fr r => ?_
 refine seq_val (.agg (grantC (⟨c0, c1.gen, 0⟩ : Grant)).toArray) r (fun R => y_build r (by kernel_rfl)) rfl fun fr r => ?_
 have hF1 := fgrow hF hB b1
 refine seq_call r (c_prog_Done_Grant (F := (fun b => F b ∨ (w0.heap.size ≤ b ∧ b < w2.heap.size ∧ b ≠ b1))) (n := n) hF1 (⟨c0, c1.gen, 0⟩ : Grant)) (fun R hc => y_call r rfl cl82 hc) rfl ?_
 rintro _ w4 ⟨v5, rfl, hb, hr6⟩
 refine ⟨_, rfl, fun fr r => ?_⟩
 have z_w4 := hb.size
 have h_b1 := keep hb h_b1
 obtain ⟨hB, zB⟩ := bon hb hB
 refine seq_upd (.cells v5.cells 75 (0, 0)) r (fun R => y_storep r hr6.shape rfl rfl h_b1 ts75 rfl) rfl fun fr w7 u8 r => ?_
 have z_w7 := u8.size
 have h_b1 := u8.at_
 obtain ⟨hB, zB⟩ := u8.on hB (by omega)
 refine wn ?_
 refine wp_ret ?_
 have hs := hr6.shape.cells
 refine ret_cell r rfl rfl h_b1 (k := 9) hs.1 ta75 ?_
 rw [← hs.2.2]
 exact rfin hF hB hr6 u8 (by omega) (by omega) (by omega)

def D.alloc_grant_1 (c0 : Plan) (c1 : Int) (c2 : Int) (a0 : Int) : T Grant := (D.prog_Store_Grant (D.plan_Plan_State c0 c1) (D.state_State_Word (D.state_State_Live ((D.state_Of a0).1) c2)) (fun _ => (D.alloc_grant_1_1 c1 ((D.state_Of a0).1))))

theorem c_alloc_grant_1 {n : Nat} {F : Nat → Prop} {w0 : World} (hF : ∀ b, F b → b < w0.heap.size)
    (c0 : Plan) {c0_b : Nat} (c0_F : F c0_b) (c0_h : w0.heap[c0_b]? = some (.cells ((planC c0)).toArray 23 (0, 0))) (c1 : Int) {c1_b : Nat} (c1_F : F c1_b) (c1_h : w0.heap[c1_b]? = some (.cells ([(.int .i64 c1)]).toArray 3 (0, 0))) (c2 : Int) {c2_b : Nat} (c2_F : F c2_b) (c2_h : w0.heap[c2_b]? = some (.cells ([(.int .i64 c2)]).toArray 3 (0, 0))) (a0 : Int) :
    Calls Tryz.prog 126 #[.int .u64 a0, .pointer (some ⟨c0_b, 0, none⟩), .pointer (some ⟨c1_b, 0, none⟩), .pointer (some ⟨c2_b, 0, none⟩)] w0 (RepRes Tryz.prog encGrant n (D.alloc_grant_1 c0 c1 c2 a0) F w0) := by
 refine enter Tryz.func126 rfl 22 rfl rfl fun fr r => ?_
 have hB := Below.refl w0.heap.size w0
 have l_c0_b := lt_of_block c0_h
 have l_c1_b := lt_of_block c1_h
 have l_c2_b := lt_of_block c2_h
 refine wsr ?_
 refine seq_new (.cells (progCells false encGrant.zero 0 0 0 0 .nilFunc) 75 (0, 0)) r (fun R => y_alloc tz75) rfl fun fr b1 w2 n3 r => ?_
 obtain ⟨e_b1, z_w2, h_b1, hB, zB⟩ := n3.all hB
 refine wn ?_
 refine wsr ?_
 refine seq_val (U a0) r (fun R => y_move r rfl) rfl fun fr r => ?_
 refine seq_call r (c_state_Of w2 a0) (fun R hc => y_call r rfl cl88 hc) rfl ?_
 rintro _ w4 ⟨rfl, hb⟩
 refine ⟨_, rfl, fun fr r => ?_⟩
 have z_w4 := hb.size
 have h_b1 := keep hb h_b1
 obtain ⟨hB, zB⟩ := bon hb hB
 refine seq_val (.tuple #[(.agg (stateC (D.state_Of a0).1).toArray), (.bool (D.state_Of a0).2)]) r (fun R => y_move r rfl) rfl fun fr r => ?_
 refine seq_val (.agg (stateC (D.state_Of a0).1).toArray) r (fun R => y_extract r (vs := #[(.agg (stateC (D.state_Of a0).1).toArray), (.bool (D.state_Of a0).2)]) rfl rfl) rfl fun fr r => ?_
 refine seq_val (.bool (D.state_Of a0).2) r (fun R => y_extract r (vs := #[(.agg (stateC (D.state_Of a0).1).toArray), (.bool (D.state_Of a0).2)]) rfl rfl) rfl fun fr r => ?_
 refine seq_new (.cells ((stateC (⟨0, 0, 0⟩ : State))).toArray 30 (0, 0)) r (fun R => y_alloc tz30) rfl fun fr b5 w6 n7 r => ?_
 have h_b1 := keep n7.below h_b1
 obtain ⟨e_b5, z_w6, h_b5, hB, zB⟩ := n7.all hB
 refine seq_upd (.cells ((stateC ((D.state_Of a0).1))).toArray 30 (0, 0)) r (fun R => y_store r (o := 0) (v := (.agg (stateC (D.state_Of a0).1).toArray)) rfl rfl h_b5 ts30 (Nat.le_of_ble_eq_true rfl) rfl rfl) rfl fun fr w8 u9 r => ?_
 have z_w8 := u9.size
 have h_b1 := u9.keep h_b1 (by omega)
 have h_b5 := u9.at_
 obtain ⟨hB, zB⟩ := u9.on hB (by omega)
 refine seq_val (.bool (D.state_Of a0).2) r (fun R => y_assign r rfl) rfl fun fr r => ?_
 refine wn ?_
 refine wp_seq ?_
 refine wp_drawnF 8 [.val (.agg (planC c0).toArray), .val (I c1), .val (I (D.plan_Plan_State c0 c1)), .val (.agg (stateC (D.state_Of a0).1).toArray), .val (I c2), .val (.agg (stateC (D.state_State_Live ((D.state_Of a0).1) c2)).toArray), .val (U (D.state_State_Word (D.state_State_Live ((D.state_Of a0).1) c2))), .val (.func (.func 129) #[] #[.pointer (some ⟨c1_b, 0, none⟩), .pointer (some ⟨b5, 0, none⟩)])] mixed r (by kernel_rfl) (within_cons (by exact trivial) (within_cons (by exact trivial) (within_cons (by exact trivial) (within_cons (by exact trivial) (within_cons (by exact trivial) (within_cons (by exact trivial) (within_cons (by exact trivial) (within_cons (by exact trivial) within_nil)))))))) ?_ ?_
 ·
  refine ec r (fun _ u _ b d s => y_load_agg s (cs := (planC c0)) (n := 6) rfl (keep2 hB b c0_h) ta23 rfl bz) ?_
  refine ec r (fun _ u _ b d s => y_load_one s rfl (keep2 hB b c1_h) to3 rfl bz) ?_
  refine ec r (fun fr1 u w' hb' hd r' => y_call r' (args := [(.agg (planC c0).toArray), (I c1)]) (lc hd.1 (lc hd.2.1 l0)) cl28 ((c_plan_Plan_State _ c0 c1).mono (by rintro _ w2 ⟨rfl, hb2⟩; exact ⟨_, rfl, hb2, rfl⟩))) ?_
  refine ec r (fun _ u _ b d s => y_load_agg s (cs := (stateC ((D.state_Of a0).1))) (n := 3) rfl (keep b h_b5) ta30 rfl bz) ?_
  refine ec r (fun _ u _ b d s => y_load_one s rfl (keep2 hB b c2_h) to3 rfl bz) ?_
  refine ec r (fun fr1 u w' hb' hd r' => y_call r' (args := [(.agg (stateC (D.state_Of a0).1).toArray), (I c2)]) (lc hd.1 (lc hd.2.1 l0)) cl128 ((c_state_State_Live _ ((D.state_Of a0).1) c2).mono (by rintro _ w2 ⟨rfl, hb2⟩; exact ⟨_, rfl, hb2, rfl⟩))) ?_
  refine ec r (fun fr1 u w' hb' hd r' => y_call r' (args := [(.agg (stateC (D.state_State_Live ((D.state_Of a0).1) c2)).toArray)]) (lc hd.1 l0) cl29 ((c_state_State_Word _ (D.state_State_Live ((D.state_Of a0).1) c2)).mono (by rintro _ w2 ⟨rfl, hb2⟩; exact ⟨_, rfl, hb2, rfl⟩))) ?_
  refine ec r (fun _ u _ b d s => y_makeFunc s (v := (.func (.func 129) #[] #[.pointer (some ⟨c1_b, 0, none⟩), .pointer (some ⟨b5, 0, none⟩)])) rfl bz) ?_
  exact each_nil
 ·
  intro fr u w10 hb hΦ hne r
  have r := r.congr (sc (hΦ 7 (by decide)) (sc (hΦ 6 (by decide)) (sc (hΦ 5 (by decide)) (sc (hΦ 4 (by decide)) (sc (hΦ 3 (by decide)) (sc (hΦ 2 (by decide)) (sc (hΦ 1 (by decide)) (sc (hΦ 0 (by decide)) rfl))))))))
  have z_w10 := hb.size
  have h_b1 := keep hb h_b1
  have h_b5 := keep hb h_b5
  obtain ⟨hB, zB⟩ := bon hb hB
  have hF1 := fgrow hF hB b1
  have f11 : ((fun b => F b ∨ (w0.heap.size ≤ b ∧ b < w10.heap.size ∧ b ≠ b1))) c1_b := (.inl c1_F)
  have f12 : ((fun b => F b ∨ (w0.heap.size ≤ b ∧ b < w10.heap.size ∧ b ≠ b1))) b5 := (.inr ⟨by omega, by omega, by omega⟩)
  refine seq_call r (c_prog_Store_Grant (F := (fun b => F b ∨ (w0.heap.size ≤ b ∧ b < w10.heap.size ∧ b ≠ b1))) (n := n) hF1 (D.plan_Plan_State c0 c1) (D.state_State_Word (D.state_State_Live ((D.state_Of a0).1) c2)) ⟨129, [], [.pointer (some ⟨c1_b, 0, none⟩), .pointer (some ⟨b5, 0, none⟩)], cl129, rfl, fun m hm _ w' hs hz => c_alloc_grant_1_1 (fun b hb => Nat.lt_of_lt_of_le (hF1 b hb) hz) c1 f11 (hs.at_ f11 (keep hB c1_h)) ((D.state_Of a0).1) f12 (hs.at_ f12 h_b5)⟩) (fun R hc => y_call r rfl cl127 hc) rfl ?_
  rintro _ w13 ⟨v14, rfl, hb, hr15⟩
  refine ⟨_, rfl, fun fr r => ?_⟩
  have z_w13 := hb.size
  have h_b1 := keep hb h_b1
  have h_b5 := keep hb h_b5
  obtain ⟨hB, zB⟩ := bon hb hB
  refine seq_upd (.cells v14.cells 75 (0, 0)) r (fun R => y_storep r hr15.shape rfl rfl h_b1 ts75 rfl) rfl fun fr w16 u17 r => ?_
  have z_w16 := u17.size
  have h_b5 := u17.keep h_b5 (by omega)
  have h_b1 := u17.at_
  obtain ⟨hB, zB⟩ := u17.on hB (by omega)
  refine wn ?_
  refine wp_ret ?_
  have hs := hr15.shape.cells
  refine ret_cell r rfl rfl h_b1 (k := 9) hs.1 ta75 ?_
  rw [← hs.2.2]
  exact rfin hF hB hr15 u17 (by omega) (by omega) (by omega)

def D.alloc_grant (a0 : Plan) (a1 : Int) (a2 : Int) : T Grant := (D.prog_Load_Grant (D.plan_Plan_State a0 a1) (fun x => (D.alloc_grant_1 a0 a1 a2 x)))

theorem c_alloc_grant {n : Nat} {F : Nat → Prop} {w0 : World} (hF : ∀ b, F b → b < w0.heap.size)
    (a0 : Plan) (a1 : Int) (a2 : Int) :
    Calls Tryz.prog 83 #[.agg (planC a0).toArray, .int .i64 a1, .int .i64 a2] w0 (RepRes Tryz.prog encGrant n (D.alloc_grant a0 a1 a2) F w0) := by
 refine enter Tryz.func83 rfl 12 rfl rfl fun fr r => ?_
 have hB := Below.refl w0.heap.size w0
 refine wsr ?_
 refine seq_new (.cells ((planC a0)).toArray 23 (0, 0)) r (fun R => y_box r (v := (.agg (planC a0).toArray)) rfl) rfl fun fr b1 w2 n3 r => ?_
 obtain ⟨e_b1, z_w2, h_b1, hB, zB⟩ := n3.all hB
 refine seq_new (.cells #[(I a1)] 3 (0, 0)) r (fun R => y_box r (v := (I a1)) rfl) rfl fun fr b4 w5 n6 r => ?_
 have h_b1 := keep n6.below h_b1
 obtain ⟨e_b4, z_w5, h_b4, hB, zB⟩ := n6.all hB
 refine seq_new (.cells #[(I a2)] 3 (0, 0)) r (fun R => y_box r (v := (I a2)) rfl) rfl fun fr b7 w8 n9 r => ?_
 have h_b1 := keep n9.below h_b1
 have h_b4 := keep n9.below h_b4
 obtain ⟨e_b7, z_w8, h_b7, hB, zB⟩ := n9.all hB
 refine seq_new (.cells (progCells false encGrant.zero 0 0 0 0 .nilFunc) 75 (0, 0)) r (fun R => y_alloc tz75) rfl fun fr b10 w11 n12 r => ?_
 have h_b1 := keep n12.below h_b1
 have h_b4 := keep n12.below h_b4
 have h_b7 := keep n12.below h_b7
 obtain ⟨e_b10, z_w11, h_b10, hB, zB⟩ := n12.all hB
 refine wn ?_
 refine wsr ?_
 refine seq_val (.agg (planC a0).toArray) r (fun R => y_load_agg r (cs := (planC a0)) (n := 6) rfl h_b1 ta23 rfl) rfl fun fr r => ?_
 refine seq_val (I a1) r (fun R => y_load_one r rfl h_b4 to3 rfl) rfl fun fr r => ?_
 refine seq_call r (c_plan_Plan_State w11 a0 a1) (fun R hc => y_call r rfl cl28 hc) rfl ?_
 rintro _ w13 ⟨rfl, hb⟩
 refine ⟨_, rfl, fun fr r => ?_⟩
 have z_w13 := hb.size
 have h_b1 := keep hb h_b1
 have h_b4 := keep hb h_b4
 have h_b7 := keep hb h_b7
 have h_b10 := keep hb h_b10
 obtain ⟨hB, zB⟩ := bon hb hB
 refine seq_val (.func (.func 126) #[] #[.pointer (some ⟨b1, 0, none⟩), .pointer (some ⟨b4, 0, none⟩), .pointer (some ⟨b7, 0, none⟩)]) r (fun R => y_makeFunc r rfl) rfl fun fr r => ?_
 have hF1 := fgrow hF hB b10
 have f14 : ((fun b => F b ∨ (w0.heap.size ≤ b ∧ b < w13.heap.size ∧ b ≠ b10))) b1 := (.inr ⟨by omega, by omega, by omega⟩)
 have f15 : ((fun b => F b ∨ (w0.heap.size ≤ b ∧ b < w13.heap.size ∧ b ≠ b10))) b4 := (.inr ⟨by omega, by omega, by omega⟩)
 have f16 : ((fun b => F b ∨ (w0.heap.size ≤ b ∧ b < w13.heap.size ∧ b ≠ b10))) b7 := (.inr ⟨by omega, by omega, by omega⟩)
 refine seq_call r (c_prog_Load_Grant (F := (fun b => F b ∨ (w0.heap.size ≤ b ∧ b < w13.heap.size ∧ b ≠ b10))) (n := n) hF1 (D.plan_Plan_State a0 a1) ⟨126, [], [.pointer (some ⟨b1, 0, none⟩), .pointer (some ⟨b4, 0, none⟩), .pointer (some ⟨b7, 0, none⟩)], cl126, rfl, fun m hm x w' hs hz => c_alloc_grant_1 (fun b hb => Nat.lt_of_lt_of_le (hF1 b hb) hz) a0 f14 (hs.at_ f14 h_b1) a1 f15 (hs.at_ f15 h_b4) a2 f16 (hs.at_ f16 h_b7) x⟩) (fun R hc => y_call r rfl cl125 hc) rfl ?_
 rintro _ w17 ⟨v18, rfl, hb, hr19⟩
 refine ⟨_, rfl, fun fr r => ?_⟩
 have z_w17 := hb.size
 have h_b1 := keep hb h_b1
 have h_b4 := keep hb h_b4
 have h_b7 := keep hb h_b7
 have h_b10 := keep hb h_b10
 obtain ⟨hB, zB⟩ := bon hb hB
 refine seq_upd (.cells v18.cells 75 (0, 0)) r (fun R => y_storep r hr19.shape rfl rfl h_b10 ts75 rfl) rfl fun fr w20 u21 r => ?_
 have z_w20 := u21.size
 have h_b1 := u21.keep h_b1 (by omega)
 have h_b4 := u21.keep h_b4 (by omega)
 have h_b7 := u21.keep h_b7 (by omega)
 have h_b10 := u21.at_
 obtain ⟨hB, zB⟩ := u21.on hB (by omega)
 refine wn ?_
 refine wp_ret ?_
 have hs := hr19.shape.cells
 refine ret_cell r rfl rfl h_b10 (k := 9) hs.1 ta75 ?_
 rw [← hs.2.2]
 exact rfin hF hB hr19 u21 (by omega) (by omega) (by omega)

def D.alloc_New_1 (c0 : Plan) (c1 : Int) (a0 : Int) : T Grant := (bif (a0 == (-1)) then (D.prog_Done_Grant (⟨(-1), 0, 4⟩ : Grant)) else (D.alloc_grant c0 a0 c1))

theorem c_alloc_New_1 {n : Nat} {F : Nat → Prop} {w0 : World} (hF : ∀ b, F b → b < w0.heap.size)
    (c0 : Plan) {c0_b : Nat} (c0_F : F c0_b) (c0_h : w0.heap[c0_b]? = some (.cells ((planC c0)).toArray 23 (0, 0))) (c1 : Int) {c1_b : Nat} (c1_F : F c1_b) (c1_h : w0.heap[c1_b]? = some (.cells ([(.int .i64 c1)]).toArray 3 (0, 0))) (a0 : Int) :
    Calls Tryz.prog 81 #[.int .i64 a0, .pointer (some ⟨c0_b, 0, none⟩), .pointer (some ⟨c1_b, 0, none⟩)] w0 (RepRes Tryz.prog encGrant n (D.alloc_New_1 c0 c1 a0) F w0) := by
 refine enter Tryz.func81 rfl 13 rfl rfl fun fr r => ?_
 have hB := Below.refl w0.heap.size w0
 have l_c0_b := lt_of_block c0_h
 have l_c1_b := lt_of_block c1_h
 refine wsr ?_
 refine seq_new (.cells (progCells false encGrant.zero 0 0 0 0 .nilFunc) 75 (0, 0)) r (fun R => y_alloc tz75) rfl fun fr b1 w2 n3 r => ?_
 obtain ⟨e_b1, z_w2, h_b1, hB, zB⟩ := n3.all hB
 refine wn ?_
 refine wp_seq ?_
 refine wsr ?_
 refine seq_val (I a0) r (fun R => y_move r rfl) rfl fun fr r => ?_
 refine seq_val _ r (fun R => y_bin r rfl rfl rfl rfl) rfl fun fr r => ?_
 refine wn ?_
 refine wp_cond_split (t := (a0 == (-1))) (r.ev rfl) (fun h4 => ?_) (fun h4 => ?_)
 ·
  refine wsr ?_
  refine seq_val (.agg (grantC (⟨(-1), 0, 4⟩ : Grant)).toArray) r (fun R => y_build r (by kernel_rfl)) rfl fun fr r => ?_
  have hF1 := fgrow hF hB b1
  refine seq_call r (c_prog_Done_Grant (F := (fun b => F b ∨ (w0.heap.size ≤ b ∧ b < w2.heap.size ∧ b ≠ b1))) (n := n) hF1 (⟨(-1), 0, 4⟩ : Grant)) (fun R hc => y_call r rfl cl82 hc) rfl ?_
  rintro _ w5 ⟨v6, rfl, hb, hr7⟩
  refine ⟨_, rfl, fun fr r => ?_⟩
  have z_w5 := hb.size
  have h_b1 := keep hb h_b1
  obtain ⟨hB, zB⟩ := bon hb hB
  refine seq_upd (.cells v6.cells 75 (0, 0)) r (fun R => y_storep r hr7.shape rfl rfl h_b1 ts75 rfl) rfl fun fr w8 u9 r => ?_
  have z_w8 := u9.size
  have h_b1 := u9.at_
  obtain ⟨hB, zB⟩ := u9.on hB (by omega)
  refine wn ?_
  refine wp_ret ?_
  have hd : D.alloc_New_1 c0 c1 a0 = (D.prog_Done_Grant (⟨(-1), 0, 4⟩ : Grant)) := (cond_t h4).trans (rfl)
  have hs := hr7.shape.cells
  refine ret_cell r rfl rfl h_b1 (k := 9) hs.1 ta75 ?_
  rw [← hs.2.2, hd]
  exact rfin hF hB hr7 u9 (by omega) (by omega) (by omega)
 ·
  refine wp_skip ?_
  refine wsr ?_
  refine seq_val (.agg (planC c0).toArray) r (fun R => y_load_agg r (cs := (planC c0)) (n := 6) rfl (keep hB c0_h) ta23 rfl) rfl fun fr r => ?_
  refine seq_val (I a0) r (fun R => y_move r rfl) rfl fun fr r => ?_
  refine seq_val (I c1) r (fun R => y_load_one r rfl (keep hB c1_h) to3 rfl) rfl fun fr r => ?_
  have hF1 := fgrow hF hB b1
  refine seq_call r (c_alloc_grant (F := (fun b => F b ∨ (w0.heap.size ≤ b ∧ b < w2.heap.size ∧ b ≠ b1))) (n := n) hF1 c0 a0 c1) (fun R hc => y_call r rfl cl83 hc) rfl ?_
  rintro _ w10 ⟨v11, rfl, hb, hr12⟩
  refine ⟨_, rfl, fun fr r => ?_⟩
  have z_w10 := hb.size
  have h_b1 := keep hb h_b1
  obtain ⟨hB, zB⟩ := bon hb hB
  refine seq_upd (.cells v11.cells 75 (0, 0)) r (fun R => y_storep r hr12.shape rfl rfl h_b1 ts75 rfl) rfl fun fr w13 u14 r => ?_
  have z_w13 := u14.size
  have h_b1 := u14.at_
  obtain ⟨hB, zB⟩ := u14.on hB (by omega)
  refine wn ?_
  refine wp_ret ?_
  have hd : D.alloc_New_1 c0 c1 a0 = (D.alloc_grant c0 a0 c1) := (cond_f h4).trans (rfl)
  have hs := hr12.shape.cells
  refine ret_cell r rfl rfl h_b1 (k := 9) hs.1 ta75 ?_
  rw [← hs.2.2, hd]
  exact rfin hF hB hr12 u14 (by omega) (by omega) (by omega)

def D.alloc_New_2_1 (j : Nat) (c0 : Plan) (c1 : (Int → T Grant)) (a0 : Int) : T Grant := (T.bind (D.free_Pop j c0) c1)

theorem c_alloc_New_2_1 {n : Nat} {F : Nat → Prop} {j : Nat} {w0 : World} (hF : ∀ b, F b → b < w0.heap.size) (hj : n < j)
    (c0 : Plan) {c0_b : Nat} (c0_F : F c0_b) (c0_h : w0.heap[c0_b]? = some (.cells ((planC c0)).toArray 23 (0, 0))) {c1_f : FuncId} {c1_1 c1_2 : List Value} {c1 : (Int → T Grant)} {c1_b : Nat} (c1_F : F c1_b) (c1_h : w0.heap[c1_b]? = some (.cells #[.func (.func c1_f) c1_1.toArray c1_2.toArray] 145 (0, 0))) (c1_n : FnT Tryz.prog encGrant i64 (n + 1) F w0 (.func (.func c1_f) c1_1.toArray c1_2.toArray) c1) (a0 : Int) :
    Calls Tryz.prog 86 #[.int .i64 a0, .pointer (some ⟨c0_b, 0, none⟩), .pointer (some ⟨c1_b, 0, none⟩)] w0 (RepRes Tryz.prog encGrant n (D.alloc_New_2_1 j c0 c1 a0) F w0) := by
 refine enter Tryz.func86 rfl 9 rfl rfl fun fr r => ?_
 have hB := Below.refl w0.heap.size w0
 have l_c0_b := lt_of_block c0_h
 have l_c1_b := lt_of_block c1_h
 refine wsr ?_
 refine seq_new (.cells (progCells false encGrant.zero 0 0 0 0 .nilFunc) 75 (0, 0)) r (fun R => y_alloc tz75) rfl fun fr b1 w2 n3 r => ?_
 obtain ⟨e_b1, z_w2, h_b1, hB, zB⟩ := n3.all hB
 refine wn ?_
 refine wp_seq ?_
 have hF1 := fgrow hF hB b1
 refine wp_drawnF 3 [.val (.agg (planC c0).toArray), .pred (PrepP Tryz.prog encInt n (D.free_Pop j c0) ((fun b => F b ∨ (w0.heap.size ≤ b ∧ b < w2.heap.size ∧ b ≠ b1))) w2) (PrepP.st hF1), .val (.func (.func c1_f) c1_1.toArray c1_2.toArray)] mixed r (by kernel_rfl) (within_cons (by exact trivial) (within_cons (by exact trivial) (within_cons (by exact trivial) within_nil))) ?_ ?_
 ·
  refine ec r (fun _ u _ b d s => y_load_agg s (cs := (planC c0)) (n := 6) rfl (keep2 hB b c0_h) ta23 rfl bz) ?_
  refine ec r (fun fr1 u w' hb' hd r' => y_call r' (args := [(.agg (planC c0).toArray)]) (lc hd.1 l0) cl48 (((c_free_Pop (k := j) (n := n) (by omega)) ((fun b => F b ∨ (w0.heap.size ≤ b ∧ b < w2.heap.size ∧ b ≠ b1))) _ (fun b h => Nat.lt_of_lt_of_le (hF1 b h) hb'.size) c0).mono (by rintro _ w2 ⟨y, rfl, hb2, hr2⟩; exact ⟨_, rfl, hb2, PrepP.of (drB hb') hb2 hr2⟩))) ?_
  refine ec r (fun _ u _ b d s => y_load_one s rfl (keep2 hB b c1_h) to145 rfl bz) ?_
  exact each_nil
 ·
  intro fr u w4 hb hΦ hne r
  obtain ⟨v5, hv1⟩ : ∃ v, v = u 1 := ⟨_, rfl⟩
  have g1 : u 1 = v5 := hv1.symm
  have hr6 := (hΦ 1 (by decide)).2
  rw [g1] at hr6
  have r := r.congr (sc (hΦ 2 (by decide)) (sc g1 (sc (hΦ 0 (by decide)) rfl)))
  have z_w4 := hb.size
  have h_b1 := keep hb h_b1
  obtain ⟨hB, zB⟩ := bon hb hB
  have hF1 := fgrow hF hB b1
  refine seq_call r (c_prog_Then_int_Grant_le (F := (fun b => F b ∨ (w0.heap.size ≤ b ∧ b < w4.heap.size ∧ b ≠ b1))) (n := n) hF1 (Rep.mono (by rintro b (h | h); (rcases h with h | ⟨h1, h2, h3⟩; exact .inl h; exact .inr ⟨h1, by omega, h3⟩); exact .inr ⟨by omega, by omega, by omega⟩) (Same.refl _ _) (by omega) n _ _ hr6) (c1_n.mono (by omega) (fun b h => .inl h) (Same.below hB hF) hB.size)) (fun R hc => y_call r rfl cl84 hc) rfl ?_
  rintro _ w7 ⟨v8, rfl, hb, hr9⟩
  refine ⟨_, rfl, fun fr r => ?_⟩
  have z_w7 := hb.size
  have h_b1 := keep hb h_b1
  obtain ⟨hB, zB⟩ := bon hb hB
  refine seq_upd (.cells v8.cells 75 (0, 0)) r (fun R => y_storep r hr9.shape rfl rfl h_b1 ts75 rfl) rfl fun fr w10 u11 r => ?_
  have z_w10 := u11.size
  have h_b1 := u11.at_
  obtain ⟨hB, zB⟩ := u11.on hB (by omega)
  refine wn ?_
  refine wp_ret ?_
  have hs := hr9.shape.cells
  refine ret_cell r rfl rfl h_b1 (k := 9) hs.1 ta75 ?_
  rw [← hs.2.2]
  exact rfin hF hB hr9 u11 (by omega) (by omega) (by omega)

def D.alloc_New_2 (j : Nat) (c0 : Plan) (c1 : Int) (c2 : Int) (c3 : (Int → T Grant)) (a0 : Int) : T Grant := (bif (a0 != (-1)) then (D.alloc_grant c0 a0 c1) else (T.bind (D.retire_Scan j c0 c2) (fun x => (D.alloc_New_2_1 j c0 c3 x))))

theorem c_alloc_New_2 {n : Nat} {F : Nat → Prop} {j : Nat} {w0 : World} (hF : ∀ b, F b → b < w0.heap.size) (hj : n < j)
    (c0 : Plan) {c0_b : Nat} (c0_F : F c0_b) (c0_h : w0.heap[c0_b]? = some (.cells ((planC c0)).toArray 23 (0, 0))) (c1 : Int) {c1_b : Nat} (c1_F : F c1_b) (c1_h : w0.heap[c1_b]? = some (.cells ([(.int .i64 c1)]).toArray 3 (0, 0))) (c2 : Int) {c2_b : Nat} (c2_F : F c2_b) (c2_h : w0.heap[c2_b]? = some (.cells ([(.int .i64 c2)]).toArray 3 (0, 0))) {c3_f : FuncId} {c3_1 c3_2 : List Value} {c3 : (Int → T Grant)} {c3_b : Nat} (c3_F : F c3_b) (c3_h : w0.heap[c3_b]? = some (.cells #[.func (.func c3_f) c3_1.toArray c3_2.toArray] 145 (0, 0))) (c3_n : FnT Tryz.prog encGrant i64 (n + 1) F w0 (.func (.func c3_f) c3_1.toArray c3_2.toArray) c3) (a0 : Int) :
    Calls Tryz.prog 85 #[.int .i64 a0, .pointer (some ⟨c0_b, 0, none⟩), .pointer (some ⟨c1_b, 0, none⟩), .pointer (some ⟨c2_b, 0, none⟩), .pointer (some ⟨c3_b, 0, none⟩)] w0 (RepRes Tryz.prog encGrant n (D.alloc_New_2 j c0 c1 c2 c3 a0) F w0) := by
 refine enter Tryz.func85 rfl 18 rfl rfl fun fr r => ?_
 have hB := Below.refl w0.heap.size w0
 have l_c0_b := lt_of_block c0_h
 have l_c1_b := lt_of_block c1_h
 have l_c2_b := lt_of_block c2_h
 have l_c3_b := lt_of_block c3_h
 refine wsr ?_
 refine seq_new (.cells (progCells false encGrant.zero 0 0 0 0 .nilFunc) 75 (0, 0)) r (fun R => y_alloc tz75) rfl fun fr b1 w2 n3 r => ?_
 obtain ⟨e_b1, z_w2, h_b1, hB, zB⟩ := n3.all hB
 refine wn ?_
 refine wp_seq ?_
 refine wsr ?_
 refine seq_val (I a0) r (fun R => y_move r rfl) rfl fun fr r => ?_
 refine seq_val _ r (fun R => y_bin r rfl rfl rfl rfl) rfl fun fr r => ?_
 refine wn ?_
 refine wp_cond_split (t := (a0 != (-1))) (r.ev rfl) (fun h4 => ?_) (fun h4 => ?_)
 ·
  refine wsr ?_
  refine seq_val (.agg (planC c0).toArray) r (fun R => y_load_agg r (cs := (planC c0)) (n := 6) rfl (keep hB c0_h) ta23 rfl) rfl fun fr r => ?_
  refine seq_val (I a0) r (fun R => y_move r rfl) rfl fun fr r => ?_
  refine seq_val (I c1) r (fun R => y_load_one r rfl (keep hB c1_h) to3 rfl) rfl fun fr r => ?_
  have hF1 := fgrow hF hB b1
  refine seq_call r (c_alloc_grant (F := (fun b => F b ∨ (w0.heap.size ≤ b ∧ b < w2.heap.size ∧ b ≠ b1))) (n := n) hF1 c0 a0 c1) (fun R hc => y_call r rfl cl83 hc) rfl ?_
  rintro _ w5 ⟨v6, rfl, hb, hr7⟩
  refine ⟨_, rfl, fun fr r => ?_⟩
  have z_w5 := hb.size
  have h_b1 := keep hb h_b1
  obtain ⟨hB, zB⟩ := bon hb hB
  refine seq_upd (.cells v6.cells 75 (0, 0)) r (fun R => y_storep r hr7.shape rfl rfl h_b1 ts75 rfl) rfl fun fr w8 u9 r => ?_
  have z_w8 := u9.size
  have h_b1 := u9.at_
  obtain ⟨hB, zB⟩ := u9.on hB (by omega)
  refine wn ?_
  refine wp_ret ?_
  have hd : D.alloc_New_2 j c0 c1 c2 c3 a0 = (D.alloc_grant c0 a0 c1) := (cond_t h4).trans (rfl)
  have hs := hr7.shape.cells
  refine ret_cell r rfl rfl h_b1 (k := 9) hs.1 ta75 ?_
  rw [← hs.2.2, hd]
  exact rfin hF hB hr7 u9 (by omega) (by omega) (by omega)
 ·
  refine wp_skip ?_
  refine wsr ?_
  refine seq_val (.agg (planC c0).toArray) r (fun R => y_load_agg r (cs := (planC c0)) (n := 6) rfl (keep hB c0_h) ta23 rfl) rfl fun fr r => ?_
  refine seq_val (I c2) r (fun R => y_load_one r rfl (keep hB c2_h) to3 rfl) rfl fun fr r => ?_
  have hF1 := fgrow hF hB b1
  refine seq_call r (c_retire_Scan (j := j) (F := (fun b => F b ∨ (w0.heap.size ≤ b ∧ b < w2.heap.size ∧ b ≠ b1))) (n := n) hF1 (by omega) c0 c2) (fun R hc => y_call r rfl cl19 hc) rfl ?_
  rintro _ w10 ⟨v11, rfl, hb, hr12⟩
  refine ⟨_, rfl, fun fr r => ?_⟩
  have z_w10 := hb.size
  have h_b1 := keep hb h_b1
  obtain ⟨hB, zB⟩ := bon hb hB
  refine seq_val (.func (.func 86) #[] #[.pointer (some ⟨c0_b, 0, none⟩), .pointer (some ⟨c3_b, 0, none⟩)]) r (fun R => y_makeFunc r rfl) rfl fun fr r => ?_
  have hF1 := fgrow hF hB b1
  have f13 : ((fun b => F b ∨ (w0.heap.size ≤ b ∧ b < w10.heap.size ∧ b ≠ b1))) c0_b := (.inl c0_F)
  have f14 : ((fun b => F b ∨ (w0.heap.size ≤ b ∧ b < w10.heap.size ∧ b ≠ b1))) c3_b := (.inl c3_F)
  refine seq_call r (c_prog_Then_int_Grant_le (F := (fun b => F b ∨ (w0.heap.size ≤ b ∧ b < w10.heap.size ∧ b ≠ b1))) (n := n) hF1 (Rep.mono (by rintro b (h | h); (rcases h with h | ⟨h1, h2, h3⟩; exact .inl h; exact .inr ⟨h1, by omega, h3⟩); exact .inr ⟨by omega, by omega, by omega⟩) (Same.refl _ _) (by omega) n _ _ hr12) ⟨86, [], [.pointer (some ⟨c0_b, 0, none⟩), .pointer (some ⟨c3_b, 0, none⟩)], cl86, rfl, fun m hm x w' hs hz => c_alloc_New_2_1 (j := j) (fun b hb => Nat.lt_of_lt_of_le (hF1 b hb) hz) (by omega) c0 f13 (hs.at_ f13 (keep hB c0_h)) f14 (hs.at_ f14 (keep hB c3_h)) (c3_n.mono (by omega) (fun b h => .inl h) ((Same.below hB hF).trans (hs.sub (fun b h => .inl h))) (Nat.le_trans hB.size hz)) x⟩) (fun R hc => y_call r rfl cl84 hc) rfl ?_
  rintro _ w15 ⟨v16, rfl, hb, hr17⟩
  refine ⟨_, rfl, fun fr r => ?_⟩
  have z_w15 := hb.size
  have h_b1 := keep hb h_b1
  obtain ⟨hB, zB⟩ := bon hb hB
  refine seq_upd (.cells v16.cells 75 (0, 0)) r (fun R => y_storep r hr17.shape rfl rfl h_b1 ts75 rfl) rfl fun fr w18 u19 r => ?_
  have z_w18 := u19.size
  have h_b1 := u19.at_
  obtain ⟨hB, zB⟩ := u19.on hB (by omega)
  refine wn ?_
  refine wp_ret ?_
  have hd : D.alloc_New_2 j c0 c1 c2 c3 a0 = (T.bind (D.retire_Scan j c0 c2) (fun x => (D.alloc_New_2_1 j c0 c3 x))) := (cond_f h4).trans (rfl)
  have hs := hr17.shape.cells
  refine ret_cell r rfl rfl h_b1 (k := 9) hs.1 ta75 ?_
  rw [← hs.2.2, hd]
  exact rfin hF hB hr17 u19 (by omega) (by omega) (by omega)

def D.alloc_New (j : Nat) (a0 : Plan) (a1 : Int) (a2 : Int) : T Grant := (T.bind (D.free_Pop j a0) (fun x => (D.alloc_New_2 j a0 a2 a1 (fun x => (D.alloc_New_1 a0 a2 x)) x)))

theorem c_alloc_New {n : Nat} {F : Nat → Prop} {j : Nat} {w0 : World} (hF : ∀ b, F b → b < w0.heap.size) (hj : n < j)
    (a0 : Plan) (a1 : Int) (a2 : Int) :
    Calls Tryz.prog 35 #[.agg (planC a0).toArray, .int .i64 a1, .int .i64 a2] w0 (RepRes Tryz.prog encGrant n (D.alloc_New j a0 a1 a2) F w0) := by
 refine enter Tryz.func35 rfl 13 rfl rfl fun fr r => ?_
 have hB := Below.refl w0.heap.size w0
 refine wsr ?_
 refine seq_new (.cells ((planC a0)).toArray 23 (0, 0)) r (fun R => y_box r (v := (.agg (planC a0).toArray)) rfl) rfl fun fr b1 w2 n3 r => ?_
 obtain ⟨e_b1, z_w2, h_b1, hB, zB⟩ := n3.all hB
 refine seq_new (.cells #[(I a1)] 3 (0, 0)) r (fun R => y_box r (v := (I a1)) rfl) rfl fun fr b4 w5 n6 r => ?_
 have h_b1 := keep n6.below h_b1
 obtain ⟨e_b4, z_w5, h_b4, hB, zB⟩ := n6.all hB
 refine seq_new (.cells #[(I a2)] 3 (0, 0)) r (fun R => y_box r (v := (I a2)) rfl) rfl fun fr b7 w8 n9 r => ?_
 have h_b1 := keep n9.below h_b1
 have h_b4 := keep n9.below h_b4
 obtain ⟨e_b7, z_w8, h_b7, hB, zB⟩ := n9.all hB
 refine seq_new (.cells (progCells false encGrant.zero 0 0 0 0 .nilFunc) 75 (0, 0)) r (fun R => y_alloc tz75) rfl fun fr b10 w11 n12 r => ?_
 have h_b1 := keep n12.below h_b1
 have h_b4 := keep n12.below h_b4
 have h_b7 := keep n12.below h_b7
 obtain ⟨e_b10, z_w11, h_b10, hB, zB⟩ := n12.all hB
 refine wn ?_
 refine wsr ?_
 refine seq_val (.func (.func 81) #[] #[.pointer (some ⟨b1, 0, none⟩), .pointer (some ⟨b7, 0, none⟩)]) r (fun R => y_makeFunc r rfl) rfl fun fr r => ?_
 refine seq_new (.cells #[.nilFunc] 145 (0, 0)) r (fun R => y_alloc tz145) rfl fun fr b13 w14 n15 r => ?_
 have h_b1 := keep n15.below h_b1
 have h_b4 := keep n15.below h_b4
 have h_b7 := keep n15.below h_b7
 have h_b10 := keep n15.below h_b10
 obtain ⟨e_b13, z_w14, h_b13, hB, zB⟩ := n15.all hB
 refine seq_upd (.cells #[.func (.func 81) #[] #[.pointer (some ⟨b1, 0, none⟩), .pointer (some ⟨b7, 0, none⟩)]] 145 (0, 0)) r (fun R => y_store r (o := 0) (v := (.func (.func 81) #[] #[.pointer (some ⟨b1, 0, none⟩), .pointer (some ⟨b7, 0, none⟩)])) rfl rfl h_b13 ts145 (Nat.le_of_ble_eq_true rfl) rfl rfl) rfl fun fr w16 u17 r => ?_
 have z_w16 := u17.size
 have h_b1 := u17.keep h_b1 (by omega)
 have h_b4 := u17.keep h_b4 (by omega)
 have h_b7 := u17.keep h_b7 (by omega)
 have h_b10 := u17.keep h_b10 (by omega)
 have h_b13 := u17.at_
 obtain ⟨hB, zB⟩ := u17.on hB (by omega)
 refine wn ?_
 refine wsr ?_
 refine seq_val (.agg (planC a0).toArray) r (fun R => y_load_agg r (cs := (planC a0)) (n := 6) rfl h_b1 ta23 rfl) rfl fun fr r => ?_
 have hF1 := fgrow hF hB b10
 refine seq_call r ((c_free_Pop (k := j) (n := n) (by omega)) (fun b => F b ∨ (w0.heap.size ≤ b ∧ b < w16.heap.size ∧ b ≠ b10)) _ hF1 a0) (fun R hc => y_call r rfl cl48 hc) rfl ?_
 rintro _ w18 ⟨v19, rfl, hb, hr20⟩
 refine ⟨_, rfl, fun fr r => ?_⟩
 have z_w18 := hb.size
 have h_b1 := keep hb h_b1
 have h_b4 := keep hb h_b4
 have h_b7 := keep hb h_b7
 have h_b10 := keep hb h_b10
 have h_b13 := keep hb h_b13
 obtain ⟨hB, zB⟩ := bon hb hB
 refine seq_val (.func (.func 85) #[] #[.pointer (some ⟨b1, 0, none⟩), .pointer (some ⟨b7, 0, none⟩), .pointer (some ⟨b4, 0, none⟩), .pointer (some ⟨b13, 0, none⟩)]) r (fun R => y_makeFunc r rfl) rfl fun fr r => ?_
 have hF1 := fgrow hF hB b10
 have f21 : ((fun b => F b ∨ (w0.heap.size ≤ b ∧ b < w18.heap.size ∧ b ≠ b10))) b1 := (.inr ⟨by omega, by omega, by omega⟩)
 have f22 : ((fun b => F b ∨ (w0.heap.size ≤ b ∧ b < w18.heap.size ∧ b ≠ b10))) b7 := (.inr ⟨by omega, by omega, by omega⟩)
 have f23 : ((fun b => F b ∨ (w0.heap.size ≤ b ∧ b < w18.heap.size ∧ b ≠ b10))) b4 := (.inr ⟨by omega, by omega, by omega⟩)
 have f24 : ((fun b => F b ∨ (w0.heap.size ≤ b ∧ b < w18.heap.size ∧ b ≠ b10))) b13 := (.inr ⟨by omega, by omega, by omega⟩)
 have f26 : ((fun b => F b ∨ (w0.heap.size ≤ b ∧ b < w18.heap.size ∧ b ≠ b10))) b1 := (.inr ⟨by omega, by omega, by omega⟩)
 have f27 : ((fun b => F b ∨ (w0.heap.size ≤ b ∧ b < w18.heap.size ∧ b ≠ b10))) b7 := (.inr ⟨by omega, by omega, by omega⟩)
 have q25 : FnT Tryz.prog encGrant i64 (n + 1) (fun b => F b ∨ (w0.heap.size ≤ b ∧ b < w18.heap.size ∧ b ≠ b10)) w18 (.func (.func 81) #[] #[.pointer (some ⟨b1, 0, none⟩), .pointer (some ⟨b7, 0, none⟩)]) (fun x => (D.alloc_New_1 a0 a2 x)) := ⟨81, [], [.pointer (some ⟨b1, 0, none⟩), .pointer (some ⟨b7, 0, none⟩)], cl81, rfl, fun m hm x w' hs hz => c_alloc_New_1 (fun b hb => Nat.lt_of_lt_of_le (hF1 b hb) hz) a0 f26 (hs.at_ f26 h_b1) a2 f27 (hs.at_ f27 h_b7) x⟩
 refine seq_call r (c_prog_Then_int_Grant_le (F := (fun b => F b ∨ (w0.heap.size ≤ b ∧ b < w18.heap.size ∧ b ≠ b10))) (n := n) hF1 (Rep.mono (by rintro b (h | h); (rcases h with h | ⟨h1, h2, h3⟩; exact .inl h; exact .inr ⟨h1, by omega, h3⟩); exact .inr ⟨by omega, by omega, by omega⟩) (Same.refl _ _) (by omega) n _ _ hr20) ⟨85, [], [.pointer (some ⟨b1, 0, none⟩), .pointer (some ⟨b7, 0, none⟩), .pointer (some ⟨b4, 0, none⟩), .pointer (some ⟨b13, 0, none⟩)], cl85, rfl, fun m hm x w' hs hz => c_alloc_New_2 (j := j) (fun b hb => Nat.lt_of_lt_of_le (hF1 b hb) hz) (by omega) a0 f21 (hs.at_ f21 h_b1) a2 f22 (hs.at_ f22 h_b7) a1 f23 (hs.at_ f23 h_b4) f24 (hs.at_ f24 h_b13) (q25.mono (by omega) (fun b h => h) hs hz) x⟩) (fun R hc => y_call r rfl cl84 hc) rfl ?_
 rintro _ w28 ⟨v29, rfl, hb, hr30⟩
 refine ⟨_, rfl, fun fr r => ?_⟩
 have z_w28 := hb.size
 have h_b1 := keep hb h_b1
 have h_b4 := keep hb h_b4
 have h_b7 := keep hb h_b7
 have h_b10 := keep hb h_b10
 have h_b13 := keep hb h_b13
 obtain ⟨hB, zB⟩ := bon hb hB
 refine seq_upd (.cells v29.cells 75 (0, 0)) r (fun R => y_storep r hr30.shape rfl rfl h_b10 ts75 rfl) rfl fun fr w31 u32 r => ?_
 have z_w31 := u32.size
 have h_b1 := u32.keep h_b1 (by omega)
 have h_b4 := u32.keep h_b4 (by omega)
 have h_b7 := u32.keep h_b7 (by omega)
 have h_b13 := u32.keep h_b13 (by omega)
 have h_b10 := u32.at_
 obtain ⟨hB, zB⟩ := u32.on hB (by omega)
 refine wn ?_
 refine wp_ret ?_
 have hs := hr30.shape.cells
 refine ret_cell r rfl rfl h_b10 (k := 9) hs.1 ta75 ?_
 rw [← hs.2.2]
 exact rfin hF hB hr30 u32 (by omega) (by omega) (by omega)

def D.alloc_Free (fu : Nat) (a0 : Plan) (a1 : Mem) (a2 : Int) : Option (Int) := ((D.free_List fu a0 a1 a2).bind (fun (x5 : List Int) => (some (x5.length : Int))))

theorem c_alloc_Free {fu : Nat} (w0 : World) (a0 : Plan) {a1_g : MG} (a1 : Mem) (a1_h : MemAt a1_g a1 w0) (a2 : Int) {res : Int} (hD : D.alloc_Free fu a0 a1 a2 = some res) :
    Calls Tryz.prog 40 #[.agg (planC a0).toArray, .pointer (some ⟨a1_g.mb, 0, none⟩), .int .i64 a2] w0 (PureRes (.int .i64 res) w0) := by
 refine enter Tryz.func40 rfl 12 rfl rfl fun fr r => ?_
 have hP : Post No [] w0 w0 := Post.nil w0
 have hP : Post No [memR a1_g a1] w0 w0 := hP.addRo norw_nil a1_h rfl a1_h.lt
 unfold D.alloc_Free at hD
 refine wsr ?_
 refine seq_new (.cells ((planC a0)).toArray 23 (0, 0)) r (fun R => y_box r (v := (.agg (planC a0).toArray)) rfl) rfl fun fr b1 w2 n3 r => ?_
 have hP : Post No [memR a1_g a1, cellC b1 ((planC a0)).toArray 23] w0 w2 := hP.new n3
 refine seq_val (I 0) r (fun R => y_assign r rfl) rfl fun fr r => ?_
 refine wn ?_
 refine wsr ?_
 refine seq_val (.agg (planC a0).toArray) r (fun R => y_load_agg r (cs := (planC a0)) (n := 6) rfl (hP.cell (i := 1) rfl) ta23 rfl) rfl fun fr r => ?_
 refine seq_val (.pointer (some ⟨a1_g.mb, 0, none⟩)) r (fun R => y_move r rfl) rfl fun fr r => ?_
 refine seq_val (I a2) r (fun R => y_move r rfl) rfl fun fr r => ?_
 obtain ⟨x5, hx5, hD⟩ := bindD_elim hD
 refine seq_call r (c_free_List w2 a0 a1 (hP.memr (i := 0) rfl) a2 hx5) (fun R hc => y_call r rfl cl26 hc) rfl ?_
 rintro _ w6 ⟨v7, rfl, hq⟩
 refine ⟨_, rfl, fun fr r => ?_⟩
 have hP : Post No [memR a1_g a1, cellC b1 ((planC a0)).toArray 23, rowK 3 1 i64 v7 x5] w0 w6 := hP.add hq
 refine seq_val (I (x5.length : Int)) r (fun R => y_rowLen r (hP.row (i := 2) rfl).ro is24 rfl) rfl fun fr r => ?_
 refine seq_val (I (x5.length : Int)) r (fun R => y_assign r rfl) rfl fun fr r => ?_
 refine wn ?_
 refine wp_ret ?_
 have hv : (x5.length : Int) = res := Option.some.inj hD
 try dsimp only [Exit.then, Exit.inBlock]
 refine ret_tmp (fn := Tryz.f40) r (t := 6) rfl (v := (I (x5.length : Int))) rfl ?_
 subst hv
 exact ⟨rfl, hP.chg.below⟩

def D.alloc_Stash_1 (c0 : Int) (a0 : Int) : T Int := (bif (a0 == (-1)) then (D.prog_Done_int (-1)) else (D.prog_Done_int c0))

theorem c_alloc_Stash_1 {n : Nat} {F : Nat → Prop} {w0 : World} (hF : ∀ b, F b → b < w0.heap.size)
    (c0 : Int) {c0_b : Nat} (c0_F : F c0_b) (c0_h : w0.heap[c0_b]? = some (.cells ([(.int .i64 c0)]).toArray 3 (0, 0))) (a0 : Int) :
    Calls Tryz.prog 92 #[.int .i64 a0, .pointer (some ⟨c0_b, 0, none⟩)] w0 (RepRes Tryz.prog encInt n (D.alloc_Stash_1 c0 a0) F w0) := by
 refine enter Tryz.func92 rfl 9 rfl rfl fun fr r => ?_
 have hB := Below.refl w0.heap.size w0
 have l_c0_b := lt_of_block c0_h
 refine wsr ?_
 refine seq_new (.cells (progCells false encInt.zero 0 0 0 0 .nilFunc) 39 (0, 0)) r (fun R => y_alloc tz39) rfl fun fr b1 w2 n3 r => ?_
 obtain ⟨e_b1, z_w2, h_b1, hB, zB⟩ := n3.all hB
 refine wn ?_
 refine wp_seq ?_
 refine wsr ?_
 refine seq_val (I a0) r (fun R => y_move r rfl) rfl fun fr r => ?_
 refine seq_val _ r (fun R => y_bin r rfl rfl rfl rfl) rfl fun fr r => ?_
 refine wn ?_
 refine wp_cond_split (t := (a0 == (-1))) (r.ev rfl) (fun h4 => ?_) (fun h4 => ?_)
 ·
  refine wsr ?_
  have hF1 := fgrow hF hB b1
  refine seq_call r (c_prog_Done_int (F := (fun b => F b ∨ (w0.heap.size ≤ b ∧ b < w2.heap.size ∧ b ≠ b1))) (n := n) hF1 (-1)) (fun R hc => y_call r rfl cl54 hc) rfl ?_
  rintro _ w5 ⟨v6, rfl, hb, hr7⟩
  refine ⟨_, rfl, fun fr r => ?_⟩
  have z_w5 := hb.size
  have h_b1 := keep hb h_b1
  obtain ⟨hB, zB⟩ := bon hb hB
  refine seq_upd (.cells v6.cells 39 (0, 0)) r (fun R => y_storep r hr7.shape rfl rfl h_b1 ts39 rfl) rfl fun fr w8 u9 r => ?_
  have z_w8 := u9.size
  have h_b1 := u9.at_
  obtain ⟨hB, zB⟩ := u9.on hB (by omega)
  refine wn ?_
  refine wp_ret ?_
  have hd : D.alloc_Stash_1 c0 a0 = (D.prog_Done_int (-1)) := (cond_t h4).trans (rfl)
  have hs := hr7.shape.cells
  refine ret_cell r rfl rfl h_b1 (k := 7) hs.1 ta39 ?_
  rw [← hs.2.2, hd]
  exact rfin hF hB hr7 u9 (by omega) (by omega) (by omega)
 ·
  refine wp_skip ?_
  refine wsr ?_
  refine seq_val (I c0) r (fun R => y_load_one r rfl (keep hB c0_h) to3 rfl) rfl fun fr r => ?_
  have hF1 := fgrow hF hB b1
  refine seq_call r (c_prog_Done_int (F := (fun b => F b ∨ (w0.heap.size ≤ b ∧ b < w2.heap.size ∧ b ≠ b1))) (n := n) hF1 c0) (fun R hc => y_call r rfl cl54 hc) rfl ?_
  rintro _ w10 ⟨v11, rfl, hb, hr12⟩
  refine ⟨_, rfl, fun fr r => ?_⟩
  have z_w10 := hb.size
  have h_b1 := keep hb h_b1
  obtain ⟨hB, zB⟩ := bon hb hB
  refine seq_upd (.cells v11.cells 39 (0, 0)) r (fun R => y_storep r hr12.shape rfl rfl h_b1 ts39 rfl) rfl fun fr w13 u14 r => ?_
  have z_w13 := u14.size
  have h_b1 := u14.at_
  obtain ⟨hB, zB⟩ := u14.on hB (by omega)
  refine wn ?_
  refine wp_ret ?_
  have hd : D.alloc_Stash_1 c0 a0 = (D.prog_Done_int c0) := (cond_f h4).trans (rfl)
  have hs := hr12.shape.cells
  refine ret_cell r rfl rfl h_b1 (k := 7) hs.1 ta39 ?_
  rw [← hs.2.2, hd]
  exact rfin hF hB hr12 u14 (by omega) (by omega) (by omega)

def D.alloc_Stash_2_1 (c0 : Plan) (c1 : Int) (c2 : Int) (c3 : (Int → T Int)) (a0 : Int) : T Int := (T.bind (D.retire_Put c0 c1 c2) c3)

theorem c_alloc_Stash_2_1 {n : Nat} {F : Nat → Prop} {w0 : World} (hF : ∀ b, F b → b < w0.heap.size)
    (c0 : Plan) {c0_b : Nat} (c0_F : F c0_b) (c0_h : w0.heap[c0_b]? = some (.cells ((planC c0)).toArray 23 (0, 0))) (c1 : Int) {c1_b : Nat} (c1_F : F c1_b) (c1_h : w0.heap[c1_b]? = some (.cells ([(.int .i64 c1)]).toArray 3 (0, 0))) (c2 : Int) {c2_b : Nat} (c2_F : F c2_b) (c2_h : w0.heap[c2_b]? = some (.cells ([(.int .i64 c2)]).toArray 3 (0, 0))) {c3_f : FuncId} {c3_1 c3_2 : List Value} {c3 : (Int → T Int)} {c3_b : Nat} (c3_F : F c3_b) (c3_h : w0.heap[c3_b]? = some (.cells #[.func (.func c3_f) c3_1.toArray c3_2.toArray] 107 (0, 0))) (c3_n : FnT Tryz.prog encInt i64 (n + 1) F w0 (.func (.func c3_f) c3_1.toArray c3_2.toArray) c3) (a0 : Int) :
    Calls Tryz.prog 95 #[.int .i64 a0, .pointer (some ⟨c0_b, 0, none⟩), .pointer (some ⟨c1_b, 0, none⟩), .pointer (some ⟨c2_b, 0, none⟩), .pointer (some ⟨c3_b, 0, none⟩)] w0 (RepRes Tryz.prog encInt n (D.alloc_Stash_2_1 c0 c1 c2 c3 a0) F w0) := by
 refine enter Tryz.func95 rfl 13 rfl rfl fun fr r => ?_
 have hB := Below.refl w0.heap.size w0
 have l_c0_b := lt_of_block c0_h
 have l_c1_b := lt_of_block c1_h
 have l_c2_b := lt_of_block c2_h
 have l_c3_b := lt_of_block c3_h
 refine wsr ?_
 refine seq_new (.cells (progCells false encInt.zero 0 0 0 0 .nilFunc) 39 (0, 0)) r (fun R => y_alloc tz39) rfl fun fr b1 w2 n3 r => ?_
 obtain ⟨e_b1, z_w2, h_b1, hB, zB⟩ := n3.all hB
 refine wn ?_
 refine wp_seq ?_
 have hF1 := fgrow hF hB b1
 refine wp_drawnF 5 [.val (.agg (planC c0).toArray), .val (I c1), .val (I c2), .pred (PrepP Tryz.prog encInt n (D.retire_Put c0 c1 c2) ((fun b => F b ∨ (w0.heap.size ≤ b ∧ b < w2.heap.size ∧ b ≠ b1))) w2) (PrepP.st hF1), .val (.func (.func c3_f) c3_1.toArray c3_2.toArray)] mixed r (by kernel_rfl) (within_cons (by exact trivial) (within_cons (by exact trivial) (within_cons (by exact trivial) (within_cons (by exact trivial) (within_cons (by exact trivial) within_nil))))) ?_ ?_
 ·
  refine ec r (fun _ u _ b d s => y_load_agg s (cs := (planC c0)) (n := 6) rfl (keep2 hB b c0_h) ta23 rfl bz) ?_
  refine ec r (fun _ u _ b d s => y_load_one s rfl (keep2 hB b c1_h) to3 rfl bz) ?_
  refine ec r (fun _ u _ b d s => y_load_one s rfl (keep2 hB b c2_h) to3 rfl bz) ?_
  refine ec r (fun fr1 u w' hb' hd r' => y_call r' (args := [(.agg (planC c0).toArray), (I c1), (I c2)]) (lc hd.1 (lc hd.2.1 (lc hd.2.2.1 l0))) cl17 ((c_retire_Put (F := (fun b => F b ∨ (w0.heap.size ≤ b ∧ b < w2.heap.size ∧ b ≠ b1))) (n := n) (fun b h => Nat.lt_of_lt_of_le (hF1 b h) hb'.size) c0 c1 c2).mono (by rintro _ w2 ⟨y, rfl, hb2, hr2⟩; exact ⟨_, rfl, hb2, PrepP.of (drB hb') hb2 hr2⟩))) ?_
  refine ec r (fun _ u _ b d s => y_load_one s rfl (keep2 hB b c3_h) to107 rfl bz) ?_
  exact each_nil
 ·
  intro fr u w4 hb hΦ hne r
  obtain ⟨v5, hv3⟩ : ∃ v, v = u 3 := ⟨_, rfl⟩
  have g3 : u 3 = v5 := hv3.symm
  have hr6 := (hΦ 3 (by decide)).2
  rw [g3] at hr6
  have r := r.congr (sc (hΦ 4 (by decide)) (sc g3 (sc (hΦ 2 (by decide)) (sc (hΦ 1 (by decide)) (sc (hΦ 0 (by decide)) rfl)))))
  have z_w4 := hb.size
  have h_b1 := keep hb h_b1
  obtain ⟨hB, zB⟩ := bon hb hB
  have hF1 := fgrow hF hB b1
  refine seq_call r (c_prog_Then_int_int_le (F := (fun b => F b ∨ (w0.heap.size ≤ b ∧ b < w4.heap.size ∧ b ≠ b1))) (n := n) hF1 (Rep.mono (by rintro b (h | h); (rcases h with h | ⟨h1, h2, h3⟩; exact .inl h; exact .inr ⟨h1, by omega, h3⟩); exact .inr ⟨by omega, by omega, by omega⟩) (Same.refl _ _) (by omega) n _ _ hr6) (c3_n.mono (by omega) (fun b h => .inl h) (Same.below hB hF) hB.size)) (fun R hc => y_call r rfl cl93 hc) rfl ?_
  rintro _ w7 ⟨v8, rfl, hb, hr9⟩
  refine ⟨_, rfl, fun fr r => ?_⟩
  have z_w7 := hb.size
  have h_b1 := keep hb h_b1
  obtain ⟨hB, zB⟩ := bon hb hB
  refine seq_upd (.cells v8.cells 39 (0, 0)) r (fun R => y_storep r hr9.shape rfl rfl h_b1 ts39 rfl) rfl fun fr w10 u11 r => ?_
  have z_w10 := u11.size
  have h_b1 := u11.at_
  obtain ⟨hB, zB⟩ := u11.on hB (by omega)
  refine wn ?_
  refine wp_ret ?_
  have hs := hr9.shape.cells
  refine ret_cell r rfl rfl h_b1 (k := 7) hs.1 ta39 ?_
  rw [← hs.2.2]
  exact rfin hF hB hr9 u11 (by omega) (by omega) (by omega)

def D.alloc_Stash_2 (j : Nat) (c0 : Int) (c1 : Plan) (c2 : Int) (c3 : (Int → T Int)) (a0 : Int) : T Int := (bif (a0 != (-1)) then (D.prog_Done_int c0) else (T.bind (D.retire_Scan j c1 c2) (fun x => (D.alloc_Stash_2_1 c1 c2 c0 c3 x))))

theorem c_alloc_Stash_2 {n : Nat} {F : Nat → Prop} {j : Nat} {w0 : World} (hF : ∀ b, F b → b < w0.heap.size) (hj : n < j)
    (c0 : Int) {c0_b : Nat} (c0_F : F c0_b) (c0_h : w0.heap[c0_b]? = some (.cells ([(.int .i64 c0)]).toArray 3 (0, 0))) (c1 : Plan) {c1_b : Nat} (c1_F : F c1_b) (c1_h : w0.heap[c1_b]? = some (.cells ((planC c1)).toArray 23 (0, 0))) (c2 : Int) {c2_b : Nat} (c2_F : F c2_b) (c2_h : w0.heap[c2_b]? = some (.cells ([(.int .i64 c2)]).toArray 3 (0, 0))) {c3_f : FuncId} {c3_1 c3_2 : List Value} {c3 : (Int → T Int)} {c3_b : Nat} (c3_F : F c3_b) (c3_h : w0.heap[c3_b]? = some (.cells #[.func (.func c3_f) c3_1.toArray c3_2.toArray] 107 (0, 0))) (c3_n : FnT Tryz.prog encInt i64 (n + 1) F w0 (.func (.func c3_f) c3_1.toArray c3_2.toArray) c3) (a0 : Int) :
    Calls Tryz.prog 94 #[.int .i64 a0, .pointer (some ⟨c0_b, 0, none⟩), .pointer (some ⟨c1_b, 0, none⟩), .pointer (some ⟨c2_b, 0, none⟩), .pointer (some ⟨c3_b, 0, none⟩)] w0 (RepRes Tryz.prog encInt n (D.alloc_Stash_2 j c0 c1 c2 c3 a0) F w0) := by
 refine enter Tryz.func94 rfl 16 rfl rfl fun fr r => ?_
 have hB := Below.refl w0.heap.size w0
 have l_c0_b := lt_of_block c0_h
 have l_c1_b := lt_of_block c1_h
 have l_c2_b := lt_of_block c2_h
 have l_c3_b := lt_of_block c3_h
 refine wsr ?_
 refine seq_new (.cells (progCells false encInt.zero 0 0 0 0 .nilFunc) 39 (0, 0)) r (fun R => y_alloc tz39) rfl fun fr b1 w2 n3 r => ?_
 obtain ⟨e_b1, z_w2, h_b1, hB, zB⟩ := n3.all hB
 refine wn ?_
 refine wp_seq ?_
 refine wsr ?_
 refine seq_val (I a0) r (fun R => y_move r rfl) rfl fun fr r => ?_
 refine seq_val _ r (fun R => y_bin r rfl rfl rfl rfl) rfl fun fr r => ?_
 refine wn ?_
 refine wp_cond_split (t := (a0 != (-1))) (r.ev rfl) (fun h4 => ?_) (fun h4 => ?_)
 ·
  refine wsr ?_
  refine seq_val (I c0) r (fun R => y_load_one r rfl (keep hB c0_h) to3 rfl) rfl fun fr r => ?_
  have hF1 := fgrow hF hB b1
  refine seq_call r (c_prog_Done_int (F := (fun b => F b ∨ (w0.heap.size ≤ b ∧ b < w2.heap.size ∧ b ≠ b1))) (n := n) hF1 c0) (fun R hc => y_call r rfl cl54 hc) rfl ?_
  rintro _ w5 ⟨v6, rfl, hb, hr7⟩
  refine ⟨_, rfl, fun fr r => ?_⟩
  have z_w5 := hb.size
  have h_b1 := keep hb h_b1
  obtain ⟨hB, zB⟩ := bon hb hB
  refine seq_upd (.cells v6.cells 39 (0, 0)) r (fun R => y_storep r hr7.shape rfl rfl h_b1 ts39 rfl) rfl fun fr w8 u9 r => ?_
  have z_w8 := u9.size
  have h_b1 := u9.at_
  obtain ⟨hB, zB⟩ := u9.on hB (by omega)
  refine wn ?_
  refine wp_ret ?_
  have hd : D.alloc_Stash_2 j c0 c1 c2 c3 a0 = (D.prog_Done_int c0) := (cond_t h4).trans (rfl)
  have hs := hr7.shape.cells
  refine ret_cell r rfl rfl h_b1 (k := 7) hs.1 ta39 ?_
  rw [← hs.2.2, hd]
  exact rfin hF hB hr7 u9 (by omega) (by omega) (by omega)
 ·
  refine wp_skip ?_
  refine wsr ?_
  refine seq_val (.agg (planC c1).toArray) r (fun R => y_load_agg r (cs := (planC c1)) (n := 6) rfl (keep hB c1_h) ta23 rfl) rfl fun fr r => ?_
  refine seq_val (I c2) r (fun R => y_load_one r rfl (keep hB c2_h) to3 rfl) rfl fun fr r => ?_
  have hF1 := fgrow hF hB b1
  refine seq_call r (c_retire_Scan (j := j) (F := (fun b => F b ∨ (w0.heap.size ≤ b ∧ b < w2.heap.size ∧ b ≠ b1))) (n := n) hF1 (by omega) c1 c2) (fun R hc => y_call r rfl cl19 hc) rfl ?_
  rintro _ w10 ⟨v11, rfl, hb, hr12⟩
  refine ⟨_, rfl, fun fr r => ?_⟩
  have z_w10 := hb.size
  have h_b1 := keep hb h_b1
  obtain ⟨hB, zB⟩ := bon hb hB
  refine seq_val (.func (.func 95) #[] #[.pointer (some ⟨c1_b, 0, none⟩), .pointer (some ⟨c2_b, 0, none⟩), .pointer (some ⟨c0_b, 0, none⟩), .pointer (some ⟨c3_b, 0, none⟩)]) r (fun R => y_makeFunc r rfl) rfl fun fr r => ?_
  have hF1 := fgrow hF hB b1
  have f13 : ((fun b => F b ∨ (w0.heap.size ≤ b ∧ b < w10.heap.size ∧ b ≠ b1))) c1_b := (.inl c1_F)
  have f14 : ((fun b => F b ∨ (w0.heap.size ≤ b ∧ b < w10.heap.size ∧ b ≠ b1))) c2_b := (.inl c2_F)
  have f15 : ((fun b => F b ∨ (w0.heap.size ≤ b ∧ b < w10.heap.size ∧ b ≠ b1))) c0_b := (.inl c0_F)
  have f16 : ((fun b => F b ∨ (w0.heap.size ≤ b ∧ b < w10.heap.size ∧ b ≠ b1))) c3_b := (.inl c3_F)
  refine seq_call r (c_prog_Then_int_int_le (F := (fun b => F b ∨ (w0.heap.size ≤ b ∧ b < w10.heap.size ∧ b ≠ b1))) (n := n) hF1 (Rep.mono (by rintro b (h | h); (rcases h with h | ⟨h1, h2, h3⟩; exact .inl h; exact .inr ⟨h1, by omega, h3⟩); exact .inr ⟨by omega, by omega, by omega⟩) (Same.refl _ _) (by omega) n _ _ hr12) ⟨95, [], [.pointer (some ⟨c1_b, 0, none⟩), .pointer (some ⟨c2_b, 0, none⟩), .pointer (some ⟨c0_b, 0, none⟩), .pointer (some ⟨c3_b, 0, none⟩)], cl95, rfl, fun m hm x w' hs hz => c_alloc_Stash_2_1 (fun b hb => Nat.lt_of_lt_of_le (hF1 b hb) hz) c1 f13 (hs.at_ f13 (keep hB c1_h)) c2 f14 (hs.at_ f14 (keep hB c2_h)) c0 f15 (hs.at_ f15 (keep hB c0_h)) f16 (hs.at_ f16 (keep hB c3_h)) (c3_n.mono (by omega) (fun b h => .inl h) ((Same.below hB hF).trans (hs.sub (fun b h => .inl h))) (Nat.le_trans hB.size hz)) x⟩) (fun R hc => y_call r rfl cl93 hc) rfl ?_
  rintro _ w17 ⟨v18, rfl, hb, hr19⟩
  refine ⟨_, rfl, fun fr r => ?_⟩
  have z_w17 := hb.size
  have h_b1 := keep hb h_b1
  obtain ⟨hB, zB⟩ := bon hb hB
  refine seq_upd (.cells v18.cells 39 (0, 0)) r (fun R => y_storep r hr19.shape rfl rfl h_b1 ts39 rfl) rfl fun fr w20 u21 r => ?_
  have z_w20 := u21.size
  have h_b1 := u21.at_
  obtain ⟨hB, zB⟩ := u21.on hB (by omega)
  refine wn ?_
  refine wp_ret ?_
  have hd : D.alloc_Stash_2 j c0 c1 c2 c3 a0 = (T.bind (D.retire_Scan j c1 c2) (fun x => (D.alloc_Stash_2_1 c1 c2 c0 c3 x))) := (cond_f h4).trans (rfl)
  have hs := hr19.shape.cells
  refine ret_cell r rfl rfl h_b1 (k := 7) hs.1 ta39 ?_
  rw [← hs.2.2, hd]
  exact rfin hF hB hr19 u21 (by omega) (by omega) (by omega)

def D.alloc_Stash (j : Nat) (a0 : Plan) (a1 : Int) (a2 : Int) : T Int := (T.bind (D.retire_Put a0 a1 a2) (fun x => (D.alloc_Stash_2 j a2 a0 a1 (fun x => (D.alloc_Stash_1 a2 x)) x)))

theorem c_alloc_Stash {n : Nat} {F : Nat → Prop} {j : Nat} {w0 : World} (hF : ∀ b, F b → b < w0.heap.size) (hj : n < j)
    (a0 : Plan) (a1 : Int) (a2 : Int) :
    Calls Tryz.prog 41 #[.agg (planC a0).toArray, .int .i64 a1, .int .i64 a2] w0 (RepRes Tryz.prog encInt n (D.alloc_Stash j a0 a1 a2) F w0) := by
 refine enter Tryz.func41 rfl 15 rfl rfl fun fr r => ?_
 have hB := Below.refl w0.heap.size w0
 refine wsr ?_
 refine seq_new (.cells ((planC a0)).toArray 23 (0, 0)) r (fun R => y_box r (v := (.agg (planC a0).toArray)) rfl) rfl fun fr b1 w2 n3 r => ?_
 obtain ⟨e_b1, z_w2, h_b1, hB, zB⟩ := n3.all hB
 refine seq_new (.cells #[(I a1)] 3 (0, 0)) r (fun R => y_box r (v := (I a1)) rfl) rfl fun fr b4 w5 n6 r => ?_
 have h_b1 := keep n6.below h_b1
 obtain ⟨e_b4, z_w5, h_b4, hB, zB⟩ := n6.all hB
 refine seq_new (.cells #[(I a2)] 3 (0, 0)) r (fun R => y_box r (v := (I a2)) rfl) rfl fun fr b7 w8 n9 r => ?_
 have h_b1 := keep n9.below h_b1
 have h_b4 := keep n9.below h_b4
 obtain ⟨e_b7, z_w8, h_b7, hB, zB⟩ := n9.all hB
 refine seq_new (.cells (progCells false encInt.zero 0 0 0 0 .nilFunc) 39 (0, 0)) r (fun R => y_alloc tz39) rfl fun fr b10 w11 n12 r => ?_
 have h_b1 := keep n12.below h_b1
 have h_b4 := keep n12.below h_b4
 have h_b7 := keep n12.below h_b7
 obtain ⟨e_b10, z_w11, h_b10, hB, zB⟩ := n12.all hB
 refine wn ?_
 refine wsr ?_
 refine seq_val (.func (.func 92) #[] #[.pointer (some ⟨b7, 0, none⟩)]) r (fun R => y_makeFunc r rfl) rfl fun fr r => ?_
 refine seq_new (.cells #[.nilFunc] 107 (0, 0)) r (fun R => y_alloc tz107) rfl fun fr b13 w14 n15 r => ?_
 have h_b1 := keep n15.below h_b1
 have h_b4 := keep n15.below h_b4
 have h_b7 := keep n15.below h_b7
 have h_b10 := keep n15.below h_b10
 obtain ⟨e_b13, z_w14, h_b13, hB, zB⟩ := n15.all hB
 refine seq_upd (.cells #[.func (.func 92) #[] #[.pointer (some ⟨b7, 0, none⟩)]] 107 (0, 0)) r (fun R => y_store r (o := 0) (v := (.func (.func 92) #[] #[.pointer (some ⟨b7, 0, none⟩)])) rfl rfl h_b13 ts107 (Nat.le_of_ble_eq_true rfl) rfl rfl) rfl fun fr w16 u17 r => ?_
 have z_w16 := u17.size
 have h_b1 := u17.keep h_b1 (by omega)
 have h_b4 := u17.keep h_b4 (by omega)
 have h_b7 := u17.keep h_b7 (by omega)
 have h_b10 := u17.keep h_b10 (by omega)
 have h_b13 := u17.at_
 obtain ⟨hB, zB⟩ := u17.on hB (by omega)
 refine wn ?_
 refine wsr ?_
 refine seq_val (.agg (planC a0).toArray) r (fun R => y_load_agg r (cs := (planC a0)) (n := 6) rfl h_b1 ta23 rfl) rfl fun fr r => ?_
 refine seq_val (I a1) r (fun R => y_load_one r rfl h_b4 to3 rfl) rfl fun fr r => ?_
 refine seq_val (I a2) r (fun R => y_load_one r rfl h_b7 to3 rfl) rfl fun fr r => ?_
 have hF1 := fgrow hF hB b10
 refine seq_call r (c_retire_Put (F := (fun b => F b ∨ (w0.heap.size ≤ b ∧ b < w16.heap.size ∧ b ≠ b10))) (n := n) hF1 a0 a1 a2) (fun R hc => y_call r rfl cl17 hc) rfl ?_
 rintro _ w18 ⟨v19, rfl, hb, hr20⟩
 refine ⟨_, rfl, fun fr r => ?_⟩
 have z_w18 := hb.size
 have h_b1 := keep hb h_b1
 have h_b4 := keep hb h_b4
 have h_b7 := keep hb h_b7
 have h_b10 := keep hb h_b10
 have h_b13 := keep hb h_b13
 obtain ⟨hB, zB⟩ := bon hb hB
 refine seq_val (.func (.func 94) #[] #[.pointer (some ⟨b7, 0, none⟩), .pointer (some ⟨b1, 0, none⟩), .pointer (some ⟨b4, 0, none⟩), .pointer (some ⟨b13, 0, none⟩)]) r (fun R => y_makeFunc r rfl) rfl fun fr r => ?_
 have hF1 := fgrow hF hB b10
 have f21 : ((fun b => F b ∨ (w0.heap.size ≤ b ∧ b < w18.heap.size ∧ b ≠ b10))) b7 := (.inr ⟨by omega, by omega, by omega⟩)
 have f22 : ((fun b => F b ∨ (w0.heap.size ≤ b ∧ b < w18.heap.size ∧ b ≠ b10))) b1 := (.inr ⟨by omega, by omega, by omega⟩)
 have f23 : ((fun b => F b ∨ (w0.heap.size ≤ b ∧ b < w18.heap.size ∧ b ≠ b10))) b4 := (.inr ⟨by omega, by omega, by omega⟩)
 have f24 : ((fun b => F b ∨ (w0.heap.size ≤ b ∧ b < w18.heap.size ∧ b ≠ b10))) b13 := (.inr ⟨by omega, by omega, by omega⟩)
 have f26 : ((fun b => F b ∨ (w0.heap.size ≤ b ∧ b < w18.heap.size ∧ b ≠ b10))) b7 := (.inr ⟨by omega, by omega, by omega⟩)
 have q25 : FnT Tryz.prog encInt i64 (n + 1) (fun b => F b ∨ (w0.heap.size ≤ b ∧ b < w18.heap.size ∧ b ≠ b10)) w18 (.func (.func 92) #[] #[.pointer (some ⟨b7, 0, none⟩)]) (fun x => (D.alloc_Stash_1 a2 x)) := ⟨92, [], [.pointer (some ⟨b7, 0, none⟩)], cl92, rfl, fun m hm x w' hs hz => c_alloc_Stash_1 (fun b hb => Nat.lt_of_lt_of_le (hF1 b hb) hz) a2 f26 (hs.at_ f26 h_b7) x⟩
 refine seq_call r (c_prog_Then_int_int_le (F := (fun b => F b ∨ (w0.heap.size ≤ b ∧ b < w18.heap.size ∧ b ≠ b10))) (n := n) hF1 (Rep.mono (by rintro b (h | h); (rcases h with h | ⟨h1, h2, h3⟩; exact .inl h; exact .inr ⟨h1, by omega, h3⟩); exact .inr ⟨by omega, by omega, by omega⟩) (Same.refl _ _) (by omega) n _ _ hr20) ⟨94, [], [.pointer (some ⟨b7, 0, none⟩), .pointer (some ⟨b1, 0, none⟩), .pointer (some ⟨b4, 0, none⟩), .pointer (some ⟨b13, 0, none⟩)], cl94, rfl, fun m hm x w' hs hz => c_alloc_Stash_2 (j := j) (fun b hb => Nat.lt_of_lt_of_le (hF1 b hb) hz) (by omega) a2 f21 (hs.at_ f21 h_b7) a0 f22 (hs.at_ f22 h_b1) a1 f23 (hs.at_ f23 h_b4) f24 (hs.at_ f24 h_b13) (q25.mono (by omega) (fun b h => h) hs hz) x⟩) (fun R hc => y_call r rfl cl93 hc) rfl ?_
 rintro _ w27 ⟨v28, rfl, hb, hr29⟩
 refine ⟨_, rfl, fun fr r => ?_⟩
 have z_w27 := hb.size
 have h_b1 := keep hb h_b1
 have h_b4 := keep hb h_b4
 have h_b7 := keep hb h_b7
 have h_b10 := keep hb h_b10
 have h_b13 := keep hb h_b13
 obtain ⟨hB, zB⟩ := bon hb hB
 refine seq_upd (.cells v28.cells 39 (0, 0)) r (fun R => y_storep r hr29.shape rfl rfl h_b10 ts39 rfl) rfl fun fr w30 u31 r => ?_
 have z_w30 := u31.size
 have h_b1 := u31.keep h_b1 (by omega)
 have h_b4 := u31.keep h_b4 (by omega)
 have h_b7 := u31.keep h_b7 (by omega)
 have h_b13 := u31.keep h_b13 (by omega)
 have h_b10 := u31.at_
 obtain ⟨hB, zB⟩ := u31.on hB (by omega)
 refine wn ?_
 refine wp_ret ?_
 have hs := hr29.shape.cells
 refine ret_cell r rfl rfl h_b10 (k := 7) hs.1 ta39 ?_
 rw [← hs.2.2]
 exact rfin hF hB hr29 u31 (by omega) (by omega) (by omega)

def D.alloc_Retire_1_1 (j : Nat) (c0 : Plan) (c1 : Int) (c2 : Int) : T Int := (D.alloc_Stash j c0 c1 c2)

theorem c_alloc_Retire_1_1 {n : Nat} {F : Nat → Prop} {j : Nat} {w0 : World} (hF : ∀ b, F b → b < w0.heap.size) (hj : n < j)
    (c0 : Plan) {c0_b : Nat} (c0_F : F c0_b) (c0_h : w0.heap[c0_b]? = some (.cells ((planC c0)).toArray 23 (0, 0))) (c1 : Int) {c1_b : Nat} (c1_F : F c1_b) (c1_h : w0.heap[c1_b]? = some (.cells ([(.int .i64 c1)]).toArray 3 (0, 0))) (c2 : Int) {c2_b : Nat} (c2_F : F c2_b) (c2_h : w0.heap[c2_b]? = some (.cells ([(.int .i64 c2)]).toArray 3 (0, 0))) :
    Calls Tryz.prog 90 #[.pointer (some ⟨c0_b, 0, none⟩), .pointer (some ⟨c1_b, 0, none⟩), .pointer (some ⟨c2_b, 0, none⟩)] w0 (RepRes Tryz.prog encInt n (D.alloc_Retire_1_1 j c0 c1 c2) F w0) := by
 refine enter Tryz.func90 rfl 8 rfl rfl fun fr r => ?_
 have hB := Below.refl w0.heap.size w0
 have l_c0_b := lt_of_block c0_h
 have l_c1_b := lt_of_block c1_h
 have l_c2_b := lt_of_block c2_h
 refine wsr ?_
 refine seq_new (.cells (progCells false encInt.zero 0 0 0 0 .nilFunc) 39 (0, 0)) r (fun R => y_alloc tz39) rfl fun fr b1 w2 n3 r => ?_
 obtain ⟨e_b1, z_w2, h_b1, hB, zB⟩ := n3.all hB
 refine wn ?_
 refine wsr ?_
 refine seq_val (.agg (planC c0).toArray) r (fun R => y_load_agg r (cs := (planC c0)) (n := 6) rfl (keep hB c0_h) ta23 rfl) rfl fun fr r => ?_
 refine seq_val (I c1) r (fun R => y_load_one r rfl (keep hB c1_h) to3 rfl) rfl fun fr r => ?_
 refine seq_val (I c2) r (fun R => y_load_one r rfl (keep hB c2_h) to3 rfl) rfl fun fr r => ?_
 have hF1 := fgrow hF hB b1
 refine seq_call r (c_alloc_Stash (j := j) (F := (fun b => F b ∨ (w0.heap.size ≤ b ∧ b < w2.heap.size ∧ b ≠ b1))) (n := n) hF1 (by omega) c0 c1 c2) (fun R hc => y_call r rfl cl41 hc) rfl ?_
 rintro _ w4 ⟨v5, rfl, hb, hr6⟩
 refine ⟨_, rfl, fun fr r => ?_⟩
 have z_w4 := hb.size
 have h_b1 := keep hb h_b1
 obtain ⟨hB, zB⟩ := bon hb hB
 refine seq_upd (.cells v5.cells 39 (0, 0)) r (fun R => y_storep r hr6.shape rfl rfl h_b1 ts39 rfl) rfl fun fr w7 u8 r => ?_
 have z_w7 := u8.size
 have h_b1 := u8.at_
 obtain ⟨hB, zB⟩ := u8.on hB (by omega)
 refine wn ?_
 refine wp_ret ?_
 have hs := hr6.shape.cells
 refine ret_cell r rfl rfl h_b1 (k := 7) hs.1 ta39 ?_
 rw [← hs.2.2]
 exact rfin hF hB hr6 u8 (by omega) (by omega) (by omega)

def D.alloc_Retire_1 (j : Nat) (c0 : Plan) (c1 : Int) (c2 : Int) (a0 : Int) : T Int := (D.prog_Store_int (D.plan_Plan_State c0 c1) (D.state_State_Word (D.state_State_Retire ((D.state_Of a0).1))) (fun _ => (D.alloc_Retire_1_1 j c0 c2 c1)))

theorem c_alloc_Retire_1 {n : Nat} {F : Nat → Prop} {j : Nat} {w0 : World} (hF : ∀ b, F b → b < w0.heap.size) (hj : n < j)
    (c0 : Plan) {c0_b : Nat} (c0_F : F c0_b) (c0_h : w0.heap[c0_b]? = some (.cells ((planC c0)).toArray 23 (0, 0))) (c1 : Int) {c1_b : Nat} (c1_F : F c1_b) (c1_h : w0.heap[c1_b]? = some (.cells ([(.int .i64 c1)]).toArray 3 (0, 0))) (c2 : Int) {c2_b : Nat} (c2_F : F c2_b) (c2_h : w0.heap[c2_b]? = some (.cells ([(.int .i64 c2)]).toArray 3 (0, 0))) (a0 : Int) :
    Calls Tryz.prog 87 #[.int .u64 a0, .pointer (some ⟨c0_b, 0, none⟩), .pointer (some ⟨c1_b, 0, none⟩), .pointer (some ⟨c2_b, 0, none⟩)] w0 (RepRes Tryz.prog encInt n (D.alloc_Retire_1 j c0 c1 c2 a0) F w0) := by
 refine enter Tryz.func87 rfl 21 rfl rfl fun fr r => ?_
 have hB := Below.refl w0.heap.size w0
 have l_c0_b := lt_of_block c0_h
 have l_c1_b := lt_of_block c1_h
 have l_c2_b := lt_of_block c2_h
 refine wsr ?_
 refine seq_new (.cells (progCells false encInt.zero 0 0 0 0 .nilFunc) 39 (0, 0)) r (fun R => y_alloc tz39) rfl fun fr b1 w2 n3 r => ?_
 obtain ⟨e_b1, z_w2, h_b1, hB, zB⟩ := n3.all hB
 refine wn ?_
 refine wsr ?_
 refine seq_val (U a0) r (fun R => y_move r rfl) rfl fun fr r => ?_
 refine seq_call r (c_state_Of w2 a0) (fun R hc => y_call r rfl cl88 hc) rfl ?_
 rintro _ w4 ⟨rfl, hb⟩
 refine ⟨_, rfl, fun fr r => ?_⟩
 have z_w4 := hb.size
 have h_b1 := keep hb h_b1
 obtain ⟨hB, zB⟩ := bon hb hB
 refine seq_val (.tuple #[(.agg (stateC (D.state_Of a0).1).toArray), (.bool (D.state_Of a0).2)]) r (fun R => y_move r rfl) rfl fun fr r => ?_
 refine seq_val (.agg (stateC (D.state_Of a0).1).toArray) r (fun R => y_extract r (vs := #[(.agg (stateC (D.state_Of a0).1).toArray), (.bool (D.state_Of a0).2)]) rfl rfl) rfl fun fr r => ?_
 refine seq_val (.bool (D.state_Of a0).2) r (fun R => y_extract r (vs := #[(.agg (stateC (D.state_Of a0).1).toArray), (.bool (D.state_Of a0).2)]) rfl rfl) rfl fun fr r => ?_
 refine seq_new (.cells ((stateC (⟨0, 0, 0⟩ : State))).toArray 30 (0, 0)) r (fun R => y_alloc tz30) rfl fun fr b5 w6 n7 r => ?_
 have h_b1 := keep n7.below h_b1
 obtain ⟨e_b5, z_w6, h_b5, hB, zB⟩ := n7.all hB
 refine seq_upd (.cells ((stateC ((D.state_Of a0).1))).toArray 30 (0, 0)) r (fun R => y_store r (o := 0) (v := (.agg (stateC (D.state_Of a0).1).toArray)) rfl rfl h_b5 ts30 (Nat.le_of_ble_eq_true rfl) rfl rfl) rfl fun fr w8 u9 r => ?_
 have z_w8 := u9.size
 have h_b1 := u9.keep h_b1 (by omega)
 have h_b5 := u9.at_
 obtain ⟨hB, zB⟩ := u9.on hB (by omega)
 refine seq_val (.bool (D.state_Of a0).2) r (fun R => y_assign r rfl) rfl fun fr r => ?_
 refine wn ?_
 refine wp_seq ?_
 refine wp_drawnF 7 [.val (.agg (planC c0).toArray), .val (I c1), .val (I (D.plan_Plan_State c0 c1)), .val (.agg (stateC (D.state_Of a0).1).toArray), .val (.agg (stateC (D.state_State_Retire ((D.state_Of a0).1))).toArray), .val (U (D.state_State_Word (D.state_State_Retire ((D.state_Of a0).1)))), .val (.func (.func 90) #[] #[.pointer (some ⟨c0_b, 0, none⟩), .pointer (some ⟨c2_b, 0, none⟩), .pointer (some ⟨c1_b, 0, none⟩)])] mixed r (by kernel_rfl) (within_cons (by exact trivial) (within_cons (by exact trivial) (within_cons (by exact trivial) (within_cons (by exact trivial) (within_cons (by exact trivial) (within_cons (by exact trivial) (within_cons (by exact trivial) within_nil))))))) ?_ ?_
 ·
  refine ec r (fun _ u _ b d s => y_load_agg s (cs := (planC c0)) (n := 6) rfl (keep2 hB b c0_h) ta23 rfl bz) ?_
  refine ec r (fun _ u _ b d s => y_load_one s rfl (keep2 hB b c1_h) to3 rfl bz) ?_
  refine ec r (fun fr1 u w' hb' hd r' => y_call r' (args := [(.agg (planC c0).toArray), (I c1)]) (lc hd.1 (lc hd.2.1 l0)) cl28 ((c_plan_Plan_State _ c0 c1).mono (by rintro _ w2 ⟨rfl, hb2⟩; exact ⟨_, rfl, hb2, rfl⟩))) ?_
  refine ec r (fun _ u _ b d s => y_load_agg s (cs := (stateC ((D.state_Of a0).1))) (n := 3) rfl (keep b h_b5) ta30 rfl bz) ?_
  refine ec r (fun fr1 u w' hb' hd r' => y_call r' (args := [(.agg (stateC (D.state_Of a0).1).toArray)]) (lc hd.1 l0) cl89 ((c_state_State_Retire _ ((D.state_Of a0).1)).mono (by rintro _ w2 ⟨rfl, hb2⟩; exact ⟨_, rfl, hb2, rfl⟩))) ?_
  refine ec r (fun fr1 u w' hb' hd r' => y_call r' (args := [(.agg (stateC (D.state_State_Retire ((D.state_Of a0).1))).toArray)]) (lc hd.1 l0) cl29 ((c_state_State_Word _ (D.state_State_Retire ((D.state_Of a0).1))).mono (by rintro _ w2 ⟨rfl, hb2⟩; exact ⟨_, rfl, hb2, rfl⟩))) ?_
  refine ec r (fun _ u _ b d s => y_makeFunc s (v := (.func (.func 90) #[] #[.pointer (some ⟨c0_b, 0, none⟩), .pointer (some ⟨c2_b, 0, none⟩), .pointer (some ⟨c1_b, 0, none⟩)])) rfl bz) ?_
  exact each_nil
 ·
  intro fr u w10 hb hΦ hne r
  have r := r.congr (sc (hΦ 6 (by decide)) (sc (hΦ 5 (by decide)) (sc (hΦ 4 (by decide)) (sc (hΦ 3 (by decide)) (sc (hΦ 2 (by decide)) (sc (hΦ 1 (by decide)) (sc (hΦ 0 (by decide)) rfl)))))))
  have z_w10 := hb.size
  have h_b1 := keep hb h_b1
  have h_b5 := keep hb h_b5
  obtain ⟨hB, zB⟩ := bon hb hB
  have hF1 := fgrow hF hB b1
  have f11 : ((fun b => F b ∨ (w0.heap.size ≤ b ∧ b < w10.heap.size ∧ b ≠ b1))) c0_b := (.inl c0_F)
  have f12 : ((fun b => F b ∨ (w0.heap.size ≤ b ∧ b < w10.heap.size ∧ b ≠ b1))) c2_b := (.inl c2_F)
  have f13 : ((fun b => F b ∨ (w0.heap.size ≤ b ∧ b < w10.heap.size ∧ b ≠ b1))) c1_b := (.inl c1_F)
  refine seq_call r (c_prog_Store_int (F := (fun b => F b ∨ (w0.heap.size ≤ b ∧ b < w10.heap.size ∧ b ≠ b1))) (n := n) hF1 (D.plan_Plan_State c0 c1) (D.state_State_Word (D.state_State_Retire ((D.state_Of a0).1))) ⟨90, [], [.pointer (some ⟨c0_b, 0, none⟩), .pointer (some ⟨c2_b, 0, none⟩), .pointer (some ⟨c1_b, 0, none⟩)], cl90, rfl, fun m hm _ w' hs hz => c_alloc_Retire_1_1 (j := j) (fun b hb => Nat.lt_of_lt_of_le (hF1 b hb) hz) (by omega) c0 f11 (hs.at_ f11 (keep hB c0_h)) c2 f12 (hs.at_ f12 (keep hB c2_h)) c1 f13 (hs.at_ f13 (keep hB c1_h))⟩) (fun R hc => y_call r rfl cl55 hc) rfl ?_
  rintro _ w14 ⟨v15, rfl, hb, hr16⟩
  refine ⟨_, rfl, fun fr r => ?_⟩
  have z_w14 := hb.size
  have h_b1 := keep hb h_b1
  have h_b5 := keep hb h_b5
  obtain ⟨hB, zB⟩ := bon hb hB
  refine seq_upd (.cells v15.cells 39 (0, 0)) r (fun R => y_storep r hr16.shape rfl rfl h_b1 ts39 rfl) rfl fun fr w17 u18 r => ?_
  have z_w17 := u18.size
  have h_b5 := u18.keep h_b5 (by omega)
  have h_b1 := u18.at_
  obtain ⟨hB, zB⟩ := u18.on hB (by omega)
  refine wn ?_
  refine wp_ret ?_
  have hs := hr16.shape.cells
  refine ret_cell r rfl rfl h_b1 (k := 7) hs.1 ta39 ?_
  rw [← hs.2.2]
  exact rfin hF hB hr16 u18 (by omega) (by omega) (by omega)

def D.alloc_Retire (j : Nat) (a0 : Plan) (a1 : Int) (a2 : Int) : T Int := (D.prog_Load_int (D.plan_Plan_State a0 a2) (fun x => (D.alloc_Retire_1 j a0 a2 a1 x)))

theorem c_alloc_Retire {n : Nat} {F : Nat → Prop} {j : Nat} {w0 : World} (hF : ∀ b, F b → b < w0.heap.size) (hj : n < j)
    (a0 : Plan) (a1 : Int) (a2 : Int) :
    Calls Tryz.prog 36 #[.agg (planC a0).toArray, .int .i64 a1, .int .i64 a2] w0 (RepRes Tryz.prog encInt n (D.alloc_Retire j a0 a1 a2) F w0) := by
 refine enter Tryz.func36 rfl 12 rfl rfl fun fr r => ?_
 have hB := Below.refl w0.heap.size w0
 refine wsr ?_
 refine seq_new (.cells ((planC a0)).toArray 23 (0, 0)) r (fun R => y_box r (v := (.agg (planC a0).toArray)) rfl) rfl fun fr b1 w2 n3 r => ?_
 obtain ⟨e_b1, z_w2, h_b1, hB, zB⟩ := n3.all hB
 refine seq_new (.cells #[(I a1)] 3 (0, 0)) r (fun R => y_box r (v := (I a1)) rfl) rfl fun fr b4 w5 n6 r => ?_
 have h_b1 := keep n6.below h_b1
 obtain ⟨e_b4, z_w5, h_b4, hB, zB⟩ := n6.all hB
 refine seq_new (.cells #[(I a2)] 3 (0, 0)) r (fun R => y_box r (v := (I a2)) rfl) rfl fun fr b7 w8 n9 r => ?_
 have h_b1 := keep n9.below h_b1
 have h_b4 := keep n9.below h_b4
 obtain ⟨e_b7, z_w8, h_b7, hB, zB⟩ := n9.all hB
 refine seq_new (.cells (progCells false encInt.zero 0 0 0 0 .nilFunc) 39 (0, 0)) r (fun R => y_alloc tz39) rfl fun fr b10 w11 n12 r => ?_
 have h_b1 := keep n12.below h_b1
 have h_b4 := keep n12.below h_b4
 have h_b7 := keep n12.below h_b7
 obtain ⟨e_b10, z_w11, h_b10, hB, zB⟩ := n12.all hB
 refine wn ?_
 refine wsr ?_
 refine seq_val (.agg (planC a0).toArray) r (fun R => y_load_agg r (cs := (planC a0)) (n := 6) rfl h_b1 ta23 rfl) rfl fun fr r => ?_
 refine seq_val (I a2) r (fun R => y_load_one r rfl h_b7 to3 rfl) rfl fun fr r => ?_
 refine seq_call r (c_plan_Plan_State w11 a0 a2) (fun R hc => y_call r rfl cl28 hc) rfl ?_
 rintro _ w13 ⟨rfl, hb⟩
 refine ⟨_, rfl, fun fr r => ?_⟩
 have z_w13 := hb.size
 have h_b1 := keep hb h_b1
 have h_b4 := keep hb h_b4
 have h_b7 := keep hb h_b7
 have h_b10 := keep hb h_b10
 obtain ⟨hB, zB⟩ := bon hb hB
 refine seq_val (.func (.func 87) #[] #[.pointer (some ⟨b1, 0, none⟩), .pointer (some ⟨b7, 0, none⟩), .pointer (some ⟨b4, 0, none⟩)]) r (fun R => y_makeFunc r rfl) rfl fun fr r => ?_
 have hF1 := fgrow hF hB b10
 have f14 : ((fun b => F b ∨ (w0.heap.size ≤ b ∧ b < w13.heap.size ∧ b ≠ b10))) b1 := (.inr ⟨by omega, by omega, by omega⟩)
 have f15 : ((fun b => F b ∨ (w0.heap.size ≤ b ∧ b < w13.heap.size ∧ b ≠ b10))) b7 := (.inr ⟨by omega, by omega, by omega⟩)
 have f16 : ((fun b => F b ∨ (w0.heap.size ≤ b ∧ b < w13.heap.size ∧ b ≠ b10))) b4 := (.inr ⟨by omega, by omega, by omega⟩)
 refine seq_call r (c_prog_Load_int (F := (fun b => F b ∨ (w0.heap.size ≤ b ∧ b < w13.heap.size ∧ b ≠ b10))) (n := n) hF1 (D.plan_Plan_State a0 a2) ⟨87, [], [.pointer (some ⟨b1, 0, none⟩), .pointer (some ⟨b7, 0, none⟩), .pointer (some ⟨b4, 0, none⟩)], cl87, rfl, fun m hm x w' hs hz => c_alloc_Retire_1 (j := j) (fun b hb => Nat.lt_of_lt_of_le (hF1 b hb) hz) (by omega) a0 f14 (hs.at_ f14 h_b1) a2 f15 (hs.at_ f15 h_b7) a1 f16 (hs.at_ f16 h_b4) x⟩) (fun R hc => y_call r rfl cl51 hc) rfl ?_
 rintro _ w17 ⟨v18, rfl, hb, hr19⟩
 refine ⟨_, rfl, fun fr r => ?_⟩
 have z_w17 := hb.size
 have h_b1 := keep hb h_b1
 have h_b4 := keep hb h_b4
 have h_b7 := keep hb h_b7
 have h_b10 := keep hb h_b10
 obtain ⟨hB, zB⟩ := bon hb hB
 refine seq_upd (.cells v18.cells 39 (0, 0)) r (fun R => y_storep r hr19.shape rfl rfl h_b10 ts39 rfl) rfl fun fr w20 u21 r => ?_
 have z_w20 := u21.size
 have h_b1 := u21.keep h_b1 (by omega)
 have h_b4 := u21.keep h_b4 (by omega)
 have h_b7 := u21.keep h_b7 (by omega)
 have h_b10 := u21.at_
 obtain ⟨hB, zB⟩ := u21.on hB (by omega)
 refine wn ?_
 refine wp_ret ?_
 have hs := hr19.shape.cells
 refine ret_cell r rfl rfl h_b10 (k := 7) hs.1 ta39 ?_
 rw [← hs.2.2]
 exact rfin hF hB hr19 u21 (by omega) (by omega) (by omega)

end Go.Proofs.YtphnnjiaiemkcaaGreat
