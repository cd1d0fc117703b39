/- Some of our texts, one behind the other. -/
import Derived.Test.YtjkinpbfmihhdaaGreatDfM11
set_option linter.all false
/- Written by a program of ours (wip/gen.py): domains -/
set_option linter.unusedVariables false
set_option maxRecDepth 20000
set_option maxHeartbeats 2000000
namespace Go.Proofs.YtjkinpbfmihhdaaGreat
open Go.RowKit
theorem cl104 : callable Tryz.prog 104 = true := by kernel_rfl

theorem cl145 : callable Tryz.prog 145 = true := by kernel_rfl

theorem cl202 : callable Tryz.prog 202 = true := by kernel_rfl

theorem cl203 : callable Tryz.prog 203 = true := by kernel_rfl

theorem cl299 : callable Tryz.prog 299 = true := by kernel_rfl

theorem cl300 : callable Tryz.prog 300 = true := by kernel_rfl

theorem cl301 : callable Tryz.prog 301 = true := by kernel_rfl

theorem cl303 : callable Tryz.prog 303 = true := by kernel_rfl

theorem cl304 : callable Tryz.prog 304 = true := by kernel_rfl

theorem cl361 : callable Tryz.prog 361 = true := by kernel_rfl

def D.domain_fail (a0 : Int) : T Res := (D.prog_Done_Res (⟨a0, 0⟩ : Res))

theorem c_domain_fail {n : Nat} {F : Nat → Prop} {w0 : World} (hF : ∀ b, F b → b < w0.heap.size)
    (a0 : Int) :
    Calls Tryz.prog 202 #[.int .i64 a0] w0 (RepRes Tryz.prog encRes n (D.domain_fail a0) F w0) := by
 refine enter Tryz.func202 rfl 6 rfl rfl fun fr r => ?_
 have hB := Below.refl w0.heap.size w0
 refine wsr ?_
 refine seq_new (.cells (progCells false encRes.zero 0 0 0 0 .nilFunc) 39 (0, 0)) r (fun R => y_alloc tz39) rfl fun fr b1 w2 n3 r => ?_
 obtain ⟨e_b1, z_w2, h_b1, hB, zB⟩ := n3.all hB
 refine wn ?_
 refine wsr ?_
 refine seq_val (I a0) r (fun R => y_move r rfl) rfl fun fr r => ?_
 refine seq_val (.agg (resC (⟨a0, 0⟩ : Res)).toArray) r (fun R => y_build r (by kernel_rfl)) rfl fun fr r => ?_
 have hF1 := fgrow hF hB b1
 refine seq_call r (c_prog_Done_Res (F := (fun b => F b ∨ (w0.heap.size ≤ b ∧ b < w2.heap.size ∧ b ≠ b1))) (n := n) hF1 (⟨a0, 0⟩ : Res)) (fun R hc => y_call r rfl cl211 hc) rfl ?_
 rintro _ w4 ⟨v5, rfl, hb, hr6⟩
 refine ⟨_, rfl, fun fr r => ?_⟩
 have z_w4 := hb.size
 have h_b1 := keep hb h_b1
 obtain ⟨hB, zB⟩ := bon hb hB
 refine seq_upd (.cells v5.cells 39 (0, 0)) r (fun R => y_storep r hr6.shape rfl rfl h_b1 ts39 rfl) rfl fun fr w7 u8 r => ?_
 have z_w7 := u8.size
 have h_b1 := u8.at_
 obtain ⟨hB, zB⟩ := u8.on hB (by omega)
 refine wn ?_
 refine wp_ret ?_
 have hs := hr6.shape.cells
 refine ret_cell r rfl rfl h_b1 (k := 8) hs.1 ta39 ?_
 rw [← hs.2.2]
 exact rfin hF hB hr6 u8 (by omega) (by omega) (by omega)

def D.domain_named_1 (c0 : Int) : T Res := (D.prog_Done_Res (⟨0, (IntKind.u64.wrap c0)⟩ : Res))

theorem c_domain_named_1 {n : Nat} {F : Nat → Prop} {w0 : World} (hF : ∀ b, F b → b < w0.heap.size)
    (c0 : Int) {c0_b : Nat} (c0_F : F c0_b) (c0_h : w0.heap[c0_b]? = some (.cells ([(.int .i64 c0)]).toArray 3 (0, 0))) :
    Calls Tryz.prog 361 #[.pointer (some ⟨c0_b, 0, none⟩)] w0 (RepRes Tryz.prog encRes n (D.domain_named_1 c0) F w0) := by
 refine enter Tryz.func361 rfl 6 rfl rfl fun fr r => ?_
 have hB := Below.refl w0.heap.size w0
 have l_c0_b := lt_of_block c0_h
 refine wsr ?_
 refine seq_new (.cells (progCells false encRes.zero 0 0 0 0 .nilFunc) 39 (0, 0)) r (fun R => y_alloc tz39) rfl fun fr b1 w2 n3 r => ?_
 obtain ⟨e_b1, z_w2, h_b1, hB, zB⟩ := n3.all hB
 refine wn ?_
 refine wsr ?_
 refine seq_val (I c0) r (fun R => y_load_one r rfl (keep hB c0_h) to3 rfl) rfl fun fr r => ?_
 refine seq_val (U (V c0)) r (fun R => y_convert r rfl ti3 ti22) rfl fun fr r => ?_
 refine seq_val (.agg (resC (⟨0, (V c0)⟩ : Res)).toArray) r (fun R => y_build r (by kernel_rfl)) rfl fun fr r => ?_
 have hF1 := fgrow hF hB b1
 refine seq_call r (c_prog_Done_Res (F := (fun b => F b ∨ (w0.heap.size ≤ b ∧ b < w2.heap.size ∧ b ≠ b1))) (n := n) hF1 (⟨0, (V c0)⟩ : Res)) (fun R hc => y_call r rfl cl211 hc) rfl ?_
 rintro _ w4 ⟨v5, rfl, hb, hr6⟩
 refine ⟨_, rfl, fun fr r => ?_⟩
 have z_w4 := hb.size
 have h_b1 := keep hb h_b1
 obtain ⟨hB, zB⟩ := bon hb hB
 refine seq_upd (.cells v5.cells 39 (0, 0)) r (fun R => y_storep r hr6.shape rfl rfl h_b1 ts39 rfl) rfl fun fr w7 u8 r => ?_
 have z_w7 := u8.size
 have h_b1 := u8.at_
 obtain ⟨hB, zB⟩ := u8.on hB (by omega)
 refine wn ?_
 refine wp_ret ?_
 have hs := hr6.shape.cells
 refine ret_cell r rfl rfl h_b1 (k := 8) hs.1 ta39 ?_
 rw [← hs.2.2]
 exact rfin hF hB hr6 u8 (by omega) (by omega) (by omega)

def D.domain_named (a0 : Seat) (a1 : Int) (a2 : Int) : T Res := (D.prog_Store_Res (D.plan_Plan_Kind a0.p a2) (IntKind.u64.wrap a1) (fun _ => (D.domain_named_1 a2)))

theorem c_domain_named {n : Nat} {F : Nat → Prop} {w0 : World} (hF : ∀ b, F b → b < w0.heap.size)
    (a0 : Seat) (a1 : Int) (a2 : Int) :
    Calls Tryz.prog 301 #[.agg (seatC a0).toArray, .int .i64 a1, .int .i64 a2] w0 (RepRes Tryz.prog encRes n (D.domain_named a0 a1 a2) F w0) := by
 refine enter Tryz.func301 rfl 15 rfl rfl fun fr r => ?_
 have hB := Below.refl w0.heap.size w0
 refine wsr ?_
 refine seq_new (.cells ((seatC a0)).toArray 29 (0, 0)) r (fun R => y_box r (v := (.agg (seatC a0).toArray)) rfl) rfl fun fr b1 w2 n3 r => ?_
 obtain ⟨e_b1, z_w2, h_b1, hB, zB⟩ := n3.all hB
 refine seq_new (.cells #[(I a2)] 3 (0, 0)) r (fun R => y_box r (v := (I a2)) rfl) rfl fun fr b4 w5 n6 r => ?_
 have h_b1 := keep n6.below h_b1
 obtain ⟨e_b4, z_w5, h_b4, hB, zB⟩ := n6.all hB
 refine seq_new (.cells (progCells false encRes.zero 0 0 0 0 .nilFunc) 39 (0, 0)) r (fun R => y_alloc tz39) rfl fun fr b7 w8 n9 r => ?_
 have h_b1 := keep n9.below h_b1
 have h_b4 := keep n9.below h_b4
 obtain ⟨e_b7, z_w8, h_b7, hB, zB⟩ := n9.all hB
 refine wn ?_
 refine wsr ?_
 refine seq_val _ r (fun R => y_fieldAddr r (o := 0) rfl fo29_0) rfl fun fr r => ?_
 refine seq_val (.agg (planC a0.p).toArray) r (fun R => y_load_agg r (cs := (planC a0.p)) (n := 6) rfl h_b1 ta25 rfl) rfl fun fr r => ?_
 refine seq_val (I a2) r (fun R => y_load_one r rfl h_b4 to3 rfl) rfl fun fr r => ?_
 refine seq_call r (c_plan_Plan_Kind w8 a0.p a2) (fun R hc => y_call r rfl cl104 hc) rfl ?_
 rintro _ w10 ⟨rfl, hb⟩
 refine ⟨_, rfl, fun fr r => ?_⟩
 have z_w10 := hb.size
 have h_b1 := keep hb h_b1
 have h_b4 := keep hb h_b4
 have h_b7 := keep hb h_b7
 obtain ⟨hB, zB⟩ := bon hb hB
 refine seq_val (I a1) r (fun R => y_move r rfl) rfl fun fr r => ?_
 refine seq_val (U (V a1)) r (fun R => y_convert r rfl ti3 ti22) rfl fun fr r => ?_
 refine seq_val (.func (.func 361) #[] #[.pointer (some ⟨b4, 0, none⟩)]) r (fun R => y_makeFunc r rfl) rfl fun fr r => ?_
 have hF1 := fgrow hF hB b7
 have f11 : ((fun b => F b ∨ (w0.heap.size ≤ b ∧ b < w10.heap.size ∧ b ≠ b7))) b4 := (.inr ⟨by omega, by omega, by omega⟩)
 refine seq_call r (c_prog_Store_Res (F := (fun b => F b ∨ (w0.heap.size ≤ b ∧ b < w10.heap.size ∧ b ≠ b7))) (n := n) hF1 (D.plan_Plan_Kind a0.p a2) (V a1) ⟨361, [], [.pointer (some ⟨b4, 0, none⟩)], cl361, rfl, fun m hm _ w' hs hz => c_domain_named_1 (fun b hb => Nat.lt_of_lt_of_le (hF1 b hb) hz) a2 f11 (hs.at_ f11 h_b4)⟩) (fun R hc => y_call r rfl cl120 hc) rfl ?_
 rintro _ w12 ⟨v13, rfl, hb, hr14⟩
 refine ⟨_, rfl, fun fr r => ?_⟩
 have z_w12 := hb.size
 have h_b1 := keep hb h_b1
 have h_b4 := keep hb h_b4
 have h_b7 := keep hb h_b7
 obtain ⟨hB, zB⟩ := bon hb hB
 refine seq_upd (.cells v13.cells 39 (0, 0)) r (fun R => y_storep r hr14.shape rfl rfl h_b7 ts39 rfl) rfl fun fr w15 u16 r => ?_
 have z_w15 := u16.size
 have h_b1 := u16.keep h_b1 (by omega)
 have h_b4 := u16.keep h_b4 (by omega)
 have h_b7 := u16.at_
 obtain ⟨hB, zB⟩ := u16.on hB (by omega)
 refine wn ?_
 refine wp_ret ?_
 have hs := hr14.shape.cells
 refine ret_cell r rfl rfl h_b7 (k := 8) hs.1 ta39 ?_
 rw [← hs.2.2]
 exact rfin hF hB hr14 u16 (by omega) (by omega) (by omega)

def D.domain_claim_1_1_1_1 (c0 : Res) : T Res := (D.domain_fail c0.e)

theorem c_domain_claim_1_1_1_1 {n : Nat} {F : Nat → Prop} {w0 : World} (hF : ∀ b, F b → b < w0.heap.size)
    (c0 : Res) {c0_b : Nat} (c0_F : F c0_b) (c0_h : w0.heap[c0_b]? = some (.cells ((resC c0)).toArray 32 (0, 0))) :
    Calls Tryz.prog 304 #[.pointer (some ⟨c0_b, 0, none⟩)] w0 (RepRes Tryz.prog encRes n (D.domain_claim_1_1_1_1 c0) F w0) := by
 refine enter Tryz.func304 rfl 5 rfl rfl fun fr r => ?_
 have hB := Below.refl w0.heap.size w0
 have l_c0_b := lt_of_block c0_h
 refine wsr ?_
 refine seq_new (.cells (progCells false encRes.zero 0 0 0 0 .nilFunc) 39 (0, 0)) r (fun R => y_alloc tz39) rfl fun fr b1 w2 n3 r => ?_
 obtain ⟨e_b1, z_w2, h_b1, hB, zB⟩ := n3.all hB
 refine wn ?_
 refine wsr ?_
 refine seq_val _ r (fun R => y_fieldAddr r (o := 0) rfl fo32_0) rfl fun fr r => ?_
 refine seq_val (I c0.e) r (fun R => y_load_one r rfl (keep hB c0_h) to30 rfl) rfl fun fr r => ?_
 have hF1 := fgrow hF hB b1
 refine seq_call r (c_domain_fail (F := (fun b => F b ∨ (w0.heap.size ≤ b ∧ b < w2.heap.size ∧ b ≠ b1))) (n := n) hF1 c0.e) (fun R hc => y_call r rfl cl202 hc) rfl ?_
 rintro _ w4 ⟨v5, rfl, hb, hr6⟩
 refine ⟨_, rfl, fun fr r => ?_⟩
 have z_w4 := hb.size
 have h_b1 := keep hb h_b1
 obtain ⟨hB, zB⟩ := bon hb hB
 refine seq_upd (.cells v5.cells 39 (0, 0)) r (fun R => y_storep r hr6.shape rfl rfl h_b1 ts39 rfl) rfl fun fr w7 u8 r => ?_
 have z_w7 := u8.size
 have h_b1 := u8.at_
 obtain ⟨hB, zB⟩ := u8.on hB (by omega)
 refine wn ?_
 refine wp_ret ?_
 have hs := hr6.shape.cells
 refine ret_cell r rfl rfl h_b1 (k := 8) hs.1 ta39 ?_
 rw [← hs.2.2]
 exact rfin hF hB hr6 u8 (by omega) (by omega) (by omega)

def D.domain_claim_1_1_1 (c0 : Int) (c1 : Seat) (c2 : Int) (c3 : Int) (a0 : Res) : T Res := (bif (a0.e != 0) then (D.prog_Store_Res c0 0 (fun _ => (D.domain_claim_1_1_1_1 a0))) else (D.domain_named c1 c2 c3))

theorem c_domain_claim_1_1_1 {n : Nat} {F : Nat → Prop} {w0 : World} (hF : ∀ b, F b → b < w0.heap.size)
    (c0 : Int) {c0_b : Nat} (c0_F : F c0_b) (c0_h : w0.heap[c0_b]? = some (.cells ([(.int .i64 c0)]).toArray 3 (0, 0))) (c1 : Seat) {c1_b : Nat} (c1_F : F c1_b) (c1_h : w0.heap[c1_b]? = some (.cells ((seatC c1)).toArray 29 (0, 0))) (c2 : Int) {c2_b : Nat} (c2_F : F c2_b) (c2_h : w0.heap[c2_b]? = some (.cells ([(.int .i64 c2)]).toArray 3 (0, 0))) (c3 : Int) {c3_b : Nat} (c3_F : F c3_b) (c3_h : w0.heap[c3_b]? = some (.cells ([(.int .i64 c3)]).toArray 3 (0, 0))) (a0 : Res) :
    Calls Tryz.prog 303 #[.agg (resC a0).toArray, .pointer (some ⟨c0_b, 0, none⟩), .pointer (some ⟨c1_b, 0, none⟩), .pointer (some ⟨c2_b, 0, none⟩), .pointer (some ⟨c3_b, 0, none⟩)] w0 (RepRes Tryz.prog encRes n (D.domain_claim_1_1_1 c0 c1 c2 c3 a0) F w0) := by
 refine enter Tryz.func303 rfl 17 rfl rfl fun fr r => ?_
 have hB := Below.refl w0.heap.size w0
 have l_c0_b := lt_of_block c0_h
 have l_c1_b := lt_of_block c1_h
 have l_c2_b := lt_of_block c2_h
 have l_c3_b := lt_of_block c3_h
 refine wsr ?_
 refine seq_new (.cells ((resC a0)).toArray 32 (0, 0)) r (fun R => y_box r (v := (.agg (resC a0).toArray)) rfl) rfl fun fr b1 w2 n3 r => ?_
 obtain ⟨e_b1, z_w2, h_b1, hB, zB⟩ := n3.all hB
 refine seq_new (.cells (progCells false encRes.zero 0 0 0 0 .nilFunc) 39 (0, 0)) r (fun R => y_alloc tz39) rfl fun fr b4 w5 n6 r => ?_
 have h_b1 := keep n6.below h_b1
 obtain ⟨e_b4, z_w5, h_b4, hB, zB⟩ := n6.all hB
 refine wn ?_
 refine wp_seq ?_
 refine wsr ?_
 refine seq_val _ r (fun R => y_fieldAddr r (o := 0) rfl fo32_0) rfl fun fr r => ?_
 refine seq_val (I a0.e) r (fun R => y_load_one r rfl h_b1 to30 rfl) rfl fun fr r => ?_
 refine seq_val _ r (fun R => y_bin r rfl rfl rfl rfl) rfl fun fr r => ?_
 refine wn ?_
 refine wp_cond_split (t := (a0.e != 0)) (r.ev rfl) (fun h7 => ?_) (fun h7 => ?_)
 ·
  refine wsr ?_
  refine seq_val (I c0) r (fun R => y_load_one r rfl (keep hB c0_h) to3 rfl) rfl fun fr r => ?_
  refine seq_val (.func (.func 304) #[] #[.pointer (some ⟨b1, 0, none⟩)]) r (fun R => y_makeFunc r rfl) rfl fun fr r => ?_
  have hF1 := fgrow hF hB b4
  have f8 : ((fun b => F b ∨ (w0.heap.size ≤ b ∧ b < w5.heap.size ∧ b ≠ b4))) b1 := (.inr ⟨by omega, by omega, by omega⟩)
  refine seq_call r (c_prog_Store_Res (F := (fun b => F b ∨ (w0.heap.size ≤ b ∧ b < w5.heap.size ∧ b ≠ b4))) (n := n) hF1 c0 0 ⟨304, [], [.pointer (some ⟨b1, 0, none⟩)], cl304, rfl, fun m hm _ w' hs hz => c_domain_claim_1_1_1_1 (fun b hb => Nat.lt_of_lt_of_le (hF1 b hb) hz) a0 f8 (hs.at_ f8 h_b1)⟩) (fun R hc => y_call r rfl cl120 hc) rfl ?_
  rintro _ w9 ⟨v10, rfl, hb, hr11⟩
  refine ⟨_, rfl, fun fr r => ?_⟩
  have z_w9 := hb.size
  have h_b1 := keep hb h_b1
  have h_b4 := keep hb h_b4
  obtain ⟨hB, zB⟩ := bon hb hB
  refine seq_upd (.cells v10.cells 39 (0, 0)) r (fun R => y_storep r hr11.shape rfl rfl h_b4 ts39 rfl) rfl fun fr w12 u13 r => ?_
  have z_w12 := u13.size
  have h_b1 := u13.keep h_b1 (by omega)
  have h_b4 := u13.at_
  obtain ⟨hB, zB⟩ := u13.on hB (by omega)
  refine wn ?_
  refine wp_ret ?_
  have hd : D.domain_claim_1_1_1 c0 c1 c2 c3 a0 = (D.prog_Store_Res c0 0 (fun _ => (D.domain_claim_1_1_1_1 a0))) := (cond_t h7).trans (rfl)
  have hs := hr11.shape.cells
  refine ret_cell r rfl rfl h_b4 (k := 8) hs.1 ta39 ?_
  rw [← hs.2.2, hd]
  exact rfin hF hB hr11 u13 (by omega) (by omega) (by omega)
 ·
  refine wp_skip ?_
  refine wsr ?_
  refine seq_val (.agg (seatC c1).toArray) r (fun R => y_load_agg r (cs := (seatC c1)) (n := 8) rfl (keep hB c1_h) ta29 rfl) rfl fun fr r => ?_
  refine seq_val (I c2) r (fun R => y_load_one r rfl (keep hB c2_h) to3 rfl) rfl fun fr r => ?_
  refine seq_val (I c3) r (fun R => y_load_one r rfl (keep hB c3_h) to3 rfl) rfl fun fr r => ?_
  have hF1 := fgrow hF hB b4
  refine seq_call r (c_domain_named (F := (fun b => F b ∨ (w0.heap.size ≤ b ∧ b < w5.heap.size ∧ b ≠ b4))) (n := n) hF1 c1 c2 c3) (fun R hc => y_call r rfl cl301 hc) rfl ?_
  rintro _ w14 ⟨v15, rfl, hb, hr16⟩
  refine ⟨_, rfl, fun fr r => ?_⟩
  have z_w14 := hb.size
  have h_b1 := keep hb h_b1
  have h_b4 := keep hb h_b4
  obtain ⟨hB, zB⟩ := bon hb hB
  refine seq_upd (.cells v15.cells 39 (0, 0)) r (fun R => y_storep r hr16.shape rfl rfl h_b4 ts39 rfl) rfl fun fr w17 u18 r => ?_
  have z_w17 := u18.size
  have h_b1 := u18.keep h_b1 (by omega)
  have h_b4 := u18.at_
  obtain ⟨hB, zB⟩ := u18.on hB (by omega)
  refine wn ?_
  refine wp_ret ?_
  have hd : D.domain_claim_1_1_1 c0 c1 c2 c3 a0 = (D.domain_named c1 c2 c3) := (cond_f h7).trans (rfl)
  have hs := hr16.shape.cells
  refine ret_cell r rfl rfl h_b4 (k := 8) hs.1 ta39 ?_
  rw [← hs.2.2, hd]
  exact rfin hF hB hr16 u18 (by omega) (by omega) (by omega)

def D.domain_claim_1_1 (j : Nat) (r_domain_claim : Seat → Int → Int → T Res) (c0 : Seat) (c1 : Int) (c2 : Int) (c3 : Int) (a0 : Bool) : T Res := (bif (!a0) then (r_domain_claim c0 c1 (IntKind.i64.wrap (c2 + 1))) else (bif (c1 == 2) then (D.domain_named c0 c1 c2) else (T.bind (D.queue_Make j c0 c2) (fun x => (D.domain_claim_1_1_1 c3 c0 c1 c2 x)))))

def D.domain_claim_1 (j : Nat) (r_domain_claim : Seat → Int → Int → T Res) (c0 : Seat) (c1 : Int) (c2 : Int) (c3 : Int) (a0 : Int) : T Res := (bif (a0 != 0) then (r_domain_claim c0 c1 (IntKind.i64.wrap (c2 + 1))) else (D.prog_Swap_Res c3 0 3 (fun x => (D.domain_claim_1_1 j r_domain_claim c0 c1 c2 c3 x))))

def D.domain_claim_body (j : Nat) (r_domain_claim : Seat → Int → Int → T Res) (a0 : Seat) (a1 : Int) (a2 : Int) : T Res := (bif (a2 == a0.p.domains) then (D.domain_fail 8) else (D.prog_Load_Res (D.plan_Plan_Kind a0.p a2) (fun x => (D.domain_claim_1 j r_domain_claim a0 a1 a2 (D.plan_Plan_Kind a0.p a2) x))))

def D.domain_claim (j : Nat) : Nat → Seat → Int → Int → T Res
  | 0, _, _, _ => .cut
  | k + 1, a0, a1, a2 => D.domain_claim_body j (D.domain_claim j k) a0 a1 a2

def Spec_domain_claim (r : Seat → Int → Int → T Res) (n : Nat) : Prop := ∀ (F : Nat → Prop) (w0 : World), (∀ b, F b → b < w0.heap.size) → ∀ (a0 : Seat) (a1 : Int) (a2 : Int), Calls Tryz.prog 203 #[.agg (seatC a0).toArray, .int .i64 a1, .int .i64 a2] w0 (RepRes Tryz.prog encRes n (r a0 a1 a2) F w0)

theorem c_domain_claim_1_1 {n : Nat} {F : Nat → Prop} {j : Nat} {r_domain_claim : Seat → Int → Int → T Res} {w0 : World} (hF : ∀ b, F b → b < w0.heap.size) (hj : n < j) (ih_domain_claim : ∀ m, m ≤ n → Spec_domain_claim r_domain_claim m)
    (c0 : Seat) {c0_b : Nat} (c0_F : F c0_b) (c0_h : w0.heap[c0_b]? = some (.cells ((seatC c0)).toArray 29 (0, 0))) (c1 : Int) {c1_b : Nat} (c1_F : F c1_b) (c1_h : w0.heap[c1_b]? = some (.cells ([(.int .i64 c1)]).toArray 3 (0, 0))) (c2 : Int) {c2_b : Nat} (c2_F : F c2_b) (c2_h : w0.heap[c2_b]? = some (.cells ([(.int .i64 c2)]).toArray 3 (0, 0))) (c3 : Int) {c3_b : Nat} (c3_F : F c3_b) (c3_h : w0.heap[c3_b]? = some (.cells ([(.int .i64 c3)]).toArray 3 (0, 0))) (a0 : Bool) :
    Calls Tryz.prog 300 #[.bool a0, .pointer (some ⟨c0_b, 0, none⟩), .pointer (some ⟨c1_b, 0, none⟩), .pointer (some ⟨c2_b, 0, none⟩), .pointer (some ⟨c3_b, 0, none⟩)] w0 (RepRes Tryz.prog encRes n (D.domain_claim_1_1 j r_domain_claim c0 c1 c2 c3 a0) F w0) := by
 refine enter Tryz.func300 rfl 27 rfl rfl fun fr r => ?_
 have hB := Below.refl w0.heap.size w0
 have l_c0_b := lt_of_block c0_h
 have l_c1_b := lt_of_block c1_h
 have l_c2_b := lt_of_block c2_h
 have l_c3_b := lt_of_block c3_h
 refine wsr ?_
 refine seq_new (.cells (progCells false encRes.zero 0 0 0 0 .nilFunc) 39 (0, 0)) r (fun R => y_alloc tz39) rfl fun fr b1 w2 n3 r => ?_
 obtain ⟨e_b1, z_w2, h_b1, hB, zB⟩ := n3.all hB
 refine wn ?_
 refine wp_seq ?_
 refine wp_block ?_
 refine wsr ?_
 refine seq_val (.bool a0) r (fun R => y_move r rfl) rfl fun fr r => ?_
 refine seq_val (.bool (!a0)) r (fun R => y_un r (u := (.bool a0)) rfl rfl) rfl fun fr r => ?_
 refine seq_val (.bool (!a0)) r (fun R => y_assign r rfl) rfl fun fr r => ?_
 refine wn ?_
 refine wp_cond_split (t := (!a0)) (r.ev rfl) (fun h4 => ?_) (fun h4 => ?_)
 ·
  refine wsr ?_
  refine seq_val (.agg (seatC c0).toArray) r (fun R => y_load_agg r (cs := (seatC c0)) (n := 8) rfl (keep hB c0_h) ta29 rfl) rfl fun fr r => ?_
  refine seq_val (I c1) r (fun R => y_load_one r rfl (keep hB c1_h) to3 rfl) rfl fun fr r => ?_
  refine seq_val (I c2) r (fun R => y_load_one r rfl (keep hB c2_h) to3 rfl) rfl fun fr r => ?_
  refine seq_val _ r (fun R => y_bin r rfl rfl rfl rfl) rfl fun fr r => ?_
  have hF1 := fgrow hF hB b1
  refine seq_call r ((ih_domain_claim n (by omega)) (fun b => F b ∨ (w0.heap.size ≤ b ∧ b < w2.heap.size ∧ b ≠ b1)) _ hF1 c0 c1 (W (c2 + 1))) (fun R hc => y_call r rfl cl203 hc) rfl ?_
  rintro _ w5 ⟨v6, rfl, hb, hr7⟩
  refine ⟨_, rfl, fun fr r => ?_⟩
  have z_w5 := hb.size
  have h_b1 := keep hb h_b1
  obtain ⟨hB, zB⟩ := bon hb hB
  refine seq_upd (.cells v6.cells 39 (0, 0)) r (fun R => y_storep r hr7.shape rfl rfl h_b1 ts39 rfl) rfl fun fr w8 u9 r => ?_
  have z_w8 := u9.size
  have h_b1 := u9.at_
  obtain ⟨hB, zB⟩ := u9.on hB (by omega)
  refine wn ?_
  refine wp_ret ?_
  have hd : D.domain_claim_1_1 j r_domain_claim c0 c1 c2 c3 a0 = (r_domain_claim c0 c1 (W (c2 + 1))) := (cond_t h4).trans (rfl)
  have hs := hr7.shape.cells
  refine ret_cell r rfl rfl h_b1 (k := 8) hs.1 ta39 ?_
  rw [← hs.2.2, hd]
  exact rfin hF hB hr7 u9 (by omega) (by omega) (by omega)
 ·
  refine wsr ?_
  refine seq_val (I c1) r (fun R => y_load_one r rfl (keep hB c1_h) to3 rfl) rfl fun fr r => ?_
  refine seq_val _ r (fun R => y_bin r rfl rfl rfl rfl) rfl fun fr r => ?_
  refine seq_val (.bool (c1 == 2)) r (fun R => y_assign r rfl) rfl fun fr r => ?_
  refine wn ?_
  refine wp_cond_split (t := (c1 == 2)) (r.ev rfl) (fun h10 => ?_) (fun h10 => ?_)
  ·
   refine wsr ?_
   refine seq_val (.agg (seatC c0).toArray) r (fun R => y_load_agg r (cs := (seatC c0)) (n := 8) rfl (keep hB c0_h) ta29 rfl) rfl fun fr r => ?_
   refine seq_val (I c1) r (fun R => y_load_one r rfl (keep hB c1_h) to3 rfl) rfl fun fr r => ?_
   refine seq_val (I c2) r (fun R => y_load_one r rfl (keep hB c2_h) to3 rfl) rfl fun fr r => ?_
   have hF1 := fgrow hF hB b1
   refine seq_call r (c_domain_named (F := (fun b => F b ∨ (w0.heap.size ≤ b ∧ b < w2.heap.size ∧ b ≠ b1))) (n := n) hF1 c0 c1 c2) (fun R hc => y_call r rfl cl301 hc) rfl ?_
   rintro _ w11 ⟨v12, rfl, hb, hr13⟩
   refine ⟨_, rfl, fun fr r => ?_⟩
   have z_w11 := hb.size
   have h_b1 := keep hb h_b1
   obtain ⟨hB, zB⟩ := bon hb hB
   refine seq_upd (.cells v12.cells 39 (0, 0)) r (fun R => y_storep r hr13.shape rfl rfl h_b1 ts39 rfl) rfl fun fr w14 u15 r => ?_
   have z_w14 := u15.size
   have h_b1 := u15.at_
   obtain ⟨hB, zB⟩ := u15.on hB (by omega)
   refine wn ?_
   refine wp_ret ?_
   have hd : D.domain_claim_1_1 j r_domain_claim c0 c1 c2 c3 a0 = (D.domain_named c0 c1 c2) := (cond_f h4).trans ((cond_t h10).trans (rfl))
   have hs := hr13.shape.cells
   refine ret_cell r rfl rfl h_b1 (k := 8) hs.1 ta39 ?_
   rw [← hs.2.2, hd]
   exact rfin hF hB hr13 u15 (by omega) (by omega) (by omega)
  ·
   refine wp_skip ?_
   refine wsr ?_
   refine seq_val (.agg (seatC c0).toArray) r (fun R => y_load_agg r (cs := (seatC c0)) (n := 8) rfl (keep hB c0_h) ta29 rfl) rfl fun fr r => ?_
   refine seq_val (I c2) r (fun R => y_load_one r rfl (keep hB c2_h) to3 rfl) rfl fun fr r => ?_
   have hF1 := fgrow hF hB b1
   refine seq_call r (c_queue_Make (j := j) (F := (fun b => F b ∨ (w0.heap.size ≤ b ∧ b < w2.heap.size ∧ b ≠ b1))) (n := n) hF1 (by omega) c0 c2) (fun R hc => y_call r rfl cl145 hc) rfl ?_
   rintro _ w16 ⟨v17, rfl, hb, hr18⟩
   refine ⟨_, rfl, fun fr r => ?_⟩
   have z_w16 := hb.size
   have h_b1 := keep hb h_b1
   obtain ⟨hB, zB⟩ := bon hb hB
   refine seq_val (.func (.func 303) #[] #[.pointer (some ⟨c3_b, 0, none⟩), .pointer (some ⟨c0_b, 0, none⟩), .pointer (some ⟨c1_b, 0, none⟩), .pointer (some ⟨c2_b, 0, none⟩)]) r (fun R => y_makeFunc r rfl) rfl fun fr r => ?_
   have hF1 := fgrow hF hB b1
   have f19 : ((fun b => F b ∨ (w0.heap.size ≤ b ∧ b < w16.heap.size ∧ b ≠ b1))) c3_b := (.inl c3_F)
   have f20 : ((fun b => F b ∨ (w0.heap.size ≤ b ∧ b < w16.heap.size ∧ b ≠ b1))) c0_b := (.inl c0_F)
   have f21 : ((fun b => F b ∨ (w0.heap.size ≤ b ∧ b < w16.heap.size ∧ b ≠ b1))) c1_b := (.inl c1_F)
   have f22 : ((fun b => F b ∨ (w0.heap.size ≤ b ∧ b < w16.heap.size ∧ b ≠ b1))) c2_b := (.inl c2_F)
   refine seq_call r (c_prog_Then_Res_Res_le (F := (fun b => F b ∨ (w0.heap.size ≤ b ∧ b < w16.heap.size ∧ b ≠ b1))) (n := n) hF1 (Rep.mono (by rintro b (h | h); (rcases h with h | ⟨h1, h2, h3⟩; exact .inl h; exact .inr ⟨h1, by omega, h3⟩); exact .inr ⟨by omega, by omega, by omega⟩) (Same.refl _ _) (by omega) n _ _ hr18) ⟨303, [], [.pointer (some ⟨c3_b, 0, none⟩), .pointer (some ⟨c0_b, 0, none⟩), .pointer (some ⟨c1_b, 0, none⟩), .pointer (some ⟨c2_b, 0, none⟩)], cl303, rfl, fun m hm x w' hs hz => c_domain_claim_1_1_1 (fun b hb => Nat.lt_of_lt_of_le (hF1 b hb) hz) c3 f19 (hs.at_ f19 (keep hB c3_h)) c0 f20 (hs.at_ f20 (keep hB c0_h)) c1 f21 (hs.at_ f21 (keep hB c1_h)) c2 f22 (hs.at_ f22 (keep hB c2_h)) x⟩) (fun R hc => y_call r rfl cl302 hc) rfl ?_
   rintro _ w23 ⟨v24, rfl, hb, hr25⟩
   refine ⟨_, rfl, fun fr r => ?_⟩
   have z_w23 := hb.size
   have h_b1 := keep hb h_b1
   obtain ⟨hB, zB⟩ := bon hb hB
   refine seq_upd (.cells v24.cells 39 (0, 0)) r (fun R => y_storep r hr25.shape rfl rfl h_b1 ts39 rfl) rfl fun fr w26 u27 r => ?_
   have z_w26 := u27.size
   have h_b1 := u27.at_
   obtain ⟨hB, zB⟩ := u27.on hB (by omega)
   refine wn ?_
   refine wp_ret ?_
   have hd : D.domain_claim_1_1 j r_domain_claim c0 c1 c2 c3 a0 = (T.bind (D.queue_Make j c0 c2) (fun x => (D.domain_claim_1_1_1 c3 c0 c1 c2 x))) := (cond_f h4).trans ((cond_f h10).trans (rfl))
   have hs := hr25.shape.cells
   refine ret_cell r rfl rfl h_b1 (k := 8) hs.1 ta39 ?_
   rw [← hs.2.2, hd]
   exact rfin hF hB hr25 u27 (by omega) (by omega) (by omega)

theorem c_domain_claim_1 {n : Nat} {F : Nat → Prop} {j : Nat} {r_domain_claim : Seat → Int → Int → T Res} {w0 : World} (hF : ∀ b, F b → b < w0.heap.size) (hj : n < j) (ih_domain_claim : ∀ m, m ≤ n → Spec_domain_claim r_domain_claim m)
    (c0 : Seat) {c0_b : Nat} (c0_F : F c0_b) (c0_h : w0.heap[c0_b]? = some (.cells ((seatC c0)).toArray 29 (0, 0))) (c1 : Int) {c1_b : Nat} (c1_F : F c1_b) (c1_h : w0.heap[c1_b]? = some (.cells ([(.int .i64 c1)]).toArray 3 (0, 0))) (c2 : Int) {c2_b : Nat} (c2_F : F c2_b) (c2_h : w0.heap[c2_b]? = some (.cells ([(.int .i64 c2)]).toArray 3 (0, 0))) (c3 : Int) {c3_b : Nat} (c3_F : F c3_b) (c3_h : w0.heap[c3_b]? = some (.cells ([(.int .i64 c3)]).toArray 3 (0, 0))) (a0 : Int) :
    Calls Tryz.prog 299 #[.int .u64 a0, .pointer (some ⟨c0_b, 0, none⟩), .pointer (some ⟨c1_b, 0, none⟩), .pointer (some ⟨c2_b, 0, none⟩), .pointer (some ⟨c3_b, 0, none⟩)] w0 (RepRes Tryz.prog encRes n (D.domain_claim_1 j r_domain_claim c0 c1 c2 c3 a0) F w0) := by
 refine enter Tryz.func299 rfl 17 rfl rfl fun fr r => ?_
 have hB := Below.refl w0.heap.size w0
 have l_c0_b := lt_of_block c0_h
 have l_c1_b := lt_of_block c1_h
 have l_c2_b := lt_of_block c2_h
 have l_c3_b := lt_of_block c3_h
 refine wsr ?_
 refine seq_new (.cells (progCells false encRes.zero 0 0 0 0 .nilFunc) 39 (0, 0)) r (fun R => y_alloc tz39) rfl fun fr b1 w2 n3 r => ?_
 obtain ⟨e_b1, z_w2, h_b1, hB, zB⟩ := n3.all hB
 refine wn ?_
 refine wp_seq ?_
 refine wsr ?_
 refine seq_val (U a0) r (fun R => y_move r rfl) rfl fun fr r => ?_
 refine seq_val _ r (fun R => y_bin r rfl rfl rfl rfl) rfl fun fr r => ?_
 refine wn ?_
 refine wp_cond_split (t := (a0 != 0)) (r.ev rfl) (fun h4 => ?_) (fun h4 => ?_)
 ·
  refine wsr ?_
  refine seq_val (.agg (seatC c0).toArray) r (fun R => y_load_agg r (cs := (seatC c0)) (n := 8) rfl (keep hB c0_h) ta29 rfl) rfl fun fr r => ?_
  refine seq_val (I c1) r (fun R => y_load_one r rfl (keep hB c1_h) to3 rfl) rfl fun fr r => ?_
  refine seq_val (I c2) r (fun R => y_load_one r rfl (keep hB c2_h) to3 rfl) rfl fun fr r => ?_
  refine seq_val _ r (fun R => y_bin r rfl rfl rfl rfl) rfl fun fr r => ?_
  have hF1 := fgrow hF hB b1
  refine seq_call r ((ih_domain_claim n (by omega)) (fun b => F b ∨ (w0.heap.size ≤ b ∧ b < w2.heap.size ∧ b ≠ b1)) _ hF1 c0 c1 (W (c2 + 1))) (fun R hc => y_call r rfl cl203 hc) rfl ?_
  rintro _ w5 ⟨v6, rfl, hb, hr7⟩
  refine ⟨_, rfl, fun fr r => ?_⟩
  have z_w5 := hb.size
  have h_b1 := keep hb h_b1
  obtain ⟨hB, zB⟩ := bon hb hB
  refine seq_upd (.cells v6.cells 39 (0, 0)) r (fun R => y_storep r hr7.shape rfl rfl h_b1 ts39 rfl) rfl fun fr w8 u9 r => ?_
  have z_w8 := u9.size
  have h_b1 := u9.at_
  obtain ⟨hB, zB⟩ := u9.on hB (by omega)
  refine wn ?_
  refine wp_ret ?_
  have hd : D.domain_claim_1 j r_domain_claim c0 c1 c2 c3 a0 = (r_domain_claim c0 c1 (W (c2 + 1))) := (cond_t h4).trans (rfl)
  have hs := hr7.shape.cells
  refine ret_cell r rfl rfl h_b1 (k := 8) hs.1 ta39 ?_
  rw [← hs.2.2, hd]
  exact rfin hF hB hr7 u9 (by omega) (by omega) (by omega)
 ·
  refine wp_skip ?_
  refine wsr ?_
  refine seq_val (I c3) r (fun R => y_load_one r rfl (keep hB c3_h) to3 rfl) rfl fun fr r => ?_
  refine seq_val (.func (.func 300) #[] #[.pointer (some ⟨c0_b, 0, none⟩), .pointer (some ⟨c1_b, 0, none⟩), .pointer (some ⟨c2_b, 0, none⟩), .pointer (some ⟨c3_b, 0, none⟩)]) r (fun R => y_makeFunc r rfl) rfl fun fr r => ?_
  have hF1 := fgrow hF hB b1
  have f10 : ((fun b => F b ∨ (w0.heap.size ≤ b ∧ b < w2.heap.size ∧ b ≠ b1))) c0_b := (.inl c0_F)
  have f11 : ((fun b => F b ∨ (w0.heap.size ≤ b ∧ b < w2.heap.size ∧ b ≠ b1))) c1_b := (.inl c1_F)
  have f12 : ((fun b => F b ∨ (w0.heap.size ≤ b ∧ b < w2.heap.size ∧ b ≠ b1))) c2_b := (.inl c2_F)
  have f13 : ((fun b => F b ∨ (w0.heap.size ≤ b ∧ b < w2.heap.size ∧ b ≠ b1))) c3_b := (.inl c3_F)
  refine seq_call r (c_prog_Swap_Res (F := (fun b => F b ∨ (w0.heap.size ≤ b ∧ b < w2.heap.size ∧ b ≠ b1))) (n := n) hF1 c3 0 3 ⟨300, [], [.pointer (some ⟨c0_b, 0, none⟩), .pointer (some ⟨c1_b, 0, none⟩), .pointer (some ⟨c2_b, 0, none⟩), .pointer (some ⟨c3_b, 0, none⟩)], cl300, rfl, fun m hm x w' hs hz => c_domain_claim_1_1 (j := j) (fun b hb => Nat.lt_of_lt_of_le (hF1 b hb) hz) (by omega) (fun m' hm' => ih_domain_claim m' (by omega)) c0 f10 (hs.at_ f10 (keep hB c0_h)) c1 f11 (hs.at_ f11 (keep hB c1_h)) c2 f12 (hs.at_ f12 (keep hB c2_h)) c3 f13 (hs.at_ f13 (keep hB c3_h)) x⟩) (fun R hc => y_call r rfl cl125 hc) rfl ?_
  rintro _ w14 ⟨v15, rfl, hb, hr16⟩
  refine ⟨_, rfl, fun fr r => ?_⟩
  have z_w14 := hb.size
  have h_b1 := keep hb h_b1
  obtain ⟨hB, zB⟩ := bon hb hB
  refine seq_upd (.cells v15.cells 39 (0, 0)) r (fun R => y_storep r hr16.shape rfl rfl h_b1 ts39 rfl) rfl fun fr w17 u18 r => ?_
  have z_w17 := u18.size
  have h_b1 := u18.at_
  obtain ⟨hB, zB⟩ := u18.on hB (by omega)
  refine wn ?_
  refine wp_ret ?_
  have hd : D.domain_claim_1 j r_domain_claim c0 c1 c2 c3 a0 = (D.prog_Swap_Res c3 0 3 (fun x => (D.domain_claim_1_1 j r_domain_claim c0 c1 c2 c3 x))) := (cond_f h4).trans (rfl)
  have hs := hr16.shape.cells
  refine ret_cell r rfl rfl h_b1 (k := 8) hs.1 ta39 ?_
  rw [← hs.2.2, hd]
  exact rfin hF hB hr16 u18 (by omega) (by omega) (by omega)

theorem b_domain_claim {n : Nat} {F : Nat → Prop} {j : Nat} {r_domain_claim : Seat → Int → Int → T Res} {w0 : World} (hF : ∀ b, F b → b < w0.heap.size) (hj : n < j) (ih_domain_claim : ∀ m, m < n → Spec_domain_claim r_domain_claim m)
    (a0 : Seat) (a1 : Int) (a2 : Int) :
    Calls Tryz.prog 203 #[.agg (seatC a0).toArray, .int .i64 a1, .int .i64 a2] w0 (RepRes Tryz.prog encRes n (D.domain_claim_body j r_domain_claim a0 a1 a2) F w0) := by
 refine enter Tryz.func203 rfl 21 rfl rfl fun fr r => ?_
 have hB := Below.refl w0.heap.size w0
 refine wsr ?_
 refine seq_new (.cells ((seatC a0)).toArray 29 (0, 0)) r (fun R => y_box r (v := (.agg (seatC a0).toArray)) rfl) rfl fun fr b1 w2 n3 r => ?_
 obtain ⟨e_b1, z_w2, h_b1, hB, zB⟩ := n3.all hB
 refine seq_new (.cells #[(I a1)] 3 (0, 0)) r (fun R => y_box r (v := (I a1)) rfl) rfl fun fr b4 w5 n6 r => ?_
 have h_b1 := keep n6.below h_b1
 obtain ⟨e_b4, z_w5, h_b4, hB, zB⟩ := n6.all hB
 refine seq_new (.cells #[(I a2)] 3 (0, 0)) r (fun R => y_box r (v := (I a2)) rfl) rfl fun fr b7 w8 n9 r => ?_
 have h_b1 := keep n9.below h_b1
 have h_b4 := keep n9.below h_b4
 obtain ⟨e_b7, z_w8, h_b7, hB, zB⟩ := n9.all hB
 refine seq_new (.cells (progCells false encRes.zero 0 0 0 0 .nilFunc) 39 (0, 0)) r (fun R => y_alloc tz39) rfl fun fr b10 w11 n12 r => ?_
 have h_b1 := keep n12.below h_b1
 have h_b4 := keep n12.below h_b4
 have h_b7 := keep n12.below h_b7
 obtain ⟨e_b10, z_w11, h_b10, hB, zB⟩ := n12.all hB
 refine wn ?_
 refine wp_seq ?_
 refine wsr ?_
 refine seq_val (I a2) r (fun R => y_load_one r rfl h_b7 to3 rfl) rfl fun fr r => ?_
 refine seq_val _ r (fun R => y_fieldAddr r (o := 0) rfl fo29_0) rfl fun fr r => ?_
 refine seq_val _ r (fun R => y_fieldAddr r (o := 0) rfl fo25_3) rfl fun fr r => ?_
 refine seq_val (I a0.p.domains) r (fun R => y_load_one r rfl h_b1 to3 rfl) rfl fun fr r => ?_
 refine seq_val _ r (fun R => y_bin r rfl rfl rfl rfl) rfl fun fr r => ?_
 refine wn ?_
 refine wp_cond_split (t := (a2 == a0.p.domains)) (r.ev rfl) (fun h13 => ?_) (fun h13 => ?_)
 ·
  refine wsr ?_
  have hF1 := fgrow hF hB b10
  refine seq_call r (c_domain_fail (F := (fun b => F b ∨ (w0.heap.size ≤ b ∧ b < w11.heap.size ∧ b ≠ b10))) (n := n) hF1 8) (fun R hc => y_call r rfl cl202 hc) rfl ?_
  rintro _ w14 ⟨v15, rfl, hb, hr16⟩
  refine ⟨_, rfl, fun fr r => ?_⟩
  have z_w14 := hb.size
  have h_b1 := keep hb h_b1
  have h_b4 := keep hb h_b4
  have h_b7 := keep hb h_b7
  have h_b10 := keep hb h_b10
  obtain ⟨hB, zB⟩ := bon hb hB
  refine seq_upd (.cells v15.cells 39 (0, 0)) r (fun R => y_storep r hr16.shape rfl rfl h_b10 ts39 rfl) rfl fun fr w17 u18 r => ?_
  have z_w17 := u18.size
  have h_b1 := u18.keep h_b1 (by omega)
  have h_b4 := u18.keep h_b4 (by omega)
  have h_b7 := u18.keep h_b7 (by omega)
  have h_b10 := u18.at_
  obtain ⟨hB, zB⟩ := u18.on hB (by omega)
  refine wn ?_
  refine wp_ret ?_
  have hd : D.domain_claim_body j r_domain_claim a0 a1 a2 = (D.domain_fail 8) := (cond_t h13).trans (rfl)
  have hs := hr16.shape.cells
  refine ret_cell r rfl rfl h_b10 (k := 8) hs.1 ta39 ?_
  rw [← hs.2.2, hd]
  exact rfin hF hB hr16 u18 (by omega) (by omega) (by omega)
 ·
  refine wp_skip ?_
  refine wsr ?_
  refine seq_val _ r (fun R => y_fieldAddr r (o := 0) rfl fo29_0) rfl fun fr r => ?_
  refine seq_val (.agg (planC a0.p).toArray) r (fun R => y_load_agg r (cs := (planC a0.p)) (n := 6) rfl h_b1 ta25 rfl) rfl fun fr r => ?_
  refine seq_val (I a2) r (fun R => y_load_one r rfl h_b7 to3 rfl) rfl fun fr r => ?_
  refine seq_call r (c_plan_Plan_Kind w11 a0.p a2) (fun R hc => y_call r rfl cl104 hc) rfl ?_
  rintro _ w19 ⟨rfl, hb⟩
  refine ⟨_, rfl, fun fr r => ?_⟩
  have z_w19 := hb.size
  have h_b1 := keep hb h_b1
  have h_b4 := keep hb h_b4
  have h_b7 := keep hb h_b7
  have h_b10 := keep hb h_b10
  obtain ⟨hB, zB⟩ := bon hb hB
  refine seq_new (.cells #[(I 0)] 3 (0, 0)) r (fun R => y_alloc tz3) rfl fun fr b20 w21 n22 r => ?_
  have h_b1 := keep n22.below h_b1
  have h_b4 := keep n22.below h_b4
  have h_b7 := keep n22.below h_b7
  have h_b10 := keep n22.below h_b10
  obtain ⟨e_b20, z_w21, h_b20, hB, zB⟩ := n22.all hB
  refine seq_upd (.cells #[(I (D.plan_Plan_Kind a0.p a2))] 3 (0, 0)) r (fun R => y_store r (o := 0) (v := (I (D.plan_Plan_Kind a0.p a2))) rfl rfl h_b20 ts3 (Nat.le_of_ble_eq_true rfl) rfl rfl) rfl fun fr w23 u24 r => ?_
  have z_w23 := u24.size
  have h_b1 := u24.keep h_b1 (by omega)
  have h_b4 := u24.keep h_b4 (by omega)
  have h_b7 := u24.keep h_b7 (by omega)
  have h_b10 := u24.keep h_b10 (by omega)
  have h_b20 := u24.at_
  obtain ⟨hB, zB⟩ := u24.on hB (by omega)
  refine wn ?_
  refine wsr ?_
  refine seq_val (I (D.plan_Plan_Kind a0.p a2)) r (fun R => y_load_one r rfl h_b20 to3 rfl) rfl fun fr r => ?_
  refine seq_val (.func (.func 299) #[] #[.pointer (some ⟨b1, 0, none⟩), .pointer (some ⟨b4, 0, none⟩), .pointer (some ⟨b7, 0, none⟩), .pointer (some ⟨b20, 0, none⟩)]) r (fun R => y_makeFunc r rfl) rfl fun fr r => ?_
  have hF1 := fgrow hF hB b10
  have f25 : ((fun b => F b ∨ (w0.heap.size ≤ b ∧ b < w23.heap.size ∧ b ≠ b10))) b1 := (.inr ⟨by omega, by omega, by omega⟩)
  have f26 : ((fun b => F b ∨ (w0.heap.size ≤ b ∧ b < w23.heap.size ∧ b ≠ b10))) b4 := (.inr ⟨by omega, by omega, by omega⟩)
  have f27 : ((fun b => F b ∨ (w0.heap.size ≤ b ∧ b < w23.heap.size ∧ b ≠ b10))) b7 := (.inr ⟨by omega, by omega, by omega⟩)
  have f28 : ((fun b => F b ∨ (w0.heap.size ≤ b ∧ b < w23.heap.size ∧ b ≠ b10))) b20 := (.inr ⟨by omega, by omega, by omega⟩)
  refine seq_call r (c_prog_Load_Res (F := (fun b => F b ∨ (w0.heap.size ≤ b ∧ b < w23.heap.size ∧ b ≠ b10))) (n := n) hF1 (D.plan_Plan_Kind a0.p a2) ⟨299, [], [.pointer (some ⟨b1, 0, none⟩), .pointer (some ⟨b4, 0, none⟩), .pointer (some ⟨b7, 0, none⟩), .pointer (some ⟨b20, 0, none⟩)], cl299, rfl, fun m hm x w' hs hz => c_domain_claim_1 (j := j) (fun b hb => Nat.lt_of_lt_of_le (hF1 b hb) hz) (by omega) (fun m' hm' => ih_domain_claim m' (by omega)) a0 f25 (hs.at_ f25 h_b1) a1 f26 (hs.at_ f26 h_b4) a2 f27 (hs.at_ f27 h_b7) (D.plan_Plan_Kind a0.p a2) f28 (hs.at_ f28 h_b20) x⟩) (fun R hc => y_call r rfl cl123 hc) rfl ?_
  rintro _ w29 ⟨v30, rfl, hb, hr31⟩
  refine ⟨_, rfl, fun fr r => ?_⟩
  have z_w29 := hb.size
  have h_b1 := keep hb h_b1
  have h_b4 := keep hb h_b4
  have h_b7 := keep hb h_b7
  have h_b10 := keep hb h_b10
  have h_b20 := keep hb h_b20
  obtain ⟨hB, zB⟩ := bon hb hB
  refine seq_upd (.cells v30.cells 39 (0, 0)) r (fun R => y_storep r hr31.shape rfl rfl h_b10 ts39 rfl) rfl fun fr w32 u33 r => ?_
  have z_w32 := u33.size
  have h_b1 := u33.keep h_b1 (by omega)
  have h_b4 := u33.keep h_b4 (by omega)
  have h_b7 := u33.keep h_b7 (by omega)
  have h_b20 := u33.keep h_b20 (by omega)
  have h_b10 := u33.at_
  obtain ⟨hB, zB⟩ := u33.on hB (by omega)
  refine wn ?_
  refine wp_ret ?_
  have hd : D.domain_claim_body j r_domain_claim a0 a1 a2 = (D.prog_Load_Res (D.plan_Plan_Kind a0.p a2) (fun x => (D.domain_claim_1 j r_domain_claim a0 a1 a2 (D.plan_Plan_Kind a0.p a2) x))) := (cond_f h13).trans (rfl)
  have hs := hr31.shape.cells
  refine ret_cell r rfl rfl h_b10 (k := 8) hs.1 ta39 ?_
  rw [← hs.2.2, hd]
  exact rfin hF hB hr31 u33 (by omega) (by omega) (by omega)

theorem c_domain_claim {n : Nat} {j : Nat} (hj : n < j) {k : Nat} (hk : n < k) : Spec_domain_claim (D.domain_claim j k) n := by
  induction n using Nat.strongRecOn generalizing k with
  | _ n ih =>
    obtain ⟨k, rfl⟩ : ∃ q, k = q + 1 := ⟨k - 1, by omega⟩
    intro F w0 hF
    have h := @b_domain_claim n F j (D.domain_claim j k) w0 hF hj (fun m hm => ih m hm (by omega) (by omega))
    exact h

def D.domain_Make (j : Nat) (a0 : Seat) (a1 : Int) : T Res := (bif (a1 != 1) then (bif (a1 != 2) then (D.domain_fail 1) else (D.domain_claim j j a0 a1 0)) else (D.domain_claim j j a0 a1 0))

theorem c_domain_Make {n : Nat} {F : Nat → Prop} {j : Nat} {w0 : World} (hF : ∀ b, F b → b < w0.heap.size) (hj : n < j)
    (a0 : Seat) (a1 : Int) :
    Calls Tryz.prog 99 #[.agg (seatC a0).toArray, .int .i64 a1] w0 (RepRes Tryz.prog encRes n (D.domain_Make j a0 a1) F w0) := by
 refine enter Tryz.func99 rfl 15 rfl rfl fun fr r => ?_
 have hB := Below.refl w0.heap.size w0
 refine wsr ?_
 refine seq_new (.cells ((seatC a0)).toArray 29 (0, 0)) r (fun R => y_box r (v := (.agg (seatC a0).toArray)) rfl) rfl fun fr b1 w2 n3 r => ?_
 obtain ⟨e_b1, z_w2, h_b1, hB, zB⟩ := n3.all hB
 refine seq_new (.cells (progCells false encRes.zero 0 0 0 0 .nilFunc) 39 (0, 0)) r (fun R => y_alloc tz39) rfl fun fr b4 w5 n6 r => ?_
 have h_b1 := keep n6.below h_b1
 obtain ⟨e_b4, z_w5, h_b4, hB, zB⟩ := n6.all hB
 refine wn ?_
 refine wp_seq ?_
 refine wsr ?_
 refine seq_val (I a1) r (fun R => y_move r rfl) rfl fun fr r => ?_
 refine seq_val _ r (fun R => y_bin r rfl rfl rfl rfl) rfl fun fr r => ?_
 refine seq_val (.bool (a1 != 1)) r (fun R => y_move r rfl) rfl fun fr r => ?_
 refine seq_split (a1 != 1) (fun h7 => ?_) (fun h7 => ?_)
 ·
  refine s1 r h7 ?_
  refine seq_val (I a1) r (fun R => y_move r rfl) rfl fun fr r => ?_
  refine s1 r h7 ?_
  refine seq_val _ r (fun R => y_bin r rfl rfl rfl rfl) rfl fun fr r => ?_
  refine seq_val (.bool (a1 != 2)) r (fun R => y_pick r (b := true) (congrArg Value.bool h7) rfl) rfl fun fr r => ?_
  refine wn ?_
  refine wp_cond_split (t := (a1 != 2)) (r.ev rfl) (fun h8 => ?_) (fun h8 => ?_)
  ·
   refine wsr ?_
   have hF1 := fgrow hF hB b4
   refine seq_call r (c_domain_fail (F := (fun b => F b ∨ (w0.heap.size ≤ b ∧ b < w5.heap.size ∧ b ≠ b4))) (n := n) hF1 1) (fun R hc => y_call r rfl cl202 hc) rfl ?_
   rintro _ w9 ⟨v10, rfl, hb, hr11⟩
   refine ⟨_, rfl, fun fr r => ?_⟩
   have z_w9 := hb.size
   have h_b1 := keep hb h_b1
   have h_b4 := keep hb h_b4
   obtain ⟨hB, zB⟩ := bon hb hB
   refine seq_upd (.cells v10.cells 39 (0, 0)) r (fun R => y_storep r hr11.shape rfl rfl h_b4 ts39 rfl) rfl fun fr w12 u13 r => ?_
   have z_w12 := u13.size
   have h_b1 := u13.keep h_b1 (by omega)
   have h_b4 := u13.at_
   obtain ⟨hB, zB⟩ := u13.on hB (by omega)
   refine wn ?_
   refine wp_ret ?_
   have hd : D.domain_Make j a0 a1 = (D.domain_fail 1) := (cond_t h7).trans ((cond_t h8).trans (rfl))
   have hs := hr11.shape.cells
   refine ret_cell r rfl rfl h_b4 (k := 8) hs.1 ta39 ?_
   rw [← hs.2.2, hd]
   exact rfin hF hB hr11 u13 (by omega) (by omega) (by omega)
  ·
   refine wp_skip ?_
   refine wsr ?_
   refine seq_val (.agg (seatC a0).toArray) r (fun R => y_load_agg r (cs := (seatC a0)) (n := 8) rfl h_b1 ta29 rfl) rfl fun fr r => ?_
   refine seq_val (I a1) r (fun R => y_move r rfl) rfl fun fr r => ?_
   have hF1 := fgrow hF hB b4
   refine seq_call r ((c_domain_claim (j := j) (k := j) (n := n) (by omega) (by omega)) (fun b => F b ∨ (w0.heap.size ≤ b ∧ b < w5.heap.size ∧ b ≠ b4)) _ hF1 a0 a1 0) (fun R hc => y_call r rfl cl203 hc) rfl ?_
   rintro _ w14 ⟨v15, rfl, hb, hr16⟩
   refine ⟨_, rfl, fun fr r => ?_⟩
   have z_w14 := hb.size
   have h_b1 := keep hb h_b1
   have h_b4 := keep hb h_b4
   obtain ⟨hB, zB⟩ := bon hb hB
   refine seq_upd (.cells v15.cells 39 (0, 0)) r (fun R => y_storep r hr16.shape rfl rfl h_b4 ts39 rfl) rfl fun fr w17 u18 r => ?_
   have z_w17 := u18.size
   have h_b1 := u18.keep h_b1 (by omega)
   have h_b4 := u18.at_
   obtain ⟨hB, zB⟩ := u18.on hB (by omega)
   refine wn ?_
   refine wp_ret ?_
   have hd : D.domain_Make j a0 a1 = (D.domain_claim j j a0 a1 0) := (cond_t h7).trans ((cond_f h8).trans (rfl))
   have hs := hr16.shape.cells
   refine ret_cell r rfl rfl h_b4 (k := 8) hs.1 ta39 ?_
   rw [← hs.2.2, hd]
   exact rfin hF hB hr16 u18 (by omega) (by omega) (by omega)
 ·
  refine s0 r h7 fun fr r => ?_
  refine s0 r h7 fun fr r => ?_
  refine seq_val (.bool false) r (fun R => y_pick r (b := false) (congrArg Value.bool h7) rfl) rfl fun fr r => ?_
  refine wn ?_
  refine wp_cond_split (t := false) (r.ev rfl) (fun h => absurd ((rfl : false = _).symm.trans h) (by decide)) (fun _ => ?_)
  refine wp_skip ?_
  refine wsr ?_
  refine seq_val (.agg (seatC a0).toArray) r (fun R => y_load_agg r (cs := (seatC a0)) (n := 8) rfl h_b1 ta29 rfl) rfl fun fr r => ?_
  refine seq_val (I a1) r (fun R => y_move r rfl) rfl fun fr r => ?_
  have hF1 := fgrow hF hB b4
  refine seq_call r ((c_domain_claim (j := j) (k := j) (n := n) (by omega) (by omega)) (fun b => F b ∨ (w0.heap.size ≤ b ∧ b < w5.heap.size ∧ b ≠ b4)) _ hF1 a0 a1 0) (fun R hc => y_call r rfl cl203 hc) rfl ?_
  rintro _ w19 ⟨v20, rfl, hb, hr21⟩
  refine ⟨_, rfl, fun fr r => ?_⟩
  have z_w19 := hb.size
  have h_b1 := keep hb h_b1
  have h_b4 := keep hb h_b4
  obtain ⟨hB, zB⟩ := bon hb hB
  refine seq_upd (.cells v20.cells 39 (0, 0)) r (fun R => y_storep r hr21.shape rfl rfl h_b4 ts39 rfl) rfl fun fr w22 u23 r => ?_
  have z_w22 := u23.size
  have h_b1 := u23.keep h_b1 (by omega)
  have h_b4 := u23.at_
  obtain ⟨hB, zB⟩ := u23.on hB (by omega)
  refine wn ?_
  refine wp_ret ?_
  have hd : D.domain_Make j a0 a1 = (D.domain_claim j j a0 a1 0) := (cond_f h7).trans (rfl)
  have hs := hr21.shape.cells
  refine ret_cell r rfl rfl h_b4 (k := 8) hs.1 ta39 ?_
  rw [← hs.2.2, hd]
  exact rfin hF hB hr21 u23 (by omega) (by omega) (by omega)

def D.domain_Kinds (fu : Nat) (a0 : Plan) (a1 : Mem) (a2 : Int) : Option (List Int) := (loopThen (fun (x6 : List Int × Int) => (bif (decide (x6.2 < (maxI a0.domains 0))) then (Option.bind (bif ((D.plan_Plan_Kind a0 x6.2) != (-1)) then ((D.mem_Memory_Peek fu a1 a2 (D.plan_Plan_Kind a0 x6.2)).bind (fun (x14 : Int) => ((appD x6.1 ([(IntKind.i64.wrap x14)])).bind (fun (x20 : List Int) => (some x20))))) else (some x6.1)) (fun (x24 : List Int) => (some (Lp.next (x24, (IntKind.i64.wrap (x6.2 + 1))))))) else (some (Lp.brk (x6.1, x6.2))))) fu ([], 0) (fun (x27 : List Int × Int) => (some x27.1)))

theorem c_domain_Kinds {fu : Nat} (w0 : World) (a0 : Plan) {a1_g : MG} (a1 : Mem) (a1_h : MemAt a1_g a1 w0) (a2 : Int) {res : List Int} (hD : D.domain_Kinds fu a0 a1 a2 = some res) :
    Calls Tryz.prog 102 #[.agg (planC a0).toArray, .pointer (some ⟨a1_g.mb, 0, none⟩), .int .i64 a2] w0 (fun e w' => ∃ (v0 : Value), e = .returned v0 ∧ Done No No [rowK 3 1 i64 v0 res] w0 w') := by
 refine enter Tryz.func102 rfl 31 rfl rfl fun fr r => ?_
 have hP : Post No [] w0 w0 := Post.nil w0
 have hP : Post No [memR a1_g a1] w0 w0 := hP.addRo norw_nil a1_h rfl a1_h.lt
 unfold D.domain_Kinds at hD
 refine wsr ?_
 refine seq_new (.cells ((planC a0)).toArray 25 (0, 0)) r (fun R => y_box r (v := (.agg (planC a0).toArray)) rfl) rfl fun fr b1 w2 n3 r => ?_
 have hP : Post No [memR a1_g a1, cellC b1 ((planC a0)).toArray 25] w0 w2 := hP.new n3
 refine seq_val (Value.slice none 0 0) r (fun R => y_assign r rfl) rfl fun fr r => ?_
 refine wn ?_
 refine wsr ?_
 refine seq_val (Value.slice none 0 0) r (fun R => y_assign r rfl) rfl fun fr r => ?_
 refine wn ?_
 refine wp_seq ?_
 refine wsr ?_
 refine seq_val _ r (fun R => y_fieldAddr r (o := 0) rfl fo25_3) rfl fun fr r => ?_
 refine seq_val (I a0.domains) r (fun R => y_load_one r rfl (hP.cell (i := 1) rfl) to3 rfl) rfl fun fr r => ?_
 refine seq_val (I (maxI a0.domains 0)) r (fun R => y_max r (m := a0.domains) (n := 0) rfl rfl) rfl fun fr r => ?_
 refine seq_val (I 0) r (fun R => y_move r rfl) rfl fun fr r => ?_
 refine wn ?_
 have hP : Post No [memR a1_g a1, cellC b1 ((planC a0)).toArray 25, rowK 3 1 i64 (Value.slice none 0 0) ([])] w0 w2 := hP.nilRow 3 1 i64
 refine wp_loopG (X := List Int × Int) (G := Value) (x0 := ([], 0)) (fun x γ => [(0, (.agg (planC a0).toArray)), (1, (.pointer (some ⟨a1_g.mb, 0, none⟩))), (2, (I a2)), (3, (.pointer (some ⟨b1, 0, none⟩))), (6, (Value.slice none 0 0)), (12, (I (maxI a0.domains 0))), (7, γ), (13, (I x.2))]) (fun x γ w => Post No [memR a1_g a1, cellC b1 ((planC a0)).toArray 25, rowK 3 1 i64 γ x.1] w0 w) (Value.slice none 0 0) r (hs_cons rfl (hs_cons rfl (hs_cons rfl (hs_cons rfl (hs_cons rfl (hs_cons rfl (hs_cons rfl (hs_cons rfl hs_nil)))))))) hP hD ?_ ?_
 ·
  rintro x6 γ7 fr w9 g y8 RPy8 nxy8 bky8 rty8 r hP hD
  have hP : Post No [memR a1_g a1, cellC b1 ((planC a0)).toArray 25, rowK 3 1 i64 γ7 x6.1] w0 w9 := hP
  refine wsr ?_
  refine seq_val _ r (fun R => y_bin r rfl rfl rfl rfl) rfl fun fr r => ?_
  refine wn ?_
  refine wp_seq ?_
  refine wp_cond_split (t := (decide (x6.2 < (maxI a0.domains 0)))) (r.ev rfl) (fun h10 => ?_) (fun h10 => ?_)
  ·
   have hD := (cond_t h10).symm.trans hD
   refine wp_skip ?_
   refine wp_seq ?_
   refine wp_block ?_
   refine wsr ?_
   refine seq_val (I x6.2) r (fun R => y_move r rfl) rfl fun fr r => ?_
   refine seq_val (I x6.2) r (fun R => y_assign r rfl) rfl fun fr r => ?_
   refine wn ?_
   refine wsr ?_
   refine seq_val (.agg (planC a0).toArray) r (fun R => y_load_agg r (cs := (planC a0)) (n := 6) rfl (hP.cell (i := 1) rfl) ta25 rfl) rfl fun fr r => ?_
   refine seq_val (I x6.2) r (fun R => y_move r rfl) rfl fun fr r => ?_
   refine seq_call r (c_plan_Plan_Kind w9 a0 x6.2) (fun R hc => y_call r rfl cl104 hc) rfl ?_
   rintro _ w11 ⟨rfl, hb⟩
   refine ⟨_, rfl, fun fr r => ?_⟩
   have hP : Post No [memR a1_g a1, cellC b1 ((planC a0)).toArray 25, rowK 3 1 i64 γ7 x6.1] w0 w11 := hP.below hb
   refine seq_val (I (D.plan_Plan_Kind a0 x6.2)) r (fun R => y_assign r rfl) rfl fun fr r => ?_
   refine wn ?_
   refine wsr ?_
   refine seq_val (I (D.plan_Plan_Kind a0 x6.2)) r (fun R => y_move r rfl) rfl fun fr r => ?_
   refine seq_val _ r (fun R => y_bin r rfl rfl rfl rfl) rfl fun fr r => ?_
   refine wn ?_
   refine wp_joinG (N := 31) (Y := List Int) (G := Value) (fun x γ => [(0, (.agg (planC a0).toArray)), (1, (.pointer (some ⟨a1_g.mb, 0, none⟩))), (2, (I a2)), (3, (.pointer (some ⟨b1, 0, none⟩))), (6, (Value.slice none 0 0)), (12, (I (maxI a0.domains 0))), (13, (I x6.2)), (14, (.bool (decide (x6.2 < (maxI a0.domains 0))))), (8, (I x6.2)), (9, (I (D.plan_Plan_Kind a0 x6.2))), (20, (.bool ((D.plan_Plan_Kind a0 x6.2) != (-1)))), (7, γ)]) (fun x γ w => Post No [memR a1_g a1, cellC b1 ((planC a0)).toArray 25, rowK 3 1 i64 γ x] w0 w) hD ?_ ?_
   ·
    rintro y12 RPy12 nxy12 hD
    refine wp_cond_split (t := ((D.plan_Plan_Kind a0 x6.2) != (-1))) (r.ev rfl) (fun h13 => ?_) (fun h13 => ?_)
    ·
     have hD := (cond_t h13).symm.trans hD
     refine wp_region_lit ?_
     refine seq_val γ7 r (fun R => y_move r rfl) rfl fun fr r => ?_
     refine seq_val (.pointer (some ⟨a1_g.mb, 0, none⟩)) r (fun R => y_move r rfl) rfl fun fr r => ?_
     refine seq_val (I a2) r (fun R => y_move r rfl) rfl fun fr r => ?_
     refine seq_val (I (D.plan_Plan_Kind a0 x6.2)) r (fun R => y_move r rfl) rfl fun fr r => ?_
     obtain ⟨x14, hx14, hD⟩ := bindD_elim hD
     refine seq_call r (c_mem_Memory_Peek w11 a1 (hP.memr (i := 0) rfl) a2 (D.plan_Plan_Kind a0 x6.2) hx14) (fun R hc => y_call r rfl cl51 hc) rfl ?_
     rintro _ w15 ⟨rfl, hb⟩
     refine ⟨_, rfl, fun fr r => ?_⟩
     have hP : Post No [memR a1_g a1, cellC b1 ((planC a0)).toArray 25, rowK 3 1 i64 γ7 x6.1] w0 w15 := hP.below hb
     refine seq_val (I (W x14)) r (fun R => y_convert r rfl ti22 ti3) rfl fun fr r => ?_
     refine seq_newS (.cells (([(W x14)]).flatMap i64).toArray 3 (0, 0)) 1 r (fun R => y_bslice r (by kernel_rfl)) rfl fun fr b16 w17 n18 r => ?_
     have hP : Post No [memR a1_g a1, cellC b1 ((planC a0)).toArray 25, rowK 3 1 i64 γ7 x6.1, rowK 3 1 i64 (.slice (some ⟨b16, 0, none⟩) 1 1) ([(W x14)])] w0 w17 := hP.newRow n18 (fun _ => rfl) rfl
     obtain ⟨x20, hx20, hD⟩ := bindD_elim hD
     refine seq_app 3 1 i64 γ7 r (fun R => y_append r rt72 (fun _ => rfl) (fun _ => rfl) (hP.row (i := 2) rfl) (hP.row (i := 3) rfl).ro hx20 rfl rfl) rfl fun fr v21 w22 ha23 r => ?_
     have hP : Post No [memR a1_g a1, cellC b1 ((planC a0)).toArray 25, rowK 3 1 i64 v21 x20, rowK 3 1 i64 (.slice (some ⟨b16, 0, none⟩) 1 1) ([(W x14)])] w0 w22 := hP.append (i := 2) rfl ha23
     refine seq_val v21 r (fun R => y_assign r rfl) rfl fun fr r => ?_
     refine wn ?_
     exact nxy12 x20 v21 _ _ _ hD r (hs_cons rfl (hs_cons rfl (hs_cons rfl (hs_cons rfl (hs_cons rfl (hs_cons rfl (hs_cons rfl (hs_cons rfl (hs_cons rfl (hs_cons rfl (hs_cons rfl (hs_cons rfl hs_nil)))))))))))) (hP.pick [0, 1, 2] rfl rfl)
    ·
     have hD := (cond_f h13).symm.trans hD
     refine wp_skip ?_
     exact nxy12 x6.1 γ7 _ _ _ hD r (hs_cons rfl (hs_cons rfl (hs_cons rfl (hs_cons rfl (hs_cons rfl (hs_cons rfl (hs_cons rfl (hs_cons rfl (hs_cons rfl (hs_cons rfl (hs_cons rfl (hs_cons rfl hs_nil)))))))))))) (hP.pick [0, 1, 2] rfl rfl)
   ·
    rintro x24 γ25 fr w26 g r hP hD
    have hP : Post No [memR a1_g a1, cellC b1 ((planC a0)).toArray 25, rowK 3 1 i64 γ25 x24] w0 w26 := hP
    refine wp_region_lit ?_
    refine seq_val _ r (fun R => y_bin r rfl rfl rfl rfl) rfl fun fr r => ?_
    refine seq_val (I (W (x6.2 + 1))) r (fun R => y_move r rfl) rfl fun fr r => ?_
    refine wn ?_
    exact nxy8 (x24, (W (x6.2 + 1))) γ25 _ _ _ hD r (hs_cons rfl (hs_cons rfl (hs_cons rfl (hs_cons rfl (hs_cons rfl (hs_cons rfl (hs_cons rfl (hs_cons rfl hs_nil)))))))) (hP.pick [0, 1, 2] rfl rfl)
  ·
   have hD := (cond_f h10).symm.trans hD
   refine wp_exit ?_
   exact bky8 (x6.1, x6.2) γ7 _ _ _ hD r (hs_cons rfl (hs_cons rfl (hs_cons rfl (hs_cons rfl (hs_cons rfl (hs_cons rfl (hs_cons rfl (hs_cons rfl hs_nil)))))))) (hP.pick [0, 1, 2] rfl rfl)
 ·
  rintro x27 γ28 fr w29 g r hP hD
  have hP : Post No [memR a1_g a1, cellC b1 ((planC a0)).toArray 25, rowK 3 1 i64 γ28 x27.1] w0 w29 := hP
  refine wsr ?_
  refine seq_val γ28 r (fun R => y_move r rfl) rfl fun fr r => ?_
  refine seq_val γ28 r (fun R => y_assign r rfl) rfl fun fr r => ?_
  refine wn ?_
  refine wp_ret ?_
  have hv : x27.1 = res := Option.some.inj hD
  try dsimp only [Exit.then, Exit.inBlock]
  refine ret_tmp (fn := Tryz.f102) r (t := 6) rfl (v := γ28) rfl ?_
  subst hv
  exact ⟨γ28, rfl, (hP.pick [2] rfl rfl).done (rest_cons rfl rest_nil)⟩

end Go.Proofs.YtjkinpbfmihhdaaGreat

/- Written by a program of ours (wip/gen.py): layer 17 -/
set_option linter.unusedVariables false
set_option maxRecDepth 20000
set_option maxHeartbeats 2000000
namespace Go.Proofs.YtjkinpbfmihhdaaGreat
open Go.RowKit
theorem cl102 : callable Tryz.prog 102 = true := by kernel_rfl

theorem cl99 : callable Tryz.prog 99 = true := by kernel_rfl

def D.cubiclelaw17_awake (fu : Nat)  : Option (Bool) := ((D.cubiclelaw09_Laid fu (⟨2, 1, 4, 1, 2, 1⟩ : Plan)).bind (fun (x7 : Mem) => ((D.mem_Memory_Cap fu x7 0).bind (fun (x15 : Cap) => ((D.prog_Run_Res fu (fu, (D.domain_Make (fu + 1) (⟨(⟨2, 1, 4, 1, 2, 1⟩ : Plan), 0, 0⟩ : Seat) 2)) x7 x15 99).bind (fun (x17 : Res × Int × Bool × Mem) => ((D.domain_Kinds fu (⟨2, 1, 4, 1, 2, 1⟩ : Plan) x17.2.2.2 0).bind (fun (x25 : List Int) => (Option.bind (bif x17.2.2.1 then (bif (x17.1.e == 0) then (bif ((x25.length : Int) == 1) then ((getI x25 0).bind (fun (x33 : Int) => (some (x33 == 2)))) else (some false)) else (some false)) else (some false)) (fun (x34 : Bool) => (some x34)))))))))))

theorem c_cubiclelaw17_awake {fu : Nat} (w0 : World) {res : Bool} (hD : D.cubiclelaw17_awake fu  = some res) :
    Calls Tryz.prog 97 #[] w0 (PureRes (.bool res) w0) := by
 refine enter Tryz.func97 rfl 43 rfl rfl fun fr r => ?_
 have hP : Post No [] w0 w0 := Post.nil w0
 unfold D.cubiclelaw17_awake at hD
 refine wsr ?_
 refine seq_val (.bool false) r (fun R => y_assign r rfl) rfl fun fr r => ?_
 refine wn ?_
 refine wsr ?_
 refine seq_val (.agg (planC (⟨2, 1, 4, 1, 2, 1⟩ : Plan)).toArray) r (fun R => y_build r (by kernel_rfl)) rfl fun fr r => ?_
 refine seq_new (.cells ((planC (⟨0, 0, 0, 0, 0, 0⟩ : Plan))).toArray 25 (0, 0)) r (fun R => y_alloc tz25) rfl fun fr b1 w2 n3 r => ?_
 have hP : Post No [cellC b1 ((planC (⟨0, 0, 0, 0, 0, 0⟩ : Plan))).toArray 25] w0 w2 := hP.new n3
 refine seq_upd (.cells ((planC (⟨2, 1, 4, 1, 2, 1⟩ : Plan))).toArray 25 (0, 0)) r (fun R => y_store r (o := 0) (v := (.agg (planC (⟨2, 1, 4, 1, 2, 1⟩ : Plan)).toArray)) rfl rfl (hP.cell (i := 0) rfl) ts25 (Nat.le_of_ble_eq_true rfl) rfl rfl) rfl fun fr w5 u6 r => ?_
 have hP : Post No [cellC b1 ((planC (⟨2, 1, 4, 1, 2, 1⟩ : Plan))).toArray 25] w0 w5 := hP.upd (i := 0) rfl u6
 refine wn ?_
 refine wsr ?_
 refine seq_val (.agg (planC (⟨2, 1, 4, 1, 2, 1⟩ : Plan)).toArray) r (fun R => y_load_agg r (cs := (planC (⟨2, 1, 4, 1, 2, 1⟩ : Plan))) (n := 6) rfl (hP.cell (i := 0) rfl) ta25 rfl) rfl fun fr r => ?_
 obtain ⟨x7, hx7, hD⟩ := bindD_elim hD
 refine seq_call r (c_cubiclelaw09_Laid w5 (⟨2, 1, 4, 1, 2, 1⟩ : Plan) hx7) (fun R hc => y_call r rfl cl28 hc) rfl ?_
 rintro _ w8 ⟨mg9, rfl, hq⟩
 refine ⟨_, rfl, fun fr r => ?_⟩
 have hP : Post No [cellC b1 ((planC (⟨2, 1, 4, 1, 2, 1⟩ : Plan))).toArray 25, memK mg9 x7] w0 w8 := hP.add hq
 refine seq_val (.pointer (some ⟨mg9.mb, 0, none⟩)) r (fun R => y_assign r rfl) rfl fun fr r => ?_
 refine wn ?_
 refine wp_seq ?_
 refine wsr ?_
 refine seq_val (.pointer (some ⟨mg9.mb, 0, none⟩)) r (fun R => y_move r rfl) rfl fun fr r => ?_
 refine seq_val _ r (fun R => y_bin r rfl rfl rfl rfl) rfl fun fr r => ?_
 refine wn ?_
 refine wp_cond_split (t := false) (r.ev rfl) (fun h => absurd ((rfl : false = _).symm.trans h) (by decide)) (fun _ => ?_)
 refine wp_skip ?_
 refine wsr ?_
 refine seq_val (.agg (planC (⟨2, 1, 4, 1, 2, 1⟩ : Plan)).toArray) r (fun R => y_load_agg r (cs := (planC (⟨2, 1, 4, 1, 2, 1⟩ : Plan))) (n := 6) rfl (hP.cell (i := 0) rfl) ta25 rfl) rfl fun fr r => ?_
 refine seq_val (.agg (seatC (⟨(⟨2, 1, 4, 1, 2, 1⟩ : Plan), 0, 0⟩ : Seat)).toArray) r (fun R => y_build r (by kernel_rfl)) rfl fun fr r => ?_
 refine seq_call r (c_domain_Make (F := No) (n := fu) (j := fu + 1) (fun _ h => h.elim) (by omega) (⟨(⟨2, 1, 4, 1, 2, 1⟩ : Plan), 0, 0⟩ : Seat) 2) (fun R hc => y_call r rfl cl99 hc) rfl ?_
 rintro _ w11 ⟨v12, rfl, hb, hr13⟩
 refine ⟨_, rfl, fun fr r => ?_⟩
 have hP : Post No [cellC b1 ((planC (⟨2, 1, 4, 1, 2, 1⟩ : Plan))).toArray 25, memK mg9 x7, progK Tryz.prog encRes (fu, (D.domain_Make (fu + 1) (⟨(⟨2, 1, 4, 1, 2, 1⟩ : Plan), 0, 0⟩ : Seat) 2)) v12 (rg w8.heap.size w11.heap.size)] w0 w11 := hP.addProg hb hr13
 refine seq_val (.pointer (some ⟨mg9.mb, 0, none⟩)) r (fun R => y_move r rfl) rfl fun fr r => ?_
 refine seq_val (.pointer (some ⟨mg9.mb, 0, none⟩)) r (fun R => y_move r rfl) rfl fun fr r => ?_
 obtain ⟨x15, hx15, hD⟩ := bindD_elim hD
 refine seq_call r (c_mem_Memory_Cap w11 x7 (hP.mem (i := 1) rfl) 0 hx15) (fun R hc => y_call r rfl cl31 hc) rfl ?_
 rintro _ w16 ⟨rfl, hb⟩
 refine ⟨_, rfl, fun fr r => ?_⟩
 have hP : Post No [cellC b1 ((planC (⟨2, 1, 4, 1, 2, 1⟩ : Plan))).toArray 25, memK mg9 x7, progK Tryz.prog encRes (fu, (D.domain_Make (fu + 1) (⟨(⟨2, 1, 4, 1, 2, 1⟩ : Plan), 0, 0⟩ : Seat) 2)) v12 (rg w8.heap.size w11.heap.size)] w0 w16 := hP.below hb
 obtain ⟨x17, hx17, hD⟩ := bindD_elim hD
 refine seq_call r (c_prog_Run_Res w16 (fu, (D.domain_Make (fu + 1) (⟨(⟨2, 1, 4, 1, 2, 1⟩ : Plan), 0, 0⟩ : Seat) 2)) x7 x15 99 (hP.sep.pk [2, 1] rfl rfl) hx17) (fun R hc => y_call r rfl cl29 hc) rfl ?_
 rintro _ w18 ⟨rfl, hq⟩
 refine ⟨_, rfl, fun fr r => ?_⟩
 have hP : Post No [cellC b1 ((planC (⟨2, 1, 4, 1, 2, 1⟩ : Plan))).toArray 25, memK mg9 x17.2.2.2, progK Tryz.prog encRes (fu, (D.domain_Make (fu + 1) (⟨(⟨2, 1, 4, 1, 2, 1⟩ : Plan), 0, 0⟩ : Seat) 2)) v12 (rg w8.heap.size w11.heap.size)] w0 w18 := hP.setN (i := 1) rfl hq
 refine seq_val (.tuple #[(.agg (resC x17.1).toArray), (I x17.2.1), (.bool x17.2.2.1)]) r (fun R => y_move r rfl) rfl fun fr r => ?_
 refine seq_val (.agg (resC x17.1).toArray) r (fun R => y_extract r (vs := #[(.agg (resC x17.1).toArray), (I x17.2.1), (.bool x17.2.2.1)]) rfl rfl) rfl fun fr r => ?_
 refine seq_val (I x17.2.1) r (fun R => y_extract r (vs := #[(.agg (resC x17.1).toArray), (I x17.2.1), (.bool x17.2.2.1)]) rfl rfl) rfl fun fr r => ?_
 refine seq_val (.bool x17.2.2.1) r (fun R => y_extract r (vs := #[(.agg (resC x17.1).toArray), (I x17.2.1), (.bool x17.2.2.1)]) rfl rfl) rfl fun fr r => ?_
 refine seq_new (.cells ((resC (⟨0, 0⟩ : Res))).toArray 32 (0, 0)) r (fun R => y_alloc tz32) rfl fun fr b19 w20 n21 r => ?_
 have hP : Post No [cellC b1 ((planC (⟨2, 1, 4, 1, 2, 1⟩ : Plan))).toArray 25, memK mg9 x17.2.2.2, progK Tryz.prog encRes (fu, (D.domain_Make (fu + 1) (⟨(⟨2, 1, 4, 1, 2, 1⟩ : Plan), 0, 0⟩ : Seat) 2)) v12 (rg w8.heap.size w11.heap.size), cellC b19 ((resC (⟨0, 0⟩ : Res))).toArray 32] w0 w20 := hP.new n21
 refine seq_upd (.cells ((resC x17.1)).toArray 32 (0, 0)) r (fun R => y_store r (o := 0) (v := (.agg (resC x17.1).toArray)) rfl rfl (hP.cell (i := 3) rfl) ts32 (Nat.le_of_ble_eq_true rfl) rfl rfl) rfl fun fr w23 u24 r => ?_
 have hP : Post No [cellC b1 ((planC (⟨2, 1, 4, 1, 2, 1⟩ : Plan))).toArray 25, memK mg9 x17.2.2.2, progK Tryz.prog encRes (fu, (D.domain_Make (fu + 1) (⟨(⟨2, 1, 4, 1, 2, 1⟩ : Plan), 0, 0⟩ : Seat) 2)) v12 (rg w8.heap.size w11.heap.size), cellC b19 ((resC x17.1)).toArray 32] w0 w23 := hP.upd (i := 3) rfl u24
 refine seq_val (I x17.2.1) r (fun R => y_assign r rfl) rfl fun fr r => ?_
 refine seq_val (.bool x17.2.2.1) r (fun R => y_assign r rfl) rfl fun fr r => ?_
 refine wn ?_
 refine wsr ?_
 refine seq_val (.agg (planC (⟨2, 1, 4, 1, 2, 1⟩ : Plan)).toArray) r (fun R => y_load_agg r (cs := (planC (⟨2, 1, 4, 1, 2, 1⟩ : Plan))) (n := 6) rfl (hP.cell (i := 0) rfl) ta25 rfl) rfl fun fr r => ?_
 refine seq_val (.pointer (some ⟨mg9.mb, 0, none⟩)) r (fun R => y_move r rfl) rfl fun fr r => ?_
 obtain ⟨x25, hx25, hD⟩ := bindD_elim hD
 refine seq_call r (c_domain_Kinds w23 (⟨2, 1, 4, 1, 2, 1⟩ : Plan) x17.2.2.2 (hP.mem (i := 1) rfl) 0 hx25) (fun R hc => y_call r rfl cl102 hc) rfl ?_
 rintro _ w26 ⟨v27, rfl, hq⟩
 refine ⟨_, rfl, fun fr r => ?_⟩
 have hP : Post No [cellC b1 ((planC (⟨2, 1, 4, 1, 2, 1⟩ : Plan))).toArray 25, memK mg9 x17.2.2.2, progK Tryz.prog encRes (fu, (D.domain_Make (fu + 1) (⟨(⟨2, 1, 4, 1, 2, 1⟩ : Plan), 0, 0⟩ : Seat) 2)) v12 (rg w8.heap.size w11.heap.size), cellC b19 ((resC x17.1)).toArray 32, rowK 3 1 i64 v27 x25] w0 w26 := hP.add hq
 refine seq_val v27 r (fun R => y_assign r rfl) rfl fun fr r => ?_
 refine wn ?_
 refine wp_seq ?_
 have hP : Post No [cellC b1 ((planC (⟨2, 1, 4, 1, 2, 1⟩ : Plan))).toArray 25, memK mg9 x17.2.2.2, cellC b19 ((resC x17.1)).toArray 32, rowK 3 1 i64 v27 x25] w0 w26 := hP.pick [0, 1, 3, 4] rfl rfl
 refine wp_joinG (N := 43) (Y := Bool) (G := Unit) (fun x γ => [(1, (.pointer (some ⟨b1, 0, none⟩))), (2, (.pointer (some ⟨mg9.mb, 0, none⟩))), (11, (.bool false)), (3, (.pointer (some ⟨b19, 0, none⟩))), (5, (.bool x17.2.2.1)), (6, v27), (0, (.bool x))]) (fun x γ w => Post No [cellC b1 ((planC (⟨2, 1, 4, 1, 2, 1⟩ : Plan))).toArray 25, memK mg9 x17.2.2.2, cellC b19 ((resC x17.1)).toArray 32, rowK 3 1 i64 v27 x25] w0 w) hD ?_ ?_
 ·
  rintro y29 RPy29 nxy29 hD
  refine wp_region_lit ?_
  refine seq_val (.bool x17.2.2.1) r (fun R => y_move r rfl) rfl fun fr r => ?_
  refine seq_val (.bool x17.2.2.1) r (fun R => y_move r rfl) rfl fun fr r => ?_
  refine seq_split x17.2.2.1 (fun h30 => ?_) (fun h30 => ?_)
  ·
   have hD := (cond_t h30).symm.trans hD
   refine s1 r h30 ?_
   refine seq_val _ r (fun R => y_fieldAddr r (o := 0) rfl fo32_0) rfl fun fr r => ?_
   refine s1 r h30 ?_
   refine seq_val (I x17.1.e) r (fun R => y_load_one r rfl (hP.cell (i := 2) rfl) to30 rfl) rfl fun fr r => ?_
   refine s1 r h30 ?_
   refine seq_val _ r (fun R => y_bin r rfl rfl rfl rfl) rfl fun fr r => ?_
   refine seq_val (.bool (x17.1.e == 0)) r (fun R => y_pick r (b := true) (congrArg Value.bool h30) rfl) rfl fun fr r => ?_
   refine seq_val (.bool (x17.1.e == 0)) r (fun R => y_move r rfl) rfl fun fr r => ?_
   refine seq_split (x17.1.e == 0) (fun h31 => ?_) (fun h31 => ?_)
   ·
    have hD := (cond_t h31).symm.trans hD
    refine s1 r h31 ?_
    refine seq_val v27 r (fun R => y_move r rfl) rfl fun fr r => ?_
    refine s1 r h31 ?_
    refine seq_val (I (x25.length : Int)) r (fun R => y_rowLen r (hP.row (i := 3) rfl).ro is72 rfl) rfl fun fr r => ?_
    refine s1 r h31 ?_
    refine seq_val _ r (fun R => y_bin r rfl rfl rfl rfl) rfl fun fr r => ?_
    refine seq_val (.bool ((x25.length : Int) == 1)) r (fun R => y_pick r (b := true) (congrArg Value.bool h31) rfl) rfl fun fr r => ?_
    refine seq_val (.bool ((x25.length : Int) == 1)) r (fun R => y_move r rfl) rfl fun fr r => ?_
    refine seq_split ((x25.length : Int) == 1) (fun h32 => ?_) (fun h32 => ?_)
    ·
     have hD := (cond_t h32).symm.trans hD
     refine s1 r h32 ?_
     refine seq_val v27 r (fun R => y_move r rfl) rfl fun fr r => ?_
     refine s1 r h32 ?_
     obtain ⟨x33, hx33, hD⟩ := bindD_elim hD
     refine seq_val (.pointer (some ⟨rowB v27, rowO v27 + (0 : Int).toNat * 1, none⟩)) r (fun R => y_rowAddr r (hP.row (i := 3) rfl).ro hx33 sl72 rfl rfl) rfl fun fr r => ?_
     refine s1 r h32 ?_
     refine seq_val (I x33) r (fun R => y_loadL_one r (u := (I x33)) (RoAt.at_ (f := i64) (x := x33) (hP.row (i := 3) rfl).ro (fun _ => rfl) hx33) rfl to3) rfl fun fr r => ?_
     refine s1 r h32 ?_
     refine seq_val _ r (fun R => y_bin r rfl rfl rfl rfl) rfl fun fr r => ?_
     refine seq_val (.bool (x33 == 2)) r (fun R => y_pick r (b := true) (congrArg Value.bool h32) rfl) rfl fun fr r => ?_
     refine seq_val (.bool (x33 == 2)) r (fun R => y_assign r rfl) rfl fun fr r => ?_
     refine wn ?_
     exact nxy29 (x33 == 2) () _ _ _ hD r (hs_cons rfl (hs_cons rfl (hs_cons rfl (hs_cons rfl (hs_cons rfl (hs_cons rfl (hs_cons rfl hs_nil))))))) (hP.pick [0, 1, 2, 3] rfl rfl)
    ·
     have hD := (cond_f h32).symm.trans hD
     refine s0 r h32 fun fr r => ?_
     refine s0 r h32 fun fr r => ?_
     refine s0 r h32 fun fr r => ?_
     refine s0 r h32 fun fr r => ?_
     refine seq_val (.bool false) r (fun R => y_pick r (b := false) (congrArg Value.bool h32) rfl) rfl fun fr r => ?_
     refine seq_val (.bool false) r (fun R => y_assign r rfl) rfl fun fr r => ?_
     refine wn ?_
     exact nxy29 false () _ _ _ hD r (hs_cons rfl (hs_cons rfl (hs_cons rfl (hs_cons rfl (hs_cons rfl (hs_cons rfl (hs_cons rfl hs_nil))))))) (hP.pick [0, 1, 2, 3] rfl rfl)
   ·
    have hD := (cond_f h31).symm.trans hD
    refine s0 r h31 fun fr r => ?_
    refine s0 r h31 fun fr r => ?_
    refine s0 r h31 fun fr r => ?_
    refine seq_val (.bool false) r (fun R => y_pick r (b := false) (congrArg Value.bool h31) rfl) rfl fun fr r => ?_
    refine seq_val (.bool false) r (fun R => y_move r rfl) rfl fun fr r => ?_
    refine s0 r (rfl : false = _) fun fr r => ?_
    refine s0 r (rfl : false = _) fun fr r => ?_
    refine s0 r (rfl : false = _) fun fr r => ?_
    refine s0 r (rfl : false = _) fun fr r => ?_
    refine seq_val (.bool false) r (fun R => y_pick r (b := false) (congrArg Value.bool (rfl : false = _)) rfl) rfl fun fr r => ?_
    refine seq_val (.bool false) r (fun R => y_assign r rfl) rfl fun fr r => ?_
    refine wn ?_
    exact nxy29 false () _ _ _ hD r (hs_cons rfl (hs_cons rfl (hs_cons rfl (hs_cons rfl (hs_cons rfl (hs_cons rfl (hs_cons rfl hs_nil))))))) (hP.pick [0, 1, 2, 3] rfl rfl)
  ·
   have hD := (cond_f h30).symm.trans hD
   refine s0 r h30 fun fr r => ?_
   refine s0 r h30 fun fr r => ?_
   refine s0 r h30 fun fr r => ?_
   refine seq_val (.bool false) r (fun R => y_pick r (b := false) (congrArg Value.bool h30) rfl) rfl fun fr r => ?_
   refine seq_val (.bool false) r (fun R => y_move r rfl) rfl fun fr r => ?_
   refine s0 r (rfl : false = _) fun fr r => ?_
   refine s0 r (rfl : false = _) fun fr r => ?_
   refine s0 r (rfl : false = _) fun fr r => ?_
   refine seq_val (.bool false) r (fun R => y_pick r (b := false) (congrArg Value.bool (rfl : false = _)) rfl) rfl fun fr r => ?_
   refine seq_val (.bool false) r (fun R => y_move r rfl) rfl fun fr r => ?_
   refine s0 r (rfl : false = _) fun fr r => ?_
   refine s0 r (rfl : false = _) fun fr r => ?_
   refine s0 r (rfl : false = _) fun fr r => ?_
   refine s0 r (rfl : false = _) fun fr r => ?_
   refine seq_val (.bool false) r (fun R => y_pick r (b := false) (congrArg Value.bool (rfl : false = _)) rfl) rfl fun fr r => ?_
   refine seq_val (.bool false) r (fun R => y_assign r rfl) rfl fun fr r => ?_
   refine wn ?_
   exact nxy29 false () _ _ _ hD r (hs_cons rfl (hs_cons rfl (hs_cons rfl (hs_cons rfl (hs_cons rfl (hs_cons rfl (hs_cons rfl hs_nil))))))) (hP.pick [0, 1, 2, 3] rfl rfl)
 ·
  rintro x34 γ35 fr w36 g r hP hD
  have hP : Post No [cellC b1 ((planC (⟨2, 1, 4, 1, 2, 1⟩ : Plan))).toArray 25, memK mg9 x17.2.2.2, cellC b19 ((resC x17.1)).toArray 32, rowK 3 1 i64 v27 x25] w0 w36 := hP
  refine wp_ret ?_
  have hv : x34 = res := Option.some.inj hD
  try dsimp only [Exit.then, Exit.inBlock]
  refine ret_tmp (fn := Tryz.f97) r (t := 0) rfl (v := (.bool x34)) rfl ?_
  subst hv
  exact ⟨rfl, hP.chg.below⟩

def D.cubiclelaw17_few (a0 : Plan) : Bool := (bif (D.cubicleref06_Few a0) then (D.cubicleref06_Formed a0) else false)

theorem c_cubiclelaw17_few (w0 : World) 
    (a0 : Plan) :
    Calls Tryz.prog 98 #[.agg (planC a0).toArray] w0 (PureRes (.bool (D.cubiclelaw17_few a0)) w0) := by
 refine enter Tryz.func98 rfl 9 rfl rfl fun fr r => ?_
 have hB := Below.refl w0.heap.size w0
 refine wsr ?_
 refine seq_new (.cells ((planC a0)).toArray 25 (0, 0)) r (fun R => y_box r (v := (.agg (planC a0).toArray)) rfl) rfl fun fr b1 w2 n3 r => ?_
 obtain ⟨e_b1, z_w2, h_b1, hB, zB⟩ := n3.all hB
 refine seq_val (.bool false) r (fun R => y_assign r rfl) rfl fun fr r => ?_
 refine wn ?_
 refine wsr ?_
 refine seq_val (.agg (planC a0).toArray) r (fun R => y_load_agg r (cs := (planC a0)) (n := 6) rfl h_b1 ta25 rfl) rfl fun fr r => ?_
 refine seq_call r (c_cubicleref06_Few w2 a0) (fun R hc => y_call r rfl cl39 hc) rfl ?_
 rintro _ w4 ⟨rfl, hb⟩
 refine ⟨_, rfl, fun fr r => ?_⟩
 have z_w4 := hb.size
 have h_b1 := keep hb h_b1
 obtain ⟨hB, zB⟩ := bon hb hB
 refine seq_val (.bool (D.cubicleref06_Few a0)) r (fun R => y_move r rfl) rfl fun fr r => ?_
 refine seq_split (D.cubicleref06_Few a0) (fun h5 => ?_) (fun h5 => ?_)
 ·
  refine s1 r h5 ?_
  refine seq_val (.agg (planC a0).toArray) r (fun R => y_load_agg r (cs := (planC a0)) (n := 6) rfl h_b1 ta25 rfl) rfl fun fr r => ?_
  refine s1 r h5 ?_
  refine seq_call r (c_cubicleref06_Formed w4 a0) (fun R hc => y_call r rfl cl45 hc) rfl ?_
  rintro _ w6 ⟨rfl, hb⟩
  refine ⟨_, rfl, fun fr r => ?_⟩
  have z_w6 := hb.size
  have h_b1 := keep hb h_b1
  obtain ⟨hB, zB⟩ := bon hb hB
  refine seq_val (.bool (D.cubicleref06_Formed a0)) r (fun R => y_pick r (b := true) (congrArg Value.bool h5) rfl) rfl fun fr r => ?_
  refine seq_val (.bool (D.cubicleref06_Formed a0)) r (fun R => y_assign r rfl) rfl fun fr r => ?_
  refine wn ?_
  refine wp_ret ?_
  have hd : D.cubiclelaw17_few a0 = (D.cubicleref06_Formed a0) := (cond_t h5).trans (rfl)
  refine ret_tmp r rfl rfl ?_
  rw [hd]
  exact ⟨rfl, hB⟩
 ·
  refine s0 r h5 fun fr r => ?_
  refine s0 r h5 fun fr r => ?_
  refine seq_val (.bool false) r (fun R => y_pick r (b := false) (congrArg Value.bool h5) rfl) rfl fun fr r => ?_
  refine seq_val (.bool false) r (fun R => y_assign r rfl) rfl fun fr r => ?_
  refine wn ?_
  refine wp_ret ?_
  have hd : D.cubiclelaw17_few a0 = false := (cond_f h5).trans (rfl)
  refine ret_tmp r rfl rfl ?_
  rw [hd]
  exact ⟨rfl, hB⟩

end Go.Proofs.YtjkinpbfmihhdaaGreat

/- Written by a program of ours (wip/gen.py): a law -/
set_option linter.unusedVariables false
set_option maxRecDepth 20000
set_option maxHeartbeats 2000000
namespace Go.Proofs.YtjkinpbfmihhdaaGreat.Wk
open Go.RowKit
theorem cl97 : callable Tryz.prog 97 = true := by kernel_rfl

theorem cl98 : callable Tryz.prog 98 = true := by kernel_rfl

theorem eg32 : Tryz.prog.eqGuardType Tryz.prog.depth 32 = false := by kernel_rfl

theorem eqs32 (x y : Res) (w : World) : (binOp .eql 32 (.agg (resC x).toArray) (.agg (resC y).toArray)).run Tryz.prog w = .ok (.bool (x == y)) w ∧ (binOp .neq 32 (.agg (resC x).toArray) (.agg (resC y).toArray)).run Tryz.prog w = .ok (.bool (!(x == y))) w :=
  eq_ints [(.i64, x.e, y.e), (.u64, x.v, y.v)] (by kernel_rfl) (by kernel_rfl) (by kernel_rfl) (by kernel_rfl) (by cases x; cases y; rw [Bool.eq_iff_iff]; simp)

theorem ts29 : sized Tryz.prog 29 8 = true := by kernel_rfl

theorem tz29 : zeroOf Tryz.prog 29 = some (.agg (seatC (⟨(⟨0, 0, 0, 0, 0, 0⟩ : Plan), 0, 0⟩ : Seat)).toArray) := by kernel_rfl

def D.cubiclelaw17_DomainFull (fu : Nat) (a0 : Plan) : Option (Bool) := (Option.bind ((D.cubiclelaw17_awake fu ).bind (fun (x6 : Bool) => (bif (!x6) then (some true) else (some (!(D.cubiclelaw17_few a0)))))) (fun (x10 : Bool) => (bif x10 then ((D.cubiclelaw17_awake fu ).bind (fun (x14 : Bool) => (some x14))) else ((D.cubiclelaw09_Laid fu a0).bind (fun (x16 : Mem) => (loopThen (fun (x26 : Bool × Int × Mem) => (bif (decide (x26.2.1 < a0.domains)) then ((D.mem_Memory_Cap fu x26.2.2 0).bind (fun (x35 : Cap) => ((D.prog_Run_Res fu (fu, (D.domain_Make (fu + 1) (⟨a0, 0, 0⟩ : Seat) 2)) x26.2.2 x35 99).bind (fun (x37 : Res × Int × Bool × Mem) => (Option.bind (bif (!x37.2.2.1) then (some true) else (bif (!(x37.1 == (⟨0, (IntKind.u64.wrap x26.2.1)⟩ : Res))) then (some true) else (some (x37.2.1 != (IntKind.i64.wrap (x26.2.1 + 3)))))) (fun (x48 : Bool) => (bif x48 then (some (Lp.ret false)) else (some (Lp.next (x26.1, (IntKind.i64.wrap (x26.2.1 + 1)), x37.2.2.2)))))))))) else (some (Lp.brk (x26.1, x26.2.1, x26.2.2))))) fu (false, 0, x16) (fun (x52 : Bool × Int × Mem) => ((D.mem_Memory_Cap fu x52.2.2 0).bind (fun (x59 : Cap) => ((D.prog_Run_Res fu (fu, (D.domain_Make (fu + 1) (⟨a0, 0, 0⟩ : Seat) 1)) x52.2.2 x59 99).bind (fun (x61 : Res × Int × Bool × Mem) => (Option.bind (bif x61.2.2.1 then (bif (x61.1 == (⟨8, 0⟩ : Res)) then (some (x61.2.1 == a0.domains)) else (some false)) else (some false)) (fun (x72 : Bool) => (some x72))))))))))))))

theorem c_cubiclelaw17_DomainFull {fu : Nat} (w0 : World) (a0 : Plan) {res : Bool} (hD : D.cubiclelaw17_DomainFull fu a0 = some res) :
    Calls Tryz.prog 23 #[.agg (planC a0).toArray] w0 (PureRes (.bool res) w0) := by
 refine enter Tryz.func23 rfl 79 rfl rfl fun fr r => ?_
 have hP : Post No [] w0 w0 := Post.nil w0
 unfold D.cubiclelaw17_DomainFull at hD
 refine wsr ?_
 refine seq_new (.cells ((planC a0)).toArray 25 (0, 0)) r (fun R => y_box r (v := (.agg (planC a0).toArray)) rfl) rfl fun fr b1 w2 n3 r => ?_
 have hP : Post No [cellC b1 ((planC a0)).toArray 25] w0 w2 := hP.new n3
 refine seq_val (.bool false) r (fun R => y_assign r rfl) rfl fun fr r => ?_
 refine wn ?_
 refine wp_seq ?_
 refine wp_seq ?_
 refine wp_joinG (N := 79) (Y := Bool) (G := Unit) (fun x γ => [(0, (.agg (planC a0).toArray)), (1, (.pointer (some ⟨b1, 0, none⟩))), (2, (.bool false)), (18, (.bool x))]) (fun x γ w => Post No [cellC b1 ((planC a0)).toArray 25] w0 w) hD ?_ ?_
 ·
  rintro y5 RPy5 nxy5 hD
  refine wp_region_lit ?_
  obtain ⟨x6, hx6, hD⟩ := bindD_elim hD
  refine seq_call r (c_cubiclelaw17_awake w2  hx6) (fun R hc => y_call r rfl cl97 hc) rfl ?_
  rintro _ w7 ⟨rfl, hb⟩
  refine ⟨_, rfl, fun fr r => ?_⟩
  have hP : Post No [cellC b1 ((planC a0)).toArray 25] w0 w7 := hP.below hb
  refine seq_val (.bool (!x6)) r (fun R => y_un r (u := (.bool x6)) rfl rfl) rfl fun fr r => ?_
  refine seq_val (.bool (!x6)) r (fun R => y_move r rfl) rfl fun fr r => ?_
  refine seq_split (!x6) (fun h8 => ?_) (fun h8 => ?_)
  ·
   have hD := (cond_t h8).symm.trans hD
   refine s0 r h8 fun fr r => ?_
   refine s0 r h8 fun fr r => ?_
   refine s0 r h8 fun fr r => ?_
   refine seq_val (.bool true) r (fun R => y_pick r (b := true) (congrArg Value.bool h8) rfl) rfl fun fr r => ?_
   refine wn ?_
   exact nxy5 true () _ _ _ hD r (hs_cons rfl (hs_cons rfl (hs_cons rfl (hs_cons rfl hs_nil)))) (hP.pick [0] rfl rfl)
  ·
   have hD := (cond_f h8).symm.trans hD
   refine s1 r h8 ?_
   refine seq_val (.agg (planC a0).toArray) r (fun R => y_load_agg r (cs := (planC a0)) (n := 6) rfl (hP.cell (i := 0) rfl) ta25 rfl) rfl fun fr r => ?_
   refine s1 r h8 ?_
   refine seq_call r (c_cubiclelaw17_few w7 a0) (fun R hc => y_call r rfl cl98 hc) rfl ?_
   rintro _ w9 ⟨rfl, hb⟩
   refine ⟨_, rfl, fun fr r => ?_⟩
   have hP : Post No [cellC b1 ((planC a0)).toArray 25] w0 w9 := hP.below hb
   refine s1 r h8 ?_
   refine seq_val (.bool (!(D.cubiclelaw17_few a0))) r (fun R => y_un r (u := (.bool (D.cubiclelaw17_few a0))) rfl rfl) rfl fun fr r => ?_
   refine seq_val (.bool (!(D.cubiclelaw17_few a0))) r (fun R => y_pick r (b := false) (congrArg Value.bool h8) rfl) rfl fun fr r => ?_
   refine wn ?_
   exact nxy5 (!(D.cubiclelaw17_few a0)) () _ _ _ hD r (hs_cons rfl (hs_cons rfl (hs_cons rfl (hs_cons rfl hs_nil)))) (hP.pick [0] rfl rfl)
 ·
  rintro x10 γ11 fr w12 g r hP hD
  have hP : Post No [cellC b1 ((planC a0)).toArray 25] w0 w12 := hP
  refine wp_cond_split (t := x10) (r.ev rfl) (fun h13 => ?_) (fun h13 => ?_)
  ·
   have hD := (cond_t h13).symm.trans hD
   refine wsr ?_
   obtain ⟨x14, hx14, hD⟩ := bindD_elim hD
   refine seq_call r (c_cubiclelaw17_awake w12  hx14) (fun R hc => y_call r rfl cl97 hc) rfl ?_
   rintro _ w15 ⟨rfl, hb⟩
   refine ⟨_, rfl, fun fr r => ?_⟩
   have hP : Post No [cellC b1 ((planC a0)).toArray 25] w0 w15 := hP.below hb
   refine seq_val (.bool x14) r (fun R => y_assign r rfl) rfl fun fr r => ?_
   refine wn ?_
   refine wp_ret ?_
   have hv : x14 = res := Option.some.inj hD
   try dsimp only [Exit.then, Exit.inBlock]
   refine ret_tmp (fn := Tryz.f23) r (t := 2) rfl (v := (.bool x14)) rfl ?_
   subst hv
   exact ⟨rfl, hP.chg.below⟩
  ·
   have hD := (cond_f h13).symm.trans hD
   refine wp_skip ?_
   refine wsr ?_
   refine seq_val (.agg (planC a0).toArray) r (fun R => y_load_agg r (cs := (planC a0)) (n := 6) rfl (hP.cell (i := 0) rfl) ta25 rfl) rfl fun fr r => ?_
   obtain ⟨x16, hx16, hD⟩ := bindD_elim hD
   refine seq_call r (c_cubiclelaw09_Laid w12 a0 hx16) (fun R hc => y_call r rfl cl28 hc) rfl ?_
   rintro _ w17 ⟨mg18, rfl, hq⟩
   refine ⟨_, rfl, fun fr r => ?_⟩
   have hP : Post No [cellC b1 ((planC a0)).toArray 25, memK mg18 x16] w0 w17 := hP.add hq
   refine seq_val (.pointer (some ⟨mg18.mb, 0, none⟩)) r (fun R => y_assign r rfl) rfl fun fr r => ?_
   refine wn ?_
   refine wp_seq ?_
   refine wsr ?_
   refine seq_val (.pointer (some ⟨mg18.mb, 0, none⟩)) r (fun R => y_move r rfl) rfl fun fr r => ?_
   refine seq_val _ r (fun R => y_bin r rfl rfl rfl rfl) rfl fun fr r => ?_
   refine wn ?_
   refine wp_cond_split (t := false) (r.ev rfl) (fun h => absurd ((rfl : false = _).symm.trans h) (by decide)) (fun _ => ?_)
   refine wp_skip ?_
   refine wsr ?_
   refine seq_val (.agg (planC a0).toArray) r (fun R => y_load_agg r (cs := (planC a0)) (n := 6) rfl (hP.cell (i := 0) rfl) ta25 rfl) rfl fun fr r => ?_
   refine seq_val (.agg (seatC (⟨a0, 0, 0⟩ : Seat)).toArray) r (fun R => y_build r (by kernel_rfl)) rfl fun fr r => ?_
   refine seq_new (.cells ((seatC (⟨(⟨0, 0, 0, 0, 0, 0⟩ : Plan), 0, 0⟩ : Seat))).toArray 29 (0, 0)) r (fun R => y_alloc tz29) rfl fun fr b20 w21 n22 r => ?_
   have hP : Post No [cellC b1 ((planC a0)).toArray 25, memK mg18 x16, cellC b20 ((seatC (⟨(⟨0, 0, 0, 0, 0, 0⟩ : Plan), 0, 0⟩ : Seat))).toArray 29] w0 w21 := hP.new n22
   refine seq_upd (.cells ((seatC (⟨a0, 0, 0⟩ : Seat))).toArray 29 (0, 0)) r (fun R => y_store r (o := 0) (v := (.agg (seatC (⟨a0, 0, 0⟩ : Seat)).toArray)) rfl rfl (hP.cell (i := 2) rfl) ts29 (Nat.le_of_ble_eq_true rfl) rfl rfl) rfl fun fr w24 u25 r => ?_
   have hP : Post No [cellC b1 ((planC a0)).toArray 25, memK mg18 x16, cellC b20 ((seatC (⟨a0, 0, 0⟩ : Seat))).toArray 29] w0 w24 := hP.upd (i := 2) rfl u25
   refine wn ?_
   refine wp_seq ?_
   refine wsr ?_
   refine seq_val (I 0) r (fun R => y_assign r rfl) rfl fun fr r => ?_
   refine wn ?_
   refine wp_loopG (X := Bool × Int × Mem) (G := Unit) (x0 := (false, 0, x16)) (fun x γ => [(0, (.agg (planC a0).toArray)), (1, (.pointer (some ⟨b1, 0, none⟩))), (18, (.bool x10)), (3, (.pointer (some ⟨mg18.mb, 0, none⟩))), (23, (.bool false)), (4, (.pointer (some ⟨b20, 0, none⟩))), (2, (.bool x.1)), (5, (I x.2.1))]) (fun x γ w => Post No [cellC b1 ((planC a0)).toArray 25, memK mg18 x.2.2, cellC b20 ((seatC (⟨a0, 0, 0⟩ : Seat))).toArray 29] w0 w) () r (hs_cons rfl (hs_cons rfl (hs_cons rfl (hs_cons rfl (hs_cons rfl (hs_cons rfl (hs_cons rfl (hs_cons rfl hs_nil)))))))) hP hD ?_ ?_
   ·
    rintro x26 γ27 fr w29 g y28 RPy28 nxy28 bky28 rty28 r hP hD
    have hP : Post No [cellC b1 ((planC a0)).toArray 25, memK mg18 x26.2.2, cellC b20 ((seatC (⟨a0, 0, 0⟩ : Seat))).toArray 29] w0 w29 := hP
    refine wp_seq ?_
    refine wsr ?_
    refine seq_val (I x26.2.1) r (fun R => y_move r rfl) rfl fun fr r => ?_
    refine seq_val _ r (fun R => y_fieldAddr r (o := 0) rfl fo25_3) rfl fun fr r => ?_
    refine seq_val (I a0.domains) r (fun R => y_load_one r rfl (hP.cell (i := 0) rfl) to3 rfl) rfl fun fr r => ?_
    refine seq_val _ r (fun R => y_bin r rfl rfl rfl rfl) rfl fun fr r => ?_
    refine wn ?_
    refine wp_cond_split (t := (decide (x26.2.1 < a0.domains))) (r.ev rfl) (fun h30 => ?_) (fun h30 => ?_)
    ·
     have hD := (cond_t h30).symm.trans hD
     refine wp_skip ?_
     refine wp_seq ?_
     refine wp_block ?_
     refine wsr ?_
     refine seq_val (.agg (seatC (⟨a0, 0, 0⟩ : Seat)).toArray) r (fun R => y_load_agg r (cs := (seatC (⟨a0, 0, 0⟩ : Seat))) (n := 8) rfl (hP.cell (i := 2) rfl) ta29 rfl) rfl fun fr r => ?_
     refine seq_call r (c_domain_Make (F := No) (n := fu) (j := fu + 1) (fun _ h => h.elim) (by omega) (⟨a0, 0, 0⟩ : Seat) 2) (fun R hc => y_call r rfl cl99 hc) rfl ?_
     rintro _ w31 ⟨v32, rfl, hb, hr33⟩
     refine ⟨_, rfl, fun fr r => ?_⟩
     have hP : Post No [cellC b1 ((planC a0)).toArray 25, memK mg18 x26.2.2, cellC b20 ((seatC (⟨a0, 0, 0⟩ : Seat))).toArray 29, progK Tryz.prog encRes (fu, (D.domain_Make (fu + 1) (⟨a0, 0, 0⟩ : Seat) 2)) v32 (rg w29.heap.size w31.heap.size)] w0 w31 := hP.addProg hb hr33
     refine seq_val (.pointer (some ⟨mg18.mb, 0, none⟩)) r (fun R => y_move r rfl) rfl fun fr r => ?_
     refine seq_val (.pointer (some ⟨mg18.mb, 0, none⟩)) r (fun R => y_move r rfl) rfl fun fr r => ?_
     obtain ⟨x35, hx35, hD⟩ := bindD_elim hD
     refine seq_call r (c_mem_Memory_Cap w31 x26.2.2 (hP.mem (i := 1) rfl) 0 hx35) (fun R hc => y_call r rfl cl31 hc) rfl ?_
     rintro _ w36 ⟨rfl, hb⟩
     refine ⟨_, rfl, fun fr r => ?_⟩
     have hP : Post No [cellC b1 ((planC a0)).toArray 25, memK mg18 x26.2.2, cellC b20 ((seatC (⟨a0, 0, 0⟩ : Seat))).toArray 29, progK Tryz.prog encRes (fu, (D.domain_Make (fu + 1) (⟨a0, 0, 0⟩ : Seat) 2)) v32 (rg w29.heap.size w31.heap.size)] w0 w36 := hP.below hb
     obtain ⟨x37, hx37, hD⟩ := bindD_elim hD
     refine seq_call r (c_prog_Run_Res w36 (fu, (D.domain_Make (fu + 1) (⟨a0, 0, 0⟩ : Seat) 2)) x26.2.2 x35 99 (hP.sep.pk [3, 1] rfl rfl) hx37) (fun R hc => y_call r rfl cl29 hc) rfl ?_
     rintro _ w38 ⟨rfl, hq⟩
     refine ⟨_, rfl, fun fr r => ?_⟩
     have hP : Post No [cellC b1 ((planC a0)).toArray 25, memK mg18 x37.2.2.2, cellC b20 ((seatC (⟨a0, 0, 0⟩ : Seat))).toArray 29, progK Tryz.prog encRes (fu, (D.domain_Make (fu + 1) (⟨a0, 0, 0⟩ : Seat) 2)) v32 (rg w29.heap.size w31.heap.size)] w0 w38 := hP.setN (i := 1) rfl hq
     refine seq_val (.tuple #[(.agg (resC x37.1).toArray), (I x37.2.1), (.bool x37.2.2.1)]) r (fun R => y_move r rfl) rfl fun fr r => ?_
     refine seq_val (.agg (resC x37.1).toArray) r (fun R => y_extract r (vs := #[(.agg (resC x37.1).toArray), (I x37.2.1), (.bool x37.2.2.1)]) rfl rfl) rfl fun fr r => ?_
     refine seq_val (I x37.2.1) r (fun R => y_extract r (vs := #[(.agg (resC x37.1).toArray), (I x37.2.1), (.bool x37.2.2.1)]) rfl rfl) rfl fun fr r => ?_
     refine seq_val (.bool x37.2.2.1) r (fun R => y_extract r (vs := #[(.agg (resC x37.1).toArray), (I x37.2.1), (.bool x37.2.2.1)]) rfl rfl) rfl fun fr r => ?_
     refine seq_new (.cells ((resC (⟨0, 0⟩ : Res))).toArray 32 (0, 0)) r (fun R => y_alloc tz32) rfl fun fr b39 w40 n41 r => ?_
     have hP : Post No [cellC b1 ((planC a0)).toArray 25, memK mg18 x37.2.2.2, cellC b20 ((seatC (⟨a0, 0, 0⟩ : Seat))).toArray 29, progK Tryz.prog encRes (fu, (D.domain_Make (fu + 1) (⟨a0, 0, 0⟩ : Seat) 2)) v32 (rg w29.heap.size w31.heap.size), cellC b39 ((resC (⟨0, 0⟩ : Res))).toArray 32] w0 w40 := hP.new n41
     refine seq_upd (.cells ((resC x37.1)).toArray 32 (0, 0)) r (fun R => y_store r (o := 0) (v := (.agg (resC x37.1).toArray)) rfl rfl (hP.cell (i := 4) rfl) ts32 (Nat.le_of_ble_eq_true rfl) rfl rfl) rfl fun fr w43 u44 r => ?_
     have hP : Post No [cellC b1 ((planC a0)).toArray 25, memK mg18 x37.2.2.2, cellC b20 ((seatC (⟨a0, 0, 0⟩ : Seat))).toArray 29, progK Tryz.prog encRes (fu, (D.domain_Make (fu + 1) (⟨a0, 0, 0⟩ : Seat) 2)) v32 (rg w29.heap.size w31.heap.size), cellC b39 ((resC x37.1)).toArray 32] w0 w43 := hP.upd (i := 4) rfl u44
     refine seq_val (I x37.2.1) r (fun R => y_assign r rfl) rfl fun fr r => ?_
     refine seq_val (.bool x37.2.2.1) r (fun R => y_assign r rfl) rfl fun fr r => ?_
     refine wn ?_
     refine wp_seq ?_
     have hP : Post No [cellC b1 ((planC a0)).toArray 25, memK mg18 x37.2.2.2, cellC b20 ((seatC (⟨a0, 0, 0⟩ : Seat))).toArray 29, cellC b39 ((resC x37.1)).toArray 32] w0 w43 := hP.pick [0, 1, 2, 4] rfl rfl
     refine wp_joinG (N := 79) (Y := Bool) (G := Unit) (fun x γ => [(0, (.agg (planC a0).toArray)), (1, (.pointer (some ⟨b1, 0, none⟩))), (18, (.bool x10)), (3, (.pointer (some ⟨mg18.mb, 0, none⟩))), (23, (.bool false)), (4, (.pointer (some ⟨b20, 0, none⟩))), (2, (.bool x26.1)), (5, (I x26.2.1)), (29, (.bool (decide (x26.2.1 < a0.domains)))), (6, (.pointer (some ⟨b39, 0, none⟩))), (7, (I x37.2.1)), (8, (.bool x37.2.2.1)), (56, (.bool x))]) (fun x γ w => Post No [cellC b1 ((planC a0)).toArray 25, memK mg18 x37.2.2.2, cellC b20 ((seatC (⟨a0, 0, 0⟩ : Seat))).toArray 29, cellC b39 ((resC x37.1)).toArray 32] w0 w) hD ?_ ?_
     ·
      rintro y45 RPy45 nxy45 hD
      refine wp_region_lit ?_
      refine seq_val (.bool x37.2.2.1) r (fun R => y_move r rfl) rfl fun fr r => ?_
      refine seq_val (.bool (!x37.2.2.1)) r (fun R => y_un r (u := (.bool x37.2.2.1)) rfl rfl) rfl fun fr r => ?_
      refine seq_val (.bool (!x37.2.2.1)) r (fun R => y_move r rfl) rfl fun fr r => ?_
      refine seq_split (!x37.2.2.1) (fun h46 => ?_) (fun h46 => ?_)
      ·
       have hD := (cond_t h46).symm.trans hD
       refine s0 r h46 fun fr r => ?_
       refine s0 r h46 fun fr r => ?_
       refine s0 r h46 fun fr r => ?_
       refine s0 r h46 fun fr r => ?_
       refine s0 r h46 fun fr r => ?_
       refine seq_val (.bool true) r (fun R => y_pick r (b := true) (congrArg Value.bool h46) rfl) rfl fun fr r => ?_
       refine seq_val (.bool true) r (fun R => y_move r rfl) rfl fun fr r => ?_
       refine s0 r (rfl : true = _) fun fr r => ?_
       refine s0 r (rfl : true = _) fun fr r => ?_
       refine s0 r (rfl : true = _) fun fr r => ?_
       refine s0 r (rfl : true = _) fun fr r => ?_
       refine seq_val (.bool true) r (fun R => y_pick r (b := true) (congrArg Value.bool (rfl : true = _)) rfl) rfl fun fr r => ?_
       refine wn ?_
       exact nxy45 true () _ _ _ hD r (hs_cons rfl (hs_cons rfl (hs_cons rfl (hs_cons rfl (hs_cons rfl (hs_cons rfl (hs_cons rfl (hs_cons rfl (hs_cons rfl (hs_cons rfl (hs_cons rfl (hs_cons rfl (hs_cons rfl hs_nil))))))))))))) (hP.pick [0, 1, 2, 3] rfl rfl)
      ·
       have hD := (cond_f h46).symm.trans hD
       refine s1 r h46 ?_
       refine seq_val (.agg (resC x37.1).toArray) r (fun R => y_load_agg r (cs := (resC x37.1)) (n := 2) rfl (hP.cell (i := 3) rfl) ta32 rfl) rfl fun fr r => ?_
       refine s1 r h46 ?_
       refine seq_val (I x26.2.1) r (fun R => y_move r rfl) rfl fun fr r => ?_
       refine s1 r h46 ?_
       refine seq_val (U (V x26.2.1)) r (fun R => y_convert r rfl ti3 ti22) rfl fun fr r => ?_
       refine s1 r h46 ?_
       refine seq_val (.agg (resC (⟨0, (V x26.2.1)⟩ : Res)).toArray) r (fun R => y_build r (by kernel_rfl)) rfl fun fr r => ?_
       refine s1 r h46 ?_
       refine seq_val _ r (fun R => y_bin r rfl rfl (run_eqGuard_agg _ _ _ _ _ _ _ eg32) (eqs32 _ _ _).2) rfl fun fr r => ?_
       refine seq_val (.bool (!(x37.1 == (⟨0, (V x26.2.1)⟩ : Res)))) r (fun R => y_pick r (b := false) (congrArg Value.bool h46) rfl) rfl fun fr r => ?_
       refine seq_val (.bool (!(x37.1 == (⟨0, (V x26.2.1)⟩ : Res)))) r (fun R => y_move r rfl) rfl fun fr r => ?_
       refine seq_split (!(x37.1 == (⟨0, (V x26.2.1)⟩ : Res))) (fun h47 => ?_) (fun h47 => ?_)
       ·
        have hD := (cond_t h47).symm.trans hD
        refine s0 r h47 fun fr r => ?_
        refine s0 r h47 fun fr r => ?_
        refine s0 r h47 fun fr r => ?_
        refine s0 r h47 fun fr r => ?_
        refine seq_val (.bool true) r (fun R => y_pick r (b := true) (congrArg Value.bool h47) rfl) rfl fun fr r => ?_
        refine wn ?_
        exact nxy45 true () _ _ _ hD r (hs_cons rfl (hs_cons rfl (hs_cons rfl (hs_cons rfl (hs_cons rfl (hs_cons rfl (hs_cons rfl (hs_cons rfl (hs_cons rfl (hs_cons rfl (hs_cons rfl (hs_cons rfl (hs_cons rfl hs_nil))))))))))))) (hP.pick [0, 1, 2, 3] rfl rfl)
       ·
        have hD := (cond_f h47).symm.trans hD
        refine s1 r h47 ?_
        refine seq_val (I x37.2.1) r (fun R => y_move r rfl) rfl fun fr r => ?_
        refine s1 r h47 ?_
        refine seq_val (I x26.2.1) r (fun R => y_move r rfl) rfl fun fr r => ?_
        refine s1 r h47 ?_
        refine seq_val _ r (fun R => y_bin r rfl rfl rfl rfl) rfl fun fr r => ?_
        refine s1 r h47 ?_
        refine seq_val _ r (fun R => y_bin r rfl rfl rfl rfl) rfl fun fr r => ?_
        refine seq_val (.bool (x37.2.1 != (W (x26.2.1 + 3)))) r (fun R => y_pick r (b := false) (congrArg Value.bool h47) rfl) rfl fun fr r => ?_
        refine wn ?_
        exact nxy45 (x37.2.1 != (W (x26.2.1 + 3))) () _ _ _ hD r (hs_cons rfl (hs_cons rfl (hs_cons rfl (hs_cons rfl (hs_cons rfl (hs_cons rfl (hs_cons rfl (hs_cons rfl (hs_cons rfl (hs_cons rfl (hs_cons rfl (hs_cons rfl (hs_cons rfl hs_nil))))))))))))) (hP.pick [0, 1, 2, 3] rfl rfl)
     ·
      rintro x48 γ49 fr w50 g r hP hD
      have hP : Post No [cellC b1 ((planC a0)).toArray 25, memK mg18 x37.2.2.2, cellC b20 ((seatC (⟨a0, 0, 0⟩ : Seat))).toArray 29, cellC b39 ((resC x37.1)).toArray 32] w0 w50 := hP
      refine wp_cond_split (t := x48) (r.ev rfl) (fun h51 => ?_) (fun h51 => ?_)
      ·
       have hD := (cond_t h51).symm.trans hD
       refine wsr ?_
       refine seq_val (.bool false) r (fun R => y_assign r rfl) rfl fun fr r => ?_
       refine wn ?_
       refine wp_ret ?_
       refine rty28 false _ _ hD fun hD => ?_
       have hv : false = res := Option.some.inj hD
       try dsimp only [Exit.then, Exit.inBlock]
       refine ret_tmp (fn := Tryz.f23) r (t := 2) rfl (v := (.bool false)) rfl ?_
       subst hv
       exact ⟨rfl, hP.chg.below⟩
      ·
       have hD := (cond_f h51).symm.trans hD
       refine wp_skip ?_
       refine wp_region_lit ?_
       refine seq_val (I x26.2.1) r (fun R => y_move r rfl) rfl fun fr r => ?_
       refine seq_val _ r (fun R => y_bin r rfl rfl rfl rfl) rfl fun fr r => ?_
       refine seq_val (I (W (x26.2.1 + 1))) r (fun R => y_assign r rfl) rfl fun fr r => ?_
       refine wn ?_
       exact nxy28 (x26.1, (W (x26.2.1 + 1)), x37.2.2.2) () _ _ _ hD r (hs_cons rfl (hs_cons rfl (hs_cons rfl (hs_cons rfl (hs_cons rfl (hs_cons rfl (hs_cons rfl (hs_cons rfl hs_nil)))))))) (hP.pick [0, 1, 2] rfl rfl)
    ·
     have hD := (cond_f h30).symm.trans hD
     refine wp_exit ?_
     exact bky28 (x26.1, x26.2.1, x26.2.2) () _ _ _ hD r (hs_cons rfl (hs_cons rfl (hs_cons rfl (hs_cons rfl (hs_cons rfl (hs_cons rfl (hs_cons rfl (hs_cons rfl hs_nil)))))))) (hP.pick [0, 1, 2] rfl rfl)
   ·
    rintro x52 γ53 fr w54 g r hP hD
    have hP : Post No [cellC b1 ((planC a0)).toArray 25, memK mg18 x52.2.2, cellC b20 ((seatC (⟨a0, 0, 0⟩ : Seat))).toArray 29] w0 w54 := hP
    refine wsr ?_
    refine seq_val (.agg (seatC (⟨a0, 0, 0⟩ : Seat)).toArray) r (fun R => y_load_agg r (cs := (seatC (⟨a0, 0, 0⟩ : Seat))) (n := 8) rfl (hP.cell (i := 2) rfl) ta29 rfl) rfl fun fr r => ?_
    refine seq_call r (c_domain_Make (F := No) (n := fu) (j := fu + 1) (fun _ h => h.elim) (by omega) (⟨a0, 0, 0⟩ : Seat) 1) (fun R hc => y_call r rfl cl99 hc) rfl ?_
    rintro _ w55 ⟨v56, rfl, hb, hr57⟩
    refine ⟨_, rfl, fun fr r => ?_⟩
    have hP : Post No [cellC b1 ((planC a0)).toArray 25, memK mg18 x52.2.2, cellC b20 ((seatC (⟨a0, 0, 0⟩ : Seat))).toArray 29, progK Tryz.prog encRes (fu, (D.domain_Make (fu + 1) (⟨a0, 0, 0⟩ : Seat) 1)) v56 (rg w54.heap.size w55.heap.size)] w0 w55 := hP.addProg hb hr57
    refine seq_val (.pointer (some ⟨mg18.mb, 0, none⟩)) r (fun R => y_move r rfl) rfl fun fr r => ?_
    refine seq_val (.pointer (some ⟨mg18.mb, 0, none⟩)) r (fun R => y_move r rfl) rfl fun fr r => ?_
    obtain ⟨x59, hx59, hD⟩ := bindD_elim hD
    refine seq_call r (c_mem_Memory_Cap w55 x52.2.2 (hP.mem (i := 1) rfl) 0 hx59) (fun R hc => y_call r rfl cl31 hc) rfl ?_
    rintro _ w60 ⟨rfl, hb⟩
    refine ⟨_, rfl, fun fr r => ?_⟩
    have hP : Post No [cellC b1 ((planC a0)).toArray 25, memK mg18 x52.2.2, cellC b20 ((seatC (⟨a0, 0, 0⟩ : Seat))).toArray 29, progK Tryz.prog encRes (fu, (D.domain_Make (fu + 1) (⟨a0, 0, 0⟩ : Seat) 1)) v56 (rg w54.heap.size w55.heap.size)] w0 w60 := hP.below hb
    obtain ⟨x61, hx61, hD⟩ := bindD_elim hD
    refine seq_call r (c_prog_Run_Res w60 (fu, (D.domain_Make (fu + 1) (⟨a0, 0, 0⟩ : Seat) 1)) x52.2.2 x59 99 (hP.sep.pk [3, 1] rfl rfl) hx61) (fun R hc => y_call r rfl cl29 hc) rfl ?_
    rintro _ w62 ⟨rfl, hq⟩
    refine ⟨_, rfl, fun fr r => ?_⟩
    have hP : Post No [cellC b1 ((planC a0)).toArray 25, memK mg18 x61.2.2.2, cellC b20 ((seatC (⟨a0, 0, 0⟩ : Seat))).toArray 29, progK Tryz.prog encRes (fu, (D.domain_Make (fu + 1) (⟨a0, 0, 0⟩ : Seat) 1)) v56 (rg w54.heap.size w55.heap.size)] w0 w62 := hP.setN (i := 1) rfl hq
    refine seq_val (.tuple #[(.agg (resC x61.1).toArray), (I x61.2.1), (.bool x61.2.2.1)]) r (fun R => y_move r rfl) rfl fun fr r => ?_
    refine seq_val (.agg (resC x61.1).toArray) r (fun R => y_extract r (vs := #[(.agg (resC x61.1).toArray), (I x61.2.1), (.bool x61.2.2.1)]) rfl rfl) rfl fun fr r => ?_
    refine seq_val (I x61.2.1) r (fun R => y_extract r (vs := #[(.agg (resC x61.1).toArray), (I x61.2.1), (.bool x61.2.2.1)]) rfl rfl) rfl fun fr r => ?_
    refine seq_val (.bool x61.2.2.1) r (fun R => y_extract r (vs := #[(.agg (resC x61.1).toArray), (I x61.2.1), (.bool x61.2.2.1)]) rfl rfl) rfl fun fr r => ?_
    refine seq_new (.cells ((resC (⟨0, 0⟩ : Res))).toArray 32 (0, 0)) r (fun R => y_alloc tz32) rfl fun fr b63 w64 n65 r => ?_
    have hP : Post No [cellC b1 ((planC a0)).toArray 25, memK mg18 x61.2.2.2, cellC b20 ((seatC (⟨a0, 0, 0⟩ : Seat))).toArray 29, progK Tryz.prog encRes (fu, (D.domain_Make (fu + 1) (⟨a0, 0, 0⟩ : Seat) 1)) v56 (rg w54.heap.size w55.heap.size), cellC b63 ((resC (⟨0, 0⟩ : Res))).toArray 32] w0 w64 := hP.new n65
    refine seq_upd (.cells ((resC x61.1)).toArray 32 (0, 0)) r (fun R => y_store r (o := 0) (v := (.agg (resC x61.1).toArray)) rfl rfl (hP.cell (i := 4) rfl) ts32 (Nat.le_of_ble_eq_true rfl) rfl rfl) rfl fun fr w67 u68 r => ?_
    have hP : Post No [cellC b1 ((planC a0)).toArray 25, memK mg18 x61.2.2.2, cellC b20 ((seatC (⟨a0, 0, 0⟩ : Seat))).toArray 29, progK Tryz.prog encRes (fu, (D.domain_Make (fu + 1) (⟨a0, 0, 0⟩ : Seat) 1)) v56 (rg w54.heap.size w55.heap.size), cellC b63 ((resC x61.1)).toArray 32] w0 w67 := hP.upd (i := 4) rfl u68
    refine seq_val (I x61.2.1) r (fun R => y_assign r rfl) rfl fun fr r => ?_
    refine seq_val (.bool x61.2.2.1) r (fun R => y_assign r rfl) rfl fun fr r => ?_
    refine wn ?_
    refine wp_seq ?_
    have hP : Post No [cellC b1 ((planC a0)).toArray 25, memK mg18 x61.2.2.2, cellC b20 ((seatC (⟨a0, 0, 0⟩ : Seat))).toArray 29, cellC b63 ((resC x61.1)).toArray 32] w0 w67 := hP.pick [0, 1, 2, 4] rfl rfl
    refine wp_joinG (N := 79) (Y := Bool) (G := Unit) (fun x γ => [(0, (.agg (planC a0).toArray)), (1, (.pointer (some ⟨b1, 0, none⟩))), (18, (.bool x10)), (3, (.pointer (some ⟨mg18.mb, 0, none⟩))), (23, (.bool false)), (4, (.pointer (some ⟨b20, 0, none⟩))), (5, (I x52.2.1)), (9, (.pointer (some ⟨b63, 0, none⟩))), (10, (I x61.2.1)), (11, (.bool x61.2.2.1)), (2, (.bool x))]) (fun x γ w => Post No [cellC b1 ((planC a0)).toArray 25, memK mg18 x61.2.2.2, cellC b20 ((seatC (⟨a0, 0, 0⟩ : Seat))).toArray 29, cellC b63 ((resC x61.1)).toArray 32] w0 w) hD ?_ ?_
    ·
     rintro y69 RPy69 nxy69 hD
     refine wp_region_lit ?_
     refine seq_val (.bool x61.2.2.1) r (fun R => y_move r rfl) rfl fun fr r => ?_
     refine seq_val (.bool x61.2.2.1) r (fun R => y_move r rfl) rfl fun fr r => ?_
     refine seq_split x61.2.2.1 (fun h70 => ?_) (fun h70 => ?_)
     ·
      have hD := (cond_t h70).symm.trans hD
      refine s1 r h70 ?_
      refine seq_val (.agg (resC x61.1).toArray) r (fun R => y_load_agg r (cs := (resC x61.1)) (n := 2) rfl (hP.cell (i := 3) rfl) ta32 rfl) rfl fun fr r => ?_
      refine s1 r h70 ?_
      refine seq_val (.agg (resC (⟨8, 0⟩ : Res)).toArray) r (fun R => y_build r (by kernel_rfl)) rfl fun fr r => ?_
      refine s1 r h70 ?_
      refine seq_val _ r (fun R => y_bin r rfl rfl (run_eqGuard_agg _ _ _ _ _ _ _ eg32) (eqs32 _ _ _).1) rfl fun fr r => ?_
      refine seq_val (.bool (x61.1 == (⟨8, 0⟩ : Res))) r (fun R => y_pick r (b := true) (congrArg Value.bool h70) rfl) rfl fun fr r => ?_
      refine seq_val (.bool (x61.1 == (⟨8, 0⟩ : Res))) r (fun R => y_move r rfl) rfl fun fr r => ?_
      refine seq_split (x61.1 == (⟨8, 0⟩ : Res)) (fun h71 => ?_) (fun h71 => ?_)
      ·
       have hD := (cond_t h71).symm.trans hD
       refine s1 r h71 ?_
       refine seq_val (I x61.2.1) r (fun R => y_move r rfl) rfl fun fr r => ?_
       refine s1 r h71 ?_
       refine seq_val _ r (fun R => y_fieldAddr r (o := 0) rfl fo25_3) rfl fun fr r => ?_
       refine s1 r h71 ?_
       refine seq_val (I a0.domains) r (fun R => y_load_one r rfl (hP.cell (i := 0) rfl) to3 rfl) rfl fun fr r => ?_
       refine s1 r h71 ?_
       refine seq_val _ r (fun R => y_bin r rfl rfl rfl rfl) rfl fun fr r => ?_
       refine seq_val (.bool (x61.2.1 == a0.domains)) r (fun R => y_pick r (b := true) (congrArg Value.bool h71) rfl) rfl fun fr r => ?_
       refine seq_val (.bool (x61.2.1 == a0.domains)) r (fun R => y_assign r rfl) rfl fun fr r => ?_
       refine wn ?_
       exact nxy69 (x61.2.1 == a0.domains) () _ _ _ hD r (hs_cons rfl (hs_cons rfl (hs_cons rfl (hs_cons rfl (hs_cons rfl (hs_cons rfl (hs_cons rfl (hs_cons rfl (hs_cons rfl (hs_cons rfl (hs_cons rfl hs_nil))))))))))) (hP.pick [0, 1, 2, 3] rfl rfl)
      ·
       have hD := (cond_f h71).symm.trans hD
       refine s0 r h71 fun fr r => ?_
       refine s0 r h71 fun fr r => ?_
       refine s0 r h71 fun fr r => ?_
       refine s0 r h71 fun fr r => ?_
       refine seq_val (.bool false) r (fun R => y_pick r (b := false) (congrArg Value.bool h71) rfl) rfl fun fr r => ?_
       refine seq_val (.bool false) r (fun R => y_assign r rfl) rfl fun fr r => ?_
       refine wn ?_
       exact nxy69 false () _ _ _ hD r (hs_cons rfl (hs_cons rfl (hs_cons rfl (hs_cons rfl (hs_cons rfl (hs_cons rfl (hs_cons rfl (hs_cons rfl (hs_cons rfl (hs_cons rfl (hs_cons rfl hs_nil))))))))))) (hP.pick [0, 1, 2, 3] rfl rfl)
     ·
      have hD := (cond_f h70).symm.trans hD
      refine s0 r h70 fun fr r => ?_
      refine s0 r h70 fun fr r => ?_
      refine s0 r h70 fun fr r => ?_
      refine seq_val (.bool false) r (fun R => y_pick r (b := false) (congrArg Value.bool h70) rfl) rfl fun fr r => ?_
      refine seq_val (.bool false) r (fun R => y_move r rfl) rfl fun fr r => ?_
      refine s0 r (rfl : false = _) fun fr r => ?_
      refine s0 r (rfl : false = _) fun fr r => ?_
      refine s0 r (rfl : false = _) fun fr r => ?_
      refine s0 r (rfl : false = _) fun fr r => ?_
      refine seq_val (.bool false) r (fun R => y_pick r (b := false) (congrArg Value.bool (rfl : false = _)) rfl) rfl fun fr r => ?_
      refine seq_val (.bool false) r (fun R => y_assign r rfl) rfl fun fr r => ?_
      refine wn ?_
      exact nxy69 false () _ _ _ hD r (hs_cons rfl (hs_cons rfl (hs_cons rfl (hs_cons rfl (hs_cons rfl (hs_cons rfl (hs_cons rfl (hs_cons rfl (hs_cons rfl (hs_cons rfl (hs_cons rfl hs_nil))))))))))) (hP.pick [0, 1, 2, 3] rfl rfl)
    ·
     rintro x72 γ73 fr w74 g r hP hD
     have hP : Post No [cellC b1 ((planC a0)).toArray 25, memK mg18 x61.2.2.2, cellC b20 ((seatC (⟨a0, 0, 0⟩ : Seat))).toArray 29, cellC b63 ((resC x61.1)).toArray 32] w0 w74 := hP
     refine wp_ret ?_
     have hv : x72 = res := Option.some.inj hD
     try dsimp only [Exit.then, Exit.inBlock]
     refine ret_tmp (fn := Tryz.f23) r (t := 2) rfl (v := (.bool x72)) rfl ?_
     subst hv
     exact ⟨rfl, hP.chg.below⟩

end Go.Proofs.YtjkinpbfmihhdaaGreat.Wk

/- DomainFull: what the walk found answers as the law says. -/
set_option linter.unusedVariables false
namespace Go.Proofs.YtjkinpbfmihhdaaGreat
open Go.RowKit
theorem awake17 : D.cubiclelaw17_awake 2000 = some true := by decide +kernel

/-- The place of a domain's kind. -/
def kp (p : Plan) (d : Int) : Int := 1 + d * (1 + D.plan_Plan_cells p)

section
variable {p : Plan} (hp : PF p)
include hp
theorem kp_in {d : Int} (h0 : 0 ≤ d) (h1 : d < p.domains) : 0 < kp p d ∧ kp p d < D.plan_Plan_hazards p ∧ D.plan_Plan_Kind p d = kp p d := by
  have hc := cells_le hp
  have := dc_le hp h0 h1
  have hz := hazards_eq hp
  have h2 : (d + 1) * (1 + D.plan_Plan_cells p) ≤ p.domains * (1 + D.plan_Plan_cells p) := Int.mul_le_mul_of_nonneg_right (by omega) (by omega)
  rw [Int.add_mul, Int.one_mul] at h2
  refine ⟨by unfold kp; omega, by unfold kp; omega, ?_⟩
  rw [Kind_eq hp, if_pos ⟨h0, h1⟩]
  rfl

theorem kp_ne {d e : Int} (h : d ≠ e) : kp p d ≠ kp p e := by
  have hc := cells_le hp
  unfold kp
  intro he
  exact h (Int.eq_of_mul_eq_mul_right (show 1 + D.plan_Plan_cells p ≠ 0 by omega) (by omega))

end
/-- So many domains are maps; the others are none. -/
structure KindsI (p : Plan) (i : Nat) (ws : List Int) : Prop where
  len : Len p ws
  two : ∀ d : Int, 0 ≤ d → d < i → rd ws (kp p d) = 2
  none : ∀ d : Int, i ≤ d → d < p.domains → rd ws (kp p d) = 0

theorem claim_skip {p : Plan} (hp : PF p) {s : Seat} (hsp : s.p = p) {ws : List Int} {i : Nat} (h : KindsI p i ws) (hi : (i : Int) ≤ p.domains) (kind : Int) (J : Nat) : ∀ (e : Nat) (d : Int) (k : Nat), d + e = i → 0 ≤ d → e < k → ∀ {m : Nat} {r : Res} {ws' : List Int},
    Runs (D.domain_claim J (k - e) s kind i) ws m r ws' → Runs (D.domain_claim J k s kind d) ws (m + e) r ws' := by
  have hd2 := hp.d2
  have ht1 := hp.t1
  intro e
  induction e with
  | zero =>
    intro d k hd h0 hk m r ws' hr
    obtain rfl : d = i := by omega
    exact hr
  | succ e ih =>
    intro d k hd h0 hk m r ws' hr
    obtain ⟨k, rfl⟩ : ∃ q, k = q + 1 := ⟨k - 1, by omega⟩
    obtain ⟨q1, q2, q3⟩ := kp_in hp h0 (show d < p.domains by omega)
    have hz := hz_in hp
    have hl := h.len
    unfold Len at hl
    show Runs (D.domain_claim_body J (D.domain_claim J k) s kind d) ws (m + e + 1) r ws'
    unfold D.domain_claim_body
    rw [hsp, show (d == p.domains) = false from by simp; omega]
    simp only [cond_false]
    rw [q3]
    refine load_runsR (by omega) (by have := hp.n1; omega) ?_
    unfold D.domain_claim_1
    rw [h.two d h0 (by omega), show ((2 : Int) != 0) = true from rfl]
    simp only [cond_true]
    rw [wrap_small (by omega) (by omega)]
    refine ih (d + 1) k (by omega) (by omega) (by omega) ?_
    rw [show k + 1 - (e + 1) = k - e from by omega] at hr
    exact hr

theorem claim_full {p : Plan} (hp : PF p) {s : Seat} (hsp : s.p = p) {ws : List Int} {i : Nat} (hi : (i : Int) = p.domains) (kind : Int) (J k : Nat) (hk : 0 < k) : Runs (D.domain_claim J k s kind i) ws 0 ⟨8, 0⟩ ws := by
  obtain ⟨k, rfl⟩ : ∃ q, k = q + 1 := ⟨k - 1, by omega⟩
  show Runs (D.domain_claim_body J (D.domain_claim J k) s kind i) ws 0 ⟨8, 0⟩ ws
  unfold D.domain_claim_body
  rw [hsp, show ((i : Int) == p.domains) = true from by simp; omega]
  exact .done _ _

theorem claim_map {p : Plan} (hp : PF p) {s : Seat} (hsp : s.p = p) {ws : List Int} {i : Nat} (h : KindsI p i ws) (hi : (i : Int) < p.domains) (J k : Nat) (hk : 0 < k) : ∃ ws', Runs (D.domain_claim J k s 2 i) ws 3 ⟨0, i⟩ ws' ∧ KindsI p (i + 1) ws' := by
  obtain ⟨k, rfl⟩ : ∃ q, k = q + 1 := ⟨k - 1, by omega⟩
  obtain ⟨q1, q2, q3⟩ := kp_in hp (show (0 : Int) ≤ i by omega) hi
  have hz := hz_in hp
  have hn1 := hp.n1
  have hd2 := hp.d2
  have ht1 := hp.t1
  have hl := h.len
  unfold Len at hl
  refine ⟨(ws.set (kp p i).toNat 3).set (kp p i).toNat 2, ?_, ?_, fun d d0 d1 => ?_, fun d d0 d1 => ?_⟩
  · show Runs (D.domain_claim_body J (D.domain_claim J k) s 2 i) ws 3 ⟨0, i⟩ _
    unfold D.domain_claim_body
    rw [hsp, show ((i : Int) == p.domains) = false from by simp; omega]
    simp only [cond_false]
    rw [q3]
    refine load_runsR (n := 2) (by omega) (by omega) ?_
    unfold D.domain_claim_1
    rw [h.none i (by omega) hi, show ((0 : Int) != 0) = false from rfl]
    simp only [cond_false]
    refine swap_runsR (n := 1) (by omega) (by omega) ?_
    rw [h.none i (by omega) hi, if_pos rfl]
    rw [show ((0 : Int) == 0) = true from rfl]
    unfold D.domain_claim_1_1
    rw [show ((2 : Int) == 2) = true from rfl]
    simp only [Bool.not_true, cond_false, cond_true]
    unfold D.domain_named
    rw [hsp, q3]
    refine store_runsR (n := 0) (by omega) (by rw [List.length_set]; omega) ?_
    unfold D.domain_named_1
    rw [wrapu_id (x := (i : Int)) (by omega) (by omega)]
    exact .done _ _
  · unfold Len; simpa using hl
  · rw [rd_set (by omega) (by rw [List.length_set]; omega) (by have := (kp_in hp d0 (show d < p.domains by omega)).1; omega)]
    split
    · rfl
    · rename_i hne
      rw [rd_set (by omega) (by omega) (by have := (kp_in hp d0 (show d < p.domains by omega)).1; omega), if_neg hne]
      exact h.two d d0 (by
        by_cases e : d = i
        · exact absurd (by rw [e]) hne
        · omega)
  · have hne : kp p d ≠ kp p i := kp_ne hp (by omega)
    have := (kp_in hp (show 0 ≤ d by omega) d1).1
    rw [rd_set (by omega) (by rw [List.length_set]; omega) (by omega), if_neg hne, rd_set (by omega) (by omega) (by omega), if_neg hne]
    exact h.none d (by omega) d1

theorem few17_eq {p : Plan} (h : D.cubiclelaw17_few p = true) : PF p ∧ p.nodes ≤ 40 ∧ p.retire ≤ 40 ∧ p.domains ≤ 6 ∧ p.buckets ≤ 10 := by
  unfold D.cubiclelaw17_few at h
  cases h1 : D.cubicleref06_Few p <;> rw [h1] at h
  · cases h
  have hp := ref_formed h
  exact ⟨hp, ref_few hp h1⟩

theorem pure_DomainFull (p : Plan) (_ : -9223372036854775808 ≤ p.nodes ∧ p.nodes ≤ 9223372036854775807) (_ : -9223372036854775808 ≤ p.threads ∧ p.threads ≤ 9223372036854775807)
    (_ : -9223372036854775808 ≤ p.retire ∧ p.retire ≤ 9223372036854775807) (_ : -9223372036854775808 ≤ p.domains ∧ p.domains ≤ 9223372036854775807) (_ : -9223372036854775808 ≤ p.buckets ∧ p.buckets ≤ 9223372036854775807)
    (_ : -9223372036854775808 ≤ p.gen ∧ p.gen ≤ 9223372036854775807) : ∃ fu, Wk.D.cubiclelaw17_DomainFull fu p = some true := by
  refine ⟨2000, ?_⟩
  unfold Wk.D.cubiclelaw17_DomainFull
  rw [awake17]
  simp only [Option.bind_some, Bool.not_true, cond_false]
  cases hfw : D.cubiclelaw17_few p
  case false => rfl
  simp only [Bool.not_true, cond_false, Option.bind_some]
  obtain ⟨hp, hfw⟩ := few17_eq hfw
  have hd1 := hp.d1
  have ht1 := hp.t1
  have hz := hz_in hp
  obtain ⟨M, hM, hL⟩ := laid_eq hp hfw (fu := 2000) (by omega)
  rw [hM]
  simp only [Option.bind_some, Cap_eq]
  have h0 : KindsI p 0 M.ws := ⟨hL.len, fun d d0 d1 => by omega, fun d d0 d1 => hL.zero _ (kp_in hp (by omega) d1).1 fun m m0 _ => by have := (kp_in hp (show 0 ≤ d by omega) d1).2.1; omega⟩
  have hmake : ∀ kind, (kind = 1 ∨ kind = 2) → D.domain_Make 2001 (⟨p, 0, 0⟩ : Seat) kind = D.domain_claim 2001 2001 ⟨p, 0, 0⟩ kind 0 := by
    rintro kind (rfl | rfl) <;> rfl
  refine loop_inv (fun o => o = some true) (fun (i : Nat) (x : Bool × Int × Mem) => x.2.1 = (i : Int) ∧ KindsI p i x.2.2.ws) p.domains.toNat 2000 ⟨rfl, h0⟩ (by omega) ?_ ?_
  · rintro i ⟨b, x, M1⟩ hi ⟨rfl, hK⟩
    simp only at hK ⊢
    rw [show decide ((i : Int) < p.domains) = true from by simp; omega]
    simp only [cond_true]
    obtain ⟨ws', hr, hK'⟩ := claim_map hp (s := ⟨p, 0, 0⟩) rfl hK (by omega) 2001 (2001 - i) (by omega)
    have hr2 := claim_skip hp (s := ⟨p, 0, 0⟩) rfl hK (by omega) 2 2001 i 0 2001 (by omega) (by omega) (by omega) hr
    obtain ⟨c, hc⟩ := runR (fu := 2000) (most := 99) (M := M1) hr2 (by omega) (by omega) (by omega)
    rw [hmake 2 (.inr rfl), hc]
    simp only [Option.bind_some, Bool.not_true, cond_false]
    rw [wrapu_id (x := (i : Int)) (by omega) (by omega), wrap_small (show -1000000 ≤ (i : Int) + 3 by omega) (by omega), wrap_small (show -1000000 ≤ (i : Int) + 1 by omega) (by omega)]
    rw [show (!((⟨0, (i : Int)⟩ : Res) == ⟨0, (i : Int)⟩)) = false from by simp, show ((((3 + i : Nat)) : Int) != (i : Int) + 3) = false from by simp; omega]
    exact ⟨_, rfl, by simp, hK'⟩
  · rintro ⟨b, x, M1⟩ ⟨rfl, hK⟩
    simp only at hK ⊢
    rw [show decide ((p.domains.toNat : Int) < p.domains) = false from by simp; omega]
    refine ⟨_, rfl, ?_⟩
    have hr := claim_full hp (s := ⟨p, 0, 0⟩) (ws := M1.ws) rfl (i := p.domains.toNat) (by omega) 1 2001 (2001 - p.domains.toNat) (by omega)
    have hr2 := claim_skip hp (s := ⟨p, 0, 0⟩) rfl hK (by omega) 1 2001 p.domains.toNat 0 2001 (by omega) (by omega) (by omega) hr
    obtain ⟨c, hc⟩ := runR (fu := 2000) (most := 99) (M := M1) hr2 (by omega) (by omega) (by omega)
    simp only
    rw [hmake 1 (.inl rfl), hc]
    simp only [Option.bind_some, cond_true]
    rw [show ((⟨8, 0⟩ : Res) == ⟨8, 0⟩) = true from rfl]
    simp only [cond_true, Option.bind_some]
    rw [show ((((0 + p.domains.toNat : Nat)) : Int) == p.domains) = true from by simp; omega]

end Go.Proofs.YtjkinpbfmihhdaaGreat
