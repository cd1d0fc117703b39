/- Some of our texts, one behind the other. -/
import Derived.Test.YtjkinpbfmihhdaaGreatDaM10
import Derived.Test.YtjkinpbfmihhdaaGreatDaM2
set_option linter.all false
/- Written by a program of ours (wip/gen.py): domains -/
set_option linter.unusedVariables false
set_option maxRecDepth 20000
set_option maxHeartbeats 2000000
namespace Go.Proofs.YtjkinpbfmihhdaaGreat
open Go.RowKit
theorem cl104 : callable Tryz.prog 104 = true := by kernel_rfl

theorem cl145 : callable Tryz.prog 145 = true := by kernel_rfl

theorem cl202 : callable Tryz.prog 202 = true := by kernel_rfl

theorem cl203 : callable Tryz.prog 203 = true := by kernel_rfl

theorem cl299 : callable Tryz.prog 299 = true := by kernel_rfl

theorem cl300 : callable Tryz.prog 300 = true := by kernel_rfl

theorem cl301 : callable Tryz.prog 301 = true := by kernel_rfl

theorem cl303 : callable Tryz.prog 303 = true := by kernel_rfl

theorem cl304 : callable Tryz.prog 304 = true := by kernel_rfl

theorem cl361 : callable Tryz.prog 361 = true := by kernel_rfl

theorem fo32_0 : fieldOff Tryz.prog 32 0 0 = true := by kernel_rfl

def D.domain_fail (a0 : Int) : T Res := (D.prog_Done_Res (⟨a0, 0⟩ : Res))

theorem c_domain_fail {n : Nat} {F : Nat → Prop} {w0 : World} (hF : ∀ b, F b → b < w0.heap.size)
    (a0 : Int) :
    Calls Tryz.prog 202 #[.int .i64 a0] w0 (RepRes Tryz.prog encRes n (D.domain_fail a0) F w0) := by
 refine enter Tryz.func202 rfl 6 rfl rfl fun fr r => ?_
 have hB := Below.refl w0.heap.size w0
 refine wsr ?_
 refine seq_new (.cells (progCells false encRes.zero 0 0 0 0 .nilFunc) 39 (0, 0)) r (fun R => y_alloc tz39) rfl fun fr b1 w2 n3 r => ?_
 obtain ⟨e_b1, z_w2, h_b1, hB, zB⟩ := n3.all hB
 refine wn ?_
 refine wsr ?_
 refine seq_val (I a0) r (fun R => y_move r rfl) rfl fun fr r => ?_
 refine seq_val (.agg (resC (⟨a0, 0⟩ : Res)).toArray) r (fun R => y_build r (by kernel_rfl)) rfl fun fr r => ?_
 have hF1 := fgrow hF hB b1
 refine seq_call r (c_prog_Done_Res (F := (fun b => F b ∨ (w0.heap.size ≤ b ∧ b < w2.heap.size ∧ b ≠ b1))) (n := n) hF1 (⟨a0, 0⟩ : Res)) (fun R hc => y_call r rfl cl211 hc) rfl ?_
 rintro _ w4 ⟨v5, rfl, hb, hr6⟩
 refine ⟨_, rfl, fun fr r => ?_⟩
 have z_w4 := hb.size
 have h_b1 := keep hb h_b1
 obtain ⟨hB, zB⟩ := bon hb hB
 refine seq_upd (.cells v5.cells 39 (0, 0)) r (fun R => y_storep r hr6.shape rfl rfl h_b1 ts39 rfl) rfl fun fr w7 u8 r => ?_
 have z_w7 := u8.size
 have h_b1 := u8.at_
 obtain ⟨hB, zB⟩ := u8.on hB (by omega)
 refine wn ?_
 refine wp_ret ?_
 have hs := hr6.shape.cells
 refine ret_cell r rfl rfl h_b1 (k := 8) hs.1 ta39 ?_
 rw [← hs.2.2]
 exact rfin hF hB hr6 u8 (by omega) (by omega) (by omega)

def D.domain_named_1 (c0 : Int) : T Res := (D.prog_Done_Res (⟨0, (IntKind.u64.wrap c0)⟩ : Res))

theorem c_domain_named_1 {n : Nat} {F : Nat → Prop} {w0 : World} (hF : ∀ b, F b → b < w0.heap.size)
    (c0 : Int) {c0_b : Nat} (c0_F : F c0_b) (c0_h : w0.heap[c0_b]? = some (.cells ([(.int .i64 c0)]).toArray 3 (0, 0))) :
    Calls Tryz.prog 361 #[.pointer (some ⟨c0_b, 0, none⟩)] w0 (RepRes Tryz.prog encRes n (D.domain_named_1 c0) F w0) := by
 refine enter Tryz.func361 rfl 6 rfl rfl fun fr r => ?_
 have hB := Below.refl w0.heap.size w0
 have l_c0_b := lt_of_block c0_h
 refine wsr ?_
 refine seq_new (.cells (progCells false encRes.zero 0 0 0 0 .nilFunc) 39 (0, 0)) r (fun R => y_alloc tz39) rfl fun fr b1 w2 n3 r => ?_
 obtain ⟨e_b1, z_w2, h_b1, hB, zB⟩ := n3.all hB
 refine wn ?_
 refine wsr ?_
 refine seq_val (I c0) r (fun R => y_load_one r rfl (keep hB c0_h) to3 rfl) rfl fun fr r => ?_
 refine seq_val (U (V c0)) r (fun R => y_convert r rfl ti3 ti22) rfl fun fr r => ?_
 refine seq_val (.agg (resC (⟨0, (V c0)⟩ : Res)).toArray) r (fun R => y_build r (by kernel_rfl)) rfl fun fr r => ?_
 have hF1 := fgrow hF hB b1
 refine seq_call r (c_prog_Done_Res (F := (fun b => F b ∨ (w0.heap.size ≤ b ∧ b < w2.heap.size ∧ b ≠ b1))) (n := n) hF1 (⟨0, (V c0)⟩ : Res)) (fun R hc => y_call r rfl cl211 hc) rfl ?_
 rintro _ w4 ⟨v5, rfl, hb, hr6⟩
 refine ⟨_, rfl, fun fr r => ?_⟩
 have z_w4 := hb.size
 have h_b1 := keep hb h_b1
 obtain ⟨hB, zB⟩ := bon hb hB
 refine seq_upd (.cells v5.cells 39 (0, 0)) r (fun R => y_storep r hr6.shape rfl rfl h_b1 ts39 rfl) rfl fun fr w7 u8 r => ?_
 have z_w7 := u8.size
 have h_b1 := u8.at_
 obtain ⟨hB, zB⟩ := u8.on hB (by omega)
 refine wn ?_
 refine wp_ret ?_
 have hs := hr6.shape.cells
 refine ret_cell r rfl rfl h_b1 (k := 8) hs.1 ta39 ?_
 rw [← hs.2.2]
 exact rfin hF hB hr6 u8 (by omega) (by omega) (by omega)

def D.domain_named (a0 : Seat) (a1 : Int) (a2 : Int) : T Res := (D.prog_Store_Res (D.plan_Plan_Kind a0.p a2) (IntKind.u64.wrap a1) (fun _ => (D.domain_named_1 a2)))

theorem c_domain_named {n : Nat} {F : Nat → Prop} {w0 : World} (hF : ∀ b, F b → b < w0.heap.size)
    (a0 : Seat) (a1 : Int) (a2 : Int) :
    Calls Tryz.prog 301 #[.agg (seatC a0).toArray, .int .i64 a1, .int .i64 a2] w0 (RepRes Tryz.prog encRes n (D.domain_named a0 a1 a2) F w0) := by
 refine enter Tryz.func301 rfl 15 rfl rfl fun fr r => ?_
 have hB := Below.refl w0.heap.size w0
 refine wsr ?_
 refine seq_new (.cells ((seatC a0)).toArray 29 (0, 0)) r (fun R => y_box r (v := (.agg (seatC a0).toArray)) rfl) rfl fun fr b1 w2 n3 r => ?_
 obtain ⟨e_b1, z_w2, h_b1, hB, zB⟩ := n3.all hB
 refine seq_new (.cells #[(I a2)] 3 (0, 0)) r (fun R => y_box r (v := (I a2)) rfl) rfl fun fr b4 w5 n6 r => ?_
 have h_b1 := keep n6.below h_b1
 obtain ⟨e_b4, z_w5, h_b4, hB, zB⟩ := n6.all hB
 refine seq_new (.cells (progCells false encRes.zero 0 0 0 0 .nilFunc) 39 (0, 0)) r (fun R => y_alloc tz39) rfl fun fr b7 w8 n9 r => ?_
 have h_b1 := keep n9.below h_b1
 have h_b4 := keep n9.below h_b4
 obtain ⟨e_b7, z_w8, h_b7, hB, zB⟩ := n9.all hB
 refine wn ?_
 refine wsr ?_
 refine seq_val _ r (fun R => y_fieldAddr r (o := 0) rfl fo29_0) rfl fun fr r => ?_
 refine seq_val (.agg (planC a0.p).toArray) r (fun R => y_load_agg r (cs := (planC a0.p)) (n := 6) rfl h_b1 ta25 rfl) rfl fun fr r => ?_
 refine seq_val (I a2) r (fun R => y_load_one r rfl h_b4 to3 rfl) rfl fun fr r => ?_
 refine seq_call r (c_plan_Plan_Kind w8 a0.p a2) (fun R hc => y_call r rfl cl104 hc) rfl ?_
 rintro _ w10 ⟨rfl, hb⟩
 refine ⟨_, rfl, fun fr r => ?_⟩
 have z_w10 := hb.size
 have h_b1 := keep hb h_b1
 have h_b4 := keep hb h_b4
 have h_b7 := keep hb h_b7
 obtain ⟨hB, zB⟩ := bon hb hB
 refine seq_val (I a1) r (fun R => y_move r rfl) rfl fun fr r => ?_
 refine seq_val (U (V a1)) r (fun R => y_convert r rfl ti3 ti22) rfl fun fr r => ?_
 refine seq_val (.func (.func 361) #[] #[.pointer (some ⟨b4, 0, none⟩)]) r (fun R => y_makeFunc r rfl) rfl fun fr r => ?_
 have hF1 := fgrow hF hB b7
 have f11 : ((fun b => F b ∨ (w0.heap.size ≤ b ∧ b < w10.heap.size ∧ b ≠ b7))) b4 := (.inr ⟨by omega, by omega, by omega⟩)
 refine seq_call r (c_prog_Store_Res (F := (fun b => F b ∨ (w0.heap.size ≤ b ∧ b < w10.heap.size ∧ b ≠ b7))) (n := n) hF1 (D.plan_Plan_Kind a0.p a2) (V a1) ⟨361, [], [.pointer (some ⟨b4, 0, none⟩)], cl361, rfl, fun m hm _ w' hs hz => c_domain_named_1 (fun b hb => Nat.lt_of_lt_of_le (hF1 b hb) hz) a2 f11 (hs.at_ f11 h_b4)⟩) (fun R hc => y_call r rfl cl120 hc) rfl ?_
 rintro _ w12 ⟨v13, rfl, hb, hr14⟩
 refine ⟨_, rfl, fun fr r => ?_⟩
 have z_w12 := hb.size
 have h_b1 := keep hb h_b1
 have h_b4 := keep hb h_b4
 have h_b7 := keep hb h_b7
 obtain ⟨hB, zB⟩ := bon hb hB
 refine seq_upd (.cells v13.cells 39 (0, 0)) r (fun R => y_storep r hr14.shape rfl rfl h_b7 ts39 rfl) rfl fun fr w15 u16 r => ?_
 have z_w15 := u16.size
 have h_b1 := u16.keep h_b1 (by omega)
 have h_b4 := u16.keep h_b4 (by omega)
 have h_b7 := u16.at_
 obtain ⟨hB, zB⟩ := u16.on hB (by omega)
 refine wn ?_
 refine wp_ret ?_
 have hs := hr14.shape.cells
 refine ret_cell r rfl rfl h_b7 (k := 8) hs.1 ta39 ?_
 rw [← hs.2.2]
 exact rfin hF hB hr14 u16 (by omega) (by omega) (by omega)

def D.domain_claim_1_1_1_1 (c0 : Res) : T Res := (D.domain_fail c0.e)

theorem c_domain_claim_1_1_1_1 {n : Nat} {F : Nat → Prop} {w0 : World} (hF : ∀ b, F b → b < w0.heap.size)
    (c0 : Res) {c0_b : Nat} (c0_F : F c0_b) (c0_h : w0.heap[c0_b]? = some (.cells ((resC c0)).toArray 32 (0, 0))) :
    Calls Tryz.prog 304 #[.pointer (some ⟨c0_b, 0, none⟩)] w0 (RepRes Tryz.prog encRes n (D.domain_claim_1_1_1_1 c0) F w0) := by
 refine enter Tryz.func304 rfl 5 rfl rfl fun fr r => ?_
 have hB := Below.refl w0.heap.size w0
 have l_c0_b := lt_of_block c0_h
 refine wsr ?_
 refine seq_new (.cells (progCells false encRes.zero 0 0 0 0 .nilFunc) 39 (0, 0)) r (fun R => y_alloc tz39) rfl fun fr b1 w2 n3 r => ?_
 obtain ⟨e_b1, z_w2, h_b1, hB, zB⟩ := n3.all hB
 refine wn ?_
 refine wsr ?_
 refine seq_val _ r (fun R => y_fieldAddr r (o := 0) rfl fo32_0) rfl fun fr r => ?_
 refine seq_val (I c0.e) r (fun R => y_load_one r rfl (keep hB c0_h) to30 rfl) rfl fun fr r => ?_
 have hF1 := fgrow hF hB b1
 refine seq_call r (c_domain_fail (F := (fun b => F b ∨ (w0.heap.size ≤ b ∧ b < w2.heap.size ∧ b ≠ b1))) (n := n) hF1 c0.e) (fun R hc => y_call r rfl cl202 hc) rfl ?_
 rintro _ w4 ⟨v5, rfl, hb, hr6⟩
 refine ⟨_, rfl, fun fr r => ?_⟩
 have z_w4 := hb.size
 have h_b1 := keep hb h_b1
 obtain ⟨hB, zB⟩ := bon hb hB
 refine seq_upd (.cells v5.cells 39 (0, 0)) r (fun R => y_storep r hr6.shape rfl rfl h_b1 ts39 rfl) rfl fun fr w7 u8 r => ?_
 have z_w7 := u8.size
 have h_b1 := u8.at_
 obtain ⟨hB, zB⟩ := u8.on hB (by omega)
 refine wn ?_
 refine wp_ret ?_
 have hs := hr6.shape.cells
 refine ret_cell r rfl rfl h_b1 (k := 8) hs.1 ta39 ?_
 rw [← hs.2.2]
 exact rfin hF hB hr6 u8 (by omega) (by omega) (by omega)

def D.domain_claim_1_1_1 (c0 : Int) (c1 : Seat) (c2 : Int) (c3 : Int) (a0 : Res) : T Res := (bif (a0.e != 0) then (D.prog_Store_Res c0 0 (fun _ => (D.domain_claim_1_1_1_1 a0))) else (D.domain_named c1 c2 c3))

theorem c_domain_claim_1_1_1 {n : Nat} {F : Nat → Prop} {w0 : World} (hF : ∀ b, F b → b < w0.heap.size)
    (c0 : Int) {c0_b : Nat} (c0_F : F c0_b) (c0_h : w0.heap[c0_b]? = some (.cells ([(.int .i64 c0)]).toArray 3 (0, 0))) (c1 : Seat) {c1_b : Nat} (c1_F : F c1_b) (c1_h : w0.heap[c1_b]? = some (.cells ((seatC c1)).toArray 29 (0, 0))) (c2 : Int) {c2_b : Nat} (c2_F : F c2_b) (c2_h : w0.heap[c2_b]? = some (.cells ([(.int .i64 c2)]).toArray 3 (0, 0))) (c3 : Int) {c3_b : Nat} (c3_F : F c3_b) (c3_h : w0.heap[c3_b]? = some (.cells ([(.int .i64 c3)]).toArray 3 (0, 0))) (a0 : Res) :
    Calls Tryz.prog 303 #[.agg (resC a0).toArray, .pointer (some ⟨c0_b, 0, none⟩), .pointer (some ⟨c1_b, 0, none⟩), .pointer (some ⟨c2_b, 0, none⟩), .pointer (some ⟨c3_b, 0, none⟩)] w0 (RepRes Tryz.prog encRes n (D.domain_claim_1_1_1 c0 c1 c2 c3 a0) F w0) := by
 refine enter Tryz.func303 rfl 17 rfl rfl fun fr r => ?_
 have hB := Below.refl w0.heap.size w0
 have l_c0_b := lt_of_block c0_h
 have l_c1_b := lt_of_block c1_h
 have l_c2_b := lt_of_block c2_h
 have l_c3_b := lt_of_block c3_h
 refine wsr ?_
 refine seq_new (.cells ((resC a0)).toArray 32 (0, 0)) r (fun R => y_box r (v := (.agg (resC a0).toArray)) rfl) rfl fun fr b1 w2 n3 r => ?_
 obtain ⟨e_b1, z_w2, h_b1, hB, zB⟩ := n3.all hB
 refine seq_new (.cells (progCells false encRes.zero 0 0 0 0 .nilFunc) 39 (0, 0)) r (fun R => y_alloc tz39) rfl fun fr b4 w5 n6 r => ?_
 have h_b1 := keep n6.below h_b1
 obtain ⟨e_b4, z_w5, h_b4, hB, zB⟩ := n6.all hB
 refine wn ?_
 refine wp_seq ?_
 refine wsr ?_
 refine seq_val _ r (fun R => y_fieldAddr r (o := 0) rfl fo32_0) rfl fun fr r => ?_
 refine seq_val (I a0.e) r (fun R => y_load_one r rfl h_b1 to30 rfl) rfl fun fr r => ?_
 refine seq_val _ r (fun R => y_bin r rfl rfl rfl rfl) rfl fun fr r => ?_
 refine wn ?_
 refine wp_cond_split (t := (a0.e != 0)) (r.ev rfl) (fun h7 => ?_) (fun h7 => ?_)
 ·
  refine wsr ?_
  refine seq_val (I c0) r (fun R => y_load_one r rfl (keep hB c0_h) to3 rfl) rfl fun fr r => ?_
  refine seq_val (.func (.func 304) #[] #[.pointer (some ⟨b1, 0, none⟩)]) r (fun R => y_makeFunc r rfl) rfl fun fr r => ?_
  have hF1 := fgrow hF hB b4
  have f8 : ((fun b => F b ∨ (w0.heap.size ≤ b ∧ b < w5.heap.size ∧ b ≠ b4))) b1 := (.inr ⟨by omega, by omega, by omega⟩)
  refine seq_call r (c_prog_Store_Res (F := (fun b => F b ∨ (w0.heap.size ≤ b ∧ b < w5.heap.size ∧ b ≠ b4))) (n := n) hF1 c0 0 ⟨304, [], [.pointer (some ⟨b1, 0, none⟩)], cl304, rfl, fun m hm _ w' hs hz => c_domain_claim_1_1_1_1 (fun b hb => Nat.lt_of_lt_of_le (hF1 b hb) hz) a0 f8 (hs.at_ f8 h_b1)⟩) (fun R hc => y_call r rfl cl120 hc) rfl ?_
  rintro _ w9 ⟨v10, rfl, hb, hr11⟩
  refine ⟨_, rfl, fun fr r => ?_⟩
  have z_w9 := hb.size
  have h_b1 := keep hb h_b1
  have h_b4 := keep hb h_b4
  obtain ⟨hB, zB⟩ := bon hb hB
  refine seq_upd (.cells v10.cells 39 (0, 0)) r (fun R => y_storep r hr11.shape rfl rfl h_b4 ts39 rfl) rfl fun fr w12 u13 r => ?_
  have z_w12 := u13.size
  have h_b1 := u13.keep h_b1 (by omega)
  have h_b4 := u13.at_
  obtain ⟨hB, zB⟩ := u13.on hB (by omega)
  refine wn ?_
  refine wp_ret ?_
  have hd : D.domain_claim_1_1_1 c0 c1 c2 c3 a0 = (D.prog_Store_Res c0 0 (fun _ => (D.domain_claim_1_1_1_1 a0))) := (cond_t h7).trans (rfl)
  have hs := hr11.shape.cells
  refine ret_cell r rfl rfl h_b4 (k := 8) hs.1 ta39 ?_
  rw [← hs.2.2, hd]
  exact rfin hF hB hr11 u13 (by omega) (by omega) (by omega)
 ·
  refine wp_skip ?_
  refine wsr ?_
  refine seq_val (.agg (seatC c1).toArray) r (fun R => y_load_agg r (cs := (seatC c1)) (n := 8) rfl (keep hB c1_h) ta29 rfl) rfl fun fr r => ?_
  refine seq_val (I c2) r (fun R => y_load_one r rfl (keep hB c2_h) to3 rfl) rfl fun fr r => ?_
  refine seq_val (I c3) r (fun R => y_load_one r rfl (keep hB c3_h) to3 rfl) rfl fun fr r => ?_
  have hF1 := fgrow hF hB b4
  refine seq_call r (c_domain_named (F := (fun b => F b ∨ (w0.heap.size ≤ b ∧ b < w5.heap.size ∧ b ≠ b4))) (n := n) hF1 c1 c2 c3) (fun R hc => y_call r rfl cl301 hc) rfl ?_
  rintro _ w14 ⟨v15, rfl, hb, hr16⟩
  refine ⟨_, rfl, fun fr r => ?_⟩
  have z_w14 := hb.size
  have h_b1 := keep hb h_b1
  have h_b4 := keep hb h_b4
  obtain ⟨hB, zB⟩ := bon hb hB
  refine seq_upd (.cells v15.cells 39 (0, 0)) r (fun R => y_storep r hr16.shape rfl rfl h_b4 ts39 rfl) rfl fun fr w17 u18 r => ?_
  have z_w17 := u18.size
  have h_b1 := u18.keep h_b1 (by omega)
  have h_b4 := u18.at_
  obtain ⟨hB, zB⟩ := u18.on hB (by omega)
  refine wn ?_
  refine wp_ret ?_
  have hd : D.domain_claim_1_1_1 c0 c1 c2 c3 a0 = (D.domain_named c1 c2 c3) := (cond_f h7).trans (rfl)
  have hs := hr16.shape.cells
  refine ret_cell r rfl rfl h_b4 (k := 8) hs.1 ta39 ?_
  rw [← hs.2.2, hd]
  exact rfin hF hB hr16 u18 (by omega) (by omega) (by omega)

def D.domain_claim_1_1 (j : Nat) (r_domain_claim : Seat → Int → Int → T Res) (c0 : Seat) (c1 : Int) (c2 : Int) (c3 : Int) (a0 : Bool) : T Res := (bif (!a0) then (r_domain_claim c0 c1 (IntKind.i64.wrap (c2 + 1))) else (bif (c1 == 2) then (D.domain_named c0 c1 c2) else (T.bind (D.queue_Make j c0 c2) (fun x => (D.domain_claim_1_1_1 c3 c0 c1 c2 x)))))

def D.domain_claim_1 (j : Nat) (r_domain_claim : Seat → Int → Int → T Res) (c0 : Seat) (c1 : Int) (c2 : Int) (c3 : Int) (a0 : Int) : T Res := (bif (a0 != 0) then (r_domain_claim c0 c1 (IntKind.i64.wrap (c2 + 1))) else (D.prog_Swap_Res c3 0 3 (fun x => (D.domain_claim_1_1 j r_domain_claim c0 c1 c2 c3 x))))

def D.domain_claim_body (j : Nat) (r_domain_claim : Seat → Int → Int → T Res) (a0 : Seat) (a1 : Int) (a2 : Int) : T Res := (bif (a2 == a0.p.domains) then (D.domain_fail 8) else (D.prog_Load_Res (D.plan_Plan_Kind a0.p a2) (fun x => (D.domain_claim_1 j r_domain_claim a0 a1 a2 (D.plan_Plan_Kind a0.p a2) x))))

def D.domain_claim (j : Nat) : Nat → Seat → Int → Int → T Res
  | 0, _, _, _ => .cut
  | k + 1, a0, a1, a2 => D.domain_claim_body j (D.domain_claim j k) a0 a1 a2

def Spec_domain_claim (r : Seat → Int → Int → T Res) (n : Nat) : Prop := ∀ (F : Nat → Prop) (w0 : World), (∀ b, F b → b < w0.heap.size) → ∀ (a0 : Seat) (a1 : Int) (a2 : Int), Calls Tryz.prog 203 #[.agg (seatC a0).toArray, .int .i64 a1, .int .i64 a2] w0 (RepRes Tryz.prog encRes n (r a0 a1 a2) F w0)

theorem c_domain_claim_1_1 {n : Nat} {F : Nat → Prop} {j : Nat} {r_domain_claim : Seat → Int → Int → T Res} {w0 : World} (hF : ∀ b, F b → b < w0.heap.size) (hj : n < j) (ih_domain_claim : ∀ m, m ≤ n → Spec_domain_claim r_domain_claim m)
    (c0 : Seat) {c0_b : Nat} (c0_F : F c0_b) (c0_h : w0.heap[c0_b]? = some (.cells ((seatC c0)).toArray 29 (0, 0))) (c1 : Int) {c1_b : Nat} (c1_F : F c1_b) (c1_h : w0.heap[c1_b]? = some (.cells ([(.int .i64 c1)]).toArray 3 (0, 0))) (c2 : Int) {c2_b : Nat} (c2_F : F c2_b) (c2_h : w0.heap[c2_b]? = some (.cells ([(.int .i64 c2)]).toArray 3 (0, 0))) (c3 : Int) {c3_b : Nat} (c3_F : F c3_b) (c3_h : w0.heap[c3_b]? = some (.cells ([(.int .i64 c3)]).toArray 3 (0, 0))) (a0 : Bool) :
    Calls Tryz.prog 300 #[.bool a0, .pointer (some ⟨c0_b, 0, none⟩), .pointer (some ⟨c1_b, 0, none⟩), .pointer (some ⟨c2_b, 0, none⟩), .pointer (some ⟨c3_b, 0, none⟩)] w0 (RepRes Tryz.prog encRes n (D.domain_claim_1_1 j r_domain_claim c0 c1 c2 c3 a0) F w0) := by
 refine enter Tryz.func300 rfl 27 rfl rfl fun fr r => ?_
 have hB := Below.refl w0.heap.size w0
 have l_c0_b := lt_of_block c0_h
 have l_c1_b := lt_of_block c1_h
 have l_c2_b := lt_of_block c2_h
 have l_c3_b := lt_of_block c3_h
 refine wsr ?_
 refine seq_new (.cells (progCells false encRes.zero 0 0 0 0 .nilFunc) 39 (0, 0)) r (fun R => y_alloc tz39) rfl fun fr b1 w2 n3 r => ?_
 obtain ⟨e_b1, z_w2, h_b1, hB, zB⟩ := n3.all hB
 refine wn ?_
 refine wp_seq ?_
 refine wp_block ?_
 refine wsr ?_
 refine seq_val (.bool a0) r (fun R => y_move r rfl) rfl fun fr r => ?_
 refine seq_val (.bool (!a0)) r (fun R => y_un r (u := (.bool a0)) rfl rfl) rfl fun fr r => ?_
 refine seq_val (.bool (!a0)) r (fun R => y_assign r rfl) rfl fun fr r => ?_
 refine wn ?_
 refine wp_cond_split (t := (!a0)) (r.ev rfl) (fun h4 => ?_) (fun h4 => ?_)
 ·
  refine wsr ?_
  refine seq_val (.agg (seatC c0).toArray) r (fun R => y_load_agg r (cs := (seatC c0)) (n := 8) rfl (keep hB c0_h) ta29 rfl) rfl fun fr r => ?_
  refine seq_val (I c1) r (fun R => y_load_one r rfl (keep hB c1_h) to3 rfl) rfl fun fr r => ?_
  refine seq_val (I c2) r (fun R => y_load_one r rfl (keep hB c2_h) to3 rfl) rfl fun fr r => ?_
  refine seq_val _ r (fun R => y_bin r rfl rfl rfl rfl) rfl fun fr r => ?_
  have hF1 := fgrow hF hB b1
  refine seq_call r ((ih_domain_claim n (by omega)) (fun b => F b ∨ (w0.heap.size ≤ b ∧ b < w2.heap.size ∧ b ≠ b1)) _ hF1 c0 c1 (W (c2 + 1))) (fun R hc => y_call r rfl cl203 hc) rfl ?_
  rintro _ w5 ⟨v6, rfl, hb, hr7⟩
  refine ⟨_, rfl, fun fr r => ?_⟩
  have z_w5 := hb.size
  have h_b1 := keep hb h_b1
  obtain ⟨hB, zB⟩ := bon hb hB
  refine seq_upd (.cells v6.cells 39 (0, 0)) r (fun R => y_storep r hr7.shape rfl rfl h_b1 ts39 rfl) rfl fun fr w8 u9 r => ?_
  have z_w8 := u9.size
  have h_b1 := u9.at_
  obtain ⟨hB, zB⟩ := u9.on hB (by omega)
  refine wn ?_
  refine wp_ret ?_
  have hd : D.domain_claim_1_1 j r_domain_claim c0 c1 c2 c3 a0 = (r_domain_claim c0 c1 (W (c2 + 1))) := (cond_t h4).trans (rfl)
  have hs := hr7.shape.cells
  refine ret_cell r rfl rfl h_b1 (k := 8) hs.1 ta39 ?_
  rw [← hs.2.2, hd]
  exact rfin hF hB hr7 u9 (by omega) (by omega) (by omega)
 ·
  refine wsr ?_
  refine seq_val (I c1) r (fun R => y_load_one r rfl (keep hB c1_h) to3 rfl) rfl fun fr r => ?_
  refine seq_val _ r (fun R => y_bin r rfl rfl rfl rfl) rfl fun fr r => ?_
  refine seq_val (.bool (c1 == 2)) r (fun R => y_assign r rfl) rfl fun fr r => ?_
  refine wn ?_
  refine wp_cond_split (t := (c1 == 2)) (r.ev rfl) (fun h10 => ?_) (fun h10 => ?_)
  ·
   refine wsr ?_
   refine seq_val (.agg (seatC c0).toArray) r (fun R => y_load_agg r (cs := (seatC c0)) (n := 8) rfl (keep hB c0_h) ta29 rfl) rfl fun fr r => ?_
   refine seq_val (I c1) r (fun R => y_load_one r rfl (keep hB c1_h) to3 rfl) rfl fun fr r => ?_
   refine seq_val (I c2) r (fun R => y_load_one r rfl (keep hB c2_h) to3 rfl) rfl fun fr r => ?_
   have hF1 := fgrow hF hB b1
   refine seq_call r (c_domain_named (F := (fun b => F b ∨ (w0.heap.size ≤ b ∧ b < w2.heap.size ∧ b ≠ b1))) (n := n) hF1 c0 c1 c2) (fun R hc => y_call r rfl cl301 hc) rfl ?_
   rintro _ w11 ⟨v12, rfl, hb, hr13⟩
   refine ⟨_, rfl, fun fr r => ?_⟩
   have z_w11 := hb.size
   have h_b1 := keep hb h_b1
   obtain ⟨hB, zB⟩ := bon hb hB
   refine seq_upd (.cells v12.cells 39 (0, 0)) r (fun R => y_storep r hr13.shape rfl rfl h_b1 ts39 rfl) rfl fun fr w14 u15 r => ?_
   have z_w14 := u15.size
   have h_b1 := u15.at_
   obtain ⟨hB, zB⟩ := u15.on hB (by omega)
   refine wn ?_
   refine wp_ret ?_
   have hd : D.domain_claim_1_1 j r_domain_claim c0 c1 c2 c3 a0 = (D.domain_named c0 c1 c2) := (cond_f h4).trans ((cond_t h10).trans (rfl))
   have hs := hr13.shape.cells
   refine ret_cell r rfl rfl h_b1 (k := 8) hs.1 ta39 ?_
   rw [← hs.2.2, hd]
   exact rfin hF hB hr13 u15 (by omega) (by omega) (by omega)
  ·
   refine wp_skip ?_
   refine wsr ?_
   refine seq_val (.agg (seatC c0).toArray) r (fun R => y_load_agg r (cs := (seatC c0)) (n := 8) rfl (keep hB c0_h) ta29 rfl) rfl fun fr r => ?_
   refine seq_val (I c2) r (fun R => y_load_one r rfl (keep hB c2_h) to3 rfl) rfl fun fr r => ?_
   have hF1 := fgrow hF hB b1
   refine seq_call r (c_queue_Make (j := j) (F := (fun b => F b ∨ (w0.heap.size ≤ b ∧ b < w2.heap.size ∧ b ≠ b1))) (n := n) hF1 (by omega) c0 c2) (fun R hc => y_call r rfl cl145 hc) rfl ?_
   rintro _ w16 ⟨v17, rfl, hb, hr18⟩
   refine ⟨_, rfl, fun fr r => ?_⟩
   have z_w16 := hb.size
   have h_b1 := keep hb h_b1
   obtain ⟨hB, zB⟩ := bon hb hB
   refine seq_val (.func (.func 303) #[] #[.pointer (some ⟨c3_b, 0, none⟩), .pointer (some ⟨c0_b, 0, none⟩), .pointer (some ⟨c1_b, 0, none⟩), .pointer (some ⟨c2_b, 0, none⟩)]) r (fun R => y_makeFunc r rfl) rfl fun fr r => ?_
   have hF1 := fgrow hF hB b1
   have f19 : ((fun b => F b ∨ (w0.heap.size ≤ b ∧ b < w16.heap.size ∧ b ≠ b1))) c3_b := (.inl c3_F)
   have f20 : ((fun b => F b ∨ (w0.heap.size ≤ b ∧ b < w16.heap.size ∧ b ≠ b1))) c0_b := (.inl c0_F)
   have f21 : ((fun b => F b ∨ (w0.heap.size ≤ b ∧ b < w16.heap.size ∧ b ≠ b1))) c1_b := (.inl c1_F)
   have f22 : ((fun b => F b ∨ (w0.heap.size ≤ b ∧ b < w16.heap.size ∧ b ≠ b1))) c2_b := (.inl c2_F)
   refine seq_call r (c_prog_Then_Res_Res_le (F := (fun b => F b ∨ (w0.heap.size ≤ b ∧ b < w16.heap.size ∧ b ≠ b1))) (n := n) hF1 (Rep.mono (by rintro b (h | h); (rcases h with h | ⟨h1, h2, h3⟩; exact .inl h; exact .inr ⟨h1, by omega, h3⟩); exact .inr ⟨by omega, by omega, by omega⟩) (Same.refl _ _) (by omega) n _ _ hr18) ⟨303, [], [.pointer (some ⟨c3_b, 0, none⟩), .pointer (some ⟨c0_b, 0, none⟩), .pointer (some ⟨c1_b, 0, none⟩), .pointer (some ⟨c2_b, 0, none⟩)], cl303, rfl, fun m hm x w' hs hz => c_domain_claim_1_1_1 (fun b hb => Nat.lt_of_lt_of_le (hF1 b hb) hz) c3 f19 (hs.at_ f19 (keep hB c3_h)) c0 f20 (hs.at_ f20 (keep hB c0_h)) c1 f21 (hs.at_ f21 (keep hB c1_h)) c2 f22 (hs.at_ f22 (keep hB c2_h)) x⟩) (fun R hc => y_call r rfl cl302 hc) rfl ?_
   rintro _ w23 ⟨v24, rfl, hb, hr25⟩
   refine ⟨_, rfl, fun fr r => ?_⟩
   have z_w23 := hb.size
   have h_b1 := keep hb h_b1
   obtain ⟨hB, zB⟩ := bon hb hB
   refine seq_upd (.cells v24.cells 39 (0, 0)) r (fun R => y_storep r hr25.shape rfl rfl h_b1 ts39 rfl) rfl fun fr w26 u27 r => ?_
   have z_w26 := u27.size
   have h_b1 := u27.at_
   obtain ⟨hB, zB⟩ := u27.on hB (by omega)
   refine wn ?_
   refine wp_ret ?_
   have hd : D.domain_claim_1_1 j r_domain_claim c0 c1 c2 c3 a0 = (T.bind (D.queue_Make j c0 c2) (fun x => (D.domain_claim_1_1_1 c3 c0 c1 c2 x))) := (cond_f h4).trans ((cond_f h10).trans (rfl))
   have hs := hr25.shape.cells
   refine ret_cell r rfl rfl h_b1 (k := 8) hs.1 ta39 ?_
   rw [← hs.2.2, hd]
   exact rfin hF hB hr25 u27 (by omega) (by omega) (by omega)

theorem c_domain_claim_1 {n : Nat} {F : Nat → Prop} {j : Nat} {r_domain_claim : Seat → Int → Int → T Res} {w0 : World} (hF : ∀ b, F b → b < w0.heap.size) (hj : n < j) (ih_domain_claim : ∀ m, m ≤ n → Spec_domain_claim r_domain_claim m)
    (c0 : Seat) {c0_b : Nat} (c0_F : F c0_b) (c0_h : w0.heap[c0_b]? = some (.cells ((seatC c0)).toArray 29 (0, 0))) (c1 : Int) {c1_b : Nat} (c1_F : F c1_b) (c1_h : w0.heap[c1_b]? = some (.cells ([(.int .i64 c1)]).toArray 3 (0, 0))) (c2 : Int) {c2_b : Nat} (c2_F : F c2_b) (c2_h : w0.heap[c2_b]? = some (.cells ([(.int .i64 c2)]).toArray 3 (0, 0))) (c3 : Int) {c3_b : Nat} (c3_F : F c3_b) (c3_h : w0.heap[c3_b]? = some (.cells ([(.int .i64 c3)]).toArray 3 (0, 0))) (a0 : Int) :
    Calls Tryz.prog 299 #[.int .u64 a0, .pointer (some ⟨c0_b, 0, none⟩), .pointer (some ⟨c1_b, 0, none⟩), .pointer (some ⟨c2_b, 0, none⟩), .pointer (some ⟨c3_b, 0, none⟩)] w0 (RepRes Tryz.prog encRes n (D.domain_claim_1 j r_domain_claim c0 c1 c2 c3 a0) F w0) := by
 refine enter Tryz.func299 rfl 17 rfl rfl fun fr r => ?_
 have hB := Below.refl w0.heap.size w0
 have l_c0_b := lt_of_block c0_h
 have l_c1_b := lt_of_block c1_h
 have l_c2_b := lt_of_block c2_h
 have l_c3_b := lt_of_block c3_h
 refine wsr ?_
 refine seq_new (.cells (progCells false encRes.zero 0 0 0 0 .nilFunc) 39 (0, 0)) r (fun R => y_alloc tz39) rfl fun fr b1 w2 n3 r => ?_
 obtain ⟨e_b1, z_w2, h_b1, hB, zB⟩ := n3.all hB
 refine wn ?_
 refine wp_seq ?_
 refine wsr ?_
 refine seq_val (U a0) r (fun R => y_move r rfl) rfl fun fr r => ?_
 refine seq_val _ r (fun R => y_bin r rfl rfl rfl rfl) rfl fun fr r => ?_
 refine wn ?_
 refine wp_cond_split (t := (a0 != 0)) (r.ev rfl) (fun h4 => ?_) (fun h4 => ?_)
 ·
  refine wsr ?_
  refine seq_val (.agg (seatC c0).toArray) r (fun R => y_load_agg r (cs := (seatC c0)) (n := 8) rfl (keep hB c0_h) ta29 rfl) rfl fun fr r => ?_
  refine seq_val (I c1) r (fun R => y_load_one r rfl (keep hB c1_h) to3 rfl) rfl fun fr r => ?_
  refine seq_val (I c2) r (fun R => y_load_one r rfl (keep hB c2_h) to3 rfl) rfl fun fr r => ?_
  refine seq_val _ r (fun R => y_bin r rfl rfl rfl rfl) rfl fun fr r => ?_
  have hF1 := fgrow hF hB b1
  refine seq_call r ((ih_domain_claim n (by omega)) (fun b => F b ∨ (w0.heap.size ≤ b ∧ b < w2.heap.size ∧ b ≠ b1)) _ hF1 c0 c1 (W (c2 + 1))) (fun R hc => y_call r rfl cl203 hc) rfl ?_
  rintro _ w5 ⟨v6, rfl, hb, hr7⟩
  refine ⟨_, rfl, fun fr r => ?_⟩
  have z_w5 := hb.size
  have h_b1 := keep hb h_b1
  obtain ⟨hB, zB⟩ := bon hb hB
  refine seq_upd (.cells v6.cells 39 (0, 0)) r (fun R => y_storep r hr7.shape rfl rfl h_b1 ts39 rfl) rfl fun fr w8 u9 r => ?_
  have z_w8 := u9.size
  have h_b1 := u9.at_
  obtain ⟨hB, zB⟩ := u9.on hB (by omega)
  refine wn ?_
  refine wp_ret ?_
  have hd : D.domain_claim_1 j r_domain_claim c0 c1 c2 c3 a0 = (r_domain_claim c0 c1 (W (c2 + 1))) := (cond_t h4).trans (rfl)
  have hs := hr7.shape.cells
  refine ret_cell r rfl rfl h_b1 (k := 8) hs.1 ta39 ?_
  rw [← hs.2.2, hd]
  exact rfin hF hB hr7 u9 (by omega) (by omega) (by omega)
 ·
  refine wp_skip ?_
  refine wsr ?_
  refine seq_val (I c3) r (fun R => y_load_one r rfl (keep hB c3_h) to3 rfl) rfl fun fr r => ?_
  refine seq_val (.func (.func 300) #[] #[.pointer (some ⟨c0_b, 0, none⟩), .pointer (some ⟨c1_b, 0, none⟩), .pointer (some ⟨c2_b, 0, none⟩), .pointer (some ⟨c3_b, 0, none⟩)]) r (fun R => y_makeFunc r rfl) rfl fun fr r => ?_
  have hF1 := fgrow hF hB b1
  have f10 : ((fun b => F b ∨ (w0.heap.size ≤ b ∧ b < w2.heap.size ∧ b ≠ b1))) c0_b := (.inl c0_F)
  have f11 : ((fun b => F b ∨ (w0.heap.size ≤ b ∧ b < w2.heap.size ∧ b ≠ b1))) c1_b := (.inl c1_F)
  have f12 : ((fun b => F b ∨ (w0.heap.size ≤ b ∧ b < w2.heap.size ∧ b ≠ b1))) c2_b := (.inl c2_F)
  have f13 : ((fun b => F b ∨ (w0.heap.size ≤ b ∧ b < w2.heap.size ∧ b ≠ b1))) c3_b := (.inl c3_F)
  refine seq_call r (c_prog_Swap_Res (F := (fun b => F b ∨ (w0.heap.size ≤ b ∧ b < w2.heap.size ∧ b ≠ b1))) (n := n) hF1 c3 0 3 ⟨300, [], [.pointer (some ⟨c0_b, 0, none⟩), .pointer (some ⟨c1_b, 0, none⟩), .pointer (some ⟨c2_b, 0, none⟩), .pointer (some ⟨c3_b, 0, none⟩)], cl300, rfl, fun m hm x w' hs hz => c_domain_claim_1_1 (j := j) (fun b hb => Nat.lt_of_lt_of_le (hF1 b hb) hz) (by omega) (fun m' hm' => ih_domain_claim m' (by omega)) c0 f10 (hs.at_ f10 (keep hB c0_h)) c1 f11 (hs.at_ f11 (keep hB c1_h)) c2 f12 (hs.at_ f12 (keep hB c2_h)) c3 f13 (hs.at_ f13 (keep hB c3_h)) x⟩) (fun R hc => y_call r rfl cl125 hc) rfl ?_
  rintro _ w14 ⟨v15, rfl, hb, hr16⟩
  refine ⟨_, rfl, fun fr r => ?_⟩
  have z_w14 := hb.size
  have h_b1 := keep hb h_b1
  obtain ⟨hB, zB⟩ := bon hb hB
  refine seq_upd (.cells v15.cells 39 (0, 0)) r (fun R => y_storep r hr16.shape rfl rfl h_b1 ts39 rfl) rfl fun fr w17 u18 r => ?_
  have z_w17 := u18.size
  have h_b1 := u18.at_
  obtain ⟨hB, zB⟩ := u18.on hB (by omega)
  refine wn ?_
  refine wp_ret ?_
  have hd : D.domain_claim_1 j r_domain_claim c0 c1 c2 c3 a0 = (D.prog_Swap_Res c3 0 3 (fun x => (D.domain_claim_1_1 j r_domain_claim c0 c1 c2 c3 x))) := (cond_f h4).trans (rfl)
  have hs := hr16.shape.cells
  refine ret_cell r rfl rfl h_b1 (k := 8) hs.1 ta39 ?_
  rw [← hs.2.2, hd]
  exact rfin hF hB hr16 u18 (by omega) (by omega) (by omega)

theorem b_domain_claim {n : Nat} {F : Nat → Prop} {j : Nat} {r_domain_claim : Seat → Int → Int → T Res} {w0 : World} (hF : ∀ b, F b → b < w0.heap.size) (hj : n < j) (ih_domain_claim : ∀ m, m < n → Spec_domain_claim r_domain_claim m)
    (a0 : Seat) (a1 : Int) (a2 : Int) :
    Calls Tryz.prog 203 #[.agg (seatC a0).toArray, .int .i64 a1, .int .i64 a2] w0 (RepRes Tryz.prog encRes n (D.domain_claim_body j r_domain_claim a0 a1 a2) F w0) := by
 refine enter Tryz.func203 rfl 21 rfl rfl fun fr r => ?_
 have hB := Below.refl w0.heap.size w0
 refine wsr ?_
 refine seq_new (.cells ((seatC a0)).toArray 29 (0, 0)) r (fun R => y_box r (v := (.agg (seatC a0).toArray)) rfl) rfl fun fr b1 w2 n3 r => ?_
 obtain ⟨e_b1, z_w2, h_b1, hB, zB⟩ := n3.all hB
 refine seq_new (.cells #[(I a1)] 3 (0, 0)) r (fun R => y_box r (v := (I a1)) rfl) rfl fun fr b4 w5 n6 r => ?_
 have h_b1 := keep n6.below h_b1
 obtain ⟨e_b4, z_w5, h_b4, hB, zB⟩ := n6.all hB
 refine seq_new (.cells #[(I a2)] 3 (0, 0)) r (fun R => y_box r (v := (I a2)) rfl) rfl fun fr b7 w8 n9 r => ?_
 have h_b1 := keep n9.below h_b1
 have h_b4 := keep n9.below h_b4
 obtain ⟨e_b7, z_w8, h_b7, hB, zB⟩ := n9.all hB
 refine seq_new (.cells (progCells false encRes.zero 0 0 0 0 .nilFunc) 39 (0, 0)) r (fun R => y_alloc tz39) rfl fun fr b10 w11 n12 r => ?_
 have h_b1 := keep n12.below h_b1
 have h_b4 := keep n12.below h_b4
 have h_b7 := keep n12.below h_b7
 obtain ⟨e_b10, z_w11, h_b10, hB, zB⟩ := n12.all hB
 refine wn ?_
 refine wp_seq ?_
 refine wsr ?_
 refine seq_val (I a2) r (fun R => y_load_one r rfl h_b7 to3 rfl) rfl fun fr r => ?_
 refine seq_val _ r (fun R => y_fieldAddr r (o := 0) rfl fo29_0) rfl fun fr r => ?_
 refine seq_val _ r (fun R => y_fieldAddr r (o := 0) rfl fo25_3) rfl fun fr r => ?_
 refine seq_val (I a0.p.domains) r (fun R => y_load_one r rfl h_b1 to3 rfl) rfl fun fr r => ?_
 refine seq_val _ r (fun R => y_bin r rfl rfl rfl rfl) rfl fun fr r => ?_
 refine wn ?_
 refine wp_cond_split (t := (a2 == a0.p.domains)) (r.ev rfl) (fun h13 => ?_) (fun h13 => ?_)
 ·
  refine wsr ?_
  have hF1 := fgrow hF hB b10
  refine seq_call r (c_domain_fail (F := (fun b => F b ∨ (w0.heap.size ≤ b ∧ b < w11.heap.size ∧ b ≠ b10))) (n := n) hF1 8) (fun R hc => y_call r rfl cl202 hc) rfl ?_
  rintro _ w14 ⟨v15, rfl, hb, hr16⟩
  refine ⟨_, rfl, fun fr r => ?_⟩
  have z_w14 := hb.size
  have h_b1 := keep hb h_b1
  have h_b4 := keep hb h_b4
  have h_b7 := keep hb h_b7
  have h_b10 := keep hb h_b10
  obtain ⟨hB, zB⟩ := bon hb hB
  refine seq_upd (.cells v15.cells 39 (0, 0)) r (fun R => y_storep r hr16.shape rfl rfl h_b10 ts39 rfl) rfl fun fr w17 u18 r => ?_
  have z_w17 := u18.size
  have h_b1 := u18.keep h_b1 (by omega)
  have h_b4 := u18.keep h_b4 (by omega)
  have h_b7 := u18.keep h_b7 (by omega)
  have h_b10 := u18.at_
  obtain ⟨hB, zB⟩ := u18.on hB (by omega)
  refine wn ?_
  refine wp_ret ?_
  have hd : D.domain_claim_body j r_domain_claim a0 a1 a2 = (D.domain_fail 8) := (cond_t h13).trans (rfl)
  have hs := hr16.shape.cells
  refine ret_cell r rfl rfl h_b10 (k := 8) hs.1 ta39 ?_
  rw [← hs.2.2, hd]
  exact rfin hF hB hr16 u18 (by omega) (by omega) (by omega)
 ·
  refine wp_skip ?_
  refine wsr ?_
  refine seq_val _ r (fun R => y_fieldAddr r (o := 0) rfl fo29_0) rfl fun fr r => ?_
  refine seq_val (.agg (planC a0.p).toArray) r (fun R => y_load_agg r (cs := (planC a0.p)) (n := 6) rfl h_b1 ta25 rfl) rfl fun fr r => ?_
  refine seq_val (I a2) r (fun R => y_load_one r rfl h_b7 to3 rfl) rfl fun fr r => ?_
  refine seq_call r (c_plan_Plan_Kind w11 a0.p a2) (fun R hc => y_call r rfl cl104 hc) rfl ?_
  rintro _ w19 ⟨rfl, hb⟩
  refine ⟨_, rfl, fun fr r => ?_⟩
  have z_w19 := hb.size
  have h_b1 := keep hb h_b1
  have h_b4 := keep hb h_b4
  have h_b7 := keep hb h_b7
  have h_b10 := keep hb h_b10
  obtain ⟨hB, zB⟩ := bon hb hB
  refine seq_new (.cells #[(I 0)] 3 (0, 0)) r (fun R => y_alloc tz3) rfl fun fr b20 w21 n22 r => ?_
  have h_b1 := keep n22.below h_b1
  have h_b4 := keep n22.below h_b4
  have h_b7 := keep n22.below h_b7
  have h_b10 := keep n22.below h_b10
  obtain ⟨e_b20, z_w21, h_b20, hB, zB⟩ := n22.all hB
  refine seq_upd (.cells #[(I (D.plan_Plan_Kind a0.p a2))] 3 (0, 0)) r (fun R => y_store r (o := 0) (v := (I (D.plan_Plan_Kind a0.p a2))) rfl rfl h_b20 ts3 (Nat.le_of_ble_eq_true rfl) rfl rfl) rfl fun fr w23 u24 r => ?_
  have z_w23 := u24.size
  have h_b1 := u24.keep h_b1 (by omega)
  have h_b4 := u24.keep h_b4 (by omega)
  have h_b7 := u24.keep h_b7 (by omega)
  have h_b10 := u24.keep h_b10 (by omega)
  have h_b20 := u24.at_
  obtain ⟨hB, zB⟩ := u24.on hB (by omega)
  refine wn ?_
  refine wsr ?_
  refine seq_val (I (D.plan_Plan_Kind a0.p a2)) r (fun R => y_load_one r rfl h_b20 to3 rfl) rfl fun fr r => ?_
  refine seq_val (.func (.func 299) #[] #[.pointer (some ⟨b1, 0, none⟩), .pointer (some ⟨b4, 0, none⟩), .pointer (some ⟨b7, 0, none⟩), .pointer (some ⟨b20, 0, none⟩)]) r (fun R => y_makeFunc r rfl) rfl fun fr r => ?_
  have hF1 := fgrow hF hB b10
  have f25 : ((fun b => F b ∨ (w0.heap.size ≤ b ∧ b < w23.heap.size ∧ b ≠ b10))) b1 := (.inr ⟨by omega, by omega, by omega⟩)
  have f26 : ((fun b => F b ∨ (w0.heap.size ≤ b ∧ b < w23.heap.size ∧ b ≠ b10))) b4 := (.inr ⟨by omega, by omega, by omega⟩)
  have f27 : ((fun b => F b ∨ (w0.heap.size ≤ b ∧ b < w23.heap.size ∧ b ≠ b10))) b7 := (.inr ⟨by omega, by omega, by omega⟩)
  have f28 : ((fun b => F b ∨ (w0.heap.size ≤ b ∧ b < w23.heap.size ∧ b ≠ b10))) b20 := (.inr ⟨by omega, by omega, by omega⟩)
  refine seq_call r (c_prog_Load_Res (F := (fun b => F b ∨ (w0.heap.size ≤ b ∧ b < w23.heap.size ∧ b ≠ b10))) (n := n) hF1 (D.plan_Plan_Kind a0.p a2) ⟨299, [], [.pointer (some ⟨b1, 0, none⟩), .pointer (some ⟨b4, 0, none⟩), .pointer (some ⟨b7, 0, none⟩), .pointer (some ⟨b20, 0, none⟩)], cl299, rfl, fun m hm x w' hs hz => c_domain_claim_1 (j := j) (fun b hb => Nat.lt_of_lt_of_le (hF1 b hb) hz) (by omega) (fun m' hm' => ih_domain_claim m' (by omega)) a0 f25 (hs.at_ f25 h_b1) a1 f26 (hs.at_ f26 h_b4) a2 f27 (hs.at_ f27 h_b7) (D.plan_Plan_Kind a0.p a2) f28 (hs.at_ f28 h_b20) x⟩) (fun R hc => y_call r rfl cl123 hc) rfl ?_
  rintro _ w29 ⟨v30, rfl, hb, hr31⟩
  refine ⟨_, rfl, fun fr r => ?_⟩
  have z_w29 := hb.size
  have h_b1 := keep hb h_b1
  have h_b4 := keep hb h_b4
  have h_b7 := keep hb h_b7
  have h_b10 := keep hb h_b10
  have h_b20 := keep hb h_b20
  obtain ⟨hB, zB⟩ := bon hb hB
  refine seq_upd (.cells v30.cells 39 (0, 0)) r (fun R => y_storep r hr31.shape rfl rfl h_b10 ts39 rfl) rfl fun fr w32 u33 r => ?_
  have z_w32 := u33.size
  have h_b1 := u33.keep h_b1 (by omega)
  have h_b4 := u33.keep h_b4 (by omega)
  have h_b7 := u33.keep h_b7 (by omega)
  have h_b20 := u33.keep h_b20 (by omega)
  have h_b10 := u33.at_
  obtain ⟨hB, zB⟩ := u33.on hB (by omega)
  refine wn ?_
  refine wp_ret ?_
  have hd : D.domain_claim_body j r_domain_claim a0 a1 a2 = (D.prog_Load_Res (D.plan_Plan_Kind a0.p a2) (fun x => (D.domain_claim_1 j r_domain_claim a0 a1 a2 (D.plan_Plan_Kind a0.p a2) x))) := (cond_f h13).trans (rfl)
  have hs := hr31.shape.cells
  refine ret_cell r rfl rfl h_b10 (k := 8) hs.1 ta39 ?_
  rw [← hs.2.2, hd]
  exact rfin hF hB hr31 u33 (by omega) (by omega) (by omega)

theorem c_domain_claim {n : Nat} {j : Nat} (hj : n < j) {k : Nat} (hk : n < k) : Spec_domain_claim (D.domain_claim j k) n := by
  induction n using Nat.strongRecOn generalizing k with
  | _ n ih =>
    obtain ⟨k, rfl⟩ : ∃ q, k = q + 1 := ⟨k - 1, by omega⟩
    intro F w0 hF
    have h := @b_domain_claim n F j (D.domain_claim j k) w0 hF hj (fun m hm => ih m hm (by omega) (by omega))
    exact h

def D.domain_Make (j : Nat) (a0 : Seat) (a1 : Int) : T Res := (bif (a1 != 1) then (bif (a1 != 2) then (D.domain_fail 1) else (D.domain_claim j j a0 a1 0)) else (D.domain_claim j j a0 a1 0))

theorem c_domain_Make {n : Nat} {F : Nat → Prop} {j : Nat} {w0 : World} (hF : ∀ b, F b → b < w0.heap.size) (hj : n < j)
    (a0 : Seat) (a1 : Int) :
    Calls Tryz.prog 99 #[.agg (seatC a0).toArray, .int .i64 a1] w0 (RepRes Tryz.prog encRes n (D.domain_Make j a0 a1) F w0) := by
 refine enter Tryz.func99 rfl 15 rfl rfl fun fr r => ?_
 have hB := Below.refl w0.heap.size w0
 refine wsr ?_
 refine seq_new (.cells ((seatC a0)).toArray 29 (0, 0)) r (fun R => y_box r (v := (.agg (seatC a0).toArray)) rfl) rfl fun fr b1 w2 n3 r => ?_
 obtain ⟨e_b1, z_w2, h_b1, hB, zB⟩ := n3.all hB
 refine seq_new (.cells (progCells false encRes.zero 0 0 0 0 .nilFunc) 39 (0, 0)) r (fun R => y_alloc tz39) rfl fun fr b4 w5 n6 r => ?_
 have h_b1 := keep n6.below h_b1
 obtain ⟨e_b4, z_w5, h_b4, hB, zB⟩ := n6.all hB
 refine wn ?_
 refine wp_seq ?_
 refine wsr ?_
 refine seq_val (I a1) r (fun R => y_move r rfl) rfl fun fr r => ?_
 refine seq_val _ r (fun R => y_bin r rfl rfl rfl rfl) rfl fun fr r => ?_
 refine seq_val (.bool (a1 != 1)) r (fun R => y_move r rfl) rfl fun fr r => ?_
 refine seq_split (a1 != 1) (fun h7 => ?_) (fun h7 => ?_)
 ·
  refine s1 r h7 ?_
  refine seq_val (I a1) r (fun R => y_move r rfl) rfl fun fr r => ?_
  refine s1 r h7 ?_
  refine seq_val _ r (fun R => y_bin r rfl rfl rfl rfl) rfl fun fr r => ?_
  refine seq_val (.bool (a1 != 2)) r (fun R => y_pick r (b := true) (congrArg Value.bool h7) rfl) rfl fun fr r => ?_
  refine wn ?_
  refine wp_cond_split (t := (a1 != 2)) (r.ev rfl) (fun h8 => ?_) (fun h8 => ?_)
  ·
   refine wsr ?_
   have hF1 := fgrow hF hB b4
   refine seq_call r (c_domain_fail (F := (fun b => F b ∨ (w0.heap.size ≤ b ∧ b < w5.heap.size ∧ b ≠ b4))) (n := n) hF1 1) (fun R hc => y_call r rfl cl202 hc) rfl ?_
   rintro _ w9 ⟨v10, rfl, hb, hr11⟩
   refine ⟨_, rfl, fun fr r => ?_⟩
   have z_w9 := hb.size
   have h_b1 := keep hb h_b1
   have h_b4 := keep hb h_b4
   obtain ⟨hB, zB⟩ := bon hb hB
   refine seq_upd (.cells v10.cells 39 (0, 0)) r (fun R => y_storep r hr11.shape rfl rfl h_b4 ts39 rfl) rfl fun fr w12 u13 r => ?_
   have z_w12 := u13.size
   have h_b1 := u13.keep h_b1 (by omega)
   have h_b4 := u13.at_
   obtain ⟨hB, zB⟩ := u13.on hB (by omega)
   refine wn ?_
   refine wp_ret ?_
   have hd : D.domain_Make j a0 a1 = (D.domain_fail 1) := (cond_t h7).trans ((cond_t h8).trans (rfl))
   have hs := hr11.shape.cells
   refine ret_cell r rfl rfl h_b4 (k := 8) hs.1 ta39 ?_
   rw [← hs.2.2, hd]
   exact rfin hF hB hr11 u13 (by omega) (by omega) (by omega)
  ·
   refine wp_skip ?_
   refine wsr ?_
   refine seq_val (.agg (seatC a0).toArray) r (fun R => y_load_agg r (cs := (seatC a0)) (n := 8) rfl h_b1 ta29 rfl) rfl fun fr r => ?_
   refine seq_val (I a1) r (fun R => y_move r rfl) rfl fun fr r => ?_
   have hF1 := fgrow hF hB b4
   refine seq_call r ((c_domain_claim (j := j) (k := j) (n := n) (by omega) (by omega)) (fun b => F b ∨ (w0.heap.size ≤ b ∧ b < w5.heap.size ∧ b ≠ b4)) _ hF1 a0 a1 0) (fun R hc => y_call r rfl cl203 hc) rfl ?_
   rintro _ w14 ⟨v15, rfl, hb, hr16⟩
   refine ⟨_, rfl, fun fr r => ?_⟩
   have z_w14 := hb.size
   have h_b1 := keep hb h_b1
   have h_b4 := keep hb h_b4
   obtain ⟨hB, zB⟩ := bon hb hB
   refine seq_upd (.cells v15.cells 39 (0, 0)) r (fun R => y_storep r hr16.shape rfl rfl h_b4 ts39 rfl) rfl fun fr w17 u18 r => ?_
   have z_w17 := u18.size
   have h_b1 := u18.keep h_b1 (by omega)
   have h_b4 := u18.at_
   obtain ⟨hB, zB⟩ := u18.on hB (by omega)
   refine wn ?_
   refine wp_ret ?_
   have hd : D.domain_Make j a0 a1 = (D.domain_claim j j a0 a1 0) := (cond_t h7).trans ((cond_f h8).trans (rfl))
   have hs := hr16.shape.cells
   refine ret_cell r rfl rfl h_b4 (k := 8) hs.1 ta39 ?_
   rw [← hs.2.2, hd]
   exact rfin hF hB hr16 u18 (by omega) (by omega) (by omega)
 ·
  refine s0 r h7 fun fr r => ?_
  refine s0 r h7 fun fr r => ?_
  refine seq_val (.bool false) r (fun R => y_pick r (b := false) (congrArg Value.bool h7) rfl) rfl fun fr r => ?_
  refine wn ?_
  refine wp_cond_split (t := false) (r.ev rfl) (fun h => absurd ((rfl : false = _).symm.trans h) (by decide)) (fun _ => ?_)
  refine wp_skip ?_
  refine wsr ?_
  refine seq_val (.agg (seatC a0).toArray) r (fun R => y_load_agg r (cs := (seatC a0)) (n := 8) rfl h_b1 ta29 rfl) rfl fun fr r => ?_
  refine seq_val (I a1) r (fun R => y_move r rfl) rfl fun fr r => ?_
  have hF1 := fgrow hF hB b4
  refine seq_call r ((c_domain_claim (j := j) (k := j) (n := n) (by omega) (by omega)) (fun b => F b ∨ (w0.heap.size ≤ b ∧ b < w5.heap.size ∧ b ≠ b4)) _ hF1 a0 a1 0) (fun R hc => y_call r rfl cl203 hc) rfl ?_
  rintro _ w19 ⟨v20, rfl, hb, hr21⟩
  refine ⟨_, rfl, fun fr r => ?_⟩
  have z_w19 := hb.size
  have h_b1 := keep hb h_b1
  have h_b4 := keep hb h_b4
  obtain ⟨hB, zB⟩ := bon hb hB
  refine seq_upd (.cells v20.cells 39 (0, 0)) r (fun R => y_storep r hr21.shape rfl rfl h_b4 ts39 rfl) rfl fun fr w22 u23 r => ?_
  have z_w22 := u23.size
  have h_b1 := u23.keep h_b1 (by omega)
  have h_b4 := u23.at_
  obtain ⟨hB, zB⟩ := u23.on hB (by omega)
  refine wn ?_
  refine wp_ret ?_
  have hd : D.domain_Make j a0 a1 = (D.domain_claim j j a0 a1 0) := (cond_f h7).trans (rfl)
  have hs := hr21.shape.cells
  refine ret_cell r rfl rfl h_b4 (k := 8) hs.1 ta39 ?_
  rw [← hs.2.2, hd]
  exact rfin hF hB hr21 u23 (by omega) (by omega) (by omega)

def D.domain_Kinds (fu : Nat) (a0 : Plan) (a1 : Mem) (a2 : Int) : Option (List Int) := (loopThen (fun (x6 : List Int × Int) => (bif (decide (x6.2 < (maxI a0.domains 0))) then (Option.bind (bif ((D.plan_Plan_Kind a0 x6.2) != (-1)) then ((D.mem_Memory_Peek fu a1 a2 (D.plan_Plan_Kind a0 x6.2)).bind (fun (x14 : Int) => ((appD x6.1 ([(IntKind.i64.wrap x14)])).bind (fun (x20 : List Int) => (some x20))))) else (some x6.1)) (fun (x24 : List Int) => (some (Lp.next (x24, (IntKind.i64.wrap (x6.2 + 1))))))) else (some (Lp.brk (x6.1, x6.2))))) fu ([], 0) (fun (x27 : List Int × Int) => (some x27.1)))

theorem c_domain_Kinds {fu : Nat} (w0 : World) (a0 : Plan) {a1_g : MG} (a1 : Mem) (a1_h : MemAt a1_g a1 w0) (a2 : Int) {res : List Int} (hD : D.domain_Kinds fu a0 a1 a2 = some res) :
    Calls Tryz.prog 102 #[.agg (planC a0).toArray, .pointer (some ⟨a1_g.mb, 0, none⟩), .int .i64 a2] w0 (fun e w' => ∃ (v0 : Value), e = .returned v0 ∧ Done No No [rowK 3 1 i64 v0 res] w0 w') := by
 refine enter Tryz.func102 rfl 31 rfl rfl fun fr r => ?_
 have hP : Post No [] w0 w0 := Post.nil w0
 have hP : Post No [memR a1_g a1] w0 w0 := hP.addRo norw_nil a1_h rfl a1_h.lt
 unfold D.domain_Kinds at hD
 refine wsr ?_
 refine seq_new (.cells ((planC a0)).toArray 25 (0, 0)) r (fun R => y_box r (v := (.agg (planC a0).toArray)) rfl) rfl fun fr b1 w2 n3 r => ?_
 have hP : Post No [memR a1_g a1, cellC b1 ((planC a0)).toArray 25] w0 w2 := hP.new n3
 refine seq_val (Value.slice none 0 0) r (fun R => y_assign r rfl) rfl fun fr r => ?_
 refine wn ?_
 refine wsr ?_
 refine seq_val (Value.slice none 0 0) r (fun R => y_assign r rfl) rfl fun fr r => ?_
 refine wn ?_
 refine wp_seq ?_
 refine wsr ?_
 refine seq_val _ r (fun R => y_fieldAddr r (o := 0) rfl fo25_3) rfl fun fr r => ?_
 refine seq_val (I a0.domains) r (fun R => y_load_one r rfl (hP.cell (i := 1) rfl) to3 rfl) rfl fun fr r => ?_
 refine seq_val (I (maxI a0.domains 0)) r (fun R => y_max r (m := a0.domains) (n := 0) rfl rfl) rfl fun fr r => ?_
 refine seq_val (I 0) r (fun R => y_move r rfl) rfl fun fr r => ?_
 refine wn ?_
 have hP : Post No [memR a1_g a1, cellC b1 ((planC a0)).toArray 25, rowK 3 1 i64 (Value.slice none 0 0) ([])] w0 w2 := hP.nilRow 3 1 i64
 refine wp_loopG (X := List Int × Int) (G := Value) (x0 := ([], 0)) (fun x γ => [(0, (.agg (planC a0).toArray)), (1, (.pointer (some ⟨a1_g.mb, 0, none⟩))), (2, (I a2)), (3, (.pointer (some ⟨b1, 0, none⟩))), (6, (Value.slice none 0 0)), (12, (I (maxI a0.domains 0))), (7, γ), (13, (I x.2))]) (fun x γ w => Post No [memR a1_g a1, cellC b1 ((planC a0)).toArray 25, rowK 3 1 i64 γ x.1] w0 w) (Value.slice none 0 0) r (hs_cons rfl (hs_cons rfl (hs_cons rfl (hs_cons rfl (hs_cons rfl (hs_cons rfl (hs_cons rfl (hs_cons rfl hs_nil)))))))) hP hD ?_ ?_
 ·
  rintro x6 γ7 fr w9 g y8 RPy8 nxy8 bky8 rty8 r hP hD
  have hP : Post No [memR a1_g a1, cellC b1 ((planC a0)).toArray 25, rowK 3 1 i64 γ7 x6.1] w0 w9 := hP
  refine wsr ?_
  refine seq_val _ r (fun R => y_bin r rfl rfl rfl rfl) rfl fun fr r => ?_
  refine wn ?_
  refine wp_seq ?_
  refine wp_cond_split (t := (decide (x6.2 < (maxI a0.domains 0)))) (r.ev rfl) (fun h10 => ?_) (fun h10 => ?_)
  ·
   have hD := (cond_t h10).symm.trans hD
   refine wp_skip ?_
   refine wp_seq ?_
   refine wp_block ?_
   refine wsr ?_
   refine seq_val (I x6.2) r (fun R => y_move r rfl) rfl fun fr r => ?_
   refine seq_val (I x6.2) r (fun R => y_assign r rfl) rfl fun fr r => ?_
   refine wn ?_
   refine wsr ?_
   refine seq_val (.agg (planC a0).toArray) r (fun R => y_load_agg r (cs := (planC a0)) (n := 6) rfl (hP.cell (i := 1) rfl) ta25 rfl) rfl fun fr r => ?_
   refine seq_val (I x6.2) r (fun R => y_move r rfl) rfl fun fr r => ?_
   refine seq_call r (c_plan_Plan_Kind w9 a0 x6.2) (fun R hc => y_call r rfl cl104 hc) rfl ?_
   rintro _ w11 ⟨rfl, hb⟩
   refine ⟨_, rfl, fun fr r => ?_⟩
   have hP : Post No [memR a1_g a1, cellC b1 ((planC a0)).toArray 25, rowK 3 1 i64 γ7 x6.1] w0 w11 := hP.below hb
   refine seq_val (I (D.plan_Plan_Kind a0 x6.2)) r (fun R => y_assign r rfl) rfl fun fr r => ?_
   refine wn ?_
   refine wsr ?_
   refine seq_val (I (D.plan_Plan_Kind a0 x6.2)) r (fun R => y_move r rfl) rfl fun fr r => ?_
   refine seq_val _ r (fun R => y_bin r rfl rfl rfl rfl) rfl fun fr r => ?_
   refine wn ?_
   refine wp_joinG (N := 31) (Y := List Int) (G := Value) (fun x γ => [(0, (.agg (planC a0).toArray)), (1, (.pointer (some ⟨a1_g.mb, 0, none⟩))), (2, (I a2)), (3, (.pointer (some ⟨b1, 0, none⟩))), (6, (Value.slice none 0 0)), (12, (I (maxI a0.domains 0))), (13, (I x6.2)), (14, (.bool (decide (x6.2 < (maxI a0.domains 0))))), (8, (I x6.2)), (9, (I (D.plan_Plan_Kind a0 x6.2))), (20, (.bool ((D.plan_Plan_Kind a0 x6.2) != (-1)))), (7, γ)]) (fun x γ w => Post No [memR a1_g a1, cellC b1 ((planC a0)).toArray 25, rowK 3 1 i64 γ x] w0 w) hD ?_ ?_
   ·
    rintro y12 RPy12 nxy12 hD
    refine wp_cond_split (t := ((D.plan_Plan_Kind a0 x6.2) != (-1))) (r.ev rfl) (fun h13 => ?_) (fun h13 => ?_)
    ·
     have hD := (cond_t h13).symm.trans hD
     refine wp_region_lit ?_
     refine seq_val γ7 r (fun R => y_move r rfl) rfl fun fr r => ?_
     refine seq_val (.pointer (some ⟨a1_g.mb, 0, none⟩)) r (fun R => y_move r rfl) rfl fun fr r => ?_
     refine seq_val (I a2) r (fun R => y_move r rfl) rfl fun fr r => ?_
     refine seq_val (I (D.plan_Plan_Kind a0 x6.2)) r (fun R => y_move r rfl) rfl fun fr r => ?_
     obtain ⟨x14, hx14, hD⟩ := bindD_elim hD
     refine seq_call r (c_mem_Memory_Peek w11 a1 (hP.memr (i := 0) rfl) a2 (D.plan_Plan_Kind a0 x6.2) hx14) (fun R hc => y_call r rfl cl51 hc) rfl ?_
     rintro _ w15 ⟨rfl, hb⟩
     refine ⟨_, rfl, fun fr r => ?_⟩
     have hP : Post No [memR a1_g a1, cellC b1 ((planC a0)).toArray 25, rowK 3 1 i64 γ7 x6.1] w0 w15 := hP.below hb
     refine seq_val (I (W x14)) r (fun R => y_convert r rfl ti22 ti3) rfl fun fr r => ?_
     refine seq_newS (.cells (([(W x14)]).flatMap i64).toArray 3 (0, 0)) 1 r (fun R => y_bslice r (by kernel_rfl)) rfl fun fr b16 w17 n18 r => ?_
     have hP : Post No [memR a1_g a1, cellC b1 ((planC a0)).toArray 25, rowK 3 1 i64 γ7 x6.1, rowK 3 1 i64 (.slice (some ⟨b16, 0, none⟩) 1 1) ([(W x14)])] w0 w17 := hP.newRow n18 (fun _ => rfl) rfl
     obtain ⟨x20, hx20, hD⟩ := bindD_elim hD
     refine seq_app 3 1 i64 γ7 r (fun R => y_append r rt72 (fun _ => rfl) (fun _ => rfl) (hP.row (i := 2) rfl) (hP.row (i := 3) rfl).ro hx20 rfl rfl) rfl fun fr v21 w22 ha23 r => ?_
     have hP : Post No [memR a1_g a1, cellC b1 ((planC a0)).toArray 25, rowK 3 1 i64 v21 x20, rowK 3 1 i64 (.slice (some ⟨b16, 0, none⟩) 1 1) ([(W x14)])] w0 w22 := hP.append (i := 2) rfl ha23
     refine seq_val v21 r (fun R => y_assign r rfl) rfl fun fr r => ?_
     refine wn ?_
     exact nxy12 x20 v21 _ _ _ hD r (hs_cons rfl (hs_cons rfl (hs_cons rfl (hs_cons rfl (hs_cons rfl (hs_cons rfl (hs_cons rfl (hs_cons rfl (hs_cons rfl (hs_cons rfl (hs_cons rfl (hs_cons rfl hs_nil)))))))))))) (hP.pick [0, 1, 2] rfl rfl)
    ·
     have hD := (cond_f h13).symm.trans hD
     refine wp_skip ?_
     exact nxy12 x6.1 γ7 _ _ _ hD r (hs_cons rfl (hs_cons rfl (hs_cons rfl (hs_cons rfl (hs_cons rfl (hs_cons rfl (hs_cons rfl (hs_cons rfl (hs_cons rfl (hs_cons rfl (hs_cons rfl (hs_cons rfl hs_nil)))))))))))) (hP.pick [0, 1, 2] rfl rfl)
   ·
    rintro x24 γ25 fr w26 g r hP hD
    have hP : Post No [memR a1_g a1, cellC b1 ((planC a0)).toArray 25, rowK 3 1 i64 γ25 x24] w0 w26 := hP
    refine wp_region_lit ?_
    refine seq_val _ r (fun R => y_bin r rfl rfl rfl rfl) rfl fun fr r => ?_
    refine seq_val (I (W (x6.2 + 1))) r (fun R => y_move r rfl) rfl fun fr r => ?_
    refine wn ?_
    exact nxy8 (x24, (W (x6.2 + 1))) γ25 _ _ _ hD r (hs_cons rfl (hs_cons rfl (hs_cons rfl (hs_cons rfl (hs_cons rfl (hs_cons rfl (hs_cons rfl (hs_cons rfl hs_nil)))))))) (hP.pick [0, 1, 2] rfl rfl)
  ·
   have hD := (cond_f h10).symm.trans hD
   refine wp_exit ?_
   exact bky8 (x6.1, x6.2) γ7 _ _ _ hD r (hs_cons rfl (hs_cons rfl (hs_cons rfl (hs_cons rfl (hs_cons rfl (hs_cons rfl (hs_cons rfl (hs_cons rfl hs_nil)))))))) (hP.pick [0, 1, 2] rfl rfl)
 ·
  rintro x27 γ28 fr w29 g r hP hD
  have hP : Post No [memR a1_g a1, cellC b1 ((planC a0)).toArray 25, rowK 3 1 i64 γ28 x27.1] w0 w29 := hP
  refine wsr ?_
  refine seq_val γ28 r (fun R => y_move r rfl) rfl fun fr r => ?_
  refine seq_val γ28 r (fun R => y_assign r rfl) rfl fun fr r => ?_
  refine wn ?_
  refine wp_ret ?_
  have hv : x27.1 = res := Option.some.inj hD
  try dsimp only [Exit.then, Exit.inBlock]
  refine ret_tmp (fn := Tryz.f102) r (t := 6) rfl (v := γ28) rfl ?_
  subst hv
  exact ⟨γ28, rfl, (hP.pick [2] rfl rfl).done (rest_cons rfl rest_nil)⟩

end Go.Proofs.YtjkinpbfmihhdaaGreat

/- A region that draws its order, with stores into two cells of ours beside values. -/
namespace Go.Proofs.YtjkinpbfmihhdaaGreat
open Go.RowKit

/-- What an operation comes to: a value, or a store into the k-th of some old blocks. -/
inductive FP where
  | val (c : Value)
  | put (k : Nat) (c : Array Value) (T : TypeId)

def FP.v : FP → Value
  | .val c => c
  | .put _ _ _ => undef

def FP.slot : FP → Option Nat
  | .put k _ _ => some k
  | .val _ => none

def FP.mk (bs : List Nat) (w' w'' : World) : FP → Prop
  | .val _ => Below w'.heap.size w' w''
  | .put k c T => ∃ b, bs[k]? = some b ∧ Upd w' w'' b (.cells c T (0, 0))

def fct : List FP → Nat → FP
  | [], _ => .val undef
  | f :: _, 0 => f
  | _ :: l, n + 1 => fct l n

def putsOk (L : List Oper) (sl : Nat → Option Nat) : Bool :=
  distinct L && L.zipIdx.all fun (o, i) => (o.after.toList.all fun e => !Region.binds .any e || decide (e.on < i)) &&
    (match sl i with
     | none => true
     | some k => (List.range L.length).all fun j => decide (j = i) || !(sl j == some k))

section
variable {P : Program} {Q : Exit → Act → World → Prop} {L : List Oper} {a : Act} {w : World} {fl : List FP} {bs : List Nat}
theorem putsOk_at {sl : Nat → Option Nat} (h : putsOk L sl = true) {i : Nat} {o : Oper} (hi : L[i]? = some o) :
    (∀ e, e ∈ o.after → Region.binds .any e = true → e.on < i) ∧ ∀ k, sl i = some k → ∀ j, j < L.length → j ≠ i → sl j ≠ some k := by
  simp only [putsOk, Bool.and_eq_true] at h
  have hm : (o, i) ∈ L.zipIdx := by
    rw [List.mem_iff_getElem?]
    exact ⟨i, by simp [hi]⟩
  have h2 := List.all_eq_true.1 h.2 _ hm
  simp only [Bool.and_eq_true] at h2
  refine ⟨fun e he hb => ?_, fun k hk j hj hne hs => ?_⟩
  · have := List.all_eq_true.1 h2.1 e (by simpa using he)
    simpa [hb] using this
  · have h3 := h2.2
    rw [hk] at h3
    have := List.all_eq_true.1 h3 j (List.mem_range.2 hj)
    rw [hs] at this
    simp [hne] at this

structure PInv (L : List Oper) (fl : List FP) (bs : List Nat) (a : Act) (w0 : World) (listed : Array Bool) (g : Nat → Value) (a' : Act) (w' : World) : Prop where
  act : a' = puts L g 0 a
  closed : ∀ i o, L[i]? = some o → listed.getD i false = true → ∀ e, e ∈ o.after → Region.binds .any e = true → listed.getD e.on false = true
  os : w'.os = w0.os
  tape : w'.tape = w0.tape
  output : w'.output = w0.output
  size : w0.heap.size ≤ w'.heap.size
  old : ∀ b, b < w0.heap.size → b ∉ bs → w'.heap[b]? = w0.heap[b]?
  vals : ∀ i, i < L.length → listed.getD i false = true → g i = (fct fl i).v
  un : ∀ k b, bs[k]? = some b → (∀ i, i < L.length → listed.getD i false = true → (fct fl i).slot ≠ some k) → w'.heap[b]? = w0.heap[b]?
  done : ∀ i k c T b, i < L.length → listed.getD i false = true → fct fl i = .put k c T → bs[k]? = some b → w'.heap[b]? = some (.cells c T (0, 0))

def EachP (P : Program) (L : List Oper) (fl : List FP) (bs : List Nat) (a : Act) (w0 : World) : List Oper → Nat → Prop
  | [], _ => True
  | o :: l, i => (∀ g w', Chg (fun b => b ∈ bs) w0 w' → (∀ j, awaits o j = true → g j = (fct fl j).v) → (∀ k b, (fct fl i).slot = some k → bs[k]? = some b → w'.heap[b]? = w0.heap[b]?) →
      YieldsG P L.toArray o (puts L g 0 a) w' fun v w'' => v = (fct fl i).v ∧ (fct fl i).mk bs w' w'') ∧ EachP P L fl bs a w0 l (i + 1)

theorem eachP_at {w0 : World} : ∀ (l : List Oper) (k i : Nat) (o : Oper), EachP P L fl bs a w0 l k → l[i]? = some o →
    (∀ g w', Chg (fun b => b ∈ bs) w0 w' → (∀ j, awaits o j = true → g j = (fct fl j).v) → (∀ k' b, (fct fl (k + i)).slot = some k' → bs[k']? = some b → w'.heap[b]? = w0.heap[b]?) →
      YieldsG P L.toArray o (puts L g 0 a) w' fun v w'' => v = (fct fl (k + i)).v ∧ (fct fl (k + i)).mk bs w' w'')
  | [], _, _, _, _, h => by simp at h
  | p :: l, k, 0, o, hE, h => by
    simp only [List.getElem?_cons_zero, Option.some.injEq] at h
    subst h
    exact hE.1
  | p :: l, k, i + 1, o, hE, h => by
    simp only [List.getElem?_cons_succ] at h
    have := eachP_at l (k + 1) i o hE.2 h
    rw [show k + 1 + i = k + (i + 1) from by omega] at this
    exact this

theorem any_puts (hSB : ∀ b, b ∈ bs → b < w.heap.size) (hnd : ∀ (k k' b : Nat), bs[k]? = some b → bs[k']? = some b → k = k') (hs : putsOk L (fun i => (fct fl i).slot) = true) (he : EachP P L fl bs a { w with drawn := w.drawn + 1 } L 0)
    (hl : ∀ g w', Chg (fun b => b ∈ bs) w w' → (∀ i, i < L.length → g i = (fct fl i).v) → (∀ i k c T b, i < L.length → fct fl i = .put k c T → bs[k]? = some b → w'.heap[b]? = some (.cells c T (0, 0))) → Q .normal (puts L g 0 a) w') :
    wpAny P .any L.toArray Q L.toArray.size (Array.replicate L.toArray.size false) a { w with drawn := w.drawn + 1 } := by
  have hdist : distinct L = true := by simp only [putsOk, Bool.and_eq_true] at hs; exact hs.1
  refine wpAny_inv (fun listed a' w' => listed.size = L.length ∧ ∃ g, PInv L fl bs a { w with drawn := w.drawn + 1 } listed g a' w') ?_ ?_ _ _ _ _ ?_ ?_
  · rintro listed a' w' i o ⟨hsz, g, hI⟩ ho h0 hall
    have ho : L[i]? = some o := by simpa using ho
    have hil : i < L.length := (List.getElem?_eq_some_iff.1 ho).1
    obtain ⟨hback, hput⟩ := putsOk_at hs ho
    have hf : listed.getD i false = false := by rw [getD_of (by omega) false true]; exact h0
    have hdep : ∀ j, awaits o j = true → listed.getD j false = true ∧ j < L.length := by
      intro j hj
      obtain ⟨e, hem, heb, rfl⟩ := awaits_mem hj
      exact ⟨hall e hem heb, by have := hback e hem heb; omega⟩
    have hsize : w.heap.size ≤ w'.heap.size := hI.size
    have hy := eachP_at L 0 i o he ho g w' ⟨hI.os, hI.tape, hI.output, hI.size, fun b hb hn => hI.old b hb hn⟩ (fun j hj => hI.vals j (hdep j hj).2 (hdep j hj).1)
      (fun k b hk hb => hI.un k b hb fun j hj hlj hjk => by
        rw [Nat.zero_add] at hk
        by_cases e : j = i
        · subst e; rw [hf] at hlj; cases hlj
        · exact hput k hk j hj e hjk)
    rw [Nat.zero_add] at hy
    rw [hI.act]
    refine hy.wp fun v w'' hmk => ⟨by simpa using hsz, (fun j => if j = i then v else g j), ?_⟩
    obtain ⟨hv, hmk⟩ := hmk
    have hos : w''.os = w'.os ∧ w''.tape = w'.tape ∧ w''.output = w'.output ∧ w'.heap.size ≤ w''.heap.size := by
      cases hc : fct fl i with
      | val c => rw [hc] at hmk; exact ⟨hmk.os, hmk.tape, hmk.output, hmk.size⟩
      | put k c T => rw [hc] at hmk; obtain ⟨b, _, hu⟩ := hmk; exact ⟨hu.os, hu.tape, hu.output, Nat.le_of_eq hu.size.symm⟩
    have hoth : ∀ b, b < w'.heap.size → (∀ k, (fct fl i).slot = some k → bs[k]? ≠ some b) → w''.heap[b]? = w'.heap[b]? := by
      intro b hb hne
      cases hc : fct fl i with
      | val c => rw [hc] at hmk; exact hmk.block b hb
      | put k c T =>
        rw [hc] at hmk hne
        obtain ⟨b', hb', hu⟩ := hmk
        exact hu.other b fun e => hne k rfl (e ▸ hb')
    have hlt : ∀ k b, bs[k]? = some b → b < w'.heap.size := fun k b hb => Nat.lt_of_lt_of_le (hSB b (List.mem_of_getElem? hb)) hsize
    constructor
    · rw [puts_upd _ _ _ _ i _ _ hdist ho]
      refine puts_congr _ _ _ _ _ fun j _ => ?_
      rw [Nat.zero_add]
    · intro q oq hq hlq e hee heb
      by_cases hqi : q = i
      · subst hqi
        rw [hq] at ho
        cases ho
        exact getD_set_true (hall e hee heb)
      · exact getD_set_true (hI.closed q oq hq (getD_ne hlq hqi) e hee heb)
    · exact hos.1.trans hI.os
    · exact hos.2.1.trans hI.tape
    · exact hos.2.2.1.trans hI.output
    · exact Nat.le_trans hI.size hos.2.2.2
    · intro b hb hn
      rw [hoth b (Nat.lt_of_lt_of_le hb hI.size) (fun k _ hk => hn (List.mem_of_getElem? hk)), hI.old b hb hn]
    · intro j hjl hlj
      by_cases hji : j = i
      · subst hji
        rw [if_pos rfl]; exact hv
      · rw [if_neg hji]; exact hI.vals j hjl (getD_ne hlj hji)
    · intro k b hkb hno
      rw [hoth b (hlt k b hkb) (fun k' hk' hb' => ?_), hI.un k b hkb (fun j hj hlj => hno j hj (getD_set_true hlj))]
      obtain rfl := hnd k' k b hb' hkb
      exact hno i hil (by simp [hsz, hil]) hk'
    · intro j k c T b hjl hlj hfj hb
      by_cases hji : j = i
      · subst hji
        rw [hfj] at hmk
        obtain ⟨b', hb', hu⟩ := hmk
        rw [hb] at hb'
        obtain rfl := Option.some.inj hb'
        exact hu.at_
      · rw [hoth b (hlt k b hb) (fun k' hk' hb' => ?_)]
        · exact hI.done j k c T b hjl (getD_ne hlj hji) hfj hb
        · obtain rfl := hnd k' k b hb' hb
          exact hput k' hk' j hjl hji (by rw [hfj]; rfl)
  · rintro listed a' w' ⟨hsz, g, hI⟩ hr
    have hall : ∀ i, i < L.length → listed.getD i false = true := by
      intro i
      induction i using Nat.strongRecOn with
      | _ i ih =>
        intro hi
        cases hc : listed.getD i false with
        | true => rfl
        | false =>
          exfalso
          have hm : i ∈ Region.ready .any L.toArray listed := by
            refine mem_ready.2 ⟨?_, L[i], by simp [hi], ?_⟩
            · rw [getD_of (by omega) true false]; exact hc
            · intro e he heb
              have := (putsOk_at hs (i := i) (o := L[i]) (by simp [hi])).1 e he heb
              exact ih e.on this (by omega)
          rw [hr] at hm
          cases hm
    rw [hI.act]
    exact hl g w' ⟨hI.os, hI.tape, hI.output, hI.size, fun b hb hn => hI.old b hb hn⟩ (fun i hi => hI.vals i hi (hall i hi)) fun i k c T b hi hf hb => hI.done i k c T b hi (hall i hi) hf hb
  · have : ∀ n (b : Array Bool), left n b ≤ n := fun n b => by
      unfold left
      exact Nat.le_trans (List.length_filter_le _ _) (by simp)
    exact this _ _
  · refine ⟨by simp, start L a, ?_⟩
    constructor
    · refine (puts_start a _ _ _ fun i oi hoi => ?_).symm
      simp only [start, Nat.zero_add, hoi]
    · intro i o _ h; rw [none_listed] at h; cases h
    · rfl
    · rfl
    · rfl
    · exact Nat.le_refl _
    · intro b _ _; rfl
    · intro i _ h; rw [none_listed] at h; cases h
    · intro k b _ _; rfl
    · intro i k c T b _ h; rw [none_listed] at h; cases h

variable {N : Nat} {s : SL}
theorem wp_putsP {id : Nat} (bs : List Nat) (fl : List FP) (hm : P.follows .mixedOrders = true) (r : Fr a N s) (hSB : ∀ b, b ∈ bs → b < w.heap.size) (hnd : ∀ (k k' b : Nat), bs[k]? = some b → bs[k']? = some b → k = k')
    (hs : (putsOk L (fun i => (fct fl i).slot) && dstsIn N L) = true) (he : EachP P L fl bs a { w with drawn := w.drawn + 1 } L 0)
    (hl : ∀ a' g w', Chg (fun b => b ∈ bs) w w' → (∀ i, Nat.ble (i + 1) L.length = true → g i = (fct fl i).v) → (∀ i k c T b, Nat.ble (i + 1) L.length = true → fct fl i = .put k c T → bs[k]? = some b → w'.heap[b]? = some (.cells c T (0, 0))) →
      Fr a' N (putsS L g 0 s) → Q .normal a' w') : (Code.region id L.toArray true).wp P Q a w := by
  simp only [Bool.and_eq_true] at hs
  exact wp_region_any hm (any_puts hSB hnd hs.1 he fun g w' h1 h2 h3 => hl _ g w' h1 (fun i hi => h2 i (Nat.le_of_ble_eq_true hi)) (fun i k c T b hi => h3 i k c T b (Nat.le_of_ble_eq_true hi)) (r.puts L _ 0 hs.2))

theorem eachP_nil {i : Nat} : EachP P L fl bs a w [] i := trivial

theorem eachP_val {o : Oper} {l : List Oper} {i : Nat} {c : Value} (r : Fr a N s) (hc : fct fl i = .val c) (hd : (o.guard.isNone && dstsIn N L) = true)
    (h : ∀ a' g w', Chg (fun b => b ∈ bs) w w' → (∀ j, awaits o j = true → g j = (fct fl j).v) → Fr a' N (putsS L g 0 s) → Yields P o a' w' fun v w'' => Below w'.heap.size w' w'' ∧ v = c)
    (h2 : EachP P L fl bs a w l (i + 1)) : EachP P L fl bs a w (o :: l) i := by
  simp only [Bool.and_eq_true] at hd
  refine ⟨fun g w' h1 h3 _ => .plain hd.1 ?_, h2⟩
  refine (h _ g w' h1 h3 (r.puts L _ 0 hd.2)).mono fun v w'' hq => ?_
  rw [hc]
  exact ⟨hq.2, hq.1⟩

theorem eachP_put {o : Oper} {l : List Oper} {i k b : Nat} {c : Array Value} {T : TypeId} (r : Fr a N s) (hc : fct fl i = .put k c T) (hb : bs[k]? = some b) (hd : (o.guard.isNone && dstsIn N L) = true)
    (h : ∀ a' g w', Chg (fun b => b ∈ bs) w w' → (∀ j, awaits o j = true → g j = (fct fl j).v) → Fr a' N (putsS L g 0 s) → w'.heap[b]? = w.heap[b]? → Yields P o a' w' fun v w'' => Upd w' w'' b (.cells c T (0, 0)) ∧ v = undef)
    (h2 : EachP P L fl bs a w l (i + 1)) : EachP P L fl bs a w (o :: l) i := by
  simp only [Bool.and_eq_true] at hd
  refine ⟨fun g w' h1 h3 h4 => .plain hd.1 ?_, h2⟩
  refine (h _ g w' h1 h3 (r.puts L _ 0 hd.2) (h4 k b (by rw [hc]; rfl) hb)).mono fun v w'' hq => ?_
  rw [hc]
  exact ⟨hq.2, b, hb, hq.1⟩

theorem eachP_want {o : Oper} {l : List Oper} {i j d : Nat} {c : Value} (want : Bool) (r : Fr a N s) (hc : fct fl i = .val c) (hg : o.guard = some (j, want)) (hj : (L.toArray[j]?).bind (·.dst) = some d)
    (hd : (Nat.ble (d + 1) N && dstsIn N L) = true)
    (hv : ∀ g, (∀ j, awaits o j = true → g j = (fct fl j).v) → look (putsS L g 0 s) d = .bool want)
    (h : ∀ a' g w', Chg (fun b => b ∈ bs) w w' → (∀ j, awaits o j = true → g j = (fct fl j).v) → Fr a' N (putsS L g 0 s) → Yields P { o with guard := none } a' w' fun v w'' => Below w'.heap.size w' w'' ∧ v = c)
    (h2 : EachP P L fl bs a w l (i + 1)) : EachP P L fl bs a w (o :: l) i := by
  simp only [Bool.and_eq_true] at hd
  refine ⟨fun g w' h1 h3 _ => ?_, h2⟩
  have hr := r.puts L g 0 hd.2
  have hy := yielded_of (ops := L.toArray) hr hj (hv g h3) (Nat.le_of_ble_eq_true hd.1)
  unfold YieldsG
  rw [if_pos (by simp only [Region.wanted, hg, hy, boolOf, beq_self_eq_true])]
  show Yields P { o with guard := none } _ _ _
  refine (h _ g w' h1 h3 hr).mono fun v w'' hq => ?_
  rw [hc]
  exact ⟨hq.2, hq.1⟩

theorem eachP_skip {o : Oper} {l : List Oper} {i j d : Nat} (want : Bool) (v : Value) (r : Fr a N s) (hc : fct fl i = .val undef) (hg : o.guard = some (j, want)) (hj : (L.toArray[j]?).bind (·.dst) = some d)
    (hd : (Nat.ble (d + 1) N && dstsIn N L) = true)
    (hv : ∀ g, (∀ j, awaits o j = true → g j = (fct fl j).v) → look (putsS L g 0 s) d = v)
    (hn : boolOf v ≠ some want) (h2 : EachP P L fl bs a w l (i + 1)) : EachP P L fl bs a w (o :: l) i := by
  simp only [Bool.and_eq_true] at hd
  refine ⟨fun g w' h1 h3 _ => ?_, h2⟩
  have hr := r.puts L g 0 hd.2
  have hy := yielded_of (ops := L.toArray) hr hj (hv g h3) (Nat.le_of_ble_eq_true hd.1)
  unfold YieldsG
  rw [if_neg (by
    simp only [Region.wanted, hg, hy]
    exact fun h => hn (eq_of_beq h)), hc]
  exact ⟨rfl, Below.refl _ _⟩

end
/-! ### Chunks -/
section
variable {L : List Ck} {d : Ck} {w w' w0 : World} {i i1 i2 b1 b2 : Nat} {a1 a2 c1 c2 : Array Value} {T1 T2 S1 S2 : TypeId} {Z : Nat → Prop}
theorem Post.cne (h : Post Z L w0 w) (h1 : L[i1]? = some (cellC b1 a1 T1)) (h2 : L[i2]? = some (cellC b2 a2 T2)) (hn : (i1 == i2) = false) : b1 ≠ b2 := fun e =>
  (h.sep.clear h1 h2 (by simpa using hn)).1 b1 (List.mem_singleton.2 rfl) (.inl (List.mem_singleton.2 e))

theorem nd2 (h : b1 ≠ b2) : ∀ (k k' b : Nat), [b1, b2][k]? = some b → [b1, b2][k']? = some b → k = k' := by
  intro k k' b hk hk'
  match k, k' with
  | 0, 0 => rfl
  | 1, 1 => rfl
  | 0, 1 => simp at hk hk'; omega
  | 1, 0 => simp at hk hk'; omega
  | k + 2, _ => simp at hk
  | 0, k + 2 => simp at hk'
  | 1, k + 2 => simp at hk'

theorem Post.lt2 (h : Post Z L w0 w) (h1 : L[i1]? = some (cellC b1 a1 T1)) (h2 : L[i2]? = some (cellC b2 a2 T2)) : ∀ b, b ∈ [b1, b2] → b < w.heap.size := by
  intro b hb
  simp only [List.mem_cons, List.not_mem_nil, or_false] at hb
  rcases hb with rfl | rfl
  · exact h.sep.lt h1 (.inl (List.mem_singleton.2 rfl))
  · exact h.sep.lt h2 (.inl (List.mem_singleton.2 rfl))

theorem Post.okP (h : Post Z L w0 w) (h1 : L[i1]? = some (cellC b1 a1 T1)) (h2 : L[i2]? = some (cellC b2 a2 T2)) (hk : Chg (fun b => b ∈ [b1, b2]) w w') (hi : L[i]? = some d) (n1 : (i1 == i) = false) (n2 : (i2 == i) = false) : d.ok w' := by
  have c1 := (h.sep.clear h1 hi (by simpa using n1)).1
  have c2 := (h.sep.clear h2 hi (by simpa using n2)).1
  refine d.st w w' (fun b hb => hk.block b (h.sep.lt hi hb) fun hc => ?_) hk.size (h.sep.get hi)
  simp only [List.mem_cons, List.not_mem_nil, or_false] at hc
  rcases hc with rfl | rfl
  · exact c1 b (List.mem_singleton.2 rfl) hb
  · exact c2 b (List.mem_singleton.2 rfl) hb

theorem Post.cellP {b : Nat} {a : Array Value} {T : TypeId} (h : Post Z L w0 w) (h1 : L[i1]? = some (cellC b1 a1 T1)) (h2 : L[i2]? = some (cellC b2 a2 T2)) (hk : Chg (fun b => b ∈ [b1, b2]) w w') (hi : L[i]? = some (cellC b a T)) (n1 : (i1 == i) = false) (n2 : (i2 == i) = false) : w'.heap[b]? = some (.cells a T (0, 0)) :=
  h.okP h1 h2 hk hi n1 n2

theorem Sep.reL {w w' : World} (hz : w.heap.size ≤ w'.heap.size) : ∀ (L L' : List Ck), Sep L w → L'.length = L.length → (∀ (j : Nat) (c c' : Ck), L[j]? = some c → L'[j]? = some c' → c'.own = c.own ∧ c'.ro = c.ro ∧ c'.ok w') → Sep L' w'
  | [], [], _, _, _ => trivial
  | [], _ :: _, _, h, _ => by simp at h
  | _ :: _, [], _, h, _ => by simp at h
  | c :: L, c' :: L', hs, hl, hj => by
    obtain ⟨e1, e2, e3⟩ := hj 0 c c' rfl rfl
    refine ⟨e3, fun b hb => Nat.lt_of_lt_of_le (hs.2.1 b (by unfold Ck.has at *; rw [← e1, ← e2]; exact hb)) hz, fun d' hd' => ?_, Sep.reL hz L L' hs.2.2.2 (by simpa using hl) fun j d d' h1 h2 => hj (j + 1) d d' (by simpa using h1) (by simpa using h2)⟩
    obtain ⟨j, hj'⟩ := List.mem_iff_getElem?.1 hd'
    have hlt : j < L.length := by
      have := (List.getElem?_eq_some_iff.1 hj').1
      simp at hl; omega
    obtain ⟨q1, q2, _⟩ := hj (j + 1) L[j] d' (by simp [hlt]) (by simpa using hj')
    have hc := hs.2.2.1 L[j] (List.getElem_mem hlt)
    unfold Ck.clear Ck.has at *
    rw [q1, q2, e1, e2]
    exact hc

theorem Post.put2 (h : Post Z L w0 w) (h1 : L[i1]? = some (cellC b1 a1 T1)) (h2 : L[i2]? = some (cellC b2 a2 T2)) (hn : (i1 == i2) = false) (hk : Chg (fun b => b ∈ [b1, b2]) w w') (e1 : w'.heap[b1]? = some (.cells c1 S1 (0, 0))) (e2 : w'.heap[b2]? = some (.cells c2 S2 (0, 0))) :
    Post Z ((L.set i1 (cellC b1 c1 S1)).set i2 (cellC b2 c2 S2)) w0 w' := by
  have hne : i1 ≠ i2 := by simpa using hn
  have l1 := (List.getElem?_eq_some_iff.1 h1).1
  have l2 := (List.getElem?_eq_some_iff.1 h2).1
  have key : ∀ (j : Nat) (c c' : Ck), L[j]? = some c → ((L.set i1 (cellC b1 c1 S1)).set i2 (cellC b2 c2 S2))[j]? = some c' → c'.own = c.own ∧ c'.ro = c.ro ∧ c'.ok w' := by
    intro j c c' hc hc'
    rw [List.getElem?_set] at hc'
    by_cases e : i2 = j
    · subst e
      rw [if_pos rfl, if_pos (by simpa using l2)] at hc'
      rw [h2] at hc
      obtain rfl := Option.some.inj hc
      obtain rfl := Option.some.inj hc'
      exact ⟨rfl, rfl, e2⟩
    · rw [if_neg e, List.getElem?_set] at hc'
      by_cases e' : i1 = j
      · subst e'
        rw [if_pos rfl, if_pos l1] at hc'
        rw [h1] at hc
        obtain rfl := Option.some.inj hc
        obtain rfl := Option.some.inj hc'
        exact ⟨rfl, rfl, e1⟩
      · rw [if_neg e', hc] at hc'
        obtain rfl := Option.some.inj hc'
        exact ⟨rfl, rfl, h.okP h1 h2 hk hc (by simpa using e') (by simpa using e)⟩
  refine ⟨Sep.reL hk.size L _ h.sep (by simp) key, h.chg.trans hk (fun b hb hz => ?_), fun c hc b hb => ?_⟩
  · simp only [List.mem_cons, List.not_mem_nil, or_false] at hz
    rcases hz with rfl | rfl
    · exact (h.mine _ (List.mem_of_getElem? h1) b (List.mem_singleton.2 rfl)).resolve_right (by omega)
    · exact (h.mine _ (List.mem_of_getElem? h2) b (List.mem_singleton.2 rfl)).resolve_right (by omega)
  · obtain ⟨j, hj⟩ := List.mem_iff_getElem?.1 hc
    have hlt : j < L.length := by
      have := (List.getElem?_eq_some_iff.1 hj).1
      simpa using this
    obtain ⟨q1, _, _⟩ := key j L[j] c (by simp [hlt]) hj
    rw [q1] at hb
    exact h.mine _ (List.getElem_mem hlt) b hb

end
theorem ret_cell2_tmp {P : Program} {fn : Func} {a : Act} {n : Nat} {s : SL} (h : Fr a n s) {R : Ending → World → Prop} {w : World} {t t1 t2 : Tmp} {ty ty1 : TypeId} {b b1 : Nat} {c c1 : Array Value} {E E1 : TypeId} {fz fz1 : Nat × Nat} {k k1 : Nat} {v2 : Value} (hf : fn.results = #[.cell t ty, .cell t1 ty1, .tmp t2])
    (hv : look s t = .pointer (some ⟨b, 0, none⟩)) (hv1 : look s t1 = .pointer (some ⟨b1, 0, none⟩)) (hv2 : look s t2 = v2) (hb : w.heap[b]? = some (.cells c E fz)) (hk : c.size = k) (ht : tyA P ty k = true) (hb1 : w.heap[b1]? = some (.cells c1 E1 fz1)) (hk1 : c1.size = k1) (ht1 : tyA P ty1 k1 = true)
    (hR : R (.returned (.tuple #[.agg c, .agg c1, v2])) w) : bodyPost P fn R .ret a w := by
  refine ⟨h.defers, _, ?_, hR⟩
  subst hk; subst hk1; subst hv2
  have hl : (loadVar ty ⟨b, 0, none⟩).run P w = .ok (.agg c) w := by
    have := loadVar_agg (P := P) (t := ty) (lies_block hb (o := 0) (n := c.size) (cs := c.toList) (by rw [List.drop_zero]; exact List.take_of_length_le (by simp))) (by simpa using ht)
    simpa using this
  have hl1 : (loadVar ty1 ⟨b1, 0, none⟩).run P w = .ok (.agg c1) w := by
    have := loadVar_agg (P := P) (t := ty1) (lies_block hb1 (o := 0) (n := c1.size) (cs := c1.toList) (by rw [List.drop_zero]; exact List.take_of_length_le (by simp))) (by simpa using ht1)
    simpa using this
  simp [results, hf, h.slot, hv, hv1, asAddr, hl, hl1]

theorem Sep.beside2 {N1 N2 L : List Ck} {lo1 hi1 lo2 hi2 B : Nat} {w : World} (h1 : Fresh N1 lo1 hi1 w) (h2 : Fresh N2 lo2 hi2 w) (hd : hi1 ≤ lo2 ∨ hi2 ≤ lo1) (hL : Sep L w) (h3 : ∀ c, c ∈ L → ∀ b, c.has b → b < B) (hB1 : B ≤ lo1) (hB2 : B ≤ lo2) : Sep (N1 ++ (N2 ++ L)) w := by
  refine h1.1.append (Sep.beside h2 hL h3 hB2) fun c hc d hd' => ?_
  have hc2 : ∀ b, c.has b → ¬ d.has b := fun b hb hb' => by
    have q1 := h1.2 c hc b hb
    rcases List.mem_append.1 hd' with hm | hm
    · have q2 := h2.2 d hm b hb'; omega
    · have q2 := h3 d hm b hb'; omega
  exact ⟨fun b hb hb' => hc2 b (.inl hb) hb', fun b hb hb' => hc2 b hb' (.inl hb)⟩

end Go.Proofs.YtjkinpbfmihhdaaGreat
