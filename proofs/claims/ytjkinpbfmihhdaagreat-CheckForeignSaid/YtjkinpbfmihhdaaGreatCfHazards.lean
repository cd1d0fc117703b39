/- Written by a program of ours (wip/gen.py): hazards -/
import Derived.Test.YtjkinpbfmihhdaaGreatCfFrees
set_option linter.unusedVariables false
set_option maxRecDepth 20000
set_option maxHeartbeats 2000000
namespace Go.Proofs.YtjkinpbfmihhdaaGreat
open Go.RowKit
theorem cl218 : callable Tryz.prog 218 = true := by kernel_rfl

theorem cl320 : callable Tryz.prog 320 = true := by kernel_rfl

theorem cl389 : callable Tryz.prog 389 = true := by kernel_rfl

theorem cl413 : callable Tryz.prog 413 = true := by kernel_rfl

theorem cl414 : callable Tryz.prog 414 = true := by kernel_rfl

theorem cl415 : callable Tryz.prog 415 = true := by kernel_rfl

theorem cl52 : callable Tryz.prog 52 = true := by kernel_rfl

def D.hazard_word (a0 : Int) : Int := (IntKind.u64.wrap (IntKind.i64.wrap (a0 + 1)))

theorem c_hazard_word (w0 : World) 
    (a0 : Int) :
    Calls Tryz.prog 320 #[.int .i64 a0] w0 (PureRes (.int .u64 (D.hazard_word a0)) w0) := by
 refine enter Tryz.func320 rfl 6 rfl rfl fun fr r => ?_
 have hB := Below.refl w0.heap.size w0
 refine wsr ?_
 refine seq_val (U 0) r (fun R => y_assign r rfl) rfl fun fr r => ?_
 refine wn ?_
 refine wsr ?_
 refine seq_val (I a0) r (fun R => y_move r rfl) rfl fun fr r => ?_
 refine seq_val _ r (fun R => y_bin r rfl rfl rfl rfl) rfl fun fr r => ?_
 refine seq_val (U (V (W (a0 + 1)))) r (fun R => y_convert r rfl ti3 ti22) rfl fun fr r => ?_
 refine seq_val (U (V (W (a0 + 1)))) r (fun R => y_assign r rfl) rfl fun fr r => ?_
 refine wn ?_
 refine wp_ret ?_
 refine ret_tmp r rfl rfl ?_
 exact ⟨rfl, hB⟩

def D.hazard_held_1 (r_hazard_held : Plan → Int → Int → T Bool) (c0 : Int) (c1 : Plan) (c2 : Int) (a0 : Int) : T Bool := (bif (a0 == (D.hazard_word c0)) then (D.prog_Done_bool true) else (r_hazard_held c1 c0 (IntKind.i64.wrap (c2 + 1))))

def D.hazard_held_body (r_hazard_held : Plan → Int → Int → T Bool) (a0 : Plan) (a1 : Int) (a2 : Int) : T Bool := (bif (a2 == (IntKind.i64.wrap (a0.threads * 3))) then (D.prog_Done_bool false) else (D.prog_Load_bool (D.plan_Plan_Hazard a0 (IntKind.i64.wrap (a2.tdiv 3)) (a2.tmod 3)) (fun x => (D.hazard_held_1 r_hazard_held a1 a0 a2 x))))

def D.hazard_held : Nat → Plan → Int → Int → T Bool
  | 0, _, _, _ => .cut
  | k + 1, a0, a1, a2 => D.hazard_held_body (D.hazard_held k) a0 a1 a2

def Spec_hazard_held (r : Plan → Int → Int → T Bool) (n : Nat) : Prop := ∀ (F : Nat → Prop) (w0 : World), (∀ b, F b → b < w0.heap.size) → ∀ (a0 : Plan) (a1 : Int) (a2 : Int), Calls Tryz.prog 389 #[.agg (planC a0).toArray, .int .i64 a1, .int .i64 a2] w0 (RepRes Tryz.prog encBool n (r a0 a1 a2) F w0)

theorem c_hazard_held_1 {n : Nat} {F : Nat → Prop} {r_hazard_held : Plan → Int → Int → T Bool} {w0 : World} (hF : ∀ b, F b → b < w0.heap.size) (ih_hazard_held : ∀ m, m ≤ n → Spec_hazard_held r_hazard_held m)
    (c0 : Int) {c0_b : Nat} (c0_F : F c0_b) (c0_h : w0.heap[c0_b]? = some (.cells ([(.int .i64 c0)]).toArray 3 (0, 0))) (c1 : Plan) {c1_b : Nat} (c1_F : F c1_b) (c1_h : w0.heap[c1_b]? = some (.cells ((planC c1)).toArray 25 (0, 0))) (c2 : Int) {c2_b : Nat} (c2_F : F c2_b) (c2_h : w0.heap[c2_b]? = some (.cells ([(.int .i64 c2)]).toArray 3 (0, 0))) (a0 : Int) :
    Calls Tryz.prog 415 #[.int .u64 a0, .pointer (some ⟨c0_b, 0, none⟩), .pointer (some ⟨c1_b, 0, none⟩), .pointer (some ⟨c2_b, 0, none⟩)] w0 (RepRes Tryz.prog encBool n (D.hazard_held_1 r_hazard_held c0 c1 c2 a0) F w0) := by
 refine enter Tryz.func415 rfl 16 rfl rfl fun fr r => ?_
 have hB := Below.refl w0.heap.size w0
 have l_c0_b := lt_of_block c0_h
 have l_c1_b := lt_of_block c1_h
 have l_c2_b := lt_of_block c2_h
 refine wsr ?_
 refine seq_new (.cells (progCells false encBool.zero 0 0 0 0 .nilFunc) 324 (0, 0)) r (fun R => y_alloc tz324) rfl fun fr b1 w2 n3 r => ?_
 obtain ⟨e_b1, z_w2, h_b1, hB, zB⟩ := n3.all hB
 refine wn ?_
 refine wp_seq ?_
 refine wsr ?_
 refine seq_val (U a0) r (fun R => y_move r rfl) rfl fun fr r => ?_
 refine seq_val (I c0) r (fun R => y_load_one r rfl (keep hB c0_h) to3 rfl) rfl fun fr r => ?_
 refine seq_call r (c_hazard_word w2 c0) (fun R hc => y_call r rfl cl320 hc) rfl ?_
 rintro _ w4 ⟨rfl, hb⟩
 refine ⟨_, rfl, fun fr r => ?_⟩
 have z_w4 := hb.size
 have h_b1 := keep hb h_b1
 obtain ⟨hB, zB⟩ := bon hb hB
 refine seq_val _ r (fun R => y_bin r rfl rfl rfl rfl) rfl fun fr r => ?_
 refine wn ?_
 refine wp_cond_split (t := (a0 == (D.hazard_word c0))) (r.ev rfl) (fun h5 => ?_) (fun h5 => ?_)
 ·
  refine wsr ?_
  have hF1 := fgrow hF hB b1
  refine seq_call r (c_prog_Done_bool (F := (fun b => F b ∨ (w0.heap.size ≤ b ∧ b < w4.heap.size ∧ b ≠ b1))) (n := n) hF1 true) (fun R hc => y_call r rfl cl413 hc) rfl ?_
  rintro _ w6 ⟨v7, rfl, hb, hr8⟩
  refine ⟨_, rfl, fun fr r => ?_⟩
  have z_w6 := hb.size
  have h_b1 := keep hb h_b1
  obtain ⟨hB, zB⟩ := bon hb hB
  refine seq_upd (.cells v7.cells 324 (0, 0)) r (fun R => y_storep r hr8.shape rfl rfl h_b1 ts324 rfl) rfl fun fr w9 u10 r => ?_
  have z_w9 := u10.size
  have h_b1 := u10.at_
  obtain ⟨hB, zB⟩ := u10.on hB (by omega)
  refine wn ?_
  refine wp_ret ?_
  have hd : D.hazard_held_1 r_hazard_held c0 c1 c2 a0 = (D.prog_Done_bool true) := (cond_t h5).trans (rfl)
  have hs := hr8.shape.cells
  refine ret_cell r rfl rfl h_b1 (k := 7) hs.1 ta324 ?_
  rw [← hs.2.2, hd]
  exact rfin hF hB hr8 u10 (by omega) (by omega) (by omega)
 ·
  refine wp_skip ?_
  refine wsr ?_
  refine seq_val (.agg (planC c1).toArray) r (fun R => y_load_agg r (cs := (planC c1)) (n := 6) rfl (keep hB c1_h) ta25 rfl) rfl fun fr r => ?_
  refine seq_val (I c0) r (fun R => y_load_one r rfl (keep hB c0_h) to3 rfl) rfl fun fr r => ?_
  refine seq_val (I c2) r (fun R => y_load_one r rfl (keep hB c2_h) to3 rfl) rfl fun fr r => ?_
  refine seq_val _ r (fun R => y_bin r rfl rfl rfl rfl) rfl fun fr r => ?_
  have hF1 := fgrow hF hB b1
  refine seq_call r ((ih_hazard_held n (by omega)) (fun b => F b ∨ (w0.heap.size ≤ b ∧ b < w4.heap.size ∧ b ≠ b1)) _ hF1 c1 c0 (W (c2 + 1))) (fun R hc => y_call r rfl cl389 hc) rfl ?_
  rintro _ w11 ⟨v12, rfl, hb, hr13⟩
  refine ⟨_, rfl, fun fr r => ?_⟩
  have z_w11 := hb.size
  have h_b1 := keep hb h_b1
  obtain ⟨hB, zB⟩ := bon hb hB
  refine seq_upd (.cells v12.cells 324 (0, 0)) r (fun R => y_storep r hr13.shape rfl rfl h_b1 ts324 rfl) rfl fun fr w14 u15 r => ?_
  have z_w14 := u15.size
  have h_b1 := u15.at_
  obtain ⟨hB, zB⟩ := u15.on hB (by omega)
  refine wn ?_
  refine wp_ret ?_
  have hd : D.hazard_held_1 r_hazard_held c0 c1 c2 a0 = (r_hazard_held c1 c0 (W (c2 + 1))) := (cond_f h5).trans (rfl)
  have hs := hr13.shape.cells
  refine ret_cell r rfl rfl h_b1 (k := 7) hs.1 ta324 ?_
  rw [← hs.2.2, hd]
  exact rfin hF hB hr13 u15 (by omega) (by omega) (by omega)

theorem b_hazard_held {n : Nat} {F : Nat → Prop} {r_hazard_held : Plan → Int → Int → T Bool} {w0 : World} (hF : ∀ b, F b → b < w0.heap.size) (ih_hazard_held : ∀ m, m < n → Spec_hazard_held r_hazard_held m)
    (a0 : Plan) (a1 : Int) (a2 : Int) :
    Calls Tryz.prog 389 #[.agg (planC a0).toArray, .int .i64 a1, .int .i64 a2] w0 (RepRes Tryz.prog encBool n (D.hazard_held_body r_hazard_held a0 a1 a2) F w0) := by
 refine enter Tryz.func389 rfl 21 rfl rfl fun fr r => ?_
 have hB := Below.refl w0.heap.size w0
 refine wsr ?_
 refine seq_new (.cells ((planC a0)).toArray 25 (0, 0)) r (fun R => y_box r (v := (.agg (planC a0).toArray)) rfl) rfl fun fr b1 w2 n3 r => ?_
 obtain ⟨e_b1, z_w2, h_b1, hB, zB⟩ := n3.all hB
 refine seq_new (.cells #[(I a1)] 3 (0, 0)) r (fun R => y_box r (v := (I a1)) rfl) rfl fun fr b4 w5 n6 r => ?_
 have h_b1 := keep n6.below h_b1
 obtain ⟨e_b4, z_w5, h_b4, hB, zB⟩ := n6.all hB
 refine seq_new (.cells #[(I a2)] 3 (0, 0)) r (fun R => y_box r (v := (I a2)) rfl) rfl fun fr b7 w8 n9 r => ?_
 have h_b1 := keep n9.below h_b1
 have h_b4 := keep n9.below h_b4
 obtain ⟨e_b7, z_w8, h_b7, hB, zB⟩ := n9.all hB
 refine seq_new (.cells (progCells false encBool.zero 0 0 0 0 .nilFunc) 324 (0, 0)) r (fun R => y_alloc tz324) rfl fun fr b10 w11 n12 r => ?_
 have h_b1 := keep n12.below h_b1
 have h_b4 := keep n12.below h_b4
 have h_b7 := keep n12.below h_b7
 obtain ⟨e_b10, z_w11, h_b10, hB, zB⟩ := n12.all hB
 refine wn ?_
 refine wp_seq ?_
 refine wsr ?_
 refine seq_val (I a2) r (fun R => y_load_one r rfl h_b7 to3 rfl) rfl fun fr r => ?_
 refine seq_val _ r (fun R => y_fieldAddr r (o := 0) rfl fo25_1) rfl fun fr r => ?_
 refine seq_val (I a0.threads) r (fun R => y_load_one r rfl h_b1 to3 rfl) rfl fun fr r => ?_
 refine seq_val _ r (fun R => y_bin r rfl rfl rfl rfl) rfl fun fr r => ?_
 refine seq_val _ r (fun R => y_bin r rfl rfl rfl rfl) rfl fun fr r => ?_
 refine wn ?_
 refine wp_cond_split (t := (a2 == (W (a0.threads * 3)))) (r.ev rfl) (fun h13 => ?_) (fun h13 => ?_)
 ·
  refine wsr ?_
  have hF1 := fgrow hF hB b10
  refine seq_call r (c_prog_Done_bool (F := (fun b => F b ∨ (w0.heap.size ≤ b ∧ b < w11.heap.size ∧ b ≠ b10))) (n := n) hF1 false) (fun R hc => y_call r rfl cl413 hc) rfl ?_
  rintro _ w14 ⟨v15, rfl, hb, hr16⟩
  refine ⟨_, rfl, fun fr r => ?_⟩
  have z_w14 := hb.size
  have h_b1 := keep hb h_b1
  have h_b4 := keep hb h_b4
  have h_b7 := keep hb h_b7
  have h_b10 := keep hb h_b10
  obtain ⟨hB, zB⟩ := bon hb hB
  refine seq_upd (.cells v15.cells 324 (0, 0)) r (fun R => y_storep r hr16.shape rfl rfl h_b10 ts324 rfl) rfl fun fr w17 u18 r => ?_
  have z_w17 := u18.size
  have h_b1 := u18.keep h_b1 (by omega)
  have h_b4 := u18.keep h_b4 (by omega)
  have h_b7 := u18.keep h_b7 (by omega)
  have h_b10 := u18.at_
  obtain ⟨hB, zB⟩ := u18.on hB (by omega)
  refine wn ?_
  refine wp_ret ?_
  have hd : D.hazard_held_body r_hazard_held a0 a1 a2 = (D.prog_Done_bool false) := (cond_t h13).trans (rfl)
  have hs := hr16.shape.cells
  refine ret_cell r rfl rfl h_b10 (k := 7) hs.1 ta324 ?_
  rw [← hs.2.2, hd]
  exact rfin hF hB hr16 u18 (by omega) (by omega) (by omega)
 ·
  refine wp_skip ?_
  refine wsr ?_
  refine seq_val (.agg (planC a0).toArray) r (fun R => y_load_agg r (cs := (planC a0)) (n := 6) rfl h_b1 ta25 rfl) rfl fun fr r => ?_
  refine seq_val (I a2) r (fun R => y_load_one r rfl h_b7 to3 rfl) rfl fun fr r => ?_
  refine seq_val _ r (fun R => y_bin r rfl rfl rfl rfl) rfl fun fr r => ?_
  refine seq_val (I a2) r (fun R => y_load_one r rfl h_b7 to3 rfl) rfl fun fr r => ?_
  refine seq_val _ r (fun R => y_bin r rfl rfl rfl rfl) rfl fun fr r => ?_
  refine seq_call r (c_plan_Plan_Hazard w11 a0 (W (a2.tdiv 3)) (a2.tmod 3)) (fun R hc => y_call r rfl cl52 hc) rfl ?_
  rintro _ w19 ⟨rfl, hb⟩
  refine ⟨_, rfl, fun fr r => ?_⟩
  have z_w19 := hb.size
  have h_b1 := keep hb h_b1
  have h_b4 := keep hb h_b4
  have h_b7 := keep hb h_b7
  have h_b10 := keep hb h_b10
  obtain ⟨hB, zB⟩ := bon hb hB
  refine seq_val (.func (.func 415) #[] #[.pointer (some ⟨b4, 0, none⟩), .pointer (some ⟨b1, 0, none⟩), .pointer (some ⟨b7, 0, none⟩)]) r (fun R => y_makeFunc r rfl) rfl fun fr r => ?_
  have hF1 := fgrow hF hB b10
  have f20 : ((fun b => F b ∨ (w0.heap.size ≤ b ∧ b < w19.heap.size ∧ b ≠ b10))) b4 := (.inr ⟨by omega, by omega, by omega⟩)
  have f21 : ((fun b => F b ∨ (w0.heap.size ≤ b ∧ b < w19.heap.size ∧ b ≠ b10))) b1 := (.inr ⟨by omega, by omega, by omega⟩)
  have f22 : ((fun b => F b ∨ (w0.heap.size ≤ b ∧ b < w19.heap.size ∧ b ≠ b10))) b7 := (.inr ⟨by omega, by omega, by omega⟩)
  refine seq_call r (c_prog_Load_bool (F := (fun b => F b ∨ (w0.heap.size ≤ b ∧ b < w19.heap.size ∧ b ≠ b10))) (n := n) hF1 (D.plan_Plan_Hazard a0 (W (a2.tdiv 3)) (a2.tmod 3)) ⟨415, [], [.pointer (some ⟨b4, 0, none⟩), .pointer (some ⟨b1, 0, none⟩), .pointer (some ⟨b7, 0, none⟩)], cl415, rfl, fun m hm x w' hs hz => c_hazard_held_1 (fun b hb => Nat.lt_of_lt_of_le (hF1 b hb) hz) (fun m' hm' => ih_hazard_held m' (by omega)) a1 f20 (hs.at_ f20 h_b4) a0 f21 (hs.at_ f21 h_b1) a2 f22 (hs.at_ f22 h_b7) x⟩) (fun R hc => y_call r rfl cl414 hc) rfl ?_
  rintro _ w23 ⟨v24, rfl, hb, hr25⟩
  refine ⟨_, rfl, fun fr r => ?_⟩
  have z_w23 := hb.size
  have h_b1 := keep hb h_b1
  have h_b4 := keep hb h_b4
  have h_b7 := keep hb h_b7
  have h_b10 := keep hb h_b10
  obtain ⟨hB, zB⟩ := bon hb hB
  refine seq_upd (.cells v24.cells 324 (0, 0)) r (fun R => y_storep r hr25.shape rfl rfl h_b10 ts324 rfl) rfl fun fr w26 u27 r => ?_
  have z_w26 := u27.size
  have h_b1 := u27.keep h_b1 (by omega)
  have h_b4 := u27.keep h_b4 (by omega)
  have h_b7 := u27.keep h_b7 (by omega)
  have h_b10 := u27.at_
  obtain ⟨hB, zB⟩ := u27.on hB (by omega)
  refine wn ?_
  refine wp_ret ?_
  have hd : D.hazard_held_body r_hazard_held a0 a1 a2 = (D.prog_Load_bool (D.plan_Plan_Hazard a0 (W (a2.tdiv 3)) (a2.tmod 3)) (fun x => (D.hazard_held_1 r_hazard_held a1 a0 a2 x))) := (cond_f h13).trans (rfl)
  have hs := hr25.shape.cells
  refine ret_cell r rfl rfl h_b10 (k := 7) hs.1 ta324 ?_
  rw [← hs.2.2, hd]
  exact rfin hF hB hr25 u27 (by omega) (by omega) (by omega)

theorem c_hazard_held {n : Nat} {k : Nat} (hk : n < k) : Spec_hazard_held (D.hazard_held k) n := by
  induction n using Nat.strongRecOn generalizing k with
  | _ n ih =>
    obtain ⟨k, rfl⟩ : ∃ q, k = q + 1 := ⟨k - 1, by omega⟩
    intro F w0 hF
    have h := @b_hazard_held n F (D.hazard_held k) w0 hF (fun m hm => ih m hm (by omega))
    exact h

def D.hazard_Held (j : Nat) (a0 : Plan) (a1 : Int) : T Bool := (D.hazard_held j a0 a1 0)

theorem c_hazard_Held {n : Nat} {F : Nat → Prop} {j : Nat} {w0 : World} (hF : ∀ b, F b → b < w0.heap.size) (hj : n < j)
    (a0 : Plan) (a1 : Int) :
    Calls Tryz.prog 358 #[.agg (planC a0).toArray, .int .i64 a1] w0 (RepRes Tryz.prog encBool n (D.hazard_Held j a0 a1) F w0) := by
 refine enter Tryz.func358 rfl 8 rfl rfl fun fr r => ?_
 have hB := Below.refl w0.heap.size w0
 refine wsr ?_
 refine seq_new (.cells ((planC a0)).toArray 25 (0, 0)) r (fun R => y_box r (v := (.agg (planC a0).toArray)) rfl) rfl fun fr b1 w2 n3 r => ?_
 obtain ⟨e_b1, z_w2, h_b1, hB, zB⟩ := n3.all hB
 refine seq_new (.cells (progCells false encBool.zero 0 0 0 0 .nilFunc) 324 (0, 0)) r (fun R => y_alloc tz324) rfl fun fr b4 w5 n6 r => ?_
 have h_b1 := keep n6.below h_b1
 obtain ⟨e_b4, z_w5, h_b4, hB, zB⟩ := n6.all hB
 refine wn ?_
 refine wsr ?_
 refine seq_val (.agg (planC a0).toArray) r (fun R => y_load_agg r (cs := (planC a0)) (n := 6) rfl h_b1 ta25 rfl) rfl fun fr r => ?_
 refine seq_val (I a1) r (fun R => y_move r rfl) rfl fun fr r => ?_
 have hF1 := fgrow hF hB b4
 refine seq_call r ((c_hazard_held (k := j) (n := n) (by omega)) (fun b => F b ∨ (w0.heap.size ≤ b ∧ b < w5.heap.size ∧ b ≠ b4)) _ hF1 a0 a1 0) (fun R hc => y_call r rfl cl389 hc) rfl ?_
 rintro _ w7 ⟨v8, rfl, hb, hr9⟩
 refine ⟨_, rfl, fun fr r => ?_⟩
 have z_w7 := hb.size
 have h_b1 := keep hb h_b1
 have h_b4 := keep hb h_b4
 obtain ⟨hB, zB⟩ := bon hb hB
 refine seq_upd (.cells v8.cells 324 (0, 0)) r (fun R => y_storep r hr9.shape rfl rfl h_b4 ts324 rfl) rfl fun fr w10 u11 r => ?_
 have z_w10 := u11.size
 have h_b1 := u11.keep h_b1 (by omega)
 have h_b4 := u11.at_
 obtain ⟨hB, zB⟩ := u11.on hB (by omega)
 refine wn ?_
 refine wp_ret ?_
 have hs := hr9.shape.cells
 refine ret_cell r rfl rfl h_b4 (k := 7) hs.1 ta324 ?_
 rw [← hs.2.2]
 exact rfin hF hB hr9 u11 (by omega) (by omega) (by omega)

def D.hazard_Set (a0 : Plan) (a1 : Int) (a2 : Int) (a3 : Int) : T Unit := (D.prog_Set (D.plan_Plan_Hazard a0 a1 a2) (D.hazard_word a3))

theorem c_hazard_Set {n : Nat} {F : Nat → Prop} {w0 : World} (hF : ∀ b, F b → b < w0.heap.size)
    (a0 : Plan) (a1 : Int) (a2 : Int) (a3 : Int) :
    Calls Tryz.prog 218 #[.agg (planC a0).toArray, .int .i64 a1, .int .i64 a2, .int .i64 a3] w0 (RepRes Tryz.prog encNone n (D.hazard_Set a0 a1 a2 a3) F w0) := by
 refine enter Tryz.func218 rfl 16 rfl rfl fun fr r => ?_
 have hB := Below.refl w0.heap.size w0
 refine wsr ?_
 refine seq_new (.cells ((planC a0)).toArray 25 (0, 0)) r (fun R => y_box r (v := (.agg (planC a0).toArray)) rfl) rfl fun fr b1 w2 n3 r => ?_
 obtain ⟨e_b1, z_w2, h_b1, hB, zB⟩ := n3.all hB
 refine seq_new (.cells (progCells false encNone.zero 0 0 0 0 .nilFunc) 186 (0, 0)) r (fun R => y_alloc tz186) rfl fun fr b4 w5 n6 r => ?_
 have h_b1 := keep n6.below h_b1
 obtain ⟨e_b4, z_w5, h_b4, hB, zB⟩ := n6.all hB
 refine wn ?_
 refine wsr ?_
 refine seq_val (.agg (planC a0).toArray) r (fun R => y_load_agg r (cs := (planC a0)) (n := 6) rfl h_b1 ta25 rfl) rfl fun fr r => ?_
 refine seq_val (I a1) r (fun R => y_move r rfl) rfl fun fr r => ?_
 refine seq_val (I a2) r (fun R => y_move r rfl) rfl fun fr r => ?_
 refine seq_call r (c_plan_Plan_Hazard w5 a0 a1 a2) (fun R hc => y_call r rfl cl52 hc) rfl ?_
 rintro _ w7 ⟨rfl, hb⟩
 refine ⟨_, rfl, fun fr r => ?_⟩
 have z_w7 := hb.size
 have h_b1 := keep hb h_b1
 have h_b4 := keep hb h_b4
 obtain ⟨hB, zB⟩ := bon hb hB
 refine seq_val (I a3) r (fun R => y_move r rfl) rfl fun fr r => ?_
 refine seq_call r (c_hazard_word w7 a3) (fun R hc => y_call r rfl cl320 hc) rfl ?_
 rintro _ w8 ⟨rfl, hb⟩
 refine ⟨_, rfl, fun fr r => ?_⟩
 have z_w8 := hb.size
 have h_b1 := keep hb h_b1
 have h_b4 := keep hb h_b4
 obtain ⟨hB, zB⟩ := bon hb hB
 have hF1 := fgrow hF hB b4
 refine seq_call r (c_prog_Set (F := (fun b => F b ∨ (w0.heap.size ≤ b ∧ b < w8.heap.size ∧ b ≠ b4))) (n := n) hF1 (D.plan_Plan_Hazard a0 a1 a2) (D.hazard_word a3)) (fun R hc => y_call r rfl cl315 hc) rfl ?_
 rintro _ w9 ⟨v10, rfl, hb, hr11⟩
 refine ⟨_, rfl, fun fr r => ?_⟩
 have z_w9 := hb.size
 have h_b1 := keep hb h_b1
 have h_b4 := keep hb h_b4
 obtain ⟨hB, zB⟩ := bon hb hB
 refine seq_upd (.cells v10.cells 186 (0, 0)) r (fun R => y_storep r hr11.shape rfl rfl h_b4 ts186 rfl) rfl fun fr w12 u13 r => ?_
 have z_w12 := u13.size
 have h_b1 := u13.keep h_b1 (by omega)
 have h_b4 := u13.at_
 obtain ⟨hB, zB⟩ := u13.on hB (by omega)
 refine wn ?_
 refine wp_ret ?_
 have hs := hr11.shape.cells
 refine ret_cell r rfl rfl h_b4 (k := 6) hs.1 ta186 ?_
 rw [← hs.2.2]
 exact rfin hF hB hr11 u13 (by omega) (by omega) (by omega)

end Go.Proofs.YtjkinpbfmihhdaaGreat
