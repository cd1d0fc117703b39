/- Written by a program of ours (wip/gen.py): nodes that are retired -/
import Derived.Test.YtjkinpbfmihhdaaGreatCrM4
import Derived.Test.YtjkinpbfmihhdaaGreatCrM8
set_option linter.all false
set_option linter.unusedVariables false
set_option maxRecDepth 20000
set_option maxHeartbeats 2000000
namespace Go.Proofs.YtjkinpbfmihhdaaGreat
open Go.RowKit
theorem cl150 : callable Tryz.prog 150 = true := by kernel_rfl

theorem cl164 : callable Tryz.prog 164 = true := by kernel_rfl

theorem cl165 : callable Tryz.prog 165 = true := by kernel_rfl

theorem cl267 : callable Tryz.prog 267 = true := by kernel_rfl

theorem cl293 : callable Tryz.prog 293 = true := by kernel_rfl

theorem cl294 : callable Tryz.prog 294 = true := by kernel_rfl

theorem cl322 : callable Tryz.prog 322 = true := by kernel_rfl

theorem cl323 : callable Tryz.prog 323 = true := by kernel_rfl

theorem cl324 : callable Tryz.prog 324 = true := by kernel_rfl

theorem cl338 : callable Tryz.prog 338 = true := by kernel_rfl

theorem cl339 : callable Tryz.prog 339 = true := by kernel_rfl

theorem cl340 : callable Tryz.prog 340 = true := by kernel_rfl

theorem cl341 : callable Tryz.prog 341 = true := by kernel_rfl

theorem cl342 : callable Tryz.prog 342 = true := by kernel_rfl

theorem cl356 : callable Tryz.prog 356 = true := by kernel_rfl

theorem cl358 : callable Tryz.prog 358 = true := by kernel_rfl

theorem cl359 : callable Tryz.prog 359 = true := by kernel_rfl

theorem cl360 : callable Tryz.prog 360 = true := by kernel_rfl

theorem cl378 : callable Tryz.prog 378 = true := by kernel_rfl

theorem cl390 : callable Tryz.prog 390 = true := by kernel_rfl

theorem cl391 : callable Tryz.prog 391 = true := by kernel_rfl

theorem cl392 : callable Tryz.prog 392 = true := by kernel_rfl

theorem cl393 : callable Tryz.prog 393 = true := by kernel_rfl

theorem cl67 : callable Tryz.prog 67 = true := by kernel_rfl

theorem cl68 : callable Tryz.prog 68 = true := by kernel_rfl

theorem cl91 : callable Tryz.prog 91 = true := by kernel_rfl

theorem fo300_0 : fieldOff Tryz.prog 300 0 0 = true := by kernel_rfl

theorem fo300_1 : fieldOff Tryz.prog 300 1 1 = true := by kernel_rfl

theorem fo300_2 : fieldOff Tryz.prog 300 2 2 = true := by kernel_rfl

theorem ta300 : tyA Tryz.prog 300 3 = true := by kernel_rfl

theorem ts257 : sized Tryz.prog 257 1 = true := by kernel_rfl

theorem ts300 : sized Tryz.prog 300 3 = true := by kernel_rfl

theorem tz257 : zeroOf Tryz.prog 257 = some .nilFunc := by kernel_rfl

theorem tz300 : zeroOf Tryz.prog 300 = some (.agg (scanC (⟨0, 0, 0⟩ : Scan)).toArray) := by kernel_rfl

def D.retire_zero_1 (r_retire_zero : Plan → Int → Int → (Unit → T Int) → T Int) (c0 : Plan) (c1 : Int) (c2 : Int) (c3 : (Unit → T Int)) : T Int := (r_retire_zero c0 c1 (IntKind.i64.wrap (c2 + 1)) c3)

def D.zz1x (r_retire_zero : Plan → Int → Int → (Unit → T Int) → T Int) (a0 : Plan) (a1 : Int) (a2 : Int) (a3 : (Unit → T Int)) : T Int := (bif (a2 == 3) then (a3 ()) else (D.zz1y (D.zz1u a0 a1 a2) 0 (fun _ => (D.retire_zero_1 r_retire_zero a0 a1 a2 a3))))

def D.zz2i : Nat → Plan → Int → Int → (Unit → T Int) → T Int
  | 0, _, _, _, _ => .cut
  | k + 1, a0, a1, a2, a3 => D.zz1x (D.zz2i k) a0 a1 a2 a3

def zz5h (r : Plan → Int → Int → (Unit → T Int) → T Int) (n : Nat) : Prop := ∀ (F : Nat → Prop) (w0 : World), (∀ b, F b → b < w0.heap.size) → ∀ (a0 : Plan) (a1 : Int) (a2 : Int) {a3_f : FuncId} {a3_1 a3_2 : List Value} {a3 : (Unit → T Int)} (a3_n : FnT Tryz.prog encInt unitE (n + 1) F w0 (.func (.func a3_f) a3_1.toArray a3_2.toArray) a3), Calls Tryz.prog 338 #[.agg (planC a0).toArray, .int .i64 a1, .int .i64 a2, .func (.func a3_f) a3_1.toArray a3_2.toArray] w0 (RepRes Tryz.prog encInt n (r a0 a1 a2 a3) F w0)

theorem c_retire_zero_1 {n : Nat} {F : Nat → Prop} {r_retire_zero : Plan → Int → Int → (Unit → T Int) → T Int} {w0 : World} (hF : ∀ b, F b → b < w0.heap.size) (ih_retire_zero : ∀ m, m ≤ n → zz5h r_retire_zero m)
    (c0 : Plan) {c0_b : Nat} (c0_F : F c0_b) (c0_h : w0.heap[c0_b]? = some (.cells ((planC c0)).toArray 25 (0, 0))) (c1 : Int) {c1_b : Nat} (c1_F : F c1_b) (c1_h : w0.heap[c1_b]? = some (.cells ([(.int .i64 c1)]).toArray 3 (0, 0))) (c2 : Int) {c2_b : Nat} (c2_F : F c2_b) (c2_h : w0.heap[c2_b]? = some (.cells ([(.int .i64 c2)]).toArray 3 (0, 0))) {c3_f : FuncId} {c3_1 c3_2 : List Value} {c3 : (Unit → T Int)} {c3_b : Nat} (c3_F : F c3_b) (c3_h : w0.heap[c3_b]? = some (.cells #[.func (.func c3_f) c3_1.toArray c3_2.toArray] 257 (0, 0))) (c3_n : FnT Tryz.prog encInt unitE (n + 1) F w0 (.func (.func c3_f) c3_1.toArray c3_2.toArray) c3) :
    Calls Tryz.prog 378 #[.pointer (some ⟨c0_b, 0, none⟩), .pointer (some ⟨c1_b, 0, none⟩), .pointer (some ⟨c2_b, 0, none⟩), .pointer (some ⟨c3_b, 0, none⟩)] w0 (RepRes Tryz.prog encInt n (D.retire_zero_1 r_retire_zero c0 c1 c2 c3) F w0) := by
 refine enter Tryz.func378 rfl 11 rfl rfl fun fr r => ?_
 have hB := Below.refl w0.heap.size w0
 have l_c0_b := lt_of_block c0_h
 have l_c1_b := lt_of_block c1_h
 have l_c2_b := lt_of_block c2_h
 have l_c3_b := lt_of_block c3_h
 refine wsr ?_
 refine seq_new (.cells (progCells false encInt.zero 0 0 0 0 .nilFunc) 167 (0, 0)) r (fun R => y_alloc tz167) rfl fun fr b1 w2 n3 r => ?_
 obtain ⟨e_b1, z_w2, h_b1, hB, zB⟩ := n3.all hB
 refine wn ?_
 refine wsr ?_
 refine seq_val (.agg (planC c0).toArray) r (fun R => zz03 r (cs := (planC c0)) (n := 6) rfl (keep hB c0_h) ta25 rfl) rfl fun fr r => ?_
 refine seq_val (I c1) r (fun R => zz01 r rfl (keep hB c1_h) to3 rfl) rfl fun fr r => ?_
 refine seq_val (I c2) r (fun R => zz01 r rfl (keep hB c2_h) to3 rfl) rfl fun fr r => ?_
 refine seq_val _ r (fun R => y_bin r rfl rfl rfl rfl) rfl fun fr r => ?_
 refine seq_val (.func (.func c3_f) c3_1.toArray c3_2.toArray) r (fun R => zz01 r rfl (keep hB c3_h) to257 rfl) rfl fun fr r => ?_
 have hF1 := fgrow hF hB b1
 refine zz06 r ((ih_retire_zero n (by omega)) (fun b => F b ∨ (w0.heap.size ≤ b ∧ b < w2.heap.size ∧ b ≠ b1)) _ hF1 c0 c1 (W (c2 + 1)) (c3_n.mono (by omega) (fun b h => .inl h) (Same.below hB hF) hB.size)) (fun R hc => y_call r rfl cl338 hc) rfl ?_
 rintro _ w4 ⟨v5, rfl, hb, hr6⟩
 refine ⟨_, rfl, fun fr r => ?_⟩
 have z_w4 := hb.size
 have h_b1 := keep hb h_b1
 obtain ⟨hB, zB⟩ := bon hb hB
 refine seq_upd (.cells v5.cells 167 (0, 0)) r (fun R => zz0c r hr6.shape rfl rfl h_b1 ts167 rfl) rfl fun fr w7 u8 r => ?_
 have z_w7 := u8.size
 have h_b1 := u8.at_
 obtain ⟨hB, zB⟩ := u8.on hB (by omega)
 refine wn ?_
 refine wp_ret ?_
 have hs := hr6.shape.cells
 refine zz0a r rfl rfl h_b1 (k := 7) hs.1 ta167 ?_
 rw [← hs.2.2]
 exact rfin hF hB hr6 u8 (by omega) (by omega) (by omega)

theorem b_retire_zero {n : Nat} {F : Nat → Prop} {r_retire_zero : Plan → Int → Int → (Unit → T Int) → T Int} {w0 : World} (hF : ∀ b, F b → b < w0.heap.size) (ih_retire_zero : ∀ m, m < n → zz5h r_retire_zero m)
    (a0 : Plan) (a1 : Int) (a2 : Int) {a3_f : FuncId} {a3_1 a3_2 : List Value} {a3 : (Unit → T Int)} (a3_n : FnT Tryz.prog encInt unitE (n + 1) F w0 (.func (.func a3_f) a3_1.toArray a3_2.toArray) a3) :
    Calls Tryz.prog 338 #[.agg (planC a0).toArray, .int .i64 a1, .int .i64 a2, .func (.func a3_f) a3_1.toArray a3_2.toArray] w0 (RepRes Tryz.prog encInt n (D.zz1x r_retire_zero a0 a1 a2 a3) F w0) := by
 refine enter Tryz.func338 rfl 19 rfl rfl fun fr r => ?_
 have hB := Below.refl w0.heap.size w0
 refine wsr ?_
 refine seq_new (.cells ((planC a0)).toArray 25 (0, 0)) r (fun R => y_box r (v := (.agg (planC a0).toArray)) rfl) rfl fun fr b1 w2 n3 r => ?_
 obtain ⟨e_b1, z_w2, h_b1, hB, zB⟩ := n3.all hB
 refine seq_new (.cells #[(I a1)] 3 (0, 0)) r (fun R => y_box r (v := (I a1)) rfl) rfl fun fr b4 w5 n6 r => ?_
 have h_b1 := keep n6.below h_b1
 obtain ⟨e_b4, z_w5, h_b4, hB, zB⟩ := n6.all hB
 refine seq_new (.cells #[(I a2)] 3 (0, 0)) r (fun R => y_box r (v := (I a2)) rfl) rfl fun fr b7 w8 n9 r => ?_
 have h_b1 := keep n9.below h_b1
 have h_b4 := keep n9.below h_b4
 obtain ⟨e_b7, z_w8, h_b7, hB, zB⟩ := n9.all hB
 refine seq_new (.cells #[.func (.func a3_f) a3_1.toArray a3_2.toArray] 257 (0, 0)) r (fun R => y_box r (v := (.func (.func a3_f) a3_1.toArray a3_2.toArray)) rfl) rfl fun fr b10 w11 n12 r => ?_
 have h_b1 := keep n12.below h_b1
 have h_b4 := keep n12.below h_b4
 have h_b7 := keep n12.below h_b7
 obtain ⟨e_b10, z_w11, h_b10, hB, zB⟩ := n12.all hB
 refine seq_new (.cells (progCells false encInt.zero 0 0 0 0 .nilFunc) 167 (0, 0)) r (fun R => y_alloc tz167) rfl fun fr b13 w14 n15 r => ?_
 have h_b1 := keep n15.below h_b1
 have h_b4 := keep n15.below h_b4
 have h_b7 := keep n15.below h_b7
 have h_b10 := keep n15.below h_b10
 obtain ⟨e_b13, z_w14, h_b13, hB, zB⟩ := n15.all hB
 refine wn ?_
 refine wp_seq ?_
 refine wsr ?_
 refine seq_val (I a2) r (fun R => zz01 r rfl h_b7 to3 rfl) rfl fun fr r => ?_
 refine seq_val _ r (fun R => y_bin r rfl rfl rfl rfl) rfl fun fr r => ?_
 refine wn ?_
 refine wp_cond_split (t := (a2 == 3)) (r.ev rfl) (fun h16 => ?_) (fun h16 => ?_)
 ·
  refine wsr ?_
  refine seq_val (.func (.func a3_f) a3_1.toArray a3_2.toArray) r (fun R => zz01 r rfl h_b10 to257 rfl) rfl fun fr r => ?_
  refine zz06 r (a3_n.at_.2 n (Nat.lt_succ_self n) () w14 (Same.below hB hF) hB.size) (fun R hc => y_callv0 r rfl a3_n.at_.1 hc) rfl ?_
  rintro _ w17 ⟨v18, rfl, hb, hr19⟩
  refine ⟨_, rfl, fun fr r => ?_⟩
  have z_w17 := hb.size
  have h_b1 := keep hb h_b1
  have h_b4 := keep hb h_b4
  have h_b7 := keep hb h_b7
  have h_b10 := keep hb h_b10
  have h_b13 := keep hb h_b13
  obtain ⟨hB, zB⟩ := bon hb hB
  refine seq_upd (.cells v18.cells 167 (0, 0)) r (fun R => zz0c r hr19.shape rfl rfl h_b13 ts167 rfl) rfl fun fr w20 u21 r => ?_
  have z_w20 := u21.size
  have h_b1 := u21.keep h_b1 (by omega)
  have h_b4 := u21.keep h_b4 (by omega)
  have h_b7 := u21.keep h_b7 (by omega)
  have h_b10 := u21.keep h_b10 (by omega)
  have h_b13 := u21.at_
  obtain ⟨hB, zB⟩ := u21.on hB (by omega)
  refine wn ?_
  refine wp_ret ?_
  have hd : D.zz1x r_retire_zero a0 a1 a2 a3 = (a3 ()) := (cond_t h16).trans (rfl)
  have hs := hr19.shape.cells
  refine zz0a r rfl rfl h_b13 (k := 7) hs.1 ta167 ?_
  rw [← hs.2.2, hd]
  exact RepRes.fin hB hr19 u21 (fun b hb => .inl hb) (fun h => by have := hF _ h; omega) (by omega) (by omega) (by omega)
 ·
  refine wp_skip ?_
  refine wsr ?_
  refine seq_val (.agg (planC a0).toArray) r (fun R => zz03 r (cs := (planC a0)) (n := 6) rfl h_b1 ta25 rfl) rfl fun fr r => ?_
  refine seq_val (I a1) r (fun R => zz01 r rfl h_b4 to3 rfl) rfl fun fr r => ?_
  refine seq_val (I a2) r (fun R => zz01 r rfl h_b7 to3 rfl) rfl fun fr r => ?_
  refine zz06 r (c_plan_Plan_Field w14 a0 a1 a2) (fun R hc => y_call r rfl cl150 hc) rfl ?_
  rintro _ w22 ⟨rfl, hb⟩
  refine ⟨_, rfl, fun fr r => ?_⟩
  have z_w22 := hb.size
  have h_b1 := keep hb h_b1
  have h_b4 := keep hb h_b4
  have h_b7 := keep hb h_b7
  have h_b10 := keep hb h_b10
  have h_b13 := keep hb h_b13
  obtain ⟨hB, zB⟩ := bon hb hB
  refine seq_val (.func (.func 378) #[] #[.pointer (some ⟨b1, 0, none⟩), .pointer (some ⟨b4, 0, none⟩), .pointer (some ⟨b7, 0, none⟩), .pointer (some ⟨b10, 0, none⟩)]) r (fun R => zz0o r rfl) rfl fun fr r => ?_
  have hF1 := fgrow hF hB b13
  have f23 : ((fun b => F b ∨ (w0.heap.size ≤ b ∧ b < w22.heap.size ∧ b ≠ b13))) b1 := (.inr ⟨by omega, by omega, by omega⟩)
  have f24 : ((fun b => F b ∨ (w0.heap.size ≤ b ∧ b < w22.heap.size ∧ b ≠ b13))) b4 := (.inr ⟨by omega, by omega, by omega⟩)
  have f25 : ((fun b => F b ∨ (w0.heap.size ≤ b ∧ b < w22.heap.size ∧ b ≠ b13))) b7 := (.inr ⟨by omega, by omega, by omega⟩)
  have f26 : ((fun b => F b ∨ (w0.heap.size ≤ b ∧ b < w22.heap.size ∧ b ≠ b13))) b10 := (.inr ⟨by omega, by omega, by omega⟩)
  refine zz06 r (zz2g (F := (fun b => F b ∨ (w0.heap.size ≤ b ∧ b < w22.heap.size ∧ b ≠ b13))) (n := n) hF1 (D.zz1u a0 a1 a2) 0 ⟨378, [], [.pointer (some ⟨b1, 0, none⟩), .pointer (some ⟨b4, 0, none⟩), .pointer (some ⟨b7, 0, none⟩), .pointer (some ⟨b10, 0, none⟩)], cl378, rfl, fun m hm _ w' hs hz => c_retire_zero_1 (fun b hb => Nat.lt_of_lt_of_le (hF1 b hb) hz) (fun m' hm' => ih_retire_zero m' (by omega)) a0 f23 (hs.at_ f23 h_b1) a1 f24 (hs.at_ f24 h_b4) a2 f25 (hs.at_ f25 h_b7) f26 (hs.at_ f26 h_b10) (a3_n.mono (by omega) (fun b h => .inl h) ((Same.below hB hF).trans (hs.sub (fun b h => .inl h))) (Nat.le_trans hB.size hz))⟩) (fun R hc => y_call r rfl cl200 hc) rfl ?_
  rintro _ w27 ⟨v28, rfl, hb, hr29⟩
  refine ⟨_, rfl, fun fr r => ?_⟩
  have z_w27 := hb.size
  have h_b1 := keep hb h_b1
  have h_b4 := keep hb h_b4
  have h_b7 := keep hb h_b7
  have h_b10 := keep hb h_b10
  have h_b13 := keep hb h_b13
  obtain ⟨hB, zB⟩ := bon hb hB
  refine seq_upd (.cells v28.cells 167 (0, 0)) r (fun R => zz0c r hr29.shape rfl rfl h_b13 ts167 rfl) rfl fun fr w30 u31 r => ?_
  have z_w30 := u31.size
  have h_b1 := u31.keep h_b1 (by omega)
  have h_b4 := u31.keep h_b4 (by omega)
  have h_b7 := u31.keep h_b7 (by omega)
  have h_b10 := u31.keep h_b10 (by omega)
  have h_b13 := u31.at_
  obtain ⟨hB, zB⟩ := u31.on hB (by omega)
  refine wn ?_
  refine wp_ret ?_
  have hd : D.zz1x r_retire_zero a0 a1 a2 a3 = (D.zz1y (D.zz1u a0 a1 a2) 0 (fun _ => (D.retire_zero_1 r_retire_zero a0 a1 a2 a3))) := (cond_f h16).trans (rfl)
  have hs := hr29.shape.cells
  refine zz0a r rfl rfl h_b13 (k := 7) hs.1 ta167 ?_
  rw [← hs.2.2, hd]
  exact rfin hF hB hr29 u31 (by omega) (by omega) (by omega)

theorem c_retire_zero {n : Nat} {k : Nat} (hk : n < k) : zz5h (D.zz2i k) n := by
  induction n using Nat.strongRecOn generalizing k with
  | _ n ih =>
    obtain ⟨k, rfl⟩ : ∃ q, k = q + 1 := ⟨k - 1, by omega⟩
    intro F w0 hF
    have h := @b_retire_zero n F (D.zz2i k) w0 hF (fun m hm => ih m hm (by omega))
    exact h

def D.zz1k (j : Nat) (c0 : State) (c1 : Plan) (c2 : Int) : T Int := (bif (c0.mode == 3) then (D.zz16 (-1)) else (D.zz44 j c1 c2))

theorem c_retire_Reclaim_1_1_1 {n : Nat} {F : Nat → Prop} {j : Nat} {w0 : World} (hF : ∀ b, F b → b < w0.heap.size) (hj : n < j)
    (c0 : State) {c0_b : Nat} (c0_F : F c0_b) (c0_h : w0.heap[c0_b]? = some (.cells ((stateC c0)).toArray 118 (0, 0))) (c1 : Plan) {c1_b : Nat} (c1_F : F c1_b) (c1_h : w0.heap[c1_b]? = some (.cells ((planC c1)).toArray 25 (0, 0))) (c2 : Int) {c2_b : Nat} (c2_F : F c2_b) (c2_h : w0.heap[c2_b]? = some (.cells ([(.int .i64 c2)]).toArray 3 (0, 0))) :
    Calls Tryz.prog 342 #[.pointer (some ⟨c0_b, 0, none⟩), .pointer (some ⟨c1_b, 0, none⟩), .pointer (some ⟨c2_b, 0, none⟩)] w0 (RepRes Tryz.prog encInt n (D.zz1k j c0 c1 c2) F w0) := by
 refine enter Tryz.func342 rfl 11 rfl rfl fun fr r => ?_
 have hB := Below.refl w0.heap.size w0
 have l_c0_b := lt_of_block c0_h
 have l_c1_b := lt_of_block c1_h
 have l_c2_b := lt_of_block c2_h
 refine wsr ?_
 refine seq_new (.cells (progCells false encInt.zero 0 0 0 0 .nilFunc) 167 (0, 0)) r (fun R => y_alloc tz167) rfl fun fr b1 w2 n3 r => ?_
 obtain ⟨e_b1, z_w2, h_b1, hB, zB⟩ := n3.all hB
 refine wn ?_
 refine wp_seq ?_
 refine wsr ?_
 refine seq_val _ r (fun R => zz02 r (o := 0) rfl fo118_1) rfl fun fr r => ?_
 refine seq_val (I c0.mode) r (fun R => zz01 r rfl (keep hB c0_h) to3 rfl) rfl fun fr r => ?_
 refine seq_val _ r (fun R => y_bin r rfl rfl rfl rfl) rfl fun fr r => ?_
 refine wn ?_
 refine wp_cond_split (t := (c0.mode == 3)) (r.ev rfl) (fun h4 => ?_) (fun h4 => ?_)
 ·
  refine wsr ?_
  have hF1 := fgrow hF hB b1
  refine zz06 r (zz1v (F := (fun b => F b ∨ (w0.heap.size ≤ b ∧ b < w2.heap.size ∧ b ≠ b1))) (n := n) hF1 (-1)) (fun R hc => y_call r rfl cl229 hc) rfl ?_
  rintro _ w5 ⟨v6, rfl, hb, hr7⟩
  refine ⟨_, rfl, fun fr r => ?_⟩
  have z_w5 := hb.size
  have h_b1 := keep hb h_b1
  obtain ⟨hB, zB⟩ := bon hb hB
  refine seq_upd (.cells v6.cells 167 (0, 0)) r (fun R => zz0c r hr7.shape rfl rfl h_b1 ts167 rfl) rfl fun fr w8 u9 r => ?_
  have z_w8 := u9.size
  have h_b1 := u9.at_
  obtain ⟨hB, zB⟩ := u9.on hB (by omega)
  refine wn ?_
  refine wp_ret ?_
  have hd : D.zz1k j c0 c1 c2 = (D.zz16 (-1)) := (cond_t h4).trans (rfl)
  have hs := hr7.shape.cells
  refine zz0a r rfl rfl h_b1 (k := 7) hs.1 ta167 ?_
  rw [← hs.2.2, hd]
  exact rfin hF hB hr7 u9 (by omega) (by omega) (by omega)
 ·
  refine wp_skip ?_
  refine wsr ?_
  refine seq_val (.agg (planC c1).toArray) r (fun R => zz03 r (cs := (planC c1)) (n := 6) rfl (keep hB c1_h) ta25 rfl) rfl fun fr r => ?_
  refine seq_val (I c2) r (fun R => zz01 r rfl (keep hB c2_h) to3 rfl) rfl fun fr r => ?_
  have hF1 := fgrow hF hB b1
  refine zz06 r ((c_free_Push (k := j) (n := n) (by omega)) (fun b => F b ∨ (w0.heap.size ≤ b ∧ b < w2.heap.size ∧ b ≠ b1)) _ hF1 c1 c2) (fun R hc => y_call r rfl cl343 hc) rfl ?_
  rintro _ w10 ⟨v11, rfl, hb, hr12⟩
  refine ⟨_, rfl, fun fr r => ?_⟩
  have z_w10 := hb.size
  have h_b1 := keep hb h_b1
  obtain ⟨hB, zB⟩ := bon hb hB
  refine seq_upd (.cells v11.cells 167 (0, 0)) r (fun R => zz0c r hr12.shape rfl rfl h_b1 ts167 rfl) rfl fun fr w13 u14 r => ?_
  have z_w13 := u14.size
  have h_b1 := u14.at_
  obtain ⟨hB, zB⟩ := u14.on hB (by omega)
  refine wn ?_
  refine wp_ret ?_
  have hd : D.zz1k j c0 c1 c2 = (D.zz44 j c1 c2) := (cond_f h4).trans (rfl)
  have hs := hr12.shape.cells
  refine zz0a r rfl rfl h_b1 (k := 7) hs.1 ta167 ?_
  rw [← hs.2.2, hd]
  exact rfin hF hB hr12 u14 (by omega) (by omega) (by omega)

def D.zz4n (j : Nat) (c0 : Plan) (c1 : Int) (a0 : Int) : T Int := (D.zz1y (D.zz0h c0 c1) (D.zz0e (D.zz0j ((D.zz0v a0).1) c0.gen)) (fun _ => (D.zz1k j (D.zz0j ((D.zz0v a0).1) c0.gen) c0 c1)))

theorem c_retire_Reclaim_1_1 {n : Nat} {F : Nat → Prop} {j : Nat} {w0 : World} (hF : ∀ b, F b → b < w0.heap.size) (hj : n < j)
    (c0 : Plan) {c0_b : Nat} (c0_F : F c0_b) (c0_h : w0.heap[c0_b]? = some (.cells ((planC c0)).toArray 25 (0, 0))) (c1 : Int) {c1_b : Nat} (c1_F : F c1_b) (c1_h : w0.heap[c1_b]? = some (.cells ([(.int .i64 c1)]).toArray 3 (0, 0))) (a0 : Int) :
    Calls Tryz.prog 340 #[.int .u64 a0, .pointer (some ⟨c0_b, 0, none⟩), .pointer (some ⟨c1_b, 0, none⟩)] w0 (RepRes Tryz.prog encInt n (D.zz4n j c0 c1 a0) F w0) := by
 refine enter Tryz.func340 rfl 24 rfl rfl fun fr r => ?_
 have hB := Below.refl w0.heap.size w0
 have l_c0_b := lt_of_block c0_h
 have l_c1_b := lt_of_block c1_h
 refine wsr ?_
 refine seq_new (.cells (progCells false encInt.zero 0 0 0 0 .nilFunc) 167 (0, 0)) r (fun R => y_alloc tz167) rfl fun fr b1 w2 n3 r => ?_
 obtain ⟨e_b1, z_w2, h_b1, hB, zB⟩ := n3.all hB
 refine wn ?_
 refine wsr ?_
 refine seq_val (U a0) r (fun R => y_move r rfl) rfl fun fr r => ?_
 refine zz06 r (c_state_Of w2 a0) (fun R hc => y_call r rfl cl67 hc) rfl ?_
 rintro _ w4 ⟨rfl, hb⟩
 refine ⟨_, rfl, fun fr r => ?_⟩
 have z_w4 := hb.size
 have h_b1 := keep hb h_b1
 obtain ⟨hB, zB⟩ := bon hb hB
 refine seq_val (.tuple #[(.agg (stateC (D.zz0v a0).1).toArray), (.bool (D.zz0v a0).2)]) r (fun R => y_move r rfl) rfl fun fr r => ?_
 refine seq_val (.agg (stateC (D.zz0v a0).1).toArray) r (fun R => zz0t r (vs := #[(.agg (stateC (D.zz0v a0).1).toArray), (.bool (D.zz0v a0).2)]) rfl rfl) rfl fun fr r => ?_
 refine seq_val (.bool (D.zz0v a0).2) r (fun R => zz0t r (vs := #[(.agg (stateC (D.zz0v a0).1).toArray), (.bool (D.zz0v a0).2)]) rfl rfl) rfl fun fr r => ?_
 refine seq_new (.cells ((stateC (⟨0, 0, 0⟩ : State))).toArray 118 (0, 0)) r (fun R => y_alloc tz118) rfl fun fr b5 w6 n7 r => ?_
 have h_b1 := keep n7.below h_b1
 obtain ⟨e_b5, z_w6, h_b5, hB, zB⟩ := n7.all hB
 refine seq_upd (.cells ((stateC ((D.zz0v a0).1))).toArray 118 (0, 0)) r (fun R => y_store r (o := 0) (v := (.agg (stateC (D.zz0v a0).1).toArray)) rfl rfl h_b5 ts118 (Nat.le_of_ble_eq_true rfl) rfl rfl) rfl fun fr w8 u9 r => ?_
 have z_w8 := u9.size
 have h_b1 := u9.keep h_b1 (by omega)
 have h_b5 := u9.at_
 obtain ⟨hB, zB⟩ := u9.on hB (by omega)
 refine seq_val (.bool (D.zz0v a0).2) r (fun R => zz04 r rfl) rfl fun fr r => ?_
 refine wn ?_
 refine wsr ?_
 refine seq_val (.agg (stateC (D.zz0v a0).1).toArray) r (fun R => zz03 r (cs := (stateC ((D.zz0v a0).1))) (n := 3) rfl h_b5 ta118 rfl) rfl fun fr r => ?_
 refine seq_val _ r (fun R => zz02 r (o := 0) rfl fo25_5) rfl fun fr r => ?_
 refine seq_val (I c0.gen) r (fun R => zz01 r rfl (keep hB c0_h) to3 rfl) rfl fun fr r => ?_
 refine zz06 r (c_state_State_Freed w8 ((D.zz0v a0).1) c0.gen) (fun R hc => y_call r rfl cl341 hc) rfl ?_
 rintro _ w10 ⟨rfl, hb⟩
 refine ⟨_, rfl, fun fr r => ?_⟩
 have z_w10 := hb.size
 have h_b1 := keep hb h_b1
 have h_b5 := keep hb h_b5
 obtain ⟨hB, zB⟩ := bon hb hB
 refine seq_new (.cells ((stateC (⟨0, 0, 0⟩ : State))).toArray 118 (0, 0)) r (fun R => y_alloc tz118) rfl fun fr b11 w12 n13 r => ?_
 have h_b1 := keep n13.below h_b1
 have h_b5 := keep n13.below h_b5
 obtain ⟨e_b11, z_w12, h_b11, hB, zB⟩ := n13.all hB
 refine seq_upd (.cells ((stateC (D.zz0j ((D.zz0v a0).1) c0.gen))).toArray 118 (0, 0)) r (fun R => y_store r (o := 0) (v := (.agg (stateC (D.zz0j ((D.zz0v a0).1) c0.gen)).toArray)) rfl rfl h_b11 ts118 (Nat.le_of_ble_eq_true rfl) rfl rfl) rfl fun fr w14 u15 r => ?_
 have z_w14 := u15.size
 have h_b1 := u15.keep h_b1 (by omega)
 have h_b5 := u15.keep h_b5 (by omega)
 have h_b11 := u15.at_
 obtain ⟨hB, zB⟩ := u15.on hB (by omega)
 refine wn ?_
 refine wp_seq ?_
 refine zz1c 6 [.val (.agg (planC c0).toArray), .val (I c1), .val (I (D.zz0h c0 c1)), .val (.agg (stateC (D.zz0j ((D.zz0v a0).1) c0.gen)).toArray), .val (U (D.zz0e (D.zz0j ((D.zz0v a0).1) c0.gen))), .val (.func (.func 342) #[] #[.pointer (some ⟨b11, 0, none⟩), .pointer (some ⟨c0_b, 0, none⟩), .pointer (some ⟨c1_b, 0, none⟩)])] mixed r (by kernel_rfl) (zz00 (by exact trivial) (zz00 (by exact trivial) (zz00 (by exact trivial) (zz00 (by exact trivial) (zz00 (by exact trivial) (zz00 (by exact trivial) zz12)))))) ?_ ?_
 ·
  refine ec r (fun _ u _ b d s => zz03 s (cs := (planC c0)) (n := 6) rfl (keep2 hB b c0_h) ta25 rfl bz) ?_
  refine ec r (fun _ u _ b d s => zz01 s rfl (keep2 hB b c1_h) to3 rfl bz) ?_
  refine ec r (fun fr1 u w' hb' hd r' => y_call r' (args := [(.agg (planC c0).toArray), (I c1)]) (lc hd.1 (lc hd.2.1 l0)) cl68 ((zz2j _ c0 c1).mono (by rintro _ w2 ⟨rfl, hb2⟩; exact ⟨_, rfl, hb2, rfl⟩))) ?_
  refine ec r (fun _ u _ b d s => zz03 s (cs := (stateC (D.zz0j ((D.zz0v a0).1) c0.gen))) (n := 3) rfl (keep b h_b11) ta118 rfl bz) ?_
  refine ec r (fun fr1 u w' hb' hd r' => y_call r' (args := [(.agg (stateC (D.zz0j ((D.zz0v a0).1) c0.gen)).toArray)]) (lc hd.1 l0) cl91 ((zz27 _ (D.zz0j ((D.zz0v a0).1) c0.gen)).mono (by rintro _ w2 ⟨rfl, hb2⟩; exact ⟨_, rfl, hb2, rfl⟩))) ?_
  refine ec r (fun _ u _ b d s => zz0o s (v := (.func (.func 342) #[] #[.pointer (some ⟨b11, 0, none⟩), .pointer (some ⟨c0_b, 0, none⟩), .pointer (some ⟨c1_b, 0, none⟩)])) rfl bz) ?_
  exact zz1l
 ·
  intro fr u w16 hb hΦ hne r
  have r := r.congr (sc (hΦ 5 (by decide)) (sc (hΦ 4 (by decide)) (sc (hΦ 3 (by decide)) (sc (hΦ 2 (by decide)) (sc (hΦ 1 (by decide)) (sc (hΦ 0 (by decide)) rfl))))))
  have z_w16 := hb.size
  have h_b1 := keep hb h_b1
  have h_b5 := keep hb h_b5
  have h_b11 := keep hb h_b11
  obtain ⟨hB, zB⟩ := bon hb hB
  have hF1 := fgrow hF hB b1
  have f17 : ((fun b => F b ∨ (w0.heap.size ≤ b ∧ b < w16.heap.size ∧ b ≠ b1))) b11 := (.inr ⟨by omega, by omega, by omega⟩)
  have f18 : ((fun b => F b ∨ (w0.heap.size ≤ b ∧ b < w16.heap.size ∧ b ≠ b1))) c0_b := (.inl c0_F)
  have f19 : ((fun b => F b ∨ (w0.heap.size ≤ b ∧ b < w16.heap.size ∧ b ≠ b1))) c1_b := (.inl c1_F)
  refine zz06 r (zz2g (F := (fun b => F b ∨ (w0.heap.size ≤ b ∧ b < w16.heap.size ∧ b ≠ b1))) (n := n) hF1 (D.zz0h c0 c1) (D.zz0e (D.zz0j ((D.zz0v a0).1) c0.gen)) ⟨342, [], [.pointer (some ⟨b11, 0, none⟩), .pointer (some ⟨c0_b, 0, none⟩), .pointer (some ⟨c1_b, 0, none⟩)], cl342, rfl, fun m hm _ w' hs hz => c_retire_Reclaim_1_1_1 (j := j) (fun b hb => Nat.lt_of_lt_of_le (hF1 b hb) hz) (by omega) (D.zz0j ((D.zz0v a0).1) c0.gen) f17 (hs.at_ f17 h_b11) c0 f18 (hs.at_ f18 (keep hB c0_h)) c1 f19 (hs.at_ f19 (keep hB c1_h))⟩) (fun R hc => y_call r rfl cl200 hc) rfl ?_
  rintro _ w20 ⟨v21, rfl, hb, hr22⟩
  refine ⟨_, rfl, fun fr r => ?_⟩
  have z_w20 := hb.size
  have h_b1 := keep hb h_b1
  have h_b5 := keep hb h_b5
  have h_b11 := keep hb h_b11
  obtain ⟨hB, zB⟩ := bon hb hB
  refine seq_upd (.cells v21.cells 167 (0, 0)) r (fun R => zz0c r hr22.shape rfl rfl h_b1 ts167 rfl) rfl fun fr w23 u24 r => ?_
  have z_w23 := u24.size
  have h_b5 := u24.keep h_b5 (by omega)
  have h_b11 := u24.keep h_b11 (by omega)
  have h_b1 := u24.at_
  obtain ⟨hB, zB⟩ := u24.on hB (by omega)
  refine wn ?_
  refine wp_ret ?_
  have hs := hr22.shape.cells
  refine zz0a r rfl rfl h_b1 (k := 7) hs.1 ta167 ?_
  rw [← hs.2.2]
  exact rfin hF hB hr22 u24 (by omega) (by omega) (by omega)

def D.zz5g (j : Nat) (c0 : Plan) (c1 : Int) : T Int := (D.zz1n (D.zz0h c0 c1) (fun x => (D.zz4n j c0 c1 x)))

theorem c_retire_Reclaim_1 {n : Nat} {F : Nat → Prop} {j : Nat} {w0 : World} (hF : ∀ b, F b → b < w0.heap.size) (hj : n < j)
    (c0 : Plan) {c0_b : Nat} (c0_F : F c0_b) (c0_h : w0.heap[c0_b]? = some (.cells ((planC c0)).toArray 25 (0, 0))) (c1 : Int) {c1_b : Nat} (c1_F : F c1_b) (c1_h : w0.heap[c1_b]? = some (.cells ([(.int .i64 c1)]).toArray 3 (0, 0))) :
    Calls Tryz.prog 339 #[.pointer (some ⟨c0_b, 0, none⟩), .pointer (some ⟨c1_b, 0, none⟩)] w0 (RepRes Tryz.prog encInt n (D.zz5g j c0 c1) F w0) := by
 refine enter Tryz.func339 rfl 8 rfl rfl fun fr r => ?_
 have hB := Below.refl w0.heap.size w0
 have l_c0_b := lt_of_block c0_h
 have l_c1_b := lt_of_block c1_h
 refine wsr ?_
 refine seq_new (.cells (progCells false encInt.zero 0 0 0 0 .nilFunc) 167 (0, 0)) r (fun R => y_alloc tz167) rfl fun fr b1 w2 n3 r => ?_
 obtain ⟨e_b1, z_w2, h_b1, hB, zB⟩ := n3.all hB
 refine wn ?_
 refine wsr ?_
 refine seq_val (.agg (planC c0).toArray) r (fun R => zz03 r (cs := (planC c0)) (n := 6) rfl (keep hB c0_h) ta25 rfl) rfl fun fr r => ?_
 refine seq_val (I c1) r (fun R => zz01 r rfl (keep hB c1_h) to3 rfl) rfl fun fr r => ?_
 refine zz06 r (zz2j w2 c0 c1) (fun R hc => y_call r rfl cl68 hc) rfl ?_
 rintro _ w4 ⟨rfl, hb⟩
 refine ⟨_, rfl, fun fr r => ?_⟩
 have z_w4 := hb.size
 have h_b1 := keep hb h_b1
 obtain ⟨hB, zB⟩ := bon hb hB
 refine seq_val (.func (.func 340) #[] #[.pointer (some ⟨c0_b, 0, none⟩), .pointer (some ⟨c1_b, 0, none⟩)]) r (fun R => zz0o r rfl) rfl fun fr r => ?_
 have hF1 := fgrow hF hB b1
 have f5 : ((fun b => F b ∨ (w0.heap.size ≤ b ∧ b < w4.heap.size ∧ b ≠ b1))) c0_b := (.inl c0_F)
 have f6 : ((fun b => F b ∨ (w0.heap.size ≤ b ∧ b < w4.heap.size ∧ b ≠ b1))) c1_b := (.inl c1_F)
 refine zz06 r (zz2a (F := (fun b => F b ∨ (w0.heap.size ≤ b ∧ b < w4.heap.size ∧ b ≠ b1))) (n := n) hF1 (D.zz0h c0 c1) ⟨340, [], [.pointer (some ⟨c0_b, 0, none⟩), .pointer (some ⟨c1_b, 0, none⟩)], cl340, rfl, fun m hm x w' hs hz => c_retire_Reclaim_1_1 (j := j) (fun b hb => Nat.lt_of_lt_of_le (hF1 b hb) hz) (by omega) c0 f5 (hs.at_ f5 (keep hB c0_h)) c1 f6 (hs.at_ f6 (keep hB c1_h)) x⟩) (fun R hc => y_call r rfl cl198 hc) rfl ?_
 rintro _ w7 ⟨v8, rfl, hb, hr9⟩
 refine ⟨_, rfl, fun fr r => ?_⟩
 have z_w7 := hb.size
 have h_b1 := keep hb h_b1
 obtain ⟨hB, zB⟩ := bon hb hB
 refine seq_upd (.cells v8.cells 167 (0, 0)) r (fun R => zz0c r hr9.shape rfl rfl h_b1 ts167 rfl) rfl fun fr w10 u11 r => ?_
 have z_w10 := u11.size
 have h_b1 := u11.at_
 obtain ⟨hB, zB⟩ := u11.on hB (by omega)
 refine wn ?_
 refine wp_ret ?_
 have hs := hr9.shape.cells
 refine zz0a r rfl rfl h_b1 (k := 7) hs.1 ta167 ?_
 rw [← hs.2.2]
 exact rfin hF hB hr9 u11 (by omega) (by omega) (by omega)

def D.zz58 (j : Nat) (a0 : Plan) (a1 : Int) : T Int := (D.zz2i j a0 a1 0 (fun _ => (D.zz5g j a0 a1)))

theorem c_retire_Reclaim {n : Nat} {F : Nat → Prop} {j : Nat} {w0 : World} (hF : ∀ b, F b → b < w0.heap.size) (hj : n < j)
    (a0 : Plan) (a1 : Int) :
    Calls Tryz.prog 267 #[.agg (planC a0).toArray, .int .i64 a1] w0 (RepRes Tryz.prog encInt n (D.zz58 j a0 a1) F w0) := by
 refine enter Tryz.func267 rfl 9 rfl rfl fun fr r => ?_
 have hB := Below.refl w0.heap.size w0
 refine wsr ?_
 refine seq_new (.cells ((planC a0)).toArray 25 (0, 0)) r (fun R => y_box r (v := (.agg (planC a0).toArray)) rfl) rfl fun fr b1 w2 n3 r => ?_
 obtain ⟨e_b1, z_w2, h_b1, hB, zB⟩ := n3.all hB
 refine seq_new (.cells #[(I a1)] 3 (0, 0)) r (fun R => y_box r (v := (I a1)) rfl) rfl fun fr b4 w5 n6 r => ?_
 have h_b1 := keep n6.below h_b1
 obtain ⟨e_b4, z_w5, h_b4, hB, zB⟩ := n6.all hB
 refine seq_new (.cells (progCells false encInt.zero 0 0 0 0 .nilFunc) 167 (0, 0)) r (fun R => y_alloc tz167) rfl fun fr b7 w8 n9 r => ?_
 have h_b1 := keep n9.below h_b1
 have h_b4 := keep n9.below h_b4
 obtain ⟨e_b7, z_w8, h_b7, hB, zB⟩ := n9.all hB
 refine wn ?_
 refine wsr ?_
 refine seq_val (.agg (planC a0).toArray) r (fun R => zz03 r (cs := (planC a0)) (n := 6) rfl h_b1 ta25 rfl) rfl fun fr r => ?_
 refine seq_val (I a1) r (fun R => zz01 r rfl h_b4 to3 rfl) rfl fun fr r => ?_
 refine seq_val (.func (.func 339) #[] #[.pointer (some ⟨b1, 0, none⟩), .pointer (some ⟨b4, 0, none⟩)]) r (fun R => zz0o r rfl) rfl fun fr r => ?_
 have hF1 := fgrow hF hB b7
 have f10 : ((fun b => F b ∨ (w0.heap.size ≤ b ∧ b < w8.heap.size ∧ b ≠ b7))) b1 := (.inr ⟨by omega, by omega, by omega⟩)
 have f11 : ((fun b => F b ∨ (w0.heap.size ≤ b ∧ b < w8.heap.size ∧ b ≠ b7))) b4 := (.inr ⟨by omega, by omega, by omega⟩)
 refine zz06 r ((c_retire_zero (k := j) (n := n) (by omega)) (fun b => F b ∨ (w0.heap.size ≤ b ∧ b < w8.heap.size ∧ b ≠ b7)) _ hF1 a0 a1 0 ⟨339, [], [.pointer (some ⟨b1, 0, none⟩), .pointer (some ⟨b4, 0, none⟩)], cl339, rfl, fun m hm _ w' hs hz => c_retire_Reclaim_1 (j := j) (fun b hb => Nat.lt_of_lt_of_le (hF1 b hb) hz) (by omega) a0 f10 (hs.at_ f10 h_b1) a1 f11 (hs.at_ f11 h_b4)⟩) (fun R hc => y_call r rfl cl338 hc) rfl ?_
 rintro _ w12 ⟨v13, rfl, hb, hr14⟩
 refine ⟨_, rfl, fun fr r => ?_⟩
 have z_w12 := hb.size
 have h_b1 := keep hb h_b1
 have h_b4 := keep hb h_b4
 have h_b7 := keep hb h_b7
 obtain ⟨hB, zB⟩ := bon hb hB
 refine seq_upd (.cells v13.cells 167 (0, 0)) r (fun R => zz0c r hr14.shape rfl rfl h_b7 ts167 rfl) rfl fun fr w15 u16 r => ?_
 have z_w15 := u16.size
 have h_b1 := u16.keep h_b1 (by omega)
 have h_b4 := u16.keep h_b4 (by omega)
 have h_b7 := u16.at_
 obtain ⟨hB, zB⟩ := u16.on hB (by omega)
 refine wn ?_
 refine wp_ret ?_
 have hs := hr14.shape.cells
 refine zz0a r rfl rfl h_b7 (k := 7) hs.1 ta167 ?_
 rw [← hs.2.2]
 exact rfin hF hB hr14 u16 (by omega) (by omega) (by omega)

def D.zz4c (c0 : Plan) (c1 : Int) (c2 : Scan) (c3 : (Unit → T Int)) (a0 : Int) : T Int := (D.zz1y (D.zz0z c0 c1 c2.at_) a0 c3)

theorem c_retire_removed_2 {n : Nat} {F : Nat → Prop} {w0 : World} (hF : ∀ b, F b → b < w0.heap.size)
    (c0 : Plan) {c0_b : Nat} (c0_F : F c0_b) (c0_h : w0.heap[c0_b]? = some (.cells ((planC c0)).toArray 25 (0, 0))) (c1 : Int) {c1_b : Nat} (c1_F : F c1_b) (c1_h : w0.heap[c1_b]? = some (.cells ([(.int .i64 c1)]).toArray 3 (0, 0))) (c2 : Scan) {c2_b : Nat} (c2_F : F c2_b) (c2_h : w0.heap[c2_b]? = some (.cells ((scanC c2)).toArray 300 (0, 0))) {c3_f : FuncId} {c3_1 c3_2 : List Value} {c3 : (Unit → T Int)} {c3_b : Nat} (c3_F : F c3_b) (c3_h : w0.heap[c3_b]? = some (.cells #[.func (.func c3_f) c3_1.toArray c3_2.toArray] 257 (0, 0))) (c3_n : FnT Tryz.prog encInt unitE (n + 1) F w0 (.func (.func c3_f) c3_1.toArray c3_2.toArray) c3) (a0 : Int) :
    Calls Tryz.prog 393 #[.int .u64 a0, .pointer (some ⟨c0_b, 0, none⟩), .pointer (some ⟨c1_b, 0, none⟩), .pointer (some ⟨c2_b, 0, none⟩), .pointer (some ⟨c3_b, 0, none⟩)] w0 (RepRes Tryz.prog encInt n (D.zz4c c0 c1 c2 c3 a0) F w0) := by
 refine enter Tryz.func393 rfl 15 rfl rfl fun fr r => ?_
 have hB := Below.refl w0.heap.size w0
 have l_c0_b := lt_of_block c0_h
 have l_c1_b := lt_of_block c1_h
 have l_c2_b := lt_of_block c2_h
 have l_c3_b := lt_of_block c3_h
 refine wsr ?_
 refine seq_new (.cells (progCells false encInt.zero 0 0 0 0 .nilFunc) 167 (0, 0)) r (fun R => y_alloc tz167) rfl fun fr b1 w2 n3 r => ?_
 obtain ⟨e_b1, z_w2, h_b1, hB, zB⟩ := n3.all hB
 refine wn ?_
 refine wp_seq ?_
 refine zz1c 7 [.val (.agg (planC c0).toArray), .val (I c1), .val (.pointer (some ⟨c2_b, 0, none⟩)), .val (I c2.at_), .val (I (D.zz0z c0 c1 c2.at_)), .val (U a0), .val (.func (.func c3_f) c3_1.toArray c3_2.toArray)] mixed r (by kernel_rfl) (zz00 (by exact trivial) (zz00 (by exact trivial) (zz00 (by exact trivial) (zz00 (by exact trivial) (zz00 (by exact trivial) (zz00 (by exact trivial) (zz00 (by exact trivial) zz12))))))) ?_ ?_
 ·
  refine ec r (fun _ u _ b d s => zz03 s (cs := (planC c0)) (n := 6) rfl (keep2 hB b c0_h) ta25 rfl bz) ?_
  refine ec r (fun _ u _ b d s => zz01 s rfl (keep2 hB b c1_h) to3 rfl bz) ?_
  refine ec r (fun _ u _ b d s => zz02 s (b := c2_b) (o := 0) rfl fo300_0 bz) ?_
  refine ec r (fun _ u _ b d s => zz01 s d.1 (keep2 hB b c2_h) to3 rfl bz) ?_
  refine ec r (fun fr1 u w' hb' hd r' => y_call r' (args := [(.agg (planC c0).toArray), (I c1), (I c2.at_)]) (lc hd.1 (lc hd.2.1 (lc hd.2.2.1 l0))) cl165 ((zz39 _ c0 c1 c2.at_).mono (by rintro _ w2 ⟨rfl, hb2⟩; exact ⟨_, rfl, hb2, rfl⟩))) ?_
  refine ec r (fun _ u _ b d s => y_move s rfl bz) ?_
  refine ec r (fun _ u _ b d s => zz01 s rfl (keep2 hB b c3_h) to257 rfl bz) ?_
  exact zz1l
 ·
  intro fr u w4 hb hΦ hne r
  have r := r.congr (sc (hΦ 6 (by decide)) (sc (hΦ 5 (by decide)) (sc (hΦ 4 (by decide)) (sc (hΦ 3 (by decide)) (sc (hΦ 2 (by decide)) (sc (hΦ 1 (by decide)) (sc (hΦ 0 (by decide)) rfl)))))))
  have z_w4 := hb.size
  have h_b1 := keep hb h_b1
  obtain ⟨hB, zB⟩ := bon hb hB
  have hF1 := fgrow hF hB b1
  refine zz06 r (zz2g (F := (fun b => F b ∨ (w0.heap.size ≤ b ∧ b < w4.heap.size ∧ b ≠ b1))) (n := n) hF1 (D.zz0z c0 c1 c2.at_) a0 (c3_n.mono (by omega) (fun b h => .inl h) (Same.below hB hF) hB.size)) (fun R hc => y_call r rfl cl200 hc) rfl ?_
  rintro _ w5 ⟨v6, rfl, hb, hr7⟩
  refine ⟨_, rfl, fun fr r => ?_⟩
  have z_w5 := hb.size
  have h_b1 := keep hb h_b1
  obtain ⟨hB, zB⟩ := bon hb hB
  refine seq_upd (.cells v6.cells 167 (0, 0)) r (fun R => zz0c r hr7.shape rfl rfl h_b1 ts167 rfl) rfl fun fr w8 u9 r => ?_
  have z_w8 := u9.size
  have h_b1 := u9.at_
  obtain ⟨hB, zB⟩ := u9.on hB (by omega)
  refine wn ?_
  refine wp_ret ?_
  have hs := hr7.shape.cells
  refine zz0a r rfl rfl h_b1 (k := 7) hs.1 ta167 ?_
  rw [← hs.2.2]
  exact rfin hF hB hr7 u9 (by omega) (by omega) (by omega)

def D.zz2y (j : Nat) (r_retire_scanned : Plan → Int → Scan → T Int) (c0 : Plan) (c1 : Int) (c2 : Scan) (c3 : Int) (a0 : Int) : T Int := (r_retire_scanned c0 c1 (⟨(IntKind.i64.wrap (c2.at_ - 1)), c3, (IntKind.i64.wrap (c2.done + 1))⟩ : Scan))

def D.zz4m (j : Nat) (r_retire_scanned : Plan → Int → Scan → T Int) (c0 : Plan) (c1 : Int) (c2 : Int) (c3 : Scan) (c4 : Int) : T Int := (T.bind (D.zz58 j c0 c1) (fun x => (D.zz2y j r_retire_scanned c0 c2 c3 c4 x)))

def D.zz23 (j : Nat) (r_retire_scanned : Plan → Int → Scan → T Int) (c0 : Plan) (c1 : Int) (c2 : Int) (c3 : Int) (c4 : Scan) : T Int := (D.zz1y (D.zz1f c0 c1) (IntKind.u64.wrap c2) (fun _ => (D.zz4m j r_retire_scanned c0 c3 c1 c4 c2)))

def D.zz30 (j : Nat) (r_retire_scanned : Plan → Int → Scan → T Int) (a0 : Plan) (a1 : Int) (a2 : Scan) (a3 : Int) : T Int := (bif (a2.at_ == (IntKind.i64.wrap (a2.left - 1))) then ((fun _ => (D.zz23 j r_retire_scanned a0 a1 (IntKind.i64.wrap (a2.left - 1)) a3 a2)) ()) else (D.zz1n (D.zz0z a0 a1 (IntKind.i64.wrap (a2.left - 1))) (fun x => (D.zz4c a0 a1 a2 (fun _ => (D.zz23 j r_retire_scanned a0 a1 (IntKind.i64.wrap (a2.left - 1)) a3 a2)) x))))

def D.zz1o (j : Nat) (r_retire_scanned : Plan → Int → Scan → T Int) (c0 : Plan) (c1 : Int) (c2 : Scan) (c3 : Scan) (c4 : Int) (a0 : Bool) : T Int := (bif a0 then (r_retire_scanned c0 c1 c2) else (D.zz30 j r_retire_scanned c0 c1 c3 (IntKind.i64.wrap ((IntKind.i64.wrap c4) - 1))))

def D.zz2h (j : Nat) (r_retire_scanned : Plan → Int → Scan → T Int) (c0 : Plan) (c1 : Int) (c2 : Scan) (c3 : Scan) (a0 : Int) : T Int := (bif (decide (a0 < 1)) then (r_retire_scanned c0 c1 c2) else (bif (decide (a0 > (IntKind.u64.wrap c0.nodes))) then (r_retire_scanned c0 c1 c2) else (T.bind (D.hazard_Held j c0 (IntKind.i64.wrap ((IntKind.i64.wrap a0) - 1))) (fun x => (D.zz1o j r_retire_scanned c0 c1 c2 c3 a0 x)))))

def D.zz1s (j : Nat) (r_retire_scanned : Plan → Int → Scan → T Int) (a0 : Plan) (a1 : Int) (a2 : Scan) : T Int := (bif (decide (a2.at_ < 0)) then (D.zz16 a2.done) else (D.zz1n (D.zz0z a0 a1 a2.at_) (fun x => (D.zz2h j r_retire_scanned a0 a1 (⟨(IntKind.i64.wrap (a2.at_ - 1)), a2.left, a2.done⟩ : Scan) a2 x))))

def D.zz1j (j : Nat) : Nat → Plan → Int → Scan → T Int
  | 0, _, _, _ => .cut
  | k + 1, a0, a1, a2 => D.zz1s j (D.zz1j j k) a0 a1 a2

def zz1t (r : Plan → Int → Scan → T Int) (n : Nat) : Prop := ∀ (F : Nat → Prop) (w0 : World), (∀ b, F b → b < w0.heap.size) → ∀ (a0 : Plan) (a1 : Int) (a2 : Scan), Calls Tryz.prog 294 #[.agg (planC a0).toArray, .int .i64 a1, .agg (scanC a2).toArray] w0 (RepRes Tryz.prog encInt n (r a0 a1 a2) F w0)

theorem c_retire_removed_1_1_1 {n : Nat} {F : Nat → Prop} {j : Nat} {r_retire_scanned : Plan → Int → Scan → T Int} {w0 : World} (hF : ∀ b, F b → b < w0.heap.size) (hj : n < j) (ih_retire_scanned : ∀ m, m ≤ n → zz1t r_retire_scanned m)
    (c0 : Plan) {c0_b : Nat} (c0_F : F c0_b) (c0_h : w0.heap[c0_b]? = some (.cells ((planC c0)).toArray 25 (0, 0))) (c1 : Int) {c1_b : Nat} (c1_F : F c1_b) (c1_h : w0.heap[c1_b]? = some (.cells ([(.int .i64 c1)]).toArray 3 (0, 0))) (c2 : Scan) {c2_b : Nat} (c2_F : F c2_b) (c2_h : w0.heap[c2_b]? = some (.cells ((scanC c2)).toArray 300 (0, 0))) (c3 : Int) {c3_b : Nat} (c3_F : F c3_b) (c3_h : w0.heap[c3_b]? = some (.cells ([(.int .i64 c3)]).toArray 3 (0, 0))) (a0 : Int) :
    Calls Tryz.prog 392 #[.int .i64 a0, .pointer (some ⟨c0_b, 0, none⟩), .pointer (some ⟨c1_b, 0, none⟩), .pointer (some ⟨c2_b, 0, none⟩), .pointer (some ⟨c3_b, 0, none⟩)] w0 (RepRes Tryz.prog encInt n (D.zz2y j r_retire_scanned c0 c1 c2 c3 a0) F w0) := by
 refine enter Tryz.func392 rfl 18 rfl rfl fun fr r => ?_
 have hB := Below.refl w0.heap.size w0
 have l_c0_b := lt_of_block c0_h
 have l_c1_b := lt_of_block c1_h
 have l_c2_b := lt_of_block c2_h
 have l_c3_b := lt_of_block c3_h
 refine wsr ?_
 refine seq_new (.cells (progCells false encInt.zero 0 0 0 0 .nilFunc) 167 (0, 0)) r (fun R => y_alloc tz167) rfl fun fr b1 w2 n3 r => ?_
 obtain ⟨e_b1, z_w2, h_b1, hB, zB⟩ := n3.all hB
 refine wn ?_
 refine wsr ?_
 refine seq_val (.agg (planC c0).toArray) r (fun R => zz03 r (cs := (planC c0)) (n := 6) rfl (keep hB c0_h) ta25 rfl) rfl fun fr r => ?_
 refine seq_val (I c1) r (fun R => zz01 r rfl (keep hB c1_h) to3 rfl) rfl fun fr r => ?_
 refine seq_val _ r (fun R => zz02 r (o := 0) rfl fo300_0) rfl fun fr r => ?_
 refine seq_val (I c2.at_) r (fun R => zz01 r rfl (keep hB c2_h) to3 rfl) rfl fun fr r => ?_
 refine seq_val _ r (fun R => y_bin r rfl rfl rfl rfl) rfl fun fr r => ?_
 refine seq_val (I c3) r (fun R => zz01 r rfl (keep hB c3_h) to3 rfl) rfl fun fr r => ?_
 refine seq_val _ r (fun R => zz02 r (o := 0) rfl fo300_2) rfl fun fr r => ?_
 refine seq_val (I c2.done) r (fun R => zz01 r rfl (keep hB c2_h) to3 rfl) rfl fun fr r => ?_
 refine seq_val _ r (fun R => y_bin r rfl rfl rfl rfl) rfl fun fr r => ?_
 refine seq_val (.agg (scanC (⟨(W (c2.at_ - 1)), c3, (W (c2.done + 1))⟩ : Scan)).toArray) r (fun R => y_build r (by kernel_rfl)) rfl fun fr r => ?_
 have hF1 := fgrow hF hB b1
 refine zz06 r ((ih_retire_scanned n (by omega)) (fun b => F b ∨ (w0.heap.size ≤ b ∧ b < w2.heap.size ∧ b ≠ b1)) _ hF1 c0 c1 (⟨(W (c2.at_ - 1)), c3, (W (c2.done + 1))⟩ : Scan)) (fun R hc => y_call r rfl cl294 hc) rfl ?_
 rintro _ w4 ⟨v5, rfl, hb, hr6⟩
 refine ⟨_, rfl, fun fr r => ?_⟩
 have z_w4 := hb.size
 have h_b1 := keep hb h_b1
 obtain ⟨hB, zB⟩ := bon hb hB
 refine seq_upd (.cells v5.cells 167 (0, 0)) r (fun R => zz0c r hr6.shape rfl rfl h_b1 ts167 rfl) rfl fun fr w7 u8 r => ?_
 have z_w7 := u8.size
 have h_b1 := u8.at_
 obtain ⟨hB, zB⟩ := u8.on hB (by omega)
 refine wn ?_
 refine wp_ret ?_
 have hs := hr6.shape.cells
 refine zz0a r rfl rfl h_b1 (k := 7) hs.1 ta167 ?_
 rw [← hs.2.2]
 exact rfin hF hB hr6 u8 (by omega) (by omega) (by omega)

theorem c_retire_removed_1_1 {n : Nat} {F : Nat → Prop} {j : Nat} {r_retire_scanned : Plan → Int → Scan → T Int} {w0 : World} (hF : ∀ b, F b → b < w0.heap.size) (hj : n < j) (ih_retire_scanned : ∀ m, m < n → zz1t r_retire_scanned m)
    (c0 : Plan) {c0_b : Nat} (c0_F : F c0_b) (c0_h : w0.heap[c0_b]? = some (.cells ((planC c0)).toArray 25 (0, 0))) (c1 : Int) {c1_b : Nat} (c1_F : F c1_b) (c1_h : w0.heap[c1_b]? = some (.cells ([(.int .i64 c1)]).toArray 3 (0, 0))) (c2 : Int) {c2_b : Nat} (c2_F : F c2_b) (c2_h : w0.heap[c2_b]? = some (.cells ([(.int .i64 c2)]).toArray 3 (0, 0))) (c3 : Scan) {c3_b : Nat} (c3_F : F c3_b) (c3_h : w0.heap[c3_b]? = some (.cells ((scanC c3)).toArray 300 (0, 0))) (c4 : Int) {c4_b : Nat} (c4_F : F c4_b) (c4_h : w0.heap[c4_b]? = some (.cells ([(.int .i64 c4)]).toArray 3 (0, 0))) :
    Calls Tryz.prog 391 #[.pointer (some ⟨c0_b, 0, none⟩), .pointer (some ⟨c1_b, 0, none⟩), .pointer (some ⟨c2_b, 0, none⟩), .pointer (some ⟨c3_b, 0, none⟩), .pointer (some ⟨c4_b, 0, none⟩)] w0 (RepRes Tryz.prog encInt n (D.zz4m j r_retire_scanned c0 c1 c2 c3 c4) F w0) := by
 refine enter Tryz.func391 rfl 11 rfl rfl fun fr r => ?_
 have hB := Below.refl w0.heap.size w0
 have l_c0_b := lt_of_block c0_h
 have l_c1_b := lt_of_block c1_h
 have l_c2_b := lt_of_block c2_h
 have l_c3_b := lt_of_block c3_h
 have l_c4_b := lt_of_block c4_h
 refine wsr ?_
 refine seq_new (.cells (progCells false encInt.zero 0 0 0 0 .nilFunc) 167 (0, 0)) r (fun R => y_alloc tz167) rfl fun fr b1 w2 n3 r => ?_
 obtain ⟨e_b1, z_w2, h_b1, hB, zB⟩ := n3.all hB
 refine wn ?_
 refine wsr ?_
 refine seq_val (.agg (planC c0).toArray) r (fun R => zz03 r (cs := (planC c0)) (n := 6) rfl (keep hB c0_h) ta25 rfl) rfl fun fr r => ?_
 refine seq_val (I c1) r (fun R => zz01 r rfl (keep hB c1_h) to3 rfl) rfl fun fr r => ?_
 have hF1 := fgrow hF hB b1
 refine zz06 r (c_retire_Reclaim (j := j) (F := (fun b => F b ∨ (w0.heap.size ≤ b ∧ b < w2.heap.size ∧ b ≠ b1))) (n := n) hF1 (by omega) c0 c1) (fun R hc => y_call r rfl cl267 hc) rfl ?_
 rintro _ w4 ⟨v5, rfl, hb, hr6⟩
 refine ⟨_, rfl, fun fr r => ?_⟩
 have z_w4 := hb.size
 have h_b1 := keep hb h_b1
 obtain ⟨hB, zB⟩ := bon hb hB
 refine seq_val (.func (.func 392) #[] #[.pointer (some ⟨c0_b, 0, none⟩), .pointer (some ⟨c2_b, 0, none⟩), .pointer (some ⟨c3_b, 0, none⟩), .pointer (some ⟨c4_b, 0, none⟩)]) r (fun R => zz0o r rfl) rfl fun fr r => ?_
 have hF1 := fgrow hF hB b1
 have f7 : ((fun b => F b ∨ (w0.heap.size ≤ b ∧ b < w4.heap.size ∧ b ≠ b1))) c0_b := (.inl c0_F)
 have f8 : ((fun b => F b ∨ (w0.heap.size ≤ b ∧ b < w4.heap.size ∧ b ≠ b1))) c2_b := (.inl c2_F)
 have f9 : ((fun b => F b ∨ (w0.heap.size ≤ b ∧ b < w4.heap.size ∧ b ≠ b1))) c3_b := (.inl c3_F)
 have f10 : ((fun b => F b ∨ (w0.heap.size ≤ b ∧ b < w4.heap.size ∧ b ≠ b1))) c4_b := (.inl c4_F)
 refine zz06 r (c_prog_Then_int_int_lt (F := (fun b => F b ∨ (w0.heap.size ≤ b ∧ b < w4.heap.size ∧ b ≠ b1))) (n := n) hF1 (Rep.mono (by rintro b (h | h); (rcases h with h | ⟨h1, h2, h3⟩; exact .inl h; exact .inr ⟨h1, by omega, h3⟩); exact .inr ⟨by omega, by omega, by omega⟩) (Same.refl _ _) (by omega) n _ _ hr6) ⟨392, [], [.pointer (some ⟨c0_b, 0, none⟩), .pointer (some ⟨c2_b, 0, none⟩), .pointer (some ⟨c3_b, 0, none⟩), .pointer (some ⟨c4_b, 0, none⟩)], cl392, rfl, fun m hm x w' hs hz => c_retire_removed_1_1_1 (j := j) (fun b hb => Nat.lt_of_lt_of_le (hF1 b hb) hz) (by omega) (fun m' hm' => ih_retire_scanned m' (by omega)) c0 f7 (hs.at_ f7 (keep hB c0_h)) c2 f8 (hs.at_ f8 (keep hB c2_h)) c3 f9 (hs.at_ f9 (keep hB c3_h)) c4 f10 (hs.at_ f10 (keep hB c4_h)) x⟩ (by first | rfl | (cases j with | zero => omega | succ q => rfl))) (fun R hc => y_call r rfl cl230 hc) rfl ?_
 rintro _ w11 ⟨v12, rfl, hb, hr13⟩
 refine ⟨_, rfl, fun fr r => ?_⟩
 have z_w11 := hb.size
 have h_b1 := keep hb h_b1
 obtain ⟨hB, zB⟩ := bon hb hB
 refine seq_upd (.cells v12.cells 167 (0, 0)) r (fun R => zz0c r hr13.shape rfl rfl h_b1 ts167 rfl) rfl fun fr w14 u15 r => ?_
 have z_w14 := u15.size
 have h_b1 := u15.at_
 obtain ⟨hB, zB⟩ := u15.on hB (by omega)
 refine wn ?_
 refine wp_ret ?_
 have hs := hr13.shape.cells
 refine zz0a r rfl rfl h_b1 (k := 7) hs.1 ta167 ?_
 rw [← hs.2.2]
 exact rfin hF hB hr13 u15 (by omega) (by omega) (by omega)

theorem zz6e {n : Nat} {F : Nat → Prop} {j : Nat} {r_retire_scanned : Plan → Int → Scan → T Int} {w0 : World} (hF : ∀ b, F b → b < w0.heap.size) (hj : n < j) (ih_retire_scanned : ∀ m, m < n → zz1t r_retire_scanned m)
    (c0 : Plan) {c0_b : Nat} (c0_F : F c0_b) (c0_h : w0.heap[c0_b]? = some (.cells ((planC c0)).toArray 25 (0, 0))) (c1 : Int) {c1_b : Nat} (c1_F : F c1_b) (c1_h : w0.heap[c1_b]? = some (.cells ([(.int .i64 c1)]).toArray 3 (0, 0))) (c2 : Int) {c2_b : Nat} (c2_F : F c2_b) (c2_h : w0.heap[c2_b]? = some (.cells ([(.int .i64 c2)]).toArray 3 (0, 0))) (c3 : Int) {c3_b : Nat} (c3_F : F c3_b) (c3_h : w0.heap[c3_b]? = some (.cells ([(.int .i64 c3)]).toArray 3 (0, 0))) (c4 : Scan) {c4_b : Nat} (c4_F : F c4_b) (c4_h : w0.heap[c4_b]? = some (.cells ((scanC c4)).toArray 300 (0, 0))) :
    Calls Tryz.prog 390 #[.pointer (some ⟨c0_b, 0, none⟩), .pointer (some ⟨c1_b, 0, none⟩), .pointer (some ⟨c2_b, 0, none⟩), .pointer (some ⟨c3_b, 0, none⟩), .pointer (some ⟨c4_b, 0, none⟩)] w0 (RepRes Tryz.prog encInt n (D.zz23 j r_retire_scanned c0 c1 c2 c3 c4) F w0) := by
 refine enter Tryz.func390 rfl 13 rfl rfl fun fr r => ?_
 have hB := Below.refl w0.heap.size w0
 have l_c0_b := lt_of_block c0_h
 have l_c1_b := lt_of_block c1_h
 have l_c2_b := lt_of_block c2_h
 have l_c3_b := lt_of_block c3_h
 have l_c4_b := lt_of_block c4_h
 refine wsr ?_
 refine seq_new (.cells (progCells false encInt.zero 0 0 0 0 .nilFunc) 167 (0, 0)) r (fun R => y_alloc tz167) rfl fun fr b1 w2 n3 r => ?_
 obtain ⟨e_b1, z_w2, h_b1, hB, zB⟩ := n3.all hB
 refine wn ?_
 refine wp_seq ?_
 refine zz1c 6 [.val (.agg (planC c0).toArray), .val (I c1), .val (I (D.zz1f c0 c1)), .val (I c2), .val (U (V c2)), .val (.func (.func 391) #[] #[.pointer (some ⟨c0_b, 0, none⟩), .pointer (some ⟨c3_b, 0, none⟩), .pointer (some ⟨c1_b, 0, none⟩), .pointer (some ⟨c4_b, 0, none⟩), .pointer (some ⟨c2_b, 0, none⟩)])] mixed r (by kernel_rfl) (zz00 (by exact trivial) (zz00 (by exact trivial) (zz00 (by exact trivial) (zz00 (by exact trivial) (zz00 (by exact trivial) (zz00 (by exact trivial) zz12)))))) ?_ ?_
 ·
  refine ec r (fun _ u _ b d s => zz03 s (cs := (planC c0)) (n := 6) rfl (keep2 hB b c0_h) ta25 rfl bz) ?_
  refine ec r (fun _ u _ b d s => zz01 s rfl (keep2 hB b c1_h) to3 rfl bz) ?_
  refine ec r (fun fr1 u w' hb' hd r' => y_call r' (args := [(.agg (planC c0).toArray), (I c1)]) (lc hd.1 (lc hd.2.1 l0)) cl164 ((zz3o _ c0 c1).mono (by rintro _ w2 ⟨rfl, hb2⟩; exact ⟨_, rfl, hb2, rfl⟩))) ?_
  refine ec r (fun _ u _ b d s => zz01 s rfl (keep2 hB b c2_h) to3 rfl bz) ?_
  refine ec r (fun _ u _ b d s => zz20 s (n := c2) d.1 ti3 ti22 bz) ?_
  refine ec r (fun _ u _ b d s => zz0o s (v := (.func (.func 391) #[] #[.pointer (some ⟨c0_b, 0, none⟩), .pointer (some ⟨c3_b, 0, none⟩), .pointer (some ⟨c1_b, 0, none⟩), .pointer (some ⟨c4_b, 0, none⟩), .pointer (some ⟨c2_b, 0, none⟩)])) rfl bz) ?_
  exact zz1l
 ·
  intro fr u w4 hb hΦ hne r
  have r := r.congr (sc (hΦ 5 (by decide)) (sc (hΦ 4 (by decide)) (sc (hΦ 3 (by decide)) (sc (hΦ 2 (by decide)) (sc (hΦ 1 (by decide)) (sc (hΦ 0 (by decide)) rfl))))))
  have z_w4 := hb.size
  have h_b1 := keep hb h_b1
  obtain ⟨hB, zB⟩ := bon hb hB
  have hF1 := fgrow hF hB b1
  have f5 : ((fun b => F b ∨ (w0.heap.size ≤ b ∧ b < w4.heap.size ∧ b ≠ b1))) c0_b := (.inl c0_F)
  have f6 : ((fun b => F b ∨ (w0.heap.size ≤ b ∧ b < w4.heap.size ∧ b ≠ b1))) c3_b := (.inl c3_F)
  have f7 : ((fun b => F b ∨ (w0.heap.size ≤ b ∧ b < w4.heap.size ∧ b ≠ b1))) c1_b := (.inl c1_F)
  have f8 : ((fun b => F b ∨ (w0.heap.size ≤ b ∧ b < w4.heap.size ∧ b ≠ b1))) c4_b := (.inl c4_F)
  have f9 : ((fun b => F b ∨ (w0.heap.size ≤ b ∧ b < w4.heap.size ∧ b ≠ b1))) c2_b := (.inl c2_F)
  refine zz06 r (zz2g (F := (fun b => F b ∨ (w0.heap.size ≤ b ∧ b < w4.heap.size ∧ b ≠ b1))) (n := n) hF1 (D.zz1f c0 c1) (V c2) ⟨391, [], [.pointer (some ⟨c0_b, 0, none⟩), .pointer (some ⟨c3_b, 0, none⟩), .pointer (some ⟨c1_b, 0, none⟩), .pointer (some ⟨c4_b, 0, none⟩), .pointer (some ⟨c2_b, 0, none⟩)], cl391, rfl, fun m hm _ w' hs hz => c_retire_removed_1_1 (j := j) (fun b hb => Nat.lt_of_lt_of_le (hF1 b hb) hz) (by omega) (fun m' hm' => ih_retire_scanned m' (by omega)) c0 f5 (hs.at_ f5 (keep hB c0_h)) c3 f6 (hs.at_ f6 (keep hB c3_h)) c1 f7 (hs.at_ f7 (keep hB c1_h)) c4 f8 (hs.at_ f8 (keep hB c4_h)) c2 f9 (hs.at_ f9 (keep hB c2_h))⟩) (fun R hc => y_call r rfl cl200 hc) rfl ?_
  rintro _ w10 ⟨v11, rfl, hb, hr12⟩
  refine ⟨_, rfl, fun fr r => ?_⟩
  have z_w10 := hb.size
  have h_b1 := keep hb h_b1
  obtain ⟨hB, zB⟩ := bon hb hB
  refine seq_upd (.cells v11.cells 167 (0, 0)) r (fun R => zz0c r hr12.shape rfl rfl h_b1 ts167 rfl) rfl fun fr w13 u14 r => ?_
  have z_w13 := u14.size
  have h_b1 := u14.at_
  obtain ⟨hB, zB⟩ := u14.on hB (by omega)
  refine wn ?_
  refine wp_ret ?_
  have hs := hr12.shape.cells
  refine zz0a r rfl rfl h_b1 (k := 7) hs.1 ta167 ?_
  rw [← hs.2.2]
  exact rfin hF hB hr12 u14 (by omega) (by omega) (by omega)

theorem c_retire_removed {n : Nat} {F : Nat → Prop} {j : Nat} {r_retire_scanned : Plan → Int → Scan → T Int} {w0 : World} (hF : ∀ b, F b → b < w0.heap.size) (hj : n < j) (ih_retire_scanned : ∀ m, m < n → zz1t r_retire_scanned m)
    (a0 : Plan) (a1 : Int) (a2 : Scan) (a3 : Int) :
    Calls Tryz.prog 360 #[.agg (planC a0).toArray, .int .i64 a1, .agg (scanC a2).toArray, .int .i64 a3] w0 (RepRes Tryz.prog encInt n (D.zz30 j r_retire_scanned a0 a1 a2 a3) F w0) := by
 refine enter Tryz.func360 rfl 27 rfl rfl fun fr r => ?_
 have hB := Below.refl w0.heap.size w0
 refine wsr ?_
 refine seq_new (.cells ((planC a0)).toArray 25 (0, 0)) r (fun R => y_box r (v := (.agg (planC a0).toArray)) rfl) rfl fun fr b1 w2 n3 r => ?_
 obtain ⟨e_b1, z_w2, h_b1, hB, zB⟩ := n3.all hB
 refine seq_new (.cells #[(I a1)] 3 (0, 0)) r (fun R => y_box r (v := (I a1)) rfl) rfl fun fr b4 w5 n6 r => ?_
 have h_b1 := keep n6.below h_b1
 obtain ⟨e_b4, z_w5, h_b4, hB, zB⟩ := n6.all hB
 refine seq_new (.cells ((scanC a2)).toArray 300 (0, 0)) r (fun R => y_box r (v := (.agg (scanC a2).toArray)) rfl) rfl fun fr b7 w8 n9 r => ?_
 have h_b1 := keep n9.below h_b1
 have h_b4 := keep n9.below h_b4
 obtain ⟨e_b7, z_w8, h_b7, hB, zB⟩ := n9.all hB
 refine seq_new (.cells #[(I a3)] 3 (0, 0)) r (fun R => y_box r (v := (I a3)) rfl) rfl fun fr b10 w11 n12 r => ?_
 have h_b1 := keep n12.below h_b1
 have h_b4 := keep n12.below h_b4
 have h_b7 := keep n12.below h_b7
 obtain ⟨e_b10, z_w11, h_b10, hB, zB⟩ := n12.all hB
 refine seq_new (.cells (progCells false encInt.zero 0 0 0 0 .nilFunc) 167 (0, 0)) r (fun R => y_alloc tz167) rfl fun fr b13 w14 n15 r => ?_
 have h_b1 := keep n15.below h_b1
 have h_b4 := keep n15.below h_b4
 have h_b7 := keep n15.below h_b7
 have h_b10 := keep n15.below h_b10
 obtain ⟨e_b13, z_w14, h_b13, hB, zB⟩ := n15.all hB
 refine wn ?_
 refine wsr ?_
 refine seq_val _ r (fun R => zz02 r (o := 0) rfl fo300_1) rfl fun fr r => ?_
 refine seq_val (I a2.left) r (fun R => zz01 r rfl h_b7 to3 rfl) rfl fun fr r => ?_
 refine seq_val _ r (fun R => y_bin r rfl rfl rfl rfl) rfl fun fr r => ?_
 refine seq_new (.cells #[(I 0)] 3 (0, 0)) r (fun R => y_alloc tz3) rfl fun fr b16 w17 n18 r => ?_
 have h_b1 := keep n18.below h_b1
 have h_b4 := keep n18.below h_b4
 have h_b7 := keep n18.below h_b7
 have h_b10 := keep n18.below h_b10
 have h_b13 := keep n18.below h_b13
 obtain ⟨e_b16, z_w17, h_b16, hB, zB⟩ := n18.all hB
 refine seq_upd (.cells #[(I (W (a2.left - 1)))] 3 (0, 0)) r (fun R => y_store r (o := 0) (v := (I (W (a2.left - 1)))) rfl rfl h_b16 ts3 (Nat.le_of_ble_eq_true rfl) rfl rfl) rfl fun fr w19 u20 r => ?_
 have z_w19 := u20.size
 have h_b1 := u20.keep h_b1 (by omega)
 have h_b4 := u20.keep h_b4 (by omega)
 have h_b7 := u20.keep h_b7 (by omega)
 have h_b10 := u20.keep h_b10 (by omega)
 have h_b13 := u20.keep h_b13 (by omega)
 have h_b16 := u20.at_
 obtain ⟨hB, zB⟩ := u20.on hB (by omega)
 refine wn ?_
 refine wsr ?_
 refine seq_val (.func (.func 390) #[] #[.pointer (some ⟨b1, 0, none⟩), .pointer (some ⟨b4, 0, none⟩), .pointer (some ⟨b16, 0, none⟩), .pointer (some ⟨b10, 0, none⟩), .pointer (some ⟨b7, 0, none⟩)]) r (fun R => zz0o r rfl) rfl fun fr r => ?_
 refine seq_new (.cells #[.nilFunc] 257 (0, 0)) r (fun R => y_alloc tz257) rfl fun fr b21 w22 n23 r => ?_
 have h_b1 := keep n23.below h_b1
 have h_b4 := keep n23.below h_b4
 have h_b7 := keep n23.below h_b7
 have h_b10 := keep n23.below h_b10
 have h_b13 := keep n23.below h_b13
 have h_b16 := keep n23.below h_b16
 obtain ⟨e_b21, z_w22, h_b21, hB, zB⟩ := n23.all hB
 refine seq_upd (.cells #[.func (.func 390) #[] #[.pointer (some ⟨b1, 0, none⟩), .pointer (some ⟨b4, 0, none⟩), .pointer (some ⟨b16, 0, none⟩), .pointer (some ⟨b10, 0, none⟩), .pointer (some ⟨b7, 0, none⟩)]] 257 (0, 0)) r (fun R => y_store r (o := 0) (v := (.func (.func 390) #[] #[.pointer (some ⟨b1, 0, none⟩), .pointer (some ⟨b4, 0, none⟩), .pointer (some ⟨b16, 0, none⟩), .pointer (some ⟨b10, 0, none⟩), .pointer (some ⟨b7, 0, none⟩)])) rfl rfl h_b21 ts257 (Nat.le_of_ble_eq_true rfl) rfl rfl) rfl fun fr w24 u25 r => ?_
 have z_w24 := u25.size
 have h_b1 := u25.keep h_b1 (by omega)
 have h_b4 := u25.keep h_b4 (by omega)
 have h_b7 := u25.keep h_b7 (by omega)
 have h_b10 := u25.keep h_b10 (by omega)
 have h_b13 := u25.keep h_b13 (by omega)
 have h_b16 := u25.keep h_b16 (by omega)
 have h_b21 := u25.at_
 obtain ⟨hB, zB⟩ := u25.on hB (by omega)
 refine wn ?_
 refine wp_seq ?_
 refine wsr ?_
 refine seq_val _ r (fun R => zz02 r (o := 0) rfl fo300_0) rfl fun fr r => ?_
 refine seq_val (I a2.at_) r (fun R => zz01 r rfl h_b7 to3 rfl) rfl fun fr r => ?_
 refine seq_val (I (W (a2.left - 1))) r (fun R => zz01 r rfl h_b16 to3 rfl) rfl fun fr r => ?_
 refine seq_val _ r (fun R => y_bin r rfl rfl rfl rfl) rfl fun fr r => ?_
 refine wn ?_
 refine wp_cond_split (t := (a2.at_ == (W (a2.left - 1)))) (r.ev rfl) (fun h26 => ?_) (fun h26 => ?_)
 ·
  refine wsr ?_
  refine seq_val (.func (.func 390) #[] #[.pointer (some ⟨b1, 0, none⟩), .pointer (some ⟨b4, 0, none⟩), .pointer (some ⟨b16, 0, none⟩), .pointer (some ⟨b10, 0, none⟩), .pointer (some ⟨b7, 0, none⟩)]) r (fun R => zz01 r rfl h_b21 to257 rfl) rfl fun fr r => ?_
  have hF1 := fgrow hF hB b13
  have f27 : ((fun b => F b ∨ (w0.heap.size ≤ b ∧ b < w24.heap.size ∧ b ≠ b13))) b1 := (.inr ⟨by omega, by omega, by omega⟩)
  have f28 : ((fun b => F b ∨ (w0.heap.size ≤ b ∧ b < w24.heap.size ∧ b ≠ b13))) b4 := (.inr ⟨by omega, by omega, by omega⟩)
  have f29 : ((fun b => F b ∨ (w0.heap.size ≤ b ∧ b < w24.heap.size ∧ b ≠ b13))) b16 := (.inr ⟨by omega, by omega, by omega⟩)
  have f30 : ((fun b => F b ∨ (w0.heap.size ≤ b ∧ b < w24.heap.size ∧ b ≠ b13))) b10 := (.inr ⟨by omega, by omega, by omega⟩)
  have f31 : ((fun b => F b ∨ (w0.heap.size ≤ b ∧ b < w24.heap.size ∧ b ≠ b13))) b7 := (.inr ⟨by omega, by omega, by omega⟩)
  have q32 : FnT Tryz.prog encInt unitE (n + 1) (fun b => F b ∨ (w0.heap.size ≤ b ∧ b < w24.heap.size ∧ b ≠ b13)) w24 (.func (.func 390) #[] #[.pointer (some ⟨b1, 0, none⟩), .pointer (some ⟨b4, 0, none⟩), .pointer (some ⟨b16, 0, none⟩), .pointer (some ⟨b10, 0, none⟩), .pointer (some ⟨b7, 0, none⟩)]) (fun _ => (D.zz23 j r_retire_scanned a0 a1 (W (a2.left - 1)) a3 a2)) := ⟨390, [], [.pointer (some ⟨b1, 0, none⟩), .pointer (some ⟨b4, 0, none⟩), .pointer (some ⟨b16, 0, none⟩), .pointer (some ⟨b10, 0, none⟩), .pointer (some ⟨b7, 0, none⟩)], cl390, rfl, fun m hm _ w' hs hz => zz6e (j := j) (fun b hb => Nat.lt_of_lt_of_le (hF1 b hb) hz) (by omega) (fun m' hm' => ih_retire_scanned m' (by omega)) a0 f27 (hs.at_ f27 h_b1) a1 f28 (hs.at_ f28 h_b4) (W (a2.left - 1)) f29 (hs.at_ f29 h_b16) a3 f30 (hs.at_ f30 h_b10) a2 f31 (hs.at_ f31 h_b7)⟩
  refine zz06 r (q32.at_.2 n (Nat.lt_succ_self n) () w24 (Same.refl _ _) (Nat.le_refl _)) (fun R hc => y_callv0 r rfl q32.at_.1 hc) rfl ?_
  rintro _ w33 ⟨v34, rfl, hb, hr35⟩
  refine ⟨_, rfl, fun fr r => ?_⟩
  have z_w33 := hb.size
  have h_b1 := keep hb h_b1
  have h_b4 := keep hb h_b4
  have h_b7 := keep hb h_b7
  have h_b10 := keep hb h_b10
  have h_b13 := keep hb h_b13
  have h_b16 := keep hb h_b16
  have h_b21 := keep hb h_b21
  obtain ⟨hB, zB⟩ := bon hb hB
  refine seq_upd (.cells v34.cells 167 (0, 0)) r (fun R => zz0c r hr35.shape rfl rfl h_b13 ts167 rfl) rfl fun fr w36 u37 r => ?_
  have z_w36 := u37.size
  have h_b1 := u37.keep h_b1 (by omega)
  have h_b4 := u37.keep h_b4 (by omega)
  have h_b7 := u37.keep h_b7 (by omega)
  have h_b10 := u37.keep h_b10 (by omega)
  have h_b16 := u37.keep h_b16 (by omega)
  have h_b21 := u37.keep h_b21 (by omega)
  have h_b13 := u37.at_
  obtain ⟨hB, zB⟩ := u37.on hB (by omega)
  refine wn ?_
  refine wp_ret ?_
  have hd : D.zz30 j r_retire_scanned a0 a1 a2 a3 = ((fun _ => (D.zz23 j r_retire_scanned a0 a1 (W (a2.left - 1)) a3 a2)) ()) := (cond_t h26).trans (rfl)
  have hs := hr35.shape.cells
  refine zz0a r rfl rfl h_b13 (k := 7) hs.1 ta167 ?_
  rw [← hs.2.2, hd]
  exact rfin hF hB hr35 u37 (by omega) (by omega) (by omega)
 ·
  refine wp_skip ?_
  refine wsr ?_
  refine seq_val (.agg (planC a0).toArray) r (fun R => zz03 r (cs := (planC a0)) (n := 6) rfl h_b1 ta25 rfl) rfl fun fr r => ?_
  refine seq_val (I a1) r (fun R => zz01 r rfl h_b4 to3 rfl) rfl fun fr r => ?_
  refine seq_val (I (W (a2.left - 1))) r (fun R => zz01 r rfl h_b16 to3 rfl) rfl fun fr r => ?_
  refine zz06 r (zz39 w24 a0 a1 (W (a2.left - 1))) (fun R hc => y_call r rfl cl165 hc) rfl ?_
  rintro _ w38 ⟨rfl, hb⟩
  refine ⟨_, rfl, fun fr r => ?_⟩
  have z_w38 := hb.size
  have h_b1 := keep hb h_b1
  have h_b4 := keep hb h_b4
  have h_b7 := keep hb h_b7
  have h_b10 := keep hb h_b10
  have h_b13 := keep hb h_b13
  have h_b16 := keep hb h_b16
  have h_b21 := keep hb h_b21
  obtain ⟨hB, zB⟩ := bon hb hB
  refine seq_val (.func (.func 393) #[] #[.pointer (some ⟨b1, 0, none⟩), .pointer (some ⟨b4, 0, none⟩), .pointer (some ⟨b7, 0, none⟩), .pointer (some ⟨b21, 0, none⟩)]) r (fun R => zz0o r rfl) rfl fun fr r => ?_
  have hF1 := fgrow hF hB b13
  have f39 : ((fun b => F b ∨ (w0.heap.size ≤ b ∧ b < w38.heap.size ∧ b ≠ b13))) b1 := (.inr ⟨by omega, by omega, by omega⟩)
  have f40 : ((fun b => F b ∨ (w0.heap.size ≤ b ∧ b < w38.heap.size ∧ b ≠ b13))) b4 := (.inr ⟨by omega, by omega, by omega⟩)
  have f41 : ((fun b => F b ∨ (w0.heap.size ≤ b ∧ b < w38.heap.size ∧ b ≠ b13))) b7 := (.inr ⟨by omega, by omega, by omega⟩)
  have f42 : ((fun b => F b ∨ (w0.heap.size ≤ b ∧ b < w38.heap.size ∧ b ≠ b13))) b21 := (.inr ⟨by omega, by omega, by omega⟩)
  have f44 : ((fun b => F b ∨ (w0.heap.size ≤ b ∧ b < w38.heap.size ∧ b ≠ b13))) b1 := (.inr ⟨by omega, by omega, by omega⟩)
  have f45 : ((fun b => F b ∨ (w0.heap.size ≤ b ∧ b < w38.heap.size ∧ b ≠ b13))) b4 := (.inr ⟨by omega, by omega, by omega⟩)
  have f46 : ((fun b => F b ∨ (w0.heap.size ≤ b ∧ b < w38.heap.size ∧ b ≠ b13))) b16 := (.inr ⟨by omega, by omega, by omega⟩)
  have f47 : ((fun b => F b ∨ (w0.heap.size ≤ b ∧ b < w38.heap.size ∧ b ≠ b13))) b10 := (.inr ⟨by omega, by omega, by omega⟩)
  have f48 : ((fun b => F b ∨ (w0.heap.size ≤ b ∧ b < w38.heap.size ∧ b ≠ b13))) b7 := (.inr ⟨by omega, by omega, by omega⟩)
  have q43 : FnT Tryz.prog encInt unitE (n) (fun b => F b ∨ (w0.heap.size ≤ b ∧ b < w38.heap.size ∧ b ≠ b13)) w38 (.func (.func 390) #[] #[.pointer (some ⟨b1, 0, none⟩), .pointer (some ⟨b4, 0, none⟩), .pointer (some ⟨b16, 0, none⟩), .pointer (some ⟨b10, 0, none⟩), .pointer (some ⟨b7, 0, none⟩)]) (fun _ => (D.zz23 j r_retire_scanned a0 a1 (W (a2.left - 1)) a3 a2)) := ⟨390, [], [.pointer (some ⟨b1, 0, none⟩), .pointer (some ⟨b4, 0, none⟩), .pointer (some ⟨b16, 0, none⟩), .pointer (some ⟨b10, 0, none⟩), .pointer (some ⟨b7, 0, none⟩)], cl390, rfl, fun m hm _ w' hs hz => zz6e (j := j) (fun b hb => Nat.lt_of_lt_of_le (hF1 b hb) hz) (by omega) (fun m' hm' => ih_retire_scanned m' (by omega)) a0 f44 (hs.at_ f44 h_b1) a1 f45 (hs.at_ f45 h_b4) (W (a2.left - 1)) f46 (hs.at_ f46 h_b16) a3 f47 (hs.at_ f47 h_b10) a2 f48 (hs.at_ f48 h_b7)⟩
  refine zz06 r (zz2a (F := (fun b => F b ∨ (w0.heap.size ≤ b ∧ b < w38.heap.size ∧ b ≠ b13))) (n := n) hF1 (D.zz0z a0 a1 (W (a2.left - 1))) ⟨393, [], [.pointer (some ⟨b1, 0, none⟩), .pointer (some ⟨b4, 0, none⟩), .pointer (some ⟨b7, 0, none⟩), .pointer (some ⟨b21, 0, none⟩)], cl393, rfl, fun m hm x w' hs hz => c_retire_removed_2 (fun b hb => Nat.lt_of_lt_of_le (hF1 b hb) hz) a0 f39 (hs.at_ f39 h_b1) a1 f40 (hs.at_ f40 h_b4) a2 f41 (hs.at_ f41 h_b7) f42 (hs.at_ f42 h_b21) (q43.mono (by omega) (fun b h => h) hs hz) x⟩) (fun R hc => y_call r rfl cl198 hc) rfl ?_
  rintro _ w49 ⟨v50, rfl, hb, hr51⟩
  refine ⟨_, rfl, fun fr r => ?_⟩
  have z_w49 := hb.size
  have h_b1 := keep hb h_b1
  have h_b4 := keep hb h_b4
  have h_b7 := keep hb h_b7
  have h_b10 := keep hb h_b10
  have h_b13 := keep hb h_b13
  have h_b16 := keep hb h_b16
  have h_b21 := keep hb h_b21
  obtain ⟨hB, zB⟩ := bon hb hB
  refine seq_upd (.cells v50.cells 167 (0, 0)) r (fun R => zz0c r hr51.shape rfl rfl h_b13 ts167 rfl) rfl fun fr w52 u53 r => ?_
  have z_w52 := u53.size
  have h_b1 := u53.keep h_b1 (by omega)
  have h_b4 := u53.keep h_b4 (by omega)
  have h_b7 := u53.keep h_b7 (by omega)
  have h_b10 := u53.keep h_b10 (by omega)
  have h_b16 := u53.keep h_b16 (by omega)
  have h_b21 := u53.keep h_b21 (by omega)
  have h_b13 := u53.at_
  obtain ⟨hB, zB⟩ := u53.on hB (by omega)
  refine wn ?_
  refine wp_ret ?_
  have hd : D.zz30 j r_retire_scanned a0 a1 a2 a3 = (D.zz1n (D.zz0z a0 a1 (W (a2.left - 1))) (fun x => (D.zz4c a0 a1 a2 (fun _ => (D.zz23 j r_retire_scanned a0 a1 (W (a2.left - 1)) a3 a2)) x))) := (cond_f h26).trans (rfl)
  have hs := hr51.shape.cells
  refine zz0a r rfl rfl h_b13 (k := 7) hs.1 ta167 ?_
  rw [← hs.2.2, hd]
  exact rfin hF hB hr51 u53 (by omega) (by omega) (by omega)

theorem c_retire_scanned_1_1 {n : Nat} {F : Nat → Prop} {j : Nat} {r_retire_scanned : Plan → Int → Scan → T Int} {w0 : World} (hF : ∀ b, F b → b < w0.heap.size) (hj : n < j) (ih_retire_scanned : ∀ m, m ≤ n → zz1t r_retire_scanned m)
    (c0 : Plan) {c0_b : Nat} (c0_F : F c0_b) (c0_h : w0.heap[c0_b]? = some (.cells ((planC c0)).toArray 25 (0, 0))) (c1 : Int) {c1_b : Nat} (c1_F : F c1_b) (c1_h : w0.heap[c1_b]? = some (.cells ([(.int .i64 c1)]).toArray 3 (0, 0))) (c2 : Scan) {c2_b : Nat} (c2_F : F c2_b) (c2_h : w0.heap[c2_b]? = some (.cells ((scanC c2)).toArray 300 (0, 0))) (c3 : Scan) {c3_b : Nat} (c3_F : F c3_b) (c3_h : w0.heap[c3_b]? = some (.cells ((scanC c3)).toArray 300 (0, 0))) (c4 : Int) {c4_b : Nat} (c4_F : F c4_b) (c4_h : w0.heap[c4_b]? = some (.cells ([(.int .u64 c4)]).toArray 22 (0, 0))) (a0 : Bool) :
    Calls Tryz.prog 359 #[.bool a0, .pointer (some ⟨c0_b, 0, none⟩), .pointer (some ⟨c1_b, 0, none⟩), .pointer (some ⟨c2_b, 0, none⟩), .pointer (some ⟨c3_b, 0, none⟩), .pointer (some ⟨c4_b, 0, none⟩)] w0 (RepRes Tryz.prog encInt n (D.zz1o j r_retire_scanned c0 c1 c2 c3 c4 a0) F w0) := by
 refine enter Tryz.func359 rfl 20 rfl rfl fun fr r => ?_
 have hB := Below.refl w0.heap.size w0
 have l_c0_b := lt_of_block c0_h
 have l_c1_b := lt_of_block c1_h
 have l_c2_b := lt_of_block c2_h
 have l_c3_b := lt_of_block c3_h
 have l_c4_b := lt_of_block c4_h
 refine wsr ?_
 refine seq_new (.cells (progCells false encInt.zero 0 0 0 0 .nilFunc) 167 (0, 0)) r (fun R => y_alloc tz167) rfl fun fr b1 w2 n3 r => ?_
 obtain ⟨e_b1, z_w2, h_b1, hB, zB⟩ := n3.all hB
 refine wn ?_
 refine wp_seq ?_
 refine wsr ?_
 refine seq_val (.bool a0) r (fun R => y_move r rfl) rfl fun fr r => ?_
 refine wn ?_
 refine wp_cond_split (t := a0) (r.ev rfl) (fun h4 => ?_) (fun h4 => ?_)
 ·
  refine wsr ?_
  refine seq_val (.agg (planC c0).toArray) r (fun R => zz03 r (cs := (planC c0)) (n := 6) rfl (keep hB c0_h) ta25 rfl) rfl fun fr r => ?_
  refine seq_val (I c1) r (fun R => zz01 r rfl (keep hB c1_h) to3 rfl) rfl fun fr r => ?_
  refine seq_val (.agg (scanC c2).toArray) r (fun R => zz03 r (cs := (scanC c2)) (n := 3) rfl (keep hB c2_h) ta300 rfl) rfl fun fr r => ?_
  have hF1 := fgrow hF hB b1
  refine zz06 r ((ih_retire_scanned n (by omega)) (fun b => F b ∨ (w0.heap.size ≤ b ∧ b < w2.heap.size ∧ b ≠ b1)) _ hF1 c0 c1 c2) (fun R hc => y_call r rfl cl294 hc) rfl ?_
  rintro _ w5 ⟨v6, rfl, hb, hr7⟩
  refine ⟨_, rfl, fun fr r => ?_⟩
  have z_w5 := hb.size
  have h_b1 := keep hb h_b1
  obtain ⟨hB, zB⟩ := bon hb hB
  refine seq_upd (.cells v6.cells 167 (0, 0)) r (fun R => zz0c r hr7.shape rfl rfl h_b1 ts167 rfl) rfl fun fr w8 u9 r => ?_
  have z_w8 := u9.size
  have h_b1 := u9.at_
  obtain ⟨hB, zB⟩ := u9.on hB (by omega)
  refine wn ?_
  refine wp_ret ?_
  have hd : D.zz1o j r_retire_scanned c0 c1 c2 c3 c4 a0 = (r_retire_scanned c0 c1 c2) := (cond_t h4).trans (rfl)
  have hs := hr7.shape.cells
  refine zz0a r rfl rfl h_b1 (k := 7) hs.1 ta167 ?_
  rw [← hs.2.2, hd]
  exact rfin hF hB hr7 u9 (by omega) (by omega) (by omega)
 ·
  refine wp_skip ?_
  refine wsr ?_
  refine seq_val (.agg (planC c0).toArray) r (fun R => zz03 r (cs := (planC c0)) (n := 6) rfl (keep hB c0_h) ta25 rfl) rfl fun fr r => ?_
  refine seq_val (I c1) r (fun R => zz01 r rfl (keep hB c1_h) to3 rfl) rfl fun fr r => ?_
  refine seq_val (.agg (scanC c3).toArray) r (fun R => zz03 r (cs := (scanC c3)) (n := 3) rfl (keep hB c3_h) ta300 rfl) rfl fun fr r => ?_
  refine seq_val (U c4) r (fun R => zz01 r rfl (keep hB c4_h) to22 rfl) rfl fun fr r => ?_
  refine seq_val (I (W c4)) r (fun R => zz20 r rfl ti22 ti3) rfl fun fr r => ?_
  refine seq_val _ r (fun R => y_bin r rfl rfl rfl rfl) rfl fun fr r => ?_
  have hF1 := fgrow hF hB b1
  refine zz06 r (c_retire_removed (j := j) (F := (fun b => F b ∨ (w0.heap.size ≤ b ∧ b < w2.heap.size ∧ b ≠ b1))) (n := n) hF1 (by omega) (fun m' hm' => ih_retire_scanned m' (by omega)) c0 c1 c3 (W ((W c4) - 1))) (fun R hc => y_call r rfl cl360 hc) rfl ?_
  rintro _ w10 ⟨v11, rfl, hb, hr12⟩
  refine ⟨_, rfl, fun fr r => ?_⟩
  have z_w10 := hb.size
  have h_b1 := keep hb h_b1
  obtain ⟨hB, zB⟩ := bon hb hB
  refine seq_upd (.cells v11.cells 167 (0, 0)) r (fun R => zz0c r hr12.shape rfl rfl h_b1 ts167 rfl) rfl fun fr w13 u14 r => ?_
  have z_w13 := u14.size
  have h_b1 := u14.at_
  obtain ⟨hB, zB⟩ := u14.on hB (by omega)
  refine wn ?_
  refine wp_ret ?_
  have hd : D.zz1o j r_retire_scanned c0 c1 c2 c3 c4 a0 = (D.zz30 j r_retire_scanned c0 c1 c3 (W ((W c4) - 1))) := (cond_f h4).trans (rfl)
  have hs := hr12.shape.cells
  refine zz0a r rfl rfl h_b1 (k := 7) hs.1 ta167 ?_
  rw [← hs.2.2, hd]
  exact rfin hF hB hr12 u14 (by omega) (by omega) (by omega)

theorem c_retire_scanned_1 {n : Nat} {F : Nat → Prop} {j : Nat} {r_retire_scanned : Plan → Int → Scan → T Int} {w0 : World} (hF : ∀ b, F b → b < w0.heap.size) (hj : n < j) (ih_retire_scanned : ∀ m, m ≤ n → zz1t r_retire_scanned m)
    (c0 : Plan) {c0_b : Nat} (c0_F : F c0_b) (c0_h : w0.heap[c0_b]? = some (.cells ((planC c0)).toArray 25 (0, 0))) (c1 : Int) {c1_b : Nat} (c1_F : F c1_b) (c1_h : w0.heap[c1_b]? = some (.cells ([(.int .i64 c1)]).toArray 3 (0, 0))) (c2 : Scan) {c2_b : Nat} (c2_F : F c2_b) (c2_h : w0.heap[c2_b]? = some (.cells ((scanC c2)).toArray 300 (0, 0))) (c3 : Scan) {c3_b : Nat} (c3_F : F c3_b) (c3_h : w0.heap[c3_b]? = some (.cells ((scanC c3)).toArray 300 (0, 0))) (a0 : Int) :
    Calls Tryz.prog 356 #[.int .u64 a0, .pointer (some ⟨c0_b, 0, none⟩), .pointer (some ⟨c1_b, 0, none⟩), .pointer (some ⟨c2_b, 0, none⟩), .pointer (some ⟨c3_b, 0, none⟩)] w0 (RepRes Tryz.prog encInt n (D.zz2h j r_retire_scanned c0 c1 c2 c3 a0) F w0) := by
 refine enter Tryz.func356 rfl 27 rfl rfl fun fr r => ?_
 have hB := Below.refl w0.heap.size w0
 have l_c0_b := lt_of_block c0_h
 have l_c1_b := lt_of_block c1_h
 have l_c2_b := lt_of_block c2_h
 have l_c3_b := lt_of_block c3_h
 refine wsr ?_
 refine seq_new (.cells #[(U a0)] 22 (0, 0)) r (fun R => y_box r (v := (U a0)) rfl) rfl fun fr b1 w2 n3 r => ?_
 obtain ⟨e_b1, z_w2, h_b1, hB, zB⟩ := n3.all hB
 refine seq_new (.cells (progCells false encInt.zero 0 0 0 0 .nilFunc) 167 (0, 0)) r (fun R => y_alloc tz167) rfl fun fr b4 w5 n6 r => ?_
 have h_b1 := keep n6.below h_b1
 obtain ⟨e_b4, z_w5, h_b4, hB, zB⟩ := n6.all hB
 refine wn ?_
 refine wp_seq ?_
 refine wsr ?_
 refine seq_val (U a0) r (fun R => zz01 r rfl h_b1 to22 rfl) rfl fun fr r => ?_
 refine seq_val _ r (fun R => y_bin r rfl rfl rfl rfl) rfl fun fr r => ?_
 refine seq_val (.bool (decide (a0 < 1))) r (fun R => y_move r rfl) rfl fun fr r => ?_
 refine zz0r (decide (a0 < 1)) (fun h7 => ?_) (fun h7 => ?_)
 ·
  refine s0 r h7 fun fr r => ?_
  refine s0 r h7 fun fr r => ?_
  refine s0 r h7 fun fr r => ?_
  refine s0 r h7 fun fr r => ?_
  refine s0 r h7 fun fr r => ?_
  refine seq_val (.bool true) r (fun R => y_pick r (b := true) (congrArg Value.bool h7) rfl) rfl fun fr r => ?_
  refine wn ?_
  refine wp_cond_split (t := true) (r.ev rfl) (fun _ => ?_) (fun h => absurd ((rfl : true = _).symm.trans h) (by decide))
  refine wsr ?_
  refine seq_val (.agg (planC c0).toArray) r (fun R => zz03 r (cs := (planC c0)) (n := 6) rfl (keep hB c0_h) ta25 rfl) rfl fun fr r => ?_
  refine seq_val (I c1) r (fun R => zz01 r rfl (keep hB c1_h) to3 rfl) rfl fun fr r => ?_
  refine seq_val (.agg (scanC c2).toArray) r (fun R => zz03 r (cs := (scanC c2)) (n := 3) rfl (keep hB c2_h) ta300 rfl) rfl fun fr r => ?_
  have hF1 := fgrow hF hB b4
  refine zz06 r ((ih_retire_scanned n (by omega)) (fun b => F b ∨ (w0.heap.size ≤ b ∧ b < w5.heap.size ∧ b ≠ b4)) _ hF1 c0 c1 c2) (fun R hc => y_call r rfl cl294 hc) rfl ?_
  rintro _ w8 ⟨v9, rfl, hb, hr10⟩
  refine ⟨_, rfl, fun fr r => ?_⟩
  have z_w8 := hb.size
  have h_b1 := keep hb h_b1
  have h_b4 := keep hb h_b4
  obtain ⟨hB, zB⟩ := bon hb hB
  refine seq_upd (.cells v9.cells 167 (0, 0)) r (fun R => zz0c r hr10.shape rfl rfl h_b4 ts167 rfl) rfl fun fr w11 u12 r => ?_
  have z_w11 := u12.size
  have h_b1 := u12.keep h_b1 (by omega)
  have h_b4 := u12.at_
  obtain ⟨hB, zB⟩ := u12.on hB (by omega)
  refine wn ?_
  refine wp_ret ?_
  have hd : D.zz2h j r_retire_scanned c0 c1 c2 c3 a0 = (r_retire_scanned c0 c1 c2) := (cond_t h7).trans (rfl)
  have hs := hr10.shape.cells
  refine zz0a r rfl rfl h_b4 (k := 7) hs.1 ta167 ?_
  rw [← hs.2.2, hd]
  exact rfin hF hB hr10 u12 (by omega) (by omega) (by omega)
 ·
  refine s1 r h7 ?_
  refine seq_val (U a0) r (fun R => zz01 r rfl h_b1 to22 rfl) rfl fun fr r => ?_
  refine s1 r h7 ?_
  refine seq_val _ r (fun R => zz02 r (o := 0) rfl fo25_0) rfl fun fr r => ?_
  refine s1 r h7 ?_
  refine seq_val (I c0.nodes) r (fun R => zz01 r rfl (keep hB c0_h) to3 rfl) rfl fun fr r => ?_
  refine s1 r h7 ?_
  refine seq_val (U (V c0.nodes)) r (fun R => zz20 r rfl ti3 ti22) rfl fun fr r => ?_
  refine s1 r h7 ?_
  refine seq_val _ r (fun R => y_bin r rfl rfl rfl rfl) rfl fun fr r => ?_
  refine seq_val (.bool (decide (a0 > (V c0.nodes)))) r (fun R => y_pick r (b := false) (congrArg Value.bool h7) rfl) rfl fun fr r => ?_
  refine wn ?_
  refine wp_cond_split (t := (decide (a0 > (V c0.nodes)))) (r.ev rfl) (fun h13 => ?_) (fun h13 => ?_)
  ·
   refine wsr ?_
   refine seq_val (.agg (planC c0).toArray) r (fun R => zz03 r (cs := (planC c0)) (n := 6) rfl (keep hB c0_h) ta25 rfl) rfl fun fr r => ?_
   refine seq_val (I c1) r (fun R => zz01 r rfl (keep hB c1_h) to3 rfl) rfl fun fr r => ?_
   refine seq_val (.agg (scanC c2).toArray) r (fun R => zz03 r (cs := (scanC c2)) (n := 3) rfl (keep hB c2_h) ta300 rfl) rfl fun fr r => ?_
   have hF1 := fgrow hF hB b4
   refine zz06 r ((ih_retire_scanned n (by omega)) (fun b => F b ∨ (w0.heap.size ≤ b ∧ b < w5.heap.size ∧ b ≠ b4)) _ hF1 c0 c1 c2) (fun R hc => y_call r rfl cl294 hc) rfl ?_
   rintro _ w14 ⟨v15, rfl, hb, hr16⟩
   refine ⟨_, rfl, fun fr r => ?_⟩
   have z_w14 := hb.size
   have h_b1 := keep hb h_b1
   have h_b4 := keep hb h_b4
   obtain ⟨hB, zB⟩ := bon hb hB
   refine seq_upd (.cells v15.cells 167 (0, 0)) r (fun R => zz0c r hr16.shape rfl rfl h_b4 ts167 rfl) rfl fun fr w17 u18 r => ?_
   have z_w17 := u18.size
   have h_b1 := u18.keep h_b1 (by omega)
   have h_b4 := u18.at_
   obtain ⟨hB, zB⟩ := u18.on hB (by omega)
   refine wn ?_
   refine wp_ret ?_
   have hd : D.zz2h j r_retire_scanned c0 c1 c2 c3 a0 = (r_retire_scanned c0 c1 c2) := (cond_f h7).trans ((cond_t h13).trans (rfl))
   have hs := hr16.shape.cells
   refine zz0a r rfl rfl h_b4 (k := 7) hs.1 ta167 ?_
   rw [← hs.2.2, hd]
   exact rfin hF hB hr16 u18 (by omega) (by omega) (by omega)
  ·
   refine wp_skip ?_
   refine wsr ?_
   refine seq_val (.agg (planC c0).toArray) r (fun R => zz03 r (cs := (planC c0)) (n := 6) rfl (keep hB c0_h) ta25 rfl) rfl fun fr r => ?_
   refine seq_val (U a0) r (fun R => zz01 r rfl h_b1 to22 rfl) rfl fun fr r => ?_
   refine seq_val (I (W a0)) r (fun R => zz20 r rfl ti22 ti3) rfl fun fr r => ?_
   refine seq_val _ r (fun R => y_bin r rfl rfl rfl rfl) rfl fun fr r => ?_
   have hF1 := fgrow hF hB b4
   refine zz06 r (c_hazard_Held (j := j) (F := (fun b => F b ∨ (w0.heap.size ≤ b ∧ b < w5.heap.size ∧ b ≠ b4))) (n := n) hF1 (by omega) c0 (W ((W a0) - 1))) (fun R hc => y_call r rfl cl358 hc) rfl ?_
   rintro _ w19 ⟨v20, rfl, hb, hr21⟩
   refine ⟨_, rfl, fun fr r => ?_⟩
   have z_w19 := hb.size
   have h_b1 := keep hb h_b1
   have h_b4 := keep hb h_b4
   obtain ⟨hB, zB⟩ := bon hb hB
   refine seq_val (.func (.func 359) #[] #[.pointer (some ⟨c0_b, 0, none⟩), .pointer (some ⟨c1_b, 0, none⟩), .pointer (some ⟨c2_b, 0, none⟩), .pointer (some ⟨c3_b, 0, none⟩), .pointer (some ⟨b1, 0, none⟩)]) r (fun R => zz0o r rfl) rfl fun fr r => ?_
   have hF1 := fgrow hF hB b4
   have f22 : ((fun b => F b ∨ (w0.heap.size ≤ b ∧ b < w19.heap.size ∧ b ≠ b4))) c0_b := (.inl c0_F)
   have f23 : ((fun b => F b ∨ (w0.heap.size ≤ b ∧ b < w19.heap.size ∧ b ≠ b4))) c1_b := (.inl c1_F)
   have f24 : ((fun b => F b ∨ (w0.heap.size ≤ b ∧ b < w19.heap.size ∧ b ≠ b4))) c2_b := (.inl c2_F)
   have f25 : ((fun b => F b ∨ (w0.heap.size ≤ b ∧ b < w19.heap.size ∧ b ≠ b4))) c3_b := (.inl c3_F)
   have f26 : ((fun b => F b ∨ (w0.heap.size ≤ b ∧ b < w19.heap.size ∧ b ≠ b4))) b1 := (.inr ⟨by omega, by omega, by omega⟩)
   refine zz06 r (c_prog_Then_bool_int_le (F := (fun b => F b ∨ (w0.heap.size ≤ b ∧ b < w19.heap.size ∧ b ≠ b4))) (n := n) hF1 (Rep.mono (by rintro b (h | h); (rcases h with h | ⟨h1, h2, h3⟩; exact .inl h; exact .inr ⟨h1, by omega, h3⟩); exact .inr ⟨by omega, by omega, by omega⟩) (Same.refl _ _) (by omega) n _ _ hr21) ⟨359, [], [.pointer (some ⟨c0_b, 0, none⟩), .pointer (some ⟨c1_b, 0, none⟩), .pointer (some ⟨c2_b, 0, none⟩), .pointer (some ⟨c3_b, 0, none⟩), .pointer (some ⟨b1, 0, none⟩)], cl359, rfl, fun m hm x w' hs hz => c_retire_scanned_1_1 (j := j) (fun b hb => Nat.lt_of_lt_of_le (hF1 b hb) hz) (by omega) (fun m' hm' => ih_retire_scanned m' (by omega)) c0 f22 (hs.at_ f22 (keep hB c0_h)) c1 f23 (hs.at_ f23 (keep hB c1_h)) c2 f24 (hs.at_ f24 (keep hB c2_h)) c3 f25 (hs.at_ f25 (keep hB c3_h)) a0 f26 (hs.at_ f26 h_b1) x⟩) (fun R hc => y_call r rfl cl357 hc) rfl ?_
   rintro _ w27 ⟨v28, rfl, hb, hr29⟩
   refine ⟨_, rfl, fun fr r => ?_⟩
   have z_w27 := hb.size
   have h_b1 := keep hb h_b1
   have h_b4 := keep hb h_b4
   obtain ⟨hB, zB⟩ := bon hb hB
   refine seq_upd (.cells v28.cells 167 (0, 0)) r (fun R => zz0c r hr29.shape rfl rfl h_b4 ts167 rfl) rfl fun fr w30 u31 r => ?_
   have z_w30 := u31.size
   have h_b1 := u31.keep h_b1 (by omega)
   have h_b4 := u31.at_
   obtain ⟨hB, zB⟩ := u31.on hB (by omega)
   refine wn ?_
   refine wp_ret ?_
   have hd : D.zz2h j r_retire_scanned c0 c1 c2 c3 a0 = (T.bind (D.hazard_Held j c0 (W ((W a0) - 1))) (fun x => (D.zz1o j r_retire_scanned c0 c1 c2 c3 a0 x))) := (cond_f h7).trans ((cond_f h13).trans (rfl))
   have hs := hr29.shape.cells
   refine zz0a r rfl rfl h_b4 (k := 7) hs.1 ta167 ?_
   rw [← hs.2.2, hd]
   exact rfin hF hB hr29 u31 (by omega) (by omega) (by omega)

theorem b_retire_scanned {n : Nat} {F : Nat → Prop} {j : Nat} {r_retire_scanned : Plan → Int → Scan → T Int} {w0 : World} (hF : ∀ b, F b → b < w0.heap.size) (hj : n < j) (ih_retire_scanned : ∀ m, m < n → zz1t r_retire_scanned m)
    (a0 : Plan) (a1 : Int) (a2 : Scan) :
    Calls Tryz.prog 294 #[.agg (planC a0).toArray, .int .i64 a1, .agg (scanC a2).toArray] w0 (RepRes Tryz.prog encInt n (D.zz1s j r_retire_scanned a0 a1 a2) F w0) := by
 refine enter Tryz.func294 rfl 29 rfl rfl fun fr r => ?_
 have hB := Below.refl w0.heap.size w0
 refine wsr ?_
 refine seq_new (.cells ((planC a0)).toArray 25 (0, 0)) r (fun R => y_box r (v := (.agg (planC a0).toArray)) rfl) rfl fun fr b1 w2 n3 r => ?_
 obtain ⟨e_b1, z_w2, h_b1, hB, zB⟩ := n3.all hB
 refine seq_new (.cells #[(I a1)] 3 (0, 0)) r (fun R => y_box r (v := (I a1)) rfl) rfl fun fr b4 w5 n6 r => ?_
 have h_b1 := keep n6.below h_b1
 obtain ⟨e_b4, z_w5, h_b4, hB, zB⟩ := n6.all hB
 refine seq_new (.cells ((scanC a2)).toArray 300 (0, 0)) r (fun R => y_box r (v := (.agg (scanC a2).toArray)) rfl) rfl fun fr b7 w8 n9 r => ?_
 have h_b1 := keep n9.below h_b1
 have h_b4 := keep n9.below h_b4
 obtain ⟨e_b7, z_w8, h_b7, hB, zB⟩ := n9.all hB
 refine seq_new (.cells (progCells false encInt.zero 0 0 0 0 .nilFunc) 167 (0, 0)) r (fun R => y_alloc tz167) rfl fun fr b10 w11 n12 r => ?_
 have h_b1 := keep n12.below h_b1
 have h_b4 := keep n12.below h_b4
 have h_b7 := keep n12.below h_b7
 obtain ⟨e_b10, z_w11, h_b10, hB, zB⟩ := n12.all hB
 refine wn ?_
 refine wp_seq ?_
 refine wsr ?_
 refine seq_val _ r (fun R => zz02 r (o := 0) rfl fo300_0) rfl fun fr r => ?_
 refine seq_val (I a2.at_) r (fun R => zz01 r rfl h_b7 to3 rfl) rfl fun fr r => ?_
 refine seq_val _ r (fun R => y_bin r rfl rfl rfl rfl) rfl fun fr r => ?_
 refine wn ?_
 refine wp_cond_split (t := (decide (a2.at_ < 0))) (r.ev rfl) (fun h13 => ?_) (fun h13 => ?_)
 ·
  refine wsr ?_
  refine seq_val _ r (fun R => zz02 r (o := 0) rfl fo300_2) rfl fun fr r => ?_
  refine seq_val (I a2.done) r (fun R => zz01 r rfl h_b7 to3 rfl) rfl fun fr r => ?_
  have hF1 := fgrow hF hB b10
  refine zz06 r (zz1v (F := (fun b => F b ∨ (w0.heap.size ≤ b ∧ b < w11.heap.size ∧ b ≠ b10))) (n := n) hF1 a2.done) (fun R hc => y_call r rfl cl229 hc) rfl ?_
  rintro _ w14 ⟨v15, rfl, hb, hr16⟩
  refine ⟨_, rfl, fun fr r => ?_⟩
  have z_w14 := hb.size
  have h_b1 := keep hb h_b1
  have h_b4 := keep hb h_b4
  have h_b7 := keep hb h_b7
  have h_b10 := keep hb h_b10
  obtain ⟨hB, zB⟩ := bon hb hB
  refine seq_upd (.cells v15.cells 167 (0, 0)) r (fun R => zz0c r hr16.shape rfl rfl h_b10 ts167 rfl) rfl fun fr w17 u18 r => ?_
  have z_w17 := u18.size
  have h_b1 := u18.keep h_b1 (by omega)
  have h_b4 := u18.keep h_b4 (by omega)
  have h_b7 := u18.keep h_b7 (by omega)
  have h_b10 := u18.at_
  obtain ⟨hB, zB⟩ := u18.on hB (by omega)
  refine wn ?_
  refine wp_ret ?_
  have hd : D.zz1s j r_retire_scanned a0 a1 a2 = (D.zz16 a2.done) := (cond_t h13).trans (rfl)
  have hs := hr16.shape.cells
  refine zz0a r rfl rfl h_b10 (k := 7) hs.1 ta167 ?_
  rw [← hs.2.2, hd]
  exact rfin hF hB hr16 u18 (by omega) (by omega) (by omega)
 ·
  refine wp_skip ?_
  refine wsr ?_
  refine seq_val _ r (fun R => zz02 r (o := 0) rfl fo300_0) rfl fun fr r => ?_
  refine seq_val (I a2.at_) r (fun R => zz01 r rfl h_b7 to3 rfl) rfl fun fr r => ?_
  refine seq_val _ r (fun R => y_bin r rfl rfl rfl rfl) rfl fun fr r => ?_
  refine seq_val _ r (fun R => zz02 r (o := 0) rfl fo300_1) rfl fun fr r => ?_
  refine seq_val (I a2.left) r (fun R => zz01 r rfl h_b7 to3 rfl) rfl fun fr r => ?_
  refine seq_val _ r (fun R => zz02 r (o := 0) rfl fo300_2) rfl fun fr r => ?_
  refine seq_val (I a2.done) r (fun R => zz01 r rfl h_b7 to3 rfl) rfl fun fr r => ?_
  refine seq_val (.agg (scanC (⟨(W (a2.at_ - 1)), a2.left, a2.done⟩ : Scan)).toArray) r (fun R => y_build r (by kernel_rfl)) rfl fun fr r => ?_
  refine seq_new (.cells ((scanC (⟨0, 0, 0⟩ : Scan))).toArray 300 (0, 0)) r (fun R => y_alloc tz300) rfl fun fr b19 w20 n21 r => ?_
  have h_b1 := keep n21.below h_b1
  have h_b4 := keep n21.below h_b4
  have h_b7 := keep n21.below h_b7
  have h_b10 := keep n21.below h_b10
  obtain ⟨e_b19, z_w20, h_b19, hB, zB⟩ := n21.all hB
  refine seq_upd (.cells ((scanC (⟨(W (a2.at_ - 1)), a2.left, a2.done⟩ : Scan))).toArray 300 (0, 0)) r (fun R => y_store r (o := 0) (v := (.agg (scanC (⟨(W (a2.at_ - 1)), a2.left, a2.done⟩ : Scan)).toArray)) rfl rfl h_b19 ts300 (Nat.le_of_ble_eq_true rfl) rfl rfl) rfl fun fr w22 u23 r => ?_
  have z_w22 := u23.size
  have h_b1 := u23.keep h_b1 (by omega)
  have h_b4 := u23.keep h_b4 (by omega)
  have h_b7 := u23.keep h_b7 (by omega)
  have h_b10 := u23.keep h_b10 (by omega)
  have h_b19 := u23.at_
  obtain ⟨hB, zB⟩ := u23.on hB (by omega)
  refine wn ?_
  refine wsr ?_
  refine seq_val (.agg (planC a0).toArray) r (fun R => zz03 r (cs := (planC a0)) (n := 6) rfl h_b1 ta25 rfl) rfl fun fr r => ?_
  refine seq_val (I a1) r (fun R => zz01 r rfl h_b4 to3 rfl) rfl fun fr r => ?_
  refine seq_val _ r (fun R => zz02 r (o := 0) rfl fo300_0) rfl fun fr r => ?_
  refine seq_val (I a2.at_) r (fun R => zz01 r rfl h_b7 to3 rfl) rfl fun fr r => ?_
  refine zz06 r (zz39 w22 a0 a1 a2.at_) (fun R hc => y_call r rfl cl165 hc) rfl ?_
  rintro _ w24 ⟨rfl, hb⟩
  refine ⟨_, rfl, fun fr r => ?_⟩
  have z_w24 := hb.size
  have h_b1 := keep hb h_b1
  have h_b4 := keep hb h_b4
  have h_b7 := keep hb h_b7
  have h_b10 := keep hb h_b10
  have h_b19 := keep hb h_b19
  obtain ⟨hB, zB⟩ := bon hb hB
  refine seq_val (.func (.func 356) #[] #[.pointer (some ⟨b1, 0, none⟩), .pointer (some ⟨b4, 0, none⟩), .pointer (some ⟨b19, 0, none⟩), .pointer (some ⟨b7, 0, none⟩)]) r (fun R => zz0o r rfl) rfl fun fr r => ?_
  have hF1 := fgrow hF hB b10
  have f25 : ((fun b => F b ∨ (w0.heap.size ≤ b ∧ b < w24.heap.size ∧ b ≠ b10))) b1 := (.inr ⟨by omega, by omega, by omega⟩)
  have f26 : ((fun b => F b ∨ (w0.heap.size ≤ b ∧ b < w24.heap.size ∧ b ≠ b10))) b4 := (.inr ⟨by omega, by omega, by omega⟩)
  have f27 : ((fun b => F b ∨ (w0.heap.size ≤ b ∧ b < w24.heap.size ∧ b ≠ b10))) b19 := (.inr ⟨by omega, by omega, by omega⟩)
  have f28 : ((fun b => F b ∨ (w0.heap.size ≤ b ∧ b < w24.heap.size ∧ b ≠ b10))) b7 := (.inr ⟨by omega, by omega, by omega⟩)
  refine zz06 r (zz2a (F := (fun b => F b ∨ (w0.heap.size ≤ b ∧ b < w24.heap.size ∧ b ≠ b10))) (n := n) hF1 (D.zz0z a0 a1 a2.at_) ⟨356, [], [.pointer (some ⟨b1, 0, none⟩), .pointer (some ⟨b4, 0, none⟩), .pointer (some ⟨b19, 0, none⟩), .pointer (some ⟨b7, 0, none⟩)], cl356, rfl, fun m hm x w' hs hz => c_retire_scanned_1 (j := j) (fun b hb => Nat.lt_of_lt_of_le (hF1 b hb) hz) (by omega) (fun m' hm' => ih_retire_scanned m' (by omega)) a0 f25 (hs.at_ f25 h_b1) a1 f26 (hs.at_ f26 h_b4) (⟨(W (a2.at_ - 1)), a2.left, a2.done⟩ : Scan) f27 (hs.at_ f27 h_b19) a2 f28 (hs.at_ f28 h_b7) x⟩) (fun R hc => y_call r rfl cl198 hc) rfl ?_
  rintro _ w29 ⟨v30, rfl, hb, hr31⟩
  refine ⟨_, rfl, fun fr r => ?_⟩
  have z_w29 := hb.size
  have h_b1 := keep hb h_b1
  have h_b4 := keep hb h_b4
  have h_b7 := keep hb h_b7
  have h_b10 := keep hb h_b10
  have h_b19 := keep hb h_b19
  obtain ⟨hB, zB⟩ := bon hb hB
  refine seq_upd (.cells v30.cells 167 (0, 0)) r (fun R => zz0c r hr31.shape rfl rfl h_b10 ts167 rfl) rfl fun fr w32 u33 r => ?_
  have z_w32 := u33.size
  have h_b1 := u33.keep h_b1 (by omega)
  have h_b4 := u33.keep h_b4 (by omega)
  have h_b7 := u33.keep h_b7 (by omega)
  have h_b19 := u33.keep h_b19 (by omega)
  have h_b10 := u33.at_
  obtain ⟨hB, zB⟩ := u33.on hB (by omega)
  refine wn ?_
  refine wp_ret ?_
  have hd : D.zz1s j r_retire_scanned a0 a1 a2 = (D.zz1n (D.zz0z a0 a1 a2.at_) (fun x => (D.zz2h j r_retire_scanned a0 a1 (⟨(W (a2.at_ - 1)), a2.left, a2.done⟩ : Scan) a2 x))) := (cond_f h13).trans (rfl)
  have hs := hr31.shape.cells
  refine zz0a r rfl rfl h_b10 (k := 7) hs.1 ta167 ?_
  rw [← hs.2.2, hd]
  exact rfin hF hB hr31 u33 (by omega) (by omega) (by omega)

theorem c_retire_scanned {n : Nat} {j : Nat} (hj : n < j) {k : Nat} (hk : n < k) : zz1t (D.zz1j j k) n := by
  induction n using Nat.strongRecOn generalizing k with
  | _ n ih =>
    obtain ⟨k, rfl⟩ : ∃ q, k = q + 1 := ⟨k - 1, by omega⟩
    intro F w0 hF
    have h := @b_retire_scanned n F j (D.zz1j j k) w0 hF hj (fun m hm => ih m hm (by omega) (by omega))
    exact h

def D.retire_Scan_1 (j : Nat) (c0 : Plan) (c1 : Int) (a0 : Int) : T Int := (D.zz1j j j c0 c1 (⟨(IntKind.i64.wrap ((IntKind.i64.wrap (minI a0 (IntKind.u64.wrap c0.retire))) - 1)), (IntKind.i64.wrap (minI a0 (IntKind.u64.wrap c0.retire))), 0⟩ : Scan))

theorem c_retire_Scan_1 {n : Nat} {F : Nat → Prop} {j : Nat} {w0 : World} (hF : ∀ b, F b → b < w0.heap.size) (hj : n < j)
    (c0 : Plan) {c0_b : Nat} (c0_F : F c0_b) (c0_h : w0.heap[c0_b]? = some (.cells ((planC c0)).toArray 25 (0, 0))) (c1 : Int) {c1_b : Nat} (c1_F : F c1_b) (c1_h : w0.heap[c1_b]? = some (.cells ([(.int .i64 c1)]).toArray 3 (0, 0))) (a0 : Int) :
    Calls Tryz.prog 293 #[.int .u64 a0, .pointer (some ⟨c0_b, 0, none⟩), .pointer (some ⟨c1_b, 0, none⟩)] w0 (RepRes Tryz.prog encInt n (D.retire_Scan_1 j c0 c1 a0) F w0) := by
 refine enter Tryz.func293 rfl 19 rfl rfl fun fr r => ?_
 have hB := Below.refl w0.heap.size w0
 have l_c0_b := lt_of_block c0_h
 have l_c1_b := lt_of_block c1_h
 refine wsr ?_
 refine seq_new (.cells (progCells false encInt.zero 0 0 0 0 .nilFunc) 167 (0, 0)) r (fun R => y_alloc tz167) rfl fun fr b1 w2 n3 r => ?_
 obtain ⟨e_b1, z_w2, h_b1, hB, zB⟩ := n3.all hB
 refine wn ?_
 refine wsr ?_
 refine seq_val (U a0) r (fun R => y_move r rfl) rfl fun fr r => ?_
 refine seq_val _ r (fun R => zz02 r (o := 0) rfl fo25_2) rfl fun fr r => ?_
 refine seq_val (I c0.retire) r (fun R => zz01 r rfl (keep hB c0_h) to3 rfl) rfl fun fr r => ?_
 refine seq_val (U (V c0.retire)) r (fun R => zz20 r rfl ti3 ti22) rfl fun fr r => ?_
 refine seq_val (U (minI a0 (V c0.retire))) r (fun R => y_min r (m := a0) (n := (V c0.retire)) rfl rfl) rfl fun fr r => ?_
 refine seq_val (I (W (minI a0 (V c0.retire)))) r (fun R => zz20 r rfl ti22 ti3) rfl fun fr r => ?_
 refine seq_val (I (W (minI a0 (V c0.retire)))) r (fun R => zz04 r rfl) rfl fun fr r => ?_
 refine wn ?_
 refine wsr ?_
 refine seq_val (.agg (planC c0).toArray) r (fun R => zz03 r (cs := (planC c0)) (n := 6) rfl (keep hB c0_h) ta25 rfl) rfl fun fr r => ?_
 refine seq_val (I c1) r (fun R => zz01 r rfl (keep hB c1_h) to3 rfl) rfl fun fr r => ?_
 refine seq_val (I (W (minI a0 (V c0.retire)))) r (fun R => y_move r rfl) rfl fun fr r => ?_
 refine seq_val _ r (fun R => y_bin r rfl rfl rfl rfl) rfl fun fr r => ?_
 refine seq_val (I (W (minI a0 (V c0.retire)))) r (fun R => y_move r rfl) rfl fun fr r => ?_
 refine seq_val (.agg (scanC (⟨(W ((W (minI a0 (V c0.retire))) - 1)), (W (minI a0 (V c0.retire))), 0⟩ : Scan)).toArray) r (fun R => y_build r (by kernel_rfl)) rfl fun fr r => ?_
 have hF1 := fgrow hF hB b1
 refine zz06 r ((c_retire_scanned (j := j) (k := j) (n := n) (by omega) (by omega)) (fun b => F b ∨ (w0.heap.size ≤ b ∧ b < w2.heap.size ∧ b ≠ b1)) _ hF1 c0 c1 (⟨(W ((W (minI a0 (V c0.retire))) - 1)), (W (minI a0 (V c0.retire))), 0⟩ : Scan)) (fun R hc => y_call r rfl cl294 hc) rfl ?_
 rintro _ w4 ⟨v5, rfl, hb, hr6⟩
 refine ⟨_, rfl, fun fr r => ?_⟩
 have z_w4 := hb.size
 have h_b1 := keep hb h_b1
 obtain ⟨hB, zB⟩ := bon hb hB
 refine seq_upd (.cells v5.cells 167 (0, 0)) r (fun R => zz0c r hr6.shape rfl rfl h_b1 ts167 rfl) rfl fun fr w7 u8 r => ?_
 have z_w7 := u8.size
 have h_b1 := u8.at_
 obtain ⟨hB, zB⟩ := u8.on hB (by omega)
 refine wn ?_
 refine wp_ret ?_
 have hs := hr6.shape.cells
 refine zz0a r rfl rfl h_b1 (k := 7) hs.1 ta167 ?_
 rw [← hs.2.2]
 exact rfin hF hB hr6 u8 (by omega) (by omega) (by omega)

def D.zz3u (j : Nat) (a0 : Plan) (a1 : Int) : T Int := (D.zz1n (D.zz1f a0 a1) (fun x => (D.retire_Scan_1 j a0 a1 x)))

theorem c_retire_Scan {n : Nat} {F : Nat → Prop} {j : Nat} {w0 : World} (hF : ∀ b, F b → b < w0.heap.size) (hj : n < j)
    (a0 : Plan) (a1 : Int) :
    Calls Tryz.prog 193 #[.agg (planC a0).toArray, .int .i64 a1] w0 (RepRes Tryz.prog encInt n (D.zz3u j a0 a1) F w0) := by
 refine enter Tryz.func193 rfl 10 rfl rfl fun fr r => ?_
 have hB := Below.refl w0.heap.size w0
 refine wsr ?_
 refine seq_new (.cells ((planC a0)).toArray 25 (0, 0)) r (fun R => y_box r (v := (.agg (planC a0).toArray)) rfl) rfl fun fr b1 w2 n3 r => ?_
 obtain ⟨e_b1, z_w2, h_b1, hB, zB⟩ := n3.all hB
 refine seq_new (.cells #[(I a1)] 3 (0, 0)) r (fun R => y_box r (v := (I a1)) rfl) rfl fun fr b4 w5 n6 r => ?_
 have h_b1 := keep n6.below h_b1
 obtain ⟨e_b4, z_w5, h_b4, hB, zB⟩ := n6.all hB
 refine seq_new (.cells (progCells false encInt.zero 0 0 0 0 .nilFunc) 167 (0, 0)) r (fun R => y_alloc tz167) rfl fun fr b7 w8 n9 r => ?_
 have h_b1 := keep n9.below h_b1
 have h_b4 := keep n9.below h_b4
 obtain ⟨e_b7, z_w8, h_b7, hB, zB⟩ := n9.all hB
 refine wn ?_
 refine wsr ?_
 refine seq_val (.agg (planC a0).toArray) r (fun R => zz03 r (cs := (planC a0)) (n := 6) rfl h_b1 ta25 rfl) rfl fun fr r => ?_
 refine seq_val (I a1) r (fun R => zz01 r rfl h_b4 to3 rfl) rfl fun fr r => ?_
 refine zz06 r (zz3o w8 a0 a1) (fun R hc => y_call r rfl cl164 hc) rfl ?_
 rintro _ w10 ⟨rfl, hb⟩
 refine ⟨_, rfl, fun fr r => ?_⟩
 have z_w10 := hb.size
 have h_b1 := keep hb h_b1
 have h_b4 := keep hb h_b4
 have h_b7 := keep hb h_b7
 obtain ⟨hB, zB⟩ := bon hb hB
 refine seq_val (.func (.func 293) #[] #[.pointer (some ⟨b1, 0, none⟩), .pointer (some ⟨b4, 0, none⟩)]) r (fun R => zz0o r rfl) rfl fun fr r => ?_
 have hF1 := fgrow hF hB b7
 have f11 : ((fun b => F b ∨ (w0.heap.size ≤ b ∧ b < w10.heap.size ∧ b ≠ b7))) b1 := (.inr ⟨by omega, by omega, by omega⟩)
 have f12 : ((fun b => F b ∨ (w0.heap.size ≤ b ∧ b < w10.heap.size ∧ b ≠ b7))) b4 := (.inr ⟨by omega, by omega, by omega⟩)
 refine zz06 r (zz2a (F := (fun b => F b ∨ (w0.heap.size ≤ b ∧ b < w10.heap.size ∧ b ≠ b7))) (n := n) hF1 (D.zz1f a0 a1) ⟨293, [], [.pointer (some ⟨b1, 0, none⟩), .pointer (some ⟨b4, 0, none⟩)], cl293, rfl, fun m hm x w' hs hz => c_retire_Scan_1 (j := j) (fun b hb => Nat.lt_of_lt_of_le (hF1 b hb) hz) (by omega) a0 f11 (hs.at_ f11 h_b1) a1 f12 (hs.at_ f12 h_b4) x⟩) (fun R hc => y_call r rfl cl198 hc) rfl ?_
 rintro _ w13 ⟨v14, rfl, hb, hr15⟩
 refine ⟨_, rfl, fun fr r => ?_⟩
 have z_w13 := hb.size
 have h_b1 := keep hb h_b1
 have h_b4 := keep hb h_b4
 have h_b7 := keep hb h_b7
 obtain ⟨hB, zB⟩ := bon hb hB
 refine seq_upd (.cells v14.cells 167 (0, 0)) r (fun R => zz0c r hr15.shape rfl rfl h_b7 ts167 rfl) rfl fun fr w16 u17 r => ?_
 have z_w16 := u17.size
 have h_b1 := u17.keep h_b1 (by omega)
 have h_b4 := u17.keep h_b4 (by omega)
 have h_b7 := u17.at_
 obtain ⟨hB, zB⟩ := u17.on hB (by omega)
 refine wn ?_
 refine wp_ret ?_
 have hs := hr15.shape.cells
 refine zz0a r rfl rfl h_b7 (k := 7) hs.1 ta167 ?_
 rw [← hs.2.2]
 exact rfin hF hB hr15 u17 (by omega) (by omega) (by omega)

def D.retire_Put_1_1_1 (c0 : Int) : T Int := (D.zz16 (IntKind.i64.wrap ((IntKind.i64.wrap c0) + 1)))

theorem c_retire_Put_1_1_1 {n : Nat} {F : Nat → Prop} {w0 : World} (hF : ∀ b, F b → b < w0.heap.size)
    (c0 : Int) {c0_b : Nat} (c0_F : F c0_b) (c0_h : w0.heap[c0_b]? = some (.cells ([(.int .u64 c0)]).toArray 22 (0, 0))) :
    Calls Tryz.prog 324 #[.pointer (some ⟨c0_b, 0, none⟩)] w0 (RepRes Tryz.prog encInt n (D.retire_Put_1_1_1 c0) F w0) := by
 refine enter Tryz.func324 rfl 6 rfl rfl fun fr r => ?_
 have hB := Below.refl w0.heap.size w0
 have l_c0_b := lt_of_block c0_h
 refine wsr ?_
 refine seq_new (.cells (progCells false encInt.zero 0 0 0 0 .nilFunc) 167 (0, 0)) r (fun R => y_alloc tz167) rfl fun fr b1 w2 n3 r => ?_
 obtain ⟨e_b1, z_w2, h_b1, hB, zB⟩ := n3.all hB
 refine wn ?_
 refine wsr ?_
 refine seq_val (U c0) r (fun R => zz01 r rfl (keep hB c0_h) to22 rfl) rfl fun fr r => ?_
 refine seq_val (I (W c0)) r (fun R => zz20 r rfl ti22 ti3) rfl fun fr r => ?_
 refine seq_val _ r (fun R => y_bin r rfl rfl rfl rfl) rfl fun fr r => ?_
 have hF1 := fgrow hF hB b1
 refine zz06 r (zz1v (F := (fun b => F b ∨ (w0.heap.size ≤ b ∧ b < w2.heap.size ∧ b ≠ b1))) (n := n) hF1 (W ((W c0) + 1))) (fun R hc => y_call r rfl cl229 hc) rfl ?_
 rintro _ w4 ⟨v5, rfl, hb, hr6⟩
 refine ⟨_, rfl, fun fr r => ?_⟩
 have z_w4 := hb.size
 have h_b1 := keep hb h_b1
 obtain ⟨hB, zB⟩ := bon hb hB
 refine seq_upd (.cells v5.cells 167 (0, 0)) r (fun R => zz0c r hr6.shape rfl rfl h_b1 ts167 rfl) rfl fun fr w7 u8 r => ?_
 have z_w7 := u8.size
 have h_b1 := u8.at_
 obtain ⟨hB, zB⟩ := u8.on hB (by omega)
 refine wn ?_
 refine wp_ret ?_
 have hs := hr6.shape.cells
 refine zz0a r rfl rfl h_b1 (k := 7) hs.1 ta167 ?_
 rw [← hs.2.2]
 exact rfin hF hB hr6 u8 (by omega) (by omega) (by omega)

def D.retire_Put_1_1 (c0 : Plan) (c1 : Int) (c2 : Int) : T Int := (D.zz1y (D.zz1f c0 c1) (IntKind.u64.wrap (c2 + 1)) (fun _ => (D.retire_Put_1_1_1 c2)))

theorem c_retire_Put_1_1 {n : Nat} {F : Nat → Prop} {w0 : World} (hF : ∀ b, F b → b < w0.heap.size)
    (c0 : Plan) {c0_b : Nat} (c0_F : F c0_b) (c0_h : w0.heap[c0_b]? = some (.cells ((planC c0)).toArray 25 (0, 0))) (c1 : Int) {c1_b : Nat} (c1_F : F c1_b) (c1_h : w0.heap[c1_b]? = some (.cells ([(.int .i64 c1)]).toArray 3 (0, 0))) (c2 : Int) {c2_b : Nat} (c2_F : F c2_b) (c2_h : w0.heap[c2_b]? = some (.cells ([(.int .u64 c2)]).toArray 22 (0, 0))) :
    Calls Tryz.prog 323 #[.pointer (some ⟨c0_b, 0, none⟩), .pointer (some ⟨c1_b, 0, none⟩), .pointer (some ⟨c2_b, 0, none⟩)] w0 (RepRes Tryz.prog encInt n (D.retire_Put_1_1 c0 c1 c2) F w0) := by
 refine enter Tryz.func323 rfl 11 rfl rfl fun fr r => ?_
 have hB := Below.refl w0.heap.size w0
 have l_c0_b := lt_of_block c0_h
 have l_c1_b := lt_of_block c1_h
 have l_c2_b := lt_of_block c2_h
 refine wsr ?_
 refine seq_new (.cells (progCells false encInt.zero 0 0 0 0 .nilFunc) 167 (0, 0)) r (fun R => y_alloc tz167) rfl fun fr b1 w2 n3 r => ?_
 obtain ⟨e_b1, z_w2, h_b1, hB, zB⟩ := n3.all hB
 refine wn ?_
 refine wp_seq ?_
 refine zz1c 6 [.val (.agg (planC c0).toArray), .val (I c1), .val (I (D.zz1f c0 c1)), .val (U c2), .val (U (V (c2 + 1))), .val (.func (.func 324) #[] #[.pointer (some ⟨c2_b, 0, none⟩)])] mixed r (by kernel_rfl) (zz00 (by exact trivial) (zz00 (by exact trivial) (zz00 (by exact trivial) (zz00 (by exact trivial) (zz00 (by exact trivial) (zz00 (by exact trivial) zz12)))))) ?_ ?_
 ·
  refine ec r (fun _ u _ b d s => zz03 s (cs := (planC c0)) (n := 6) rfl (keep2 hB b c0_h) ta25 rfl bz) ?_
  refine ec r (fun _ u _ b d s => zz01 s rfl (keep2 hB b c1_h) to3 rfl bz) ?_
  refine ec r (fun fr1 u w' hb' hd r' => y_call r' (args := [(.agg (planC c0).toArray), (I c1)]) (lc hd.1 (lc hd.2.1 l0)) cl164 ((zz3o _ c0 c1).mono (by rintro _ w2 ⟨rfl, hb2⟩; exact ⟨_, rfl, hb2, rfl⟩))) ?_
  refine ec r (fun _ u _ b d s => zz01 s rfl (keep2 hB b c2_h) to22 rfl bz) ?_
  refine ec r (fun _ u _ b d s => y_bin s d.1 rfl rfl rfl bz) ?_
  refine ec r (fun _ u _ b d s => zz0o s (v := (.func (.func 324) #[] #[.pointer (some ⟨c2_b, 0, none⟩)])) rfl bz) ?_
  exact zz1l
 ·
  intro fr u w4 hb hΦ hne r
  have r := r.congr (sc (hΦ 5 (by decide)) (sc (hΦ 4 (by decide)) (sc (hΦ 3 (by decide)) (sc (hΦ 2 (by decide)) (sc (hΦ 1 (by decide)) (sc (hΦ 0 (by decide)) rfl))))))
  have z_w4 := hb.size
  have h_b1 := keep hb h_b1
  obtain ⟨hB, zB⟩ := bon hb hB
  have hF1 := fgrow hF hB b1
  have f5 : ((fun b => F b ∨ (w0.heap.size ≤ b ∧ b < w4.heap.size ∧ b ≠ b1))) c2_b := (.inl c2_F)
  refine zz06 r (zz2g (F := (fun b => F b ∨ (w0.heap.size ≤ b ∧ b < w4.heap.size ∧ b ≠ b1))) (n := n) hF1 (D.zz1f c0 c1) (V (c2 + 1)) ⟨324, [], [.pointer (some ⟨c2_b, 0, none⟩)], cl324, rfl, fun m hm _ w' hs hz => c_retire_Put_1_1_1 (fun b hb => Nat.lt_of_lt_of_le (hF1 b hb) hz) c2 f5 (hs.at_ f5 (keep hB c2_h))⟩) (fun R hc => y_call r rfl cl200 hc) rfl ?_
  rintro _ w6 ⟨v7, rfl, hb, hr8⟩
  refine ⟨_, rfl, fun fr r => ?_⟩
  have z_w6 := hb.size
  have h_b1 := keep hb h_b1
  obtain ⟨hB, zB⟩ := bon hb hB
  refine seq_upd (.cells v7.cells 167 (0, 0)) r (fun R => zz0c r hr8.shape rfl rfl h_b1 ts167 rfl) rfl fun fr w9 u10 r => ?_
  have z_w9 := u10.size
  have h_b1 := u10.at_
  obtain ⟨hB, zB⟩ := u10.on hB (by omega)
  refine wn ?_
  refine wp_ret ?_
  have hs := hr8.shape.cells
  refine zz0a r rfl rfl h_b1 (k := 7) hs.1 ta167 ?_
  rw [← hs.2.2]
  exact rfin hF hB hr8 u10 (by omega) (by omega) (by omega)

def D.retire_Put_1 (c0 : Plan) (c1 : Int) (c2 : Int) (a0 : Int) : T Int := (bif (decide (a0 ≥ (IntKind.u64.wrap c0.retire))) then (D.zz16 (-1)) else (D.zz1y (D.zz0z c0 c1 (IntKind.i64.wrap a0)) (IntKind.u64.wrap (IntKind.i64.wrap (c2 + 1))) (fun _ => (D.retire_Put_1_1 c0 c1 a0))))

theorem c_retire_Put_1 {n : Nat} {F : Nat → Prop} {w0 : World} (hF : ∀ b, F b → b < w0.heap.size)
    (c0 : Plan) {c0_b : Nat} (c0_F : F c0_b) (c0_h : w0.heap[c0_b]? = some (.cells ((planC c0)).toArray 25 (0, 0))) (c1 : Int) {c1_b : Nat} (c1_F : F c1_b) (c1_h : w0.heap[c1_b]? = some (.cells ([(.int .i64 c1)]).toArray 3 (0, 0))) (c2 : Int) {c2_b : Nat} (c2_F : F c2_b) (c2_h : w0.heap[c2_b]? = some (.cells ([(.int .i64 c2)]).toArray 3 (0, 0))) (a0 : Int) :
    Calls Tryz.prog 322 #[.int .u64 a0, .pointer (some ⟨c0_b, 0, none⟩), .pointer (some ⟨c1_b, 0, none⟩), .pointer (some ⟨c2_b, 0, none⟩)] w0 (RepRes Tryz.prog encInt n (D.retire_Put_1 c0 c1 c2 a0) F w0) := by
 refine enter Tryz.func322 rfl 22 rfl rfl fun fr r => ?_
 have hB := Below.refl w0.heap.size w0
 have l_c0_b := lt_of_block c0_h
 have l_c1_b := lt_of_block c1_h
 have l_c2_b := lt_of_block c2_h
 refine wsr ?_
 refine seq_new (.cells #[(U a0)] 22 (0, 0)) r (fun R => y_box r (v := (U a0)) rfl) rfl fun fr b1 w2 n3 r => ?_
 obtain ⟨e_b1, z_w2, h_b1, hB, zB⟩ := n3.all hB
 refine seq_new (.cells (progCells false encInt.zero 0 0 0 0 .nilFunc) 167 (0, 0)) r (fun R => y_alloc tz167) rfl fun fr b4 w5 n6 r => ?_
 have h_b1 := keep n6.below h_b1
 obtain ⟨e_b4, z_w5, h_b4, hB, zB⟩ := n6.all hB
 refine wn ?_
 refine wp_seq ?_
 refine wsr ?_
 refine seq_val (U a0) r (fun R => zz01 r rfl h_b1 to22 rfl) rfl fun fr r => ?_
 refine seq_val _ r (fun R => zz02 r (o := 0) rfl fo25_2) rfl fun fr r => ?_
 refine seq_val (I c0.retire) r (fun R => zz01 r rfl (keep hB c0_h) to3 rfl) rfl fun fr r => ?_
 refine seq_val (U (V c0.retire)) r (fun R => zz20 r rfl ti3 ti22) rfl fun fr r => ?_
 refine seq_val _ r (fun R => y_bin r rfl rfl rfl rfl) rfl fun fr r => ?_
 refine wn ?_
 refine wp_cond_split (t := (decide (a0 ≥ (V c0.retire)))) (r.ev rfl) (fun h7 => ?_) (fun h7 => ?_)
 ·
  refine wsr ?_
  have hF1 := fgrow hF hB b4
  refine zz06 r (zz1v (F := (fun b => F b ∨ (w0.heap.size ≤ b ∧ b < w5.heap.size ∧ b ≠ b4))) (n := n) hF1 (-1)) (fun R hc => y_call r rfl cl229 hc) rfl ?_
  rintro _ w8 ⟨v9, rfl, hb, hr10⟩
  refine ⟨_, rfl, fun fr r => ?_⟩
  have z_w8 := hb.size
  have h_b1 := keep hb h_b1
  have h_b4 := keep hb h_b4
  obtain ⟨hB, zB⟩ := bon hb hB
  refine seq_upd (.cells v9.cells 167 (0, 0)) r (fun R => zz0c r hr10.shape rfl rfl h_b4 ts167 rfl) rfl fun fr w11 u12 r => ?_
  have z_w11 := u12.size
  have h_b1 := u12.keep h_b1 (by omega)
  have h_b4 := u12.at_
  obtain ⟨hB, zB⟩ := u12.on hB (by omega)
  refine wn ?_
  refine wp_ret ?_
  have hd : D.retire_Put_1 c0 c1 c2 a0 = (D.zz16 (-1)) := (cond_t h7).trans (rfl)
  have hs := hr10.shape.cells
  refine zz0a r rfl rfl h_b4 (k := 7) hs.1 ta167 ?_
  rw [← hs.2.2, hd]
  exact rfin hF hB hr10 u12 (by omega) (by omega) (by omega)
 ·
  refine wp_skip ?_
  refine wp_seq ?_
  refine zz1c 9 [.val (.agg (planC c0).toArray), .val (I c1), .val (U a0), .val (I (W a0)), .val (I (D.zz0z c0 c1 (W a0))), .val (I c2), .val (I (W (c2 + 1))), .val (U (V (W (c2 + 1)))), .val (.func (.func 323) #[] #[.pointer (some ⟨c0_b, 0, none⟩), .pointer (some ⟨c1_b, 0, none⟩), .pointer (some ⟨b1, 0, none⟩)])] mixed r (by kernel_rfl) (zz00 (by exact trivial) (zz00 (by exact trivial) (zz00 (by exact trivial) (zz00 (by exact trivial) (zz00 (by exact trivial) (zz00 (by exact trivial) (zz00 (by exact trivial) (zz00 (by exact trivial) (zz00 (by exact trivial) zz12))))))))) ?_ ?_
  ·
   refine ec r (fun _ u _ b d s => zz03 s (cs := (planC c0)) (n := 6) rfl (keep2 hB b c0_h) ta25 rfl bz) ?_
   refine ec r (fun _ u _ b d s => zz01 s rfl (keep2 hB b c1_h) to3 rfl bz) ?_
   refine ec r (fun _ u _ b d s => zz01 s rfl (keep b h_b1) to22 rfl bz) ?_
   refine ec r (fun _ u _ b d s => zz20 s (n := a0) d.1 ti22 ti3 bz) ?_
   refine ec r (fun fr1 u w' hb' hd r' => y_call r' (args := [(.agg (planC c0).toArray), (I c1), (I (W a0))]) (lc hd.1 (lc hd.2.1 (lc hd.2.2.1 l0))) cl165 ((zz39 _ c0 c1 (W a0)).mono (by rintro _ w2 ⟨rfl, hb2⟩; exact ⟨_, rfl, hb2, rfl⟩))) ?_
   refine ec r (fun _ u _ b d s => zz01 s rfl (keep2 hB b c2_h) to3 rfl bz) ?_
   refine ec r (fun _ u _ b d s => y_bin s d.1 rfl rfl rfl bz) ?_
   refine ec r (fun _ u _ b d s => zz20 s (n := (W (c2 + 1))) d.1 ti3 ti22 bz) ?_
   refine ec r (fun _ u _ b d s => zz0o s (v := (.func (.func 323) #[] #[.pointer (some ⟨c0_b, 0, none⟩), .pointer (some ⟨c1_b, 0, none⟩), .pointer (some ⟨b1, 0, none⟩)])) rfl bz) ?_
   exact zz1l
  ·
   intro fr u w13 hb hΦ hne r
   have r := r.congr (sc (hΦ 8 (by decide)) (sc (hΦ 7 (by decide)) (sc (hΦ 6 (by decide)) (sc (hΦ 5 (by decide)) (sc (hΦ 4 (by decide)) (sc (hΦ 3 (by decide)) (sc (hΦ 2 (by decide)) (sc (hΦ 1 (by decide)) (sc (hΦ 0 (by decide)) rfl)))))))))
   have z_w13 := hb.size
   have h_b1 := keep hb h_b1
   have h_b4 := keep hb h_b4
   obtain ⟨hB, zB⟩ := bon hb hB
   have hF1 := fgrow hF hB b4
   have f14 : ((fun b => F b ∨ (w0.heap.size ≤ b ∧ b < w13.heap.size ∧ b ≠ b4))) c0_b := (.inl c0_F)
   have f15 : ((fun b => F b ∨ (w0.heap.size ≤ b ∧ b < w13.heap.size ∧ b ≠ b4))) c1_b := (.inl c1_F)
   have f16 : ((fun b => F b ∨ (w0.heap.size ≤ b ∧ b < w13.heap.size ∧ b ≠ b4))) b1 := (.inr ⟨by omega, by omega, by omega⟩)
   refine zz06 r (zz2g (F := (fun b => F b ∨ (w0.heap.size ≤ b ∧ b < w13.heap.size ∧ b ≠ b4))) (n := n) hF1 (D.zz0z c0 c1 (W a0)) (V (W (c2 + 1))) ⟨323, [], [.pointer (some ⟨c0_b, 0, none⟩), .pointer (some ⟨c1_b, 0, none⟩), .pointer (some ⟨b1, 0, none⟩)], cl323, rfl, fun m hm _ w' hs hz => c_retire_Put_1_1 (fun b hb => Nat.lt_of_lt_of_le (hF1 b hb) hz) c0 f14 (hs.at_ f14 (keep hB c0_h)) c1 f15 (hs.at_ f15 (keep hB c1_h)) a0 f16 (hs.at_ f16 h_b1)⟩) (fun R hc => y_call r rfl cl200 hc) rfl ?_
   rintro _ w17 ⟨v18, rfl, hb, hr19⟩
   refine ⟨_, rfl, fun fr r => ?_⟩
   have z_w17 := hb.size
   have h_b1 := keep hb h_b1
   have h_b4 := keep hb h_b4
   obtain ⟨hB, zB⟩ := bon hb hB
   refine seq_upd (.cells v18.cells 167 (0, 0)) r (fun R => zz0c r hr19.shape rfl rfl h_b4 ts167 rfl) rfl fun fr w20 u21 r => ?_
   have z_w20 := u21.size
   have h_b1 := u21.keep h_b1 (by omega)
   have h_b4 := u21.at_
   obtain ⟨hB, zB⟩ := u21.on hB (by omega)
   refine wn ?_
   refine wp_ret ?_
   have hd : D.retire_Put_1 c0 c1 c2 a0 = (D.zz1y (D.zz0z c0 c1 (W a0)) (V (W (c2 + 1))) (fun _ => (D.retire_Put_1_1 c0 c1 a0))) := (cond_f h7).trans (rfl)
   have hs := hr19.shape.cells
   refine zz0a r rfl rfl h_b4 (k := 7) hs.1 ta167 ?_
   rw [← hs.2.2, hd]
   exact rfin hF hB hr19 u21 (by omega) (by omega) (by omega)

def D.retire_Put (a0 : Plan) (a1 : Int) (a2 : Int) : T Int := (D.zz1n (D.zz1f a0 a1) (fun x => (D.retire_Put_1 a0 a1 a2 x)))

theorem c_retire_Put {n : Nat} {F : Nat → Prop} {w0 : World} (hF : ∀ b, F b → b < w0.heap.size)
    (a0 : Plan) (a1 : Int) (a2 : Int) :
    Calls Tryz.prog 231 #[.agg (planC a0).toArray, .int .i64 a1, .int .i64 a2] w0 (RepRes Tryz.prog encInt n (D.retire_Put a0 a1 a2) F w0) := by
 refine enter Tryz.func231 rfl 12 rfl rfl fun fr r => ?_
 have hB := Below.refl w0.heap.size w0
 refine wsr ?_
 refine seq_new (.cells ((planC a0)).toArray 25 (0, 0)) r (fun R => y_box r (v := (.agg (planC a0).toArray)) rfl) rfl fun fr b1 w2 n3 r => ?_
 obtain ⟨e_b1, z_w2, h_b1, hB, zB⟩ := n3.all hB
 refine seq_new (.cells #[(I a1)] 3 (0, 0)) r (fun R => y_box r (v := (I a1)) rfl) rfl fun fr b4 w5 n6 r => ?_
 have h_b1 := keep n6.below h_b1
 obtain ⟨e_b4, z_w5, h_b4, hB, zB⟩ := n6.all hB
 refine seq_new (.cells #[(I a2)] 3 (0, 0)) r (fun R => y_box r (v := (I a2)) rfl) rfl fun fr b7 w8 n9 r => ?_
 have h_b1 := keep n9.below h_b1
 have h_b4 := keep n9.below h_b4
 obtain ⟨e_b7, z_w8, h_b7, hB, zB⟩ := n9.all hB
 refine seq_new (.cells (progCells false encInt.zero 0 0 0 0 .nilFunc) 167 (0, 0)) r (fun R => y_alloc tz167) rfl fun fr b10 w11 n12 r => ?_
 have h_b1 := keep n12.below h_b1
 have h_b4 := keep n12.below h_b4
 have h_b7 := keep n12.below h_b7
 obtain ⟨e_b10, z_w11, h_b10, hB, zB⟩ := n12.all hB
 refine wn ?_
 refine wsr ?_
 refine seq_val (.agg (planC a0).toArray) r (fun R => zz03 r (cs := (planC a0)) (n := 6) rfl h_b1 ta25 rfl) rfl fun fr r => ?_
 refine seq_val (I a1) r (fun R => zz01 r rfl h_b4 to3 rfl) rfl fun fr r => ?_
 refine zz06 r (zz3o w11 a0 a1) (fun R hc => y_call r rfl cl164 hc) rfl ?_
 rintro _ w13 ⟨rfl, hb⟩
 refine ⟨_, rfl, fun fr r => ?_⟩
 have z_w13 := hb.size
 have h_b1 := keep hb h_b1
 have h_b4 := keep hb h_b4
 have h_b7 := keep hb h_b7
 have h_b10 := keep hb h_b10
 obtain ⟨hB, zB⟩ := bon hb hB
 refine seq_val (.func (.func 322) #[] #[.pointer (some ⟨b1, 0, none⟩), .pointer (some ⟨b4, 0, none⟩), .pointer (some ⟨b7, 0, none⟩)]) r (fun R => zz0o r rfl) rfl fun fr r => ?_
 have hF1 := fgrow hF hB b10
 have f14 : ((fun b => F b ∨ (w0.heap.size ≤ b ∧ b < w13.heap.size ∧ b ≠ b10))) b1 := (.inr ⟨by omega, by omega, by omega⟩)
 have f15 : ((fun b => F b ∨ (w0.heap.size ≤ b ∧ b < w13.heap.size ∧ b ≠ b10))) b4 := (.inr ⟨by omega, by omega, by omega⟩)
 have f16 : ((fun b => F b ∨ (w0.heap.size ≤ b ∧ b < w13.heap.size ∧ b ≠ b10))) b7 := (.inr ⟨by omega, by omega, by omega⟩)
 refine zz06 r (zz2a (F := (fun b => F b ∨ (w0.heap.size ≤ b ∧ b < w13.heap.size ∧ b ≠ b10))) (n := n) hF1 (D.zz1f a0 a1) ⟨322, [], [.pointer (some ⟨b1, 0, none⟩), .pointer (some ⟨b4, 0, none⟩), .pointer (some ⟨b7, 0, none⟩)], cl322, rfl, fun m hm x w' hs hz => c_retire_Put_1 (fun b hb => Nat.lt_of_lt_of_le (hF1 b hb) hz) a0 f14 (hs.at_ f14 h_b1) a1 f15 (hs.at_ f15 h_b4) a2 f16 (hs.at_ f16 h_b7) x⟩) (fun R hc => y_call r rfl cl198 hc) rfl ?_
 rintro _ w17 ⟨v18, rfl, hb, hr19⟩
 refine ⟨_, rfl, fun fr r => ?_⟩
 have z_w17 := hb.size
 have h_b1 := keep hb h_b1
 have h_b4 := keep hb h_b4
 have h_b7 := keep hb h_b7
 have h_b10 := keep hb h_b10
 obtain ⟨hB, zB⟩ := bon hb hB
 refine seq_upd (.cells v18.cells 167 (0, 0)) r (fun R => zz0c r hr19.shape rfl rfl h_b10 ts167 rfl) rfl fun fr w20 u21 r => ?_
 have z_w20 := u21.size
 have h_b1 := u21.keep h_b1 (by omega)
 have h_b4 := u21.keep h_b4 (by omega)
 have h_b7 := u21.keep h_b7 (by omega)
 have h_b10 := u21.at_
 obtain ⟨hB, zB⟩ := u21.on hB (by omega)
 refine wn ?_
 refine wp_ret ?_
 have hs := hr19.shape.cells
 refine zz0a r rfl rfl h_b10 (k := 7) hs.1 ta167 ?_
 rw [← hs.2.2]
 exact rfin hF hB hr19 u21 (by omega) (by omega) (by omega)

end Go.Proofs.YtjkinpbfmihhdaaGreat
