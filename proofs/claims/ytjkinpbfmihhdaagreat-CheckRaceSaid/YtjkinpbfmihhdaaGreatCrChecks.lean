/- Written by a program of ours (wip/gen.py): nodes by handles -/
import Derived.Test.YtjkinpbfmihhdaaGreatCrM12
import Derived.Test.YtjkinpbfmihhdaaGreatCrM11
set_option linter.all false
set_option linter.unusedVariables false
set_option maxRecDepth 20000
set_option maxHeartbeats 2000000
namespace Go.Proofs.YtjkinpbfmihhdaaGreat
open Go.RowKit
theorem cl112 : callable Tryz.prog 112 = true := by kernel_rfl

theorem cl114 : callable Tryz.prog 114 = true := by kernel_rfl

theorem cl115 : callable Tryz.prog 115 = true := by kernel_rfl

theorem cl116 : callable Tryz.prog 116 = true := by kernel_rfl

theorem cl118 : callable Tryz.prog 118 = true := by kernel_rfl

theorem cl122 : callable Tryz.prog 122 = true := by kernel_rfl

theorem cl123 : callable Tryz.prog 123 = true := by kernel_rfl

theorem cl124 : callable Tryz.prog 124 = true := by kernel_rfl

theorem cl125 : callable Tryz.prog 125 = true := by kernel_rfl

theorem cl126 : callable Tryz.prog 126 = true := by kernel_rfl

theorem cl127 : callable Tryz.prog 127 = true := by kernel_rfl

theorem cl128 : callable Tryz.prog 128 = true := by kernel_rfl

theorem cl129 : callable Tryz.prog 129 = true := by kernel_rfl

theorem cl131 : callable Tryz.prog 131 = true := by kernel_rfl

theorem cl134 : callable Tryz.prog 134 = true := by kernel_rfl

theorem cl211 : callable Tryz.prog 211 = true := by kernel_rfl

theorem cl216 : callable Tryz.prog 216 = true := by kernel_rfl

theorem cl219 : callable Tryz.prog 219 = true := by kernel_rfl

theorem cl220 : callable Tryz.prog 220 = true := by kernel_rfl

theorem cl221 : callable Tryz.prog 221 = true := by kernel_rfl

theorem cl222 : callable Tryz.prog 222 = true := by kernel_rfl

theorem cl223 : callable Tryz.prog 223 = true := by kernel_rfl

theorem cl41 : callable Tryz.prog 41 = true := by kernel_rfl

theorem fo153_1 : fieldOff Tryz.prog 153 1 1 = true := by kernel_rfl

theorem fo29_0 : fieldOff Tryz.prog 29 0 0 = true := by kernel_rfl

theorem fo29_1 : fieldOff Tryz.prog 29 1 6 = true := by kernel_rfl

theorem fo29_2 : fieldOff Tryz.prog 29 2 7 = true := by kernel_rfl

theorem ta29 : tyA Tryz.prog 29 8 = true := by kernel_rfl

theorem to198 : tyO Tryz.prog 198 = true := by kernel_rfl

theorem ts265 : sized Tryz.prog 265 1 = true := by kernel_rfl

theorem tz265 : zeroOf Tryz.prog 265 = some .nilFunc := by kernel_rfl

def D.zz0u (a0 : Seat) : Bool := (bif (D.zz0w a0.p) then (bif (decide (a0.tenant ≥ 0)) then (bif (decide (a0.tenant < 64)) then (bif (decide (a0.thread ≥ 0)) then (decide (a0.thread < a0.p.threads)) else false) else false) else false) else false)

theorem zz41 (w0 : World) 
    (a0 : Seat) :
    Calls Tryz.prog 41 #[.agg (seatC a0).toArray] w0 (PureRes (.bool (D.zz0u a0)) w0) := by
 refine enter Tryz.func41 rfl 29 rfl rfl fun fr r => ?_
 have hB := Below.refl w0.heap.size w0
 refine wsr ?_
 refine seq_new (.cells ((seatC a0)).toArray 29 (0, 0)) r (fun R => y_box r (v := (.agg (seatC a0).toArray)) rfl) rfl fun fr b1 w2 n3 r => ?_
 obtain ⟨e_b1, z_w2, h_b1, hB, zB⟩ := n3.all hB
 refine seq_val (.bool false) r (fun R => zz04 r rfl) rfl fun fr r => ?_
 refine wn ?_
 refine wsr ?_
 refine seq_val _ r (fun R => zz02 r (o := 0) rfl fo29_0) rfl fun fr r => ?_
 refine seq_val (.agg (planC a0.p).toArray) r (fun R => zz03 r (cs := (planC a0.p)) (n := 6) rfl h_b1 ta25 rfl) rfl fun fr r => ?_
 refine zz06 r (zz3k w2 a0.p) (fun R hc => y_call r rfl cl136 hc) rfl ?_
 rintro _ w4 ⟨rfl, hb⟩
 refine ⟨_, rfl, fun fr r => ?_⟩
 have z_w4 := hb.size
 have h_b1 := keep hb h_b1
 obtain ⟨hB, zB⟩ := bon hb hB
 refine seq_val (.bool (D.zz0w a0.p)) r (fun R => y_move r rfl) rfl fun fr r => ?_
 refine zz0r (D.zz0w a0.p) (fun h5 => ?_) (fun h5 => ?_)
 ·
  refine s1 r h5 ?_
  refine seq_val _ r (fun R => zz02 r (o := 0) rfl fo29_1) rfl fun fr r => ?_
  refine s1 r h5 ?_
  refine seq_val (I a0.tenant) r (fun R => zz01 r rfl h_b1 to3 rfl) rfl fun fr r => ?_
  refine s1 r h5 ?_
  refine seq_val _ r (fun R => y_bin r rfl rfl rfl rfl) rfl fun fr r => ?_
  refine seq_val (.bool (decide (a0.tenant ≥ 0))) r (fun R => y_pick r (b := true) (congrArg Value.bool h5) rfl) rfl fun fr r => ?_
  refine seq_val (.bool (decide (a0.tenant ≥ 0))) r (fun R => y_move r rfl) rfl fun fr r => ?_
  refine zz0r (decide (a0.tenant ≥ 0)) (fun h6 => ?_) (fun h6 => ?_)
  ·
   refine s1 r h6 ?_
   refine seq_val _ r (fun R => zz02 r (o := 0) rfl fo29_1) rfl fun fr r => ?_
   refine s1 r h6 ?_
   refine seq_val (I a0.tenant) r (fun R => zz01 r rfl h_b1 to3 rfl) rfl fun fr r => ?_
   refine s1 r h6 ?_
   refine seq_val _ r (fun R => y_bin r rfl rfl rfl rfl) rfl fun fr r => ?_
   refine seq_val (.bool (decide (a0.tenant < 64))) r (fun R => y_pick r (b := true) (congrArg Value.bool h6) rfl) rfl fun fr r => ?_
   refine seq_val (.bool (decide (a0.tenant < 64))) r (fun R => y_move r rfl) rfl fun fr r => ?_
   refine zz0r (decide (a0.tenant < 64)) (fun h7 => ?_) (fun h7 => ?_)
   ·
    refine s1 r h7 ?_
    refine seq_val _ r (fun R => zz02 r (o := 0) rfl fo29_2) rfl fun fr r => ?_
    refine s1 r h7 ?_
    refine seq_val (I a0.thread) r (fun R => zz01 r rfl h_b1 to3 rfl) rfl fun fr r => ?_
    refine s1 r h7 ?_
    refine seq_val _ r (fun R => y_bin r rfl rfl rfl rfl) rfl fun fr r => ?_
    refine seq_val (.bool (decide (a0.thread ≥ 0))) r (fun R => y_pick r (b := true) (congrArg Value.bool h7) rfl) rfl fun fr r => ?_
    refine seq_val (.bool (decide (a0.thread ≥ 0))) r (fun R => y_move r rfl) rfl fun fr r => ?_
    refine zz0r (decide (a0.thread ≥ 0)) (fun h8 => ?_) (fun h8 => ?_)
    ·
     refine s1 r h8 ?_
     refine seq_val _ r (fun R => zz02 r (o := 0) rfl fo29_2) rfl fun fr r => ?_
     refine s1 r h8 ?_
     refine seq_val (I a0.thread) r (fun R => zz01 r rfl h_b1 to3 rfl) rfl fun fr r => ?_
     refine s1 r h8 ?_
     refine seq_val _ r (fun R => zz02 r (o := 0) rfl fo29_0) rfl fun fr r => ?_
     refine s1 r h8 ?_
     refine seq_val _ r (fun R => zz02 r (o := 0) rfl fo25_1) rfl fun fr r => ?_
     refine s1 r h8 ?_
     refine seq_val (I a0.p.threads) r (fun R => zz01 r rfl h_b1 to3 rfl) rfl fun fr r => ?_
     refine s1 r h8 ?_
     refine seq_val _ r (fun R => y_bin r rfl rfl rfl rfl) rfl fun fr r => ?_
     refine seq_val (.bool (decide (a0.thread < a0.p.threads))) r (fun R => y_pick r (b := true) (congrArg Value.bool h8) rfl) rfl fun fr r => ?_
     refine seq_val (.bool (decide (a0.thread < a0.p.threads))) r (fun R => zz04 r rfl) rfl fun fr r => ?_
     refine wn ?_
     refine wp_ret ?_
     have hd : D.zz0u a0 = (decide (a0.thread < a0.p.threads)) := (cond_t h5).trans ((cond_t h6).trans ((cond_t h7).trans ((cond_t h8).trans (rfl))))
     refine ret_tmp r rfl rfl ?_
     rw [hd]
     exact ⟨rfl, hB⟩
    ·
     refine s0 r h8 fun fr r => ?_
     refine s0 r h8 fun fr r => ?_
     refine s0 r h8 fun fr r => ?_
     refine s0 r h8 fun fr r => ?_
     refine s0 r h8 fun fr r => ?_
     refine s0 r h8 fun fr r => ?_
     refine seq_val (.bool false) r (fun R => y_pick r (b := false) (congrArg Value.bool h8) rfl) rfl fun fr r => ?_
     refine seq_val (.bool false) r (fun R => zz04 r rfl) rfl fun fr r => ?_
     refine wn ?_
     refine wp_ret ?_
     have hd : D.zz0u a0 = false := (cond_t h5).trans ((cond_t h6).trans ((cond_t h7).trans ((cond_f h8).trans (rfl))))
     refine ret_tmp r rfl rfl ?_
     rw [hd]
     exact ⟨rfl, hB⟩
   ·
    refine s0 r h7 fun fr r => ?_
    refine s0 r h7 fun fr r => ?_
    refine s0 r h7 fun fr r => ?_
    refine seq_val (.bool false) r (fun R => y_pick r (b := false) (congrArg Value.bool h7) rfl) rfl fun fr r => ?_
    refine seq_val (.bool false) r (fun R => y_move r rfl) rfl fun fr r => ?_
    refine s0 r (rfl : false = _) fun fr r => ?_
    refine s0 r (rfl : false = _) fun fr r => ?_
    refine s0 r (rfl : false = _) fun fr r => ?_
    refine s0 r (rfl : false = _) fun fr r => ?_
    refine s0 r (rfl : false = _) fun fr r => ?_
    refine s0 r (rfl : false = _) fun fr r => ?_
    refine seq_val (.bool false) r (fun R => y_pick r (b := false) (congrArg Value.bool (rfl : false = _)) rfl) rfl fun fr r => ?_
    refine seq_val (.bool false) r (fun R => zz04 r rfl) rfl fun fr r => ?_
    refine wn ?_
    refine wp_ret ?_
    have hd : D.zz0u a0 = false := (cond_t h5).trans ((cond_t h6).trans ((cond_f h7).trans (rfl)))
    refine ret_tmp r rfl rfl ?_
    rw [hd]
    exact ⟨rfl, hB⟩
  ·
   refine s0 r h6 fun fr r => ?_
   refine s0 r h6 fun fr r => ?_
   refine s0 r h6 fun fr r => ?_
   refine seq_val (.bool false) r (fun R => y_pick r (b := false) (congrArg Value.bool h6) rfl) rfl fun fr r => ?_
   refine seq_val (.bool false) r (fun R => y_move r rfl) rfl fun fr r => ?_
   refine s0 r (rfl : false = _) fun fr r => ?_
   refine s0 r (rfl : false = _) fun fr r => ?_
   refine s0 r (rfl : false = _) fun fr r => ?_
   refine seq_val (.bool false) r (fun R => y_pick r (b := false) (congrArg Value.bool (rfl : false = _)) rfl) rfl fun fr r => ?_
   refine seq_val (.bool false) r (fun R => y_move r rfl) rfl fun fr r => ?_
   refine s0 r (rfl : false = _) fun fr r => ?_
   refine s0 r (rfl : false = _) fun fr r => ?_
   refine s0 r (rfl : false = _) fun fr r => ?_
   refine s0 r (rfl : false = _) fun fr r => ?_
   refine s0 r (rfl : false = _) fun fr r => ?_
   refine s0 r (rfl : false = _) fun fr r => ?_
   refine seq_val (.bool false) r (fun R => y_pick r (b := false) (congrArg Value.bool (rfl : false = _)) rfl) rfl fun fr r => ?_
   refine seq_val (.bool false) r (fun R => zz04 r rfl) rfl fun fr r => ?_
   refine wn ?_
   refine wp_ret ?_
   have hd : D.zz0u a0 = false := (cond_t h5).trans ((cond_f h6).trans (rfl))
   refine ret_tmp r rfl rfl ?_
   rw [hd]
   exact ⟨rfl, hB⟩
 ·
  refine s0 r h5 fun fr r => ?_
  refine s0 r h5 fun fr r => ?_
  refine s0 r h5 fun fr r => ?_
  refine seq_val (.bool false) r (fun R => y_pick r (b := false) (congrArg Value.bool h5) rfl) rfl fun fr r => ?_
  refine seq_val (.bool false) r (fun R => y_move r rfl) rfl fun fr r => ?_
  refine s0 r (rfl : false = _) fun fr r => ?_
  refine s0 r (rfl : false = _) fun fr r => ?_
  refine s0 r (rfl : false = _) fun fr r => ?_
  refine seq_val (.bool false) r (fun R => y_pick r (b := false) (congrArg Value.bool (rfl : false = _)) rfl) rfl fun fr r => ?_
  refine seq_val (.bool false) r (fun R => y_move r rfl) rfl fun fr r => ?_
  refine s0 r (rfl : false = _) fun fr r => ?_
  refine s0 r (rfl : false = _) fun fr r => ?_
  refine s0 r (rfl : false = _) fun fr r => ?_
  refine seq_val (.bool false) r (fun R => y_pick r (b := false) (congrArg Value.bool (rfl : false = _)) rfl) rfl fun fr r => ?_
  refine seq_val (.bool false) r (fun R => y_move r rfl) rfl fun fr r => ?_
  refine s0 r (rfl : false = _) fun fr r => ?_
  refine s0 r (rfl : false = _) fun fr r => ?_
  refine s0 r (rfl : false = _) fun fr r => ?_
  refine s0 r (rfl : false = _) fun fr r => ?_
  refine s0 r (rfl : false = _) fun fr r => ?_
  refine s0 r (rfl : false = _) fun fr r => ?_
  refine seq_val (.bool false) r (fun R => y_pick r (b := false) (congrArg Value.bool (rfl : false = _)) rfl) rfl fun fr r => ?_
  refine seq_val (.bool false) r (fun R => zz04 r rfl) rfl fun fr r => ?_
  refine wn ?_
  refine wp_ret ?_
  have hd : D.zz0u a0 = false := (cond_f h5).trans (rfl)
  refine ret_tmp r rfl rfl ?_
  rw [hd]
  exact ⟨rfl, hB⟩

def D.zz1m (a0 : Int) : T Res := (D.zz5w (⟨a0, 0⟩ : Res))

theorem zz2e {n : Nat} {F : Nat → Prop} {w0 : World} (hF : ∀ b, F b → b < w0.heap.size)
    (a0 : Int) :
    Calls Tryz.prog 112 #[.int .i64 a0] w0 (RepRes Tryz.prog encRes n (D.zz1m a0) F w0) := by
 refine enter Tryz.func112 rfl 6 rfl rfl fun fr r => ?_
 have hB := Below.refl w0.heap.size w0
 refine wsr ?_
 refine seq_new (.cells (progCells false encRes.zero 0 0 0 0 .nilFunc) 39 (0, 0)) r (fun R => y_alloc tz39) rfl fun fr b1 w2 n3 r => ?_
 obtain ⟨e_b1, z_w2, h_b1, hB, zB⟩ := n3.all hB
 refine wn ?_
 refine wsr ?_
 refine seq_val (I a0) r (fun R => y_move r rfl) rfl fun fr r => ?_
 refine seq_val (.agg (resC (⟨a0, 0⟩ : Res)).toArray) r (fun R => y_build r (by kernel_rfl)) rfl fun fr r => ?_
 have hF1 := fgrow hF hB b1
 refine zz06 r (zz62 (F := (fun b => F b ∨ (w0.heap.size ≤ b ∧ b < w2.heap.size ∧ b ≠ b1))) (n := n) hF1 (⟨a0, 0⟩ : Res)) (fun R hc => y_call r rfl cl211 hc) rfl ?_
 rintro _ w4 ⟨v5, rfl, hb, hr6⟩
 refine ⟨_, rfl, fun fr r => ?_⟩
 have z_w4 := hb.size
 have h_b1 := keep hb h_b1
 obtain ⟨hB, zB⟩ := bon hb hB
 refine seq_upd (.cells v5.cells 39 (0, 0)) r (fun R => zz0c r hr6.shape rfl rfl h_b1 ts39 rfl) rfl fun fr w7 u8 r => ?_
 have z_w7 := u8.size
 have h_b1 := u8.at_
 obtain ⟨hB, zB⟩ := u8.on hB (by omega)
 refine wn ?_
 refine wp_ret ?_
 have hs := hr6.shape.cells
 refine zz0a r rfl rfl h_b1 (k := 8) hs.1 ta39 ?_
 rw [← hs.2.2]
 exact rfin hF hB hr6 u8 (by omega) (by omega) (by omega)

def D.check_done (a0 : Int) : T Res := (D.zz5w (⟨0, a0⟩ : Res))

theorem c_check_done {n : Nat} {F : Nat → Prop} {w0 : World} (hF : ∀ b, F b → b < w0.heap.size)
    (a0 : Int) :
    Calls Tryz.prog 115 #[.int .u64 a0] w0 (RepRes Tryz.prog encRes n (D.check_done a0) F w0) := by
 refine enter Tryz.func115 rfl 6 rfl rfl fun fr r => ?_
 have hB := Below.refl w0.heap.size w0
 refine wsr ?_
 refine seq_new (.cells (progCells false encRes.zero 0 0 0 0 .nilFunc) 39 (0, 0)) r (fun R => y_alloc tz39) rfl fun fr b1 w2 n3 r => ?_
 obtain ⟨e_b1, z_w2, h_b1, hB, zB⟩ := n3.all hB
 refine wn ?_
 refine wsr ?_
 refine seq_val (U a0) r (fun R => y_move r rfl) rfl fun fr r => ?_
 refine seq_val (.agg (resC (⟨0, a0⟩ : Res)).toArray) r (fun R => y_build r (by kernel_rfl)) rfl fun fr r => ?_
 have hF1 := fgrow hF hB b1
 refine zz06 r (zz62 (F := (fun b => F b ∨ (w0.heap.size ≤ b ∧ b < w2.heap.size ∧ b ≠ b1))) (n := n) hF1 (⟨0, a0⟩ : Res)) (fun R hc => y_call r rfl cl211 hc) rfl ?_
 rintro _ w4 ⟨v5, rfl, hb, hr6⟩
 refine ⟨_, rfl, fun fr r => ?_⟩
 have z_w4 := hb.size
 have h_b1 := keep hb h_b1
 obtain ⟨hB, zB⟩ := bon hb hB
 refine seq_upd (.cells v5.cells 39 (0, 0)) r (fun R => zz0c r hr6.shape rfl rfl h_b1 ts39 rfl) rfl fun fr w7 u8 r => ?_
 have z_w7 := u8.size
 have h_b1 := u8.at_
 obtain ⟨hB, zB⟩ := u8.on hB (by omega)
 refine wn ?_
 refine wp_ret ?_
 have hs := hr6.shape.cells
 refine zz0a r rfl rfl h_b1 (k := 8) hs.1 ta39 ?_
 rw [← hs.2.2]
 exact rfin hF hB hr6 u8 (by omega) (by omega) (by omega)

def D.zz69 (c0 : Seat) (a0 : Grant) : T Res := (bif (a0.e != 0) then (D.zz1m a0.e) else (D.check_done (D.zz1d (⟨a0.node, a0.gen, c0.tenant⟩ : Handle))))

theorem c_check_New_1 {n : Nat} {F : Nat → Prop} {w0 : World} (hF : ∀ b, F b → b < w0.heap.size)
    (c0 : Seat) {c0_b : Nat} (c0_F : F c0_b) (c0_h : w0.heap[c0_b]? = some (.cells ((seatC c0)).toArray 29 (0, 0))) (a0 : Grant) :
    Calls Tryz.prog 114 #[.agg (grantC a0).toArray, .pointer (some ⟨c0_b, 0, none⟩)] w0 (RepRes Tryz.prog encRes n (D.zz69 c0 a0) F w0) := by
 refine enter Tryz.func114 rfl 19 rfl rfl fun fr r => ?_
 have hB := Below.refl w0.heap.size w0
 have l_c0_b := lt_of_block c0_h
 refine wsr ?_
 refine seq_new (.cells ((grantC a0)).toArray 153 (0, 0)) r (fun R => y_box r (v := (.agg (grantC a0).toArray)) rfl) rfl fun fr b1 w2 n3 r => ?_
 obtain ⟨e_b1, z_w2, h_b1, hB, zB⟩ := n3.all hB
 refine seq_new (.cells (progCells false encRes.zero 0 0 0 0 .nilFunc) 39 (0, 0)) r (fun R => y_alloc tz39) rfl fun fr b4 w5 n6 r => ?_
 have h_b1 := keep n6.below h_b1
 obtain ⟨e_b4, z_w5, h_b4, hB, zB⟩ := n6.all hB
 refine wn ?_
 refine wp_seq ?_
 refine wsr ?_
 refine seq_val _ r (fun R => zz02 r (o := 0) rfl fo153_2) rfl fun fr r => ?_
 refine seq_val (I a0.e) r (fun R => zz01 r rfl h_b1 to30 rfl) rfl fun fr r => ?_
 refine seq_val _ r (fun R => y_bin r rfl rfl rfl rfl) rfl fun fr r => ?_
 refine wn ?_
 refine wp_cond_split (t := (a0.e != 0)) (r.ev rfl) (fun h7 => ?_) (fun h7 => ?_)
 ·
  refine wsr ?_
  refine seq_val _ r (fun R => zz02 r (o := 0) rfl fo153_2) rfl fun fr r => ?_
  refine seq_val (I a0.e) r (fun R => zz01 r rfl h_b1 to30 rfl) rfl fun fr r => ?_
  have hF1 := fgrow hF hB b4
  refine zz06 r (zz2e (F := (fun b => F b ∨ (w0.heap.size ≤ b ∧ b < w5.heap.size ∧ b ≠ b4))) (n := n) hF1 a0.e) (fun R hc => y_call r rfl cl112 hc) rfl ?_
  rintro _ w8 ⟨v9, rfl, hb, hr10⟩
  refine ⟨_, rfl, fun fr r => ?_⟩
  have z_w8 := hb.size
  have h_b1 := keep hb h_b1
  have h_b4 := keep hb h_b4
  obtain ⟨hB, zB⟩ := bon hb hB
  refine seq_upd (.cells v9.cells 39 (0, 0)) r (fun R => zz0c r hr10.shape rfl rfl h_b4 ts39 rfl) rfl fun fr w11 u12 r => ?_
  have z_w11 := u12.size
  have h_b1 := u12.keep h_b1 (by omega)
  have h_b4 := u12.at_
  obtain ⟨hB, zB⟩ := u12.on hB (by omega)
  refine wn ?_
  refine wp_ret ?_
  have hd : D.zz69 c0 a0 = (D.zz1m a0.e) := (cond_t h7).trans (rfl)
  have hs := hr10.shape.cells
  refine zz0a r rfl rfl h_b4 (k := 8) hs.1 ta39 ?_
  rw [← hs.2.2, hd]
  exact rfin hF hB hr10 u12 (by omega) (by omega) (by omega)
 ·
  refine wp_skip ?_
  refine wsr ?_
  refine seq_val _ r (fun R => zz02 r (o := 0) rfl fo153_0) rfl fun fr r => ?_
  refine seq_val (I a0.node) r (fun R => zz01 r rfl h_b1 to3 rfl) rfl fun fr r => ?_
  refine seq_val _ r (fun R => zz02 r (o := 0) rfl fo153_1) rfl fun fr r => ?_
  refine seq_val (I a0.gen) r (fun R => zz01 r rfl h_b1 to3 rfl) rfl fun fr r => ?_
  refine seq_val _ r (fun R => zz02 r (o := 0) rfl fo29_1) rfl fun fr r => ?_
  refine seq_val (I c0.tenant) r (fun R => zz01 r rfl (keep hB c0_h) to3 rfl) rfl fun fr r => ?_
  refine seq_val (.agg (handleC (⟨a0.node, a0.gen, c0.tenant⟩ : Handle)).toArray) r (fun R => y_build r (by kernel_rfl)) rfl fun fr r => ?_
  refine zz06 r (zz3t w5 (⟨a0.node, a0.gen, c0.tenant⟩ : Handle)) (fun R hc => y_call r rfl cl116 hc) rfl ?_
  rintro _ w13 ⟨rfl, hb⟩
  refine ⟨_, rfl, fun fr r => ?_⟩
  have z_w13 := hb.size
  have h_b1 := keep hb h_b1
  have h_b4 := keep hb h_b4
  obtain ⟨hB, zB⟩ := bon hb hB
  have hF1 := fgrow hF hB b4
  refine zz06 r (c_check_done (F := (fun b => F b ∨ (w0.heap.size ≤ b ∧ b < w13.heap.size ∧ b ≠ b4))) (n := n) hF1 (D.zz1d (⟨a0.node, a0.gen, c0.tenant⟩ : Handle))) (fun R hc => y_call r rfl cl115 hc) rfl ?_
  rintro _ w14 ⟨v15, rfl, hb, hr16⟩
  refine ⟨_, rfl, fun fr r => ?_⟩
  have z_w14 := hb.size
  have h_b1 := keep hb h_b1
  have h_b4 := keep hb h_b4
  obtain ⟨hB, zB⟩ := bon hb hB
  refine seq_upd (.cells v15.cells 39 (0, 0)) r (fun R => zz0c r hr16.shape rfl rfl h_b4 ts39 rfl) rfl fun fr w17 u18 r => ?_
  have z_w17 := u18.size
  have h_b1 := u18.keep h_b1 (by omega)
  have h_b4 := u18.at_
  obtain ⟨hB, zB⟩ := u18.on hB (by omega)
  refine wn ?_
  refine wp_ret ?_
  have hd : D.zz69 c0 a0 = (D.check_done (D.zz1d (⟨a0.node, a0.gen, c0.tenant⟩ : Handle))) := (cond_f h7).trans (rfl)
  have hs := hr16.shape.cells
  refine zz0a r rfl rfl h_b4 (k := 8) hs.1 ta39 ?_
  rw [← hs.2.2, hd]
  exact rfin hF hB hr16 u18 (by omega) (by omega) (by omega)

def D.zz1q (j : Nat) (a0 : Seat) : T Res := (bif (!(D.zz0u a0)) then (D.zz1m 1) else (T.bind (D.alloc_New j a0.p a0.thread 0) (fun x => (D.zz69 a0 x))))

theorem c_check_New {n : Nat} {F : Nat → Prop} {j : Nat} {w0 : World} (hF : ∀ b, F b → b < w0.heap.size) (hj : n < j)
    (a0 : Seat) :
    Calls Tryz.prog 30 #[.agg (seatC a0).toArray] w0 (RepRes Tryz.prog encRes n (D.zz1q j a0) F w0) := by
 refine enter Tryz.func30 rfl 14 rfl rfl fun fr r => ?_
 have hB := Below.refl w0.heap.size w0
 refine wsr ?_
 refine seq_new (.cells ((seatC a0)).toArray 29 (0, 0)) r (fun R => y_box r (v := (.agg (seatC a0).toArray)) rfl) rfl fun fr b1 w2 n3 r => ?_
 obtain ⟨e_b1, z_w2, h_b1, hB, zB⟩ := n3.all hB
 refine seq_new (.cells (progCells false encRes.zero 0 0 0 0 .nilFunc) 39 (0, 0)) r (fun R => y_alloc tz39) rfl fun fr b4 w5 n6 r => ?_
 have h_b1 := keep n6.below h_b1
 obtain ⟨e_b4, z_w5, h_b4, hB, zB⟩ := n6.all hB
 refine wn ?_
 refine wp_seq ?_
 refine wsr ?_
 refine seq_val (.agg (seatC a0).toArray) r (fun R => zz03 r (cs := (seatC a0)) (n := 8) rfl h_b1 ta29 rfl) rfl fun fr r => ?_
 refine zz06 r (zz41 w5 a0) (fun R hc => y_call r rfl cl41 hc) rfl ?_
 rintro _ w7 ⟨rfl, hb⟩
 refine ⟨_, rfl, fun fr r => ?_⟩
 have z_w7 := hb.size
 have h_b1 := keep hb h_b1
 have h_b4 := keep hb h_b4
 obtain ⟨hB, zB⟩ := bon hb hB
 refine seq_val (.bool (!(D.zz0u a0))) r (fun R => y_un r (u := (.bool (D.zz0u a0))) rfl rfl) rfl fun fr r => ?_
 refine wn ?_
 refine wp_cond_split (t := (!(D.zz0u a0))) (r.ev rfl) (fun h8 => ?_) (fun h8 => ?_)
 ·
  refine wsr ?_
  have hF1 := fgrow hF hB b4
  refine zz06 r (zz2e (F := (fun b => F b ∨ (w0.heap.size ≤ b ∧ b < w7.heap.size ∧ b ≠ b4))) (n := n) hF1 1) (fun R hc => y_call r rfl cl112 hc) rfl ?_
  rintro _ w9 ⟨v10, rfl, hb, hr11⟩
  refine ⟨_, rfl, fun fr r => ?_⟩
  have z_w9 := hb.size
  have h_b1 := keep hb h_b1
  have h_b4 := keep hb h_b4
  obtain ⟨hB, zB⟩ := bon hb hB
  refine seq_upd (.cells v10.cells 39 (0, 0)) r (fun R => zz0c r hr11.shape rfl rfl h_b4 ts39 rfl) rfl fun fr w12 u13 r => ?_
  have z_w12 := u13.size
  have h_b1 := u13.keep h_b1 (by omega)
  have h_b4 := u13.at_
  obtain ⟨hB, zB⟩ := u13.on hB (by omega)
  refine wn ?_
  refine wp_ret ?_
  have hd : D.zz1q j a0 = (D.zz1m 1) := (cond_t h8).trans (rfl)
  have hs := hr11.shape.cells
  refine zz0a r rfl rfl h_b4 (k := 8) hs.1 ta39 ?_
  rw [← hs.2.2, hd]
  exact rfin hF hB hr11 u13 (by omega) (by omega) (by omega)
 ·
  refine wp_skip ?_
  refine wsr ?_
  refine seq_val _ r (fun R => zz02 r (o := 0) rfl fo29_0) rfl fun fr r => ?_
  refine seq_val (.agg (planC a0.p).toArray) r (fun R => zz03 r (cs := (planC a0.p)) (n := 6) rfl h_b1 ta25 rfl) rfl fun fr r => ?_
  refine seq_val _ r (fun R => zz02 r (o := 0) rfl fo29_2) rfl fun fr r => ?_
  refine seq_val (I a0.thread) r (fun R => zz01 r rfl h_b1 to3 rfl) rfl fun fr r => ?_
  have hF1 := fgrow hF hB b4
  refine zz06 r (c_alloc_New (j := j) (F := (fun b => F b ∨ (w0.heap.size ≤ b ∧ b < w7.heap.size ∧ b ≠ b4))) (n := n) hF1 (by omega) a0.p a0.thread 0) (fun R hc => y_call r rfl cl89 hc) rfl ?_
  rintro _ w14 ⟨v15, rfl, hb, hr16⟩
  refine ⟨_, rfl, fun fr r => ?_⟩
  have z_w14 := hb.size
  have h_b1 := keep hb h_b1
  have h_b4 := keep hb h_b4
  obtain ⟨hB, zB⟩ := bon hb hB
  refine seq_val (.func (.func 114) #[] #[.pointer (some ⟨b1, 0, none⟩)]) r (fun R => zz0o r rfl) rfl fun fr r => ?_
  have hF1 := fgrow hF hB b4
  have f17 : ((fun b => F b ∨ (w0.heap.size ≤ b ∧ b < w14.heap.size ∧ b ≠ b4))) b1 := (.inr ⟨by omega, by omega, by omega⟩)
  refine zz06 r (c_prog_Then_Grant_Res_le (F := (fun b => F b ∨ (w0.heap.size ≤ b ∧ b < w14.heap.size ∧ b ≠ b4))) (n := n) hF1 (Rep.mono (by rintro b (h | h); (rcases h with h | ⟨h1, h2, h3⟩; exact .inl h; exact .inr ⟨h1, by omega, h3⟩); exact .inr ⟨by omega, by omega, by omega⟩) (Same.refl _ _) (by omega) n _ _ hr16) ⟨114, [], [.pointer (some ⟨b1, 0, none⟩)], cl114, rfl, fun m hm x w' hs hz => c_check_New_1 (fun b hb => Nat.lt_of_lt_of_le (hF1 b hb) hz) a0 f17 (hs.at_ f17 h_b1) x⟩) (fun R hc => y_call r rfl cl113 hc) rfl ?_
  rintro _ w18 ⟨v19, rfl, hb, hr20⟩
  refine ⟨_, rfl, fun fr r => ?_⟩
  have z_w18 := hb.size
  have h_b1 := keep hb h_b1
  have h_b4 := keep hb h_b4
  obtain ⟨hB, zB⟩ := bon hb hB
  refine seq_upd (.cells v19.cells 39 (0, 0)) r (fun R => zz0c r hr20.shape rfl rfl h_b4 ts39 rfl) rfl fun fr w21 u22 r => ?_
  have z_w21 := u22.size
  have h_b1 := u22.keep h_b1 (by omega)
  have h_b4 := u22.at_
  obtain ⟨hB, zB⟩ := u22.on hB (by omega)
  refine wn ?_
  refine wp_ret ?_
  have hd : D.zz1q j a0 = (T.bind (D.alloc_New j a0.p a0.thread 0) (fun x => (D.zz69 a0 x))) := (cond_f h8).trans (rfl)
  have hs := hr20.shape.cells
  refine zz0a r rfl rfl h_b4 (k := 8) hs.1 ta39 ?_
  rw [← hs.2.2, hd]
  exact rfin hF hB hr20 u22 (by omega) (by omega) (by omega)

def D.zz26 (a0 : Handle) : State := (⟨a0.gen, 1, 0⟩ : State)

theorem c_check_live (w0 : World) 
    (a0 : Handle) :
    Calls Tryz.prog 128 #[.agg (handleC a0).toArray] w0 (PureRes (.agg (stateC (D.zz26 a0)).toArray) w0) := by
 refine enter Tryz.func128 rfl 6 rfl rfl fun fr r => ?_
 have hB := Below.refl w0.heap.size w0
 refine wsr ?_
 refine seq_new (.cells ((handleC a0)).toArray 63 (0, 0)) r (fun R => y_box r (v := (.agg (handleC a0).toArray)) rfl) rfl fun fr b1 w2 n3 r => ?_
 obtain ⟨e_b1, z_w2, h_b1, hB, zB⟩ := n3.all hB
 refine seq_new (.cells ((stateC (⟨0, 0, 0⟩ : State))).toArray 118 (0, 0)) r (fun R => y_alloc tz118) rfl fun fr b4 w5 n6 r => ?_
 have h_b1 := keep n6.below h_b1
 obtain ⟨e_b4, z_w5, h_b4, hB, zB⟩ := n6.all hB
 refine wn ?_
 refine wsr ?_
 refine seq_val _ r (fun R => zz02 r (o := 0) rfl fo63_1) rfl fun fr r => ?_
 refine seq_val (I a0.gen) r (fun R => zz01 r rfl h_b1 to3 rfl) rfl fun fr r => ?_
 refine seq_val (.agg (stateC (⟨a0.gen, 1, 0⟩ : State)).toArray) r (fun R => y_build r (by kernel_rfl)) rfl fun fr r => ?_
 refine seq_upd (.cells ((stateC (⟨a0.gen, 1, 0⟩ : State))).toArray 118 (0, 0)) r (fun R => y_store r (o := 0) (v := (.agg (stateC (⟨a0.gen, 1, 0⟩ : State)).toArray)) rfl rfl h_b4 ts118 (Nat.le_of_ble_eq_true rfl) rfl rfl) rfl fun fr w7 u8 r => ?_
 have z_w7 := u8.size
 have h_b1 := u8.keep h_b1 (by omega)
 have h_b4 := u8.at_
 obtain ⟨hB, zB⟩ := u8.on hB (by omega)
 refine wn ?_
 refine wp_ret ?_
 refine zz0a r rfl rfl h_b4 (k := 3) rfl ta118 ?_
 exact ⟨rfl, hB⟩

def D.check_look_1_1 (c0 : Res) : T Res := (D.zz5w c0)

theorem c_check_look_1_1 {n : Nat} {F : Nat → Prop} {w0 : World} (hF : ∀ b, F b → b < w0.heap.size)
    (c0 : Res) {c0_b : Nat} (c0_F : F c0_b) (c0_h : w0.heap[c0_b]? = some (.cells ((resC c0)).toArray 32 (0, 0))) :
    Calls Tryz.prog 219 #[.agg #[], .pointer (some ⟨c0_b, 0, none⟩)] w0 (RepRes Tryz.prog encRes n (D.check_look_1_1 c0) F w0) := by
 refine enter Tryz.func219 rfl 6 rfl rfl fun fr r => ?_
 have hB := Below.refl w0.heap.size w0
 have l_c0_b := lt_of_block c0_h
 refine wsr ?_
 refine seq_new (.cells #[] 181 (0, 0)) r (fun R => y_box r (v := (.agg #[])) rfl) rfl fun fr b1 w2 n3 r => ?_
 obtain ⟨e_b1, z_w2, h_b1, hB, zB⟩ := n3.all hB
 refine seq_new (.cells (progCells false encRes.zero 0 0 0 0 .nilFunc) 39 (0, 0)) r (fun R => y_alloc tz39) rfl fun fr b4 w5 n6 r => ?_
 have h_b1 := keep n6.below h_b1
 obtain ⟨e_b4, z_w5, h_b4, hB, zB⟩ := n6.all hB
 refine wn ?_
 refine wsr ?_
 refine seq_val (.agg (resC c0).toArray) r (fun R => zz03 r (cs := (resC c0)) (n := 2) rfl (keep hB c0_h) ta32 rfl) rfl fun fr r => ?_
 have hF1 := fgrow hF hB b4
 refine zz06 r (zz62 (F := (fun b => F b ∨ (w0.heap.size ≤ b ∧ b < w5.heap.size ∧ b ≠ b4))) (n := n) hF1 c0) (fun R hc => y_call r rfl cl211 hc) rfl ?_
 rintro _ w7 ⟨v8, rfl, hb, hr9⟩
 refine ⟨_, rfl, fun fr r => ?_⟩
 have z_w7 := hb.size
 have h_b1 := keep hb h_b1
 have h_b4 := keep hb h_b4
 obtain ⟨hB, zB⟩ := bon hb hB
 refine seq_upd (.cells v8.cells 39 (0, 0)) r (fun R => zz0c r hr9.shape rfl rfl h_b4 ts39 rfl) rfl fun fr w10 u11 r => ?_
 have z_w10 := u11.size
 have h_b1 := u11.keep h_b1 (by omega)
 have h_b4 := u11.at_
 obtain ⟨hB, zB⟩ := u11.on hB (by omega)
 refine wn ?_
 refine wp_ret ?_
 have hs := hr9.shape.cells
 refine zz0a r rfl rfl h_b4 (k := 8) hs.1 ta39 ?_
 rw [← hs.2.2]
 exact rfin hF hB hr9 u11 (by omega) (by omega) (by omega)

def D.zz6m (c0 : Seat) (a0 : Res) : T Res := (T.bind (D.hazard_Set c0.p c0.thread 0 (-1)) (fun _ => (D.check_look_1_1 a0)))

theorem c_check_look_1 {n : Nat} {F : Nat → Prop} {w0 : World} (hF : ∀ b, F b → b < w0.heap.size)
    (c0 : Seat) {c0_b : Nat} (c0_F : F c0_b) (c0_h : w0.heap[c0_b]? = some (.cells ((seatC c0)).toArray 29 (0, 0))) (a0 : Res) :
    Calls Tryz.prog 216 #[.agg (resC a0).toArray, .pointer (some ⟨c0_b, 0, none⟩)] w0 (RepRes Tryz.prog encRes n (D.zz6m c0 a0) F w0) := by
 refine enter Tryz.func216 rfl 11 rfl rfl fun fr r => ?_
 have hB := Below.refl w0.heap.size w0
 have l_c0_b := lt_of_block c0_h
 refine wsr ?_
 refine seq_new (.cells ((resC a0)).toArray 32 (0, 0)) r (fun R => y_box r (v := (.agg (resC a0).toArray)) rfl) rfl fun fr b1 w2 n3 r => ?_
 obtain ⟨e_b1, z_w2, h_b1, hB, zB⟩ := n3.all hB
 refine seq_new (.cells (progCells false encRes.zero 0 0 0 0 .nilFunc) 39 (0, 0)) r (fun R => y_alloc tz39) rfl fun fr b4 w5 n6 r => ?_
 have h_b1 := keep n6.below h_b1
 obtain ⟨e_b4, z_w5, h_b4, hB, zB⟩ := n6.all hB
 refine wn ?_
 refine wsr ?_
 refine seq_val _ r (fun R => zz02 r (o := 0) rfl fo29_0) rfl fun fr r => ?_
 refine seq_val (.agg (planC c0.p).toArray) r (fun R => zz03 r (cs := (planC c0.p)) (n := 6) rfl (keep hB c0_h) ta25 rfl) rfl fun fr r => ?_
 refine seq_val _ r (fun R => zz02 r (o := 0) rfl fo29_2) rfl fun fr r => ?_
 refine seq_val (I c0.thread) r (fun R => zz01 r rfl (keep hB c0_h) to3 rfl) rfl fun fr r => ?_
 have hF1 := fgrow hF hB b4
 refine zz06 r (c_hazard_Set (F := (fun b => F b ∨ (w0.heap.size ≤ b ∧ b < w5.heap.size ∧ b ≠ b4))) (n := n) hF1 c0.p c0.thread 0 (-1)) (fun R hc => y_call r rfl cl218 hc) rfl ?_
 rintro _ w7 ⟨v8, rfl, hb, hr9⟩
 refine ⟨_, rfl, fun fr r => ?_⟩
 have z_w7 := hb.size
 have h_b1 := keep hb h_b1
 have h_b4 := keep hb h_b4
 obtain ⟨hB, zB⟩ := bon hb hB
 refine seq_val (.func (.func 219) #[] #[.pointer (some ⟨b1, 0, none⟩)]) r (fun R => zz0o r rfl) rfl fun fr r => ?_
 have hF1 := fgrow hF hB b4
 have f10 : ((fun b => F b ∨ (w0.heap.size ≤ b ∧ b < w7.heap.size ∧ b ≠ b4))) b1 := (.inr ⟨by omega, by omega, by omega⟩)
 refine zz06 r (zz4f (F := (fun b => F b ∨ (w0.heap.size ≤ b ∧ b < w7.heap.size ∧ b ≠ b4))) (n := n) hF1 (Rep.mono (by rintro b (h | h); (rcases h with h | ⟨h1, h2, h3⟩; exact .inl h; exact .inr ⟨h1, by omega, h3⟩); exact .inr ⟨by omega, by omega, by omega⟩) (Same.refl _ _) (by omega) n _ _ hr9) ⟨219, [], [.pointer (some ⟨b1, 0, none⟩)], cl219, rfl, fun m hm _ w' hs hz => c_check_look_1_1 (fun b hb => Nat.lt_of_lt_of_le (hF1 b hb) hz) a0 f10 (hs.at_ f10 h_b1)⟩) (fun R hc => y_call r rfl cl217 hc) rfl ?_
 rintro _ w11 ⟨v12, rfl, hb, hr13⟩
 refine ⟨_, rfl, fun fr r => ?_⟩
 have z_w11 := hb.size
 have h_b1 := keep hb h_b1
 have h_b4 := keep hb h_b4
 obtain ⟨hB, zB⟩ := bon hb hB
 refine seq_upd (.cells v12.cells 39 (0, 0)) r (fun R => zz0c r hr13.shape rfl rfl h_b4 ts39 rfl) rfl fun fr w14 u15 r => ?_
 have z_w14 := u15.size
 have h_b1 := u15.keep h_b1 (by omega)
 have h_b4 := u15.at_
 obtain ⟨hB, zB⟩ := u15.on hB (by omega)
 refine wn ?_
 refine wp_ret ?_
 have hs := hr13.shape.cells
 refine zz0a r rfl rfl h_b4 (k := 8) hs.1 ta39 ?_
 rw [← hs.2.2]
 exact rfin hF hB hr13 u15 (by omega) (by omega) (by omega)

def D.zz3i (c0 : (Res → T Res)) (a0 : Int) : T Res := (c0 (⟨0, a0⟩ : Res))

theorem c_check_look_2_1_1_1 {n : Nat} {F : Nat → Prop} {w0 : World} (hF : ∀ b, F b → b < w0.heap.size)
    {c0_f : FuncId} {c0_1 c0_2 : List Value} {c0 : (Res → T Res)} {c0_b : Nat} (c0_F : F c0_b) (c0_h : w0.heap[c0_b]? = some (.cells #[.func (.func c0_f) c0_1.toArray c0_2.toArray] 265 (0, 0))) (c0_n : FnT Tryz.prog encRes argRes (n + 1) F w0 (.func (.func c0_f) c0_1.toArray c0_2.toArray) c0) (a0 : Int) :
    Calls Tryz.prog 223 #[.int .u64 a0, .pointer (some ⟨c0_b, 0, none⟩)] w0 (RepRes Tryz.prog encRes n (D.zz3i c0 a0) F w0) := by
 refine enter Tryz.func223 rfl 8 rfl rfl fun fr r => ?_
 have hB := Below.refl w0.heap.size w0
 have l_c0_b := lt_of_block c0_h
 refine wsr ?_
 refine seq_new (.cells (progCells false encRes.zero 0 0 0 0 .nilFunc) 39 (0, 0)) r (fun R => y_alloc tz39) rfl fun fr b1 w2 n3 r => ?_
 obtain ⟨e_b1, z_w2, h_b1, hB, zB⟩ := n3.all hB
 refine wn ?_
 refine wsr ?_
 refine seq_val (.func (.func c0_f) c0_1.toArray c0_2.toArray) r (fun R => zz01 r rfl (keep hB c0_h) to265 rfl) rfl fun fr r => ?_
 refine seq_val (U a0) r (fun R => y_move r rfl) rfl fun fr r => ?_
 refine seq_val (.agg (resC (⟨0, a0⟩ : Res)).toArray) r (fun R => y_build r (by kernel_rfl)) rfl fun fr r => ?_
 refine zz06 r (c0_n.at_.2 n (Nat.lt_succ_self n) (⟨0, a0⟩ : Res) w2 (Same.below hB hF) hB.size) (fun R hc => zz3z r rfl rfl c0_n.at_.1 hc) rfl ?_
 rintro _ w4 ⟨v5, rfl, hb, hr6⟩
 refine ⟨_, rfl, fun fr r => ?_⟩
 have z_w4 := hb.size
 have h_b1 := keep hb h_b1
 obtain ⟨hB, zB⟩ := bon hb hB
 refine seq_upd (.cells v5.cells 39 (0, 0)) r (fun R => zz0c r hr6.shape rfl rfl h_b1 ts39 rfl) rfl fun fr w7 u8 r => ?_
 have z_w7 := u8.size
 have h_b1 := u8.at_
 obtain ⟨hB, zB⟩ := u8.on hB (by omega)
 refine wn ?_
 refine wp_ret ?_
 have hs := hr6.shape.cells
 refine zz0a r rfl rfl h_b1 (k := 8) hs.1 ta39 ?_
 rw [← hs.2.2]
 exact RepRes.fin hB hr6 u8 (fun b hb => .inl hb) (fun h => by have := hF _ h; omega) (by omega) (by omega) (by omega)

def D.zz4b (c0 : Int) (c1 : (Res → T Res)) (c2 : (Int → (Int → T Res) → T Res)) (c3 : Seat) (c4 : Handle) (c5 : Int) (a0 : Int) : T Res := (bif (a0 != c0) then (c1 (⟨3, 0⟩ : Res)) else (c2 (D.zz1u c3.p c4.index c5) (fun x => (D.zz3i c1 x))))

theorem c_check_look_2_1_1 {n : Nat} {F : Nat → Prop} {w0 : World} (hF : ∀ b, F b → b < w0.heap.size)
    (c0 : Int) {c0_b : Nat} (c0_F : F c0_b) (c0_h : w0.heap[c0_b]? = some (.cells ([(.int .u64 c0)]).toArray 22 (0, 0))) {c1_f : FuncId} {c1_1 c1_2 : List Value} {c1 : (Res → T Res)} {c1_b : Nat} (c1_F : F c1_b) (c1_h : w0.heap[c1_b]? = some (.cells #[.func (.func c1_f) c1_1.toArray c1_2.toArray] 265 (0, 0))) (c1_n : FnT Tryz.prog encRes argRes (n + 1) F w0 (.func (.func c1_f) c1_1.toArray c1_2.toArray) c1) {c2_f : FuncId} {c2_1 c2_2 : List Value} {c2 : (Int → (Int → T Res) → T Res)} {c2_b : Nat} (c2_F : F c2_b) (c2_h : w0.heap[c2_b]? = some (.cells #[.func (.func c2_f) c2_1.toArray c2_2.toArray] 198 (0, 0))) (c2_n : FnH Tryz.prog encRes F w0 (.func (.func c2_f) c2_1.toArray c2_2.toArray) c2) (c3 : Seat) {c3_b : Nat} (c3_F : F c3_b) (c3_h : w0.heap[c3_b]? = some (.cells ((seatC c3)).toArray 29 (0, 0))) (c4 : Handle) {c4_b : Nat} (c4_F : F c4_b) (c4_h : w0.heap[c4_b]? = some (.cells ((handleC c4)).toArray 63 (0, 0))) (c5 : Int) {c5_b : Nat} (c5_F : F c5_b) (c5_h : w0.heap[c5_b]? = some (.cells ([(.int .i64 c5)]).toArray 3 (0, 0))) (a0 : Int) :
    Calls Tryz.prog 222 #[.int .u64 a0, .pointer (some ⟨c0_b, 0, none⟩), .pointer (some ⟨c1_b, 0, none⟩), .pointer (some ⟨c2_b, 0, none⟩), .pointer (some ⟨c3_b, 0, none⟩), .pointer (some ⟨c4_b, 0, none⟩), .pointer (some ⟨c5_b, 0, none⟩)] w0 (RepRes Tryz.prog encRes n (D.zz4b c0 c1 c2 c3 c4 c5 a0) F w0) := by
 refine enter Tryz.func222 rfl 24 rfl rfl fun fr r => ?_
 have hB := Below.refl w0.heap.size w0
 have l_c0_b := lt_of_block c0_h
 have l_c1_b := lt_of_block c1_h
 have l_c2_b := lt_of_block c2_h
 have l_c3_b := lt_of_block c3_h
 have l_c4_b := lt_of_block c4_h
 have l_c5_b := lt_of_block c5_h
 refine wsr ?_
 refine seq_new (.cells (progCells false encRes.zero 0 0 0 0 .nilFunc) 39 (0, 0)) r (fun R => y_alloc tz39) rfl fun fr b1 w2 n3 r => ?_
 obtain ⟨e_b1, z_w2, h_b1, hB, zB⟩ := n3.all hB
 refine wn ?_
 refine wp_seq ?_
 refine wsr ?_
 refine seq_val (U a0) r (fun R => y_move r rfl) rfl fun fr r => ?_
 refine seq_val (U c0) r (fun R => zz01 r rfl (keep hB c0_h) to22 rfl) rfl fun fr r => ?_
 refine seq_val _ r (fun R => y_bin r rfl rfl rfl rfl) rfl fun fr r => ?_
 refine wn ?_
 refine wp_cond_split (t := (a0 != c0)) (r.ev rfl) (fun h4 => ?_) (fun h4 => ?_)
 ·
  refine wsr ?_
  refine seq_val (.func (.func c1_f) c1_1.toArray c1_2.toArray) r (fun R => zz01 r rfl (keep hB c1_h) to265 rfl) rfl fun fr r => ?_
  refine seq_val (.agg (resC (⟨3, 0⟩ : Res)).toArray) r (fun R => y_build r (by kernel_rfl)) rfl fun fr r => ?_
  refine zz06 r (c1_n.at_.2 n (Nat.lt_succ_self n) (⟨3, 0⟩ : Res) w2 (Same.below hB hF) hB.size) (fun R hc => zz3z r rfl rfl c1_n.at_.1 hc) rfl ?_
  rintro _ w5 ⟨v6, rfl, hb, hr7⟩
  refine ⟨_, rfl, fun fr r => ?_⟩
  have z_w5 := hb.size
  have h_b1 := keep hb h_b1
  obtain ⟨hB, zB⟩ := bon hb hB
  refine seq_upd (.cells v6.cells 39 (0, 0)) r (fun R => zz0c r hr7.shape rfl rfl h_b1 ts39 rfl) rfl fun fr w8 u9 r => ?_
  have z_w8 := u9.size
  have h_b1 := u9.at_
  obtain ⟨hB, zB⟩ := u9.on hB (by omega)
  refine wn ?_
  refine wp_ret ?_
  have hd : D.zz4b c0 c1 c2 c3 c4 c5 a0 = (c1 (⟨3, 0⟩ : Res)) := (cond_t h4).trans (rfl)
  have hs := hr7.shape.cells
  refine zz0a r rfl rfl h_b1 (k := 8) hs.1 ta39 ?_
  rw [← hs.2.2, hd]
  exact RepRes.fin hB hr7 u9 (fun b hb => .inl hb) (fun h => by have := hF _ h; omega) (by omega) (by omega) (by omega)
 ·
  refine wp_skip ?_
  refine wp_seq ?_
  refine zz1c 8 [.val (.func (.func c2_f) c2_1.toArray c2_2.toArray), .val (.pointer (some ⟨c3_b, 0, none⟩)), .val (.agg (planC c3.p).toArray), .val (.pointer (some ⟨c4_b, 0, none⟩)), .val (I c4.index), .val (I c5), .val (I (D.zz1u c3.p c4.index c5)), .val (.func (.func 223) #[] #[.pointer (some ⟨c1_b, 0, none⟩)])] mixed r (by kernel_rfl) (zz00 (by exact trivial) (zz00 (by exact trivial) (zz00 (by exact trivial) (zz00 (by exact trivial) (zz00 (by exact trivial) (zz00 (by exact trivial) (zz00 (by exact trivial) (zz00 (by exact trivial) zz12)))))))) ?_ ?_
  ·
   refine ec r (fun _ u _ b d s => zz01 s rfl (keep2 hB b c2_h) to198 rfl bz) ?_
   refine ec r (fun _ u _ b d s => zz02 s (b := c3_b) (o := 0) rfl fo29_0 bz) ?_
   refine ec r (fun _ u _ b d s => zz03 s (cs := (planC c3.p)) (n := 6) d.1 (keep2 hB b c3_h) ta25 rfl bz) ?_
   refine ec r (fun _ u _ b d s => zz02 s (b := c4_b) (o := 0) rfl fo63_0 bz) ?_
   refine ec r (fun _ u _ b d s => zz01 s d.1 (keep2 hB b c4_h) to3 rfl bz) ?_
   refine ec r (fun _ u _ b d s => zz01 s rfl (keep2 hB b c5_h) to3 rfl bz) ?_
   refine ec r (fun fr1 u w' hb' hd r' => y_call r' (args := [(.agg (planC c3.p).toArray), (I c4.index), (I c5)]) (lc hd.1 (lc hd.2.1 (lc hd.2.2.1 l0))) cl150 ((c_plan_Plan_Field _ c3.p c4.index c5).mono (by rintro _ w2 ⟨rfl, hb2⟩; exact ⟨_, rfl, hb2, rfl⟩))) ?_
   refine ec r (fun _ u _ b d s => zz0o s (v := (.func (.func 223) #[] #[.pointer (some ⟨c1_b, 0, none⟩)])) rfl bz) ?_
   exact zz1l
  ·
   intro fr u w10 hb hΦ hne r
   have r := r.congr (sc (hΦ 7 (by decide)) (sc (hΦ 6 (by decide)) (sc (hΦ 5 (by decide)) (sc (hΦ 4 (by decide)) (sc (hΦ 3 (by decide)) (sc (hΦ 2 (by decide)) (sc (hΦ 1 (by decide)) (sc (hΦ 0 (by decide)) rfl))))))))
   have z_w10 := hb.size
   have h_b1 := keep hb h_b1
   obtain ⟨hB, zB⟩ := bon hb hB
   have hF1 := fgrow hF hB b1
   have f11 : ((fun b => F b ∨ (w0.heap.size ≤ b ∧ b < w10.heap.size ∧ b ≠ b1))) c1_b := (.inl c1_F)
   have q12 : FnT Tryz.prog encRes u64 (n) (fun b => F b ∨ (w0.heap.size ≤ b ∧ b < w10.heap.size ∧ b ≠ b1)) w10 (.func (.func 223) #[] #[.pointer (some ⟨c1_b, 0, none⟩)]) (fun x => (D.zz3i c1 x)) := ⟨223, [], [.pointer (some ⟨c1_b, 0, none⟩)], cl223, rfl, fun m hm x w' hs hz => c_check_look_2_1_1_1 (fun b hb => Nat.lt_of_lt_of_le (hF1 b hb) hz) f11 (hs.at_ f11 (keep hB c1_h)) (c1_n.mono (by omega) (fun b h => .inl h) ((Same.below hB hF).trans (hs.sub (fun b h => .inl h))) (Nat.le_trans hB.size hz)) x⟩
   refine zz06 r (c2_n.at_.2 n (D.zz1u c3.p c4.index c5) (fun b => F b ∨ (w0.heap.size ≤ b ∧ b < w10.heap.size ∧ b ≠ b1)) w10 (fun b h => .inl h) (Same.below hB hF) hB.size hF1 q12) (fun R hc => y_callv2 r rfl rfl rfl c2_n.at_.1 hc) rfl ?_
   rintro _ w13 ⟨v14, rfl, hb, hr15⟩
   refine ⟨_, rfl, fun fr r => ?_⟩
   have z_w13 := hb.size
   have h_b1 := keep hb h_b1
   obtain ⟨hB, zB⟩ := bon hb hB
   refine seq_upd (.cells v14.cells 39 (0, 0)) r (fun R => zz0c r hr15.shape rfl rfl h_b1 ts39 rfl) rfl fun fr w16 u17 r => ?_
   have z_w16 := u17.size
   have h_b1 := u17.at_
   obtain ⟨hB, zB⟩ := u17.on hB (by omega)
   refine wn ?_
   refine wp_ret ?_
   have hd : D.zz4b c0 c1 c2 c3 c4 c5 a0 = (c2 (D.zz1u c3.p c4.index c5) (fun x => (D.zz3i c1 x))) := (cond_f h4).trans (rfl)
   have hs := hr15.shape.cells
   refine zz0a r rfl rfl h_b1 (k := 8) hs.1 ta39 ?_
   rw [← hs.2.2, hd]
   exact rfin hF hB hr15 u17 (by omega) (by omega) (by omega)

def D.check_look_2_1 (c0 : Int) (c1 : Int) (c2 : (Res → T Res)) (c3 : (Int → (Int → T Res) → T Res)) (c4 : Seat) (c5 : Handle) (c6 : Int) : T Res := (D.zz3a c0 (fun x => (D.zz4b c1 c2 c3 c4 c5 c6 x)))

theorem c_check_look_2_1 {n : Nat} {F : Nat → Prop} {w0 : World} (hF : ∀ b, F b → b < w0.heap.size)
    (c0 : Int) {c0_b : Nat} (c0_F : F c0_b) (c0_h : w0.heap[c0_b]? = some (.cells ([(.int .i64 c0)]).toArray 3 (0, 0))) (c1 : Int) {c1_b : Nat} (c1_F : F c1_b) (c1_h : w0.heap[c1_b]? = some (.cells ([(.int .u64 c1)]).toArray 22 (0, 0))) {c2_f : FuncId} {c2_1 c2_2 : List Value} {c2 : (Res → T Res)} {c2_b : Nat} (c2_F : F c2_b) (c2_h : w0.heap[c2_b]? = some (.cells #[.func (.func c2_f) c2_1.toArray c2_2.toArray] 265 (0, 0))) (c2_n : FnT Tryz.prog encRes argRes (n + 1) F w0 (.func (.func c2_f) c2_1.toArray c2_2.toArray) c2) {c3_f : FuncId} {c3_1 c3_2 : List Value} {c3 : (Int → (Int → T Res) → T Res)} {c3_b : Nat} (c3_F : F c3_b) (c3_h : w0.heap[c3_b]? = some (.cells #[.func (.func c3_f) c3_1.toArray c3_2.toArray] 198 (0, 0))) (c3_n : FnH Tryz.prog encRes F w0 (.func (.func c3_f) c3_1.toArray c3_2.toArray) c3) (c4 : Seat) {c4_b : Nat} (c4_F : F c4_b) (c4_h : w0.heap[c4_b]? = some (.cells ((seatC c4)).toArray 29 (0, 0))) (c5 : Handle) {c5_b : Nat} (c5_F : F c5_b) (c5_h : w0.heap[c5_b]? = some (.cells ((handleC c5)).toArray 63 (0, 0))) (c6 : Int) {c6_b : Nat} (c6_F : F c6_b) (c6_h : w0.heap[c6_b]? = some (.cells ([(.int .i64 c6)]).toArray 3 (0, 0))) :
    Calls Tryz.prog 221 #[.agg #[], .pointer (some ⟨c0_b, 0, none⟩), .pointer (some ⟨c1_b, 0, none⟩), .pointer (some ⟨c2_b, 0, none⟩), .pointer (some ⟨c3_b, 0, none⟩), .pointer (some ⟨c4_b, 0, none⟩), .pointer (some ⟨c5_b, 0, none⟩), .pointer (some ⟨c6_b, 0, none⟩)] w0 (RepRes Tryz.prog encRes n (D.check_look_2_1 c0 c1 c2 c3 c4 c5 c6) F w0) := by
 refine enter Tryz.func221 rfl 13 rfl rfl fun fr r => ?_
 have hB := Below.refl w0.heap.size w0
 have l_c0_b := lt_of_block c0_h
 have l_c1_b := lt_of_block c1_h
 have l_c2_b := lt_of_block c2_h
 have l_c3_b := lt_of_block c3_h
 have l_c4_b := lt_of_block c4_h
 have l_c5_b := lt_of_block c5_h
 have l_c6_b := lt_of_block c6_h
 refine wsr ?_
 refine seq_new (.cells #[] 181 (0, 0)) r (fun R => y_box r (v := (.agg #[])) rfl) rfl fun fr b1 w2 n3 r => ?_
 obtain ⟨e_b1, z_w2, h_b1, hB, zB⟩ := n3.all hB
 refine seq_new (.cells (progCells false encRes.zero 0 0 0 0 .nilFunc) 39 (0, 0)) r (fun R => y_alloc tz39) rfl fun fr b4 w5 n6 r => ?_
 have h_b1 := keep n6.below h_b1
 obtain ⟨e_b4, z_w5, h_b4, hB, zB⟩ := n6.all hB
 refine wn ?_
 refine wsr ?_
 refine seq_val (I c0) r (fun R => zz01 r rfl (keep hB c0_h) to3 rfl) rfl fun fr r => ?_
 refine seq_val (.func (.func 222) #[] #[.pointer (some ⟨c1_b, 0, none⟩), .pointer (some ⟨c2_b, 0, none⟩), .pointer (some ⟨c3_b, 0, none⟩), .pointer (some ⟨c4_b, 0, none⟩), .pointer (some ⟨c5_b, 0, none⟩), .pointer (some ⟨c6_b, 0, none⟩)]) r (fun R => zz0o r rfl) rfl fun fr r => ?_
 have hF1 := fgrow hF hB b4
 have f7 : ((fun b => F b ∨ (w0.heap.size ≤ b ∧ b < w5.heap.size ∧ b ≠ b4))) c1_b := (.inl c1_F)
 have f8 : ((fun b => F b ∨ (w0.heap.size ≤ b ∧ b < w5.heap.size ∧ b ≠ b4))) c2_b := (.inl c2_F)
 have f9 : ((fun b => F b ∨ (w0.heap.size ≤ b ∧ b < w5.heap.size ∧ b ≠ b4))) c3_b := (.inl c3_F)
 have f10 : ((fun b => F b ∨ (w0.heap.size ≤ b ∧ b < w5.heap.size ∧ b ≠ b4))) c4_b := (.inl c4_F)
 have f11 : ((fun b => F b ∨ (w0.heap.size ≤ b ∧ b < w5.heap.size ∧ b ≠ b4))) c5_b := (.inl c5_F)
 have f12 : ((fun b => F b ∨ (w0.heap.size ≤ b ∧ b < w5.heap.size ∧ b ≠ b4))) c6_b := (.inl c6_F)
 refine zz06 r (zz4r (F := (fun b => F b ∨ (w0.heap.size ≤ b ∧ b < w5.heap.size ∧ b ≠ b4))) (n := n) hF1 c0 ⟨222, [], [.pointer (some ⟨c1_b, 0, none⟩), .pointer (some ⟨c2_b, 0, none⟩), .pointer (some ⟨c3_b, 0, none⟩), .pointer (some ⟨c4_b, 0, none⟩), .pointer (some ⟨c5_b, 0, none⟩), .pointer (some ⟨c6_b, 0, none⟩)], cl222, rfl, fun m hm x w' hs hz => c_check_look_2_1_1 (fun b hb => Nat.lt_of_lt_of_le (hF1 b hb) hz) c1 f7 (hs.at_ f7 (keep hB c1_h)) f8 (hs.at_ f8 (keep hB c2_h)) (c2_n.mono (by omega) (fun b h => .inl h) ((Same.below hB hF).trans (hs.sub (fun b h => .inl h))) (Nat.le_trans hB.size hz)) f9 (hs.at_ f9 (keep hB c3_h)) (c3_n.mono (fun b h => .inl h) ((Same.below hB hF).trans (hs.sub (fun b h => .inl h))) (Nat.le_trans hB.size hz)) c4 f10 (hs.at_ f10 (keep hB c4_h)) c5 f11 (hs.at_ f11 (keep hB c5_h)) c6 f12 (hs.at_ f12 (keep hB c6_h)) x⟩) (fun R hc => y_call r rfl cl123 hc) rfl ?_
 rintro _ w13 ⟨v14, rfl, hb, hr15⟩
 refine ⟨_, rfl, fun fr r => ?_⟩
 have z_w13 := hb.size
 have h_b1 := keep hb h_b1
 have h_b4 := keep hb h_b4
 obtain ⟨hB, zB⟩ := bon hb hB
 refine seq_upd (.cells v14.cells 39 (0, 0)) r (fun R => zz0c r hr15.shape rfl rfl h_b4 ts39 rfl) rfl fun fr w16 u17 r => ?_
 have z_w16 := u17.size
 have h_b1 := u17.keep h_b1 (by omega)
 have h_b4 := u17.at_
 obtain ⟨hB, zB⟩ := u17.on hB (by omega)
 refine wn ?_
 refine wp_ret ?_
 have hs := hr15.shape.cells
 refine zz0a r rfl rfl h_b4 (k := 8) hs.1 ta39 ?_
 rw [← hs.2.2]
 exact rfin hF hB hr15 u17 (by omega) (by omega) (by omega)

def D.zz5n (c0 : Int) (c1 : Seat) (c2 : Handle) (c3 : Int) (c4 : (Res → T Res)) (c5 : (Int → (Int → T Res) → T Res)) (c6 : Int) (a0 : Int) : T Res := (bif (a0 != c0) then (D.zz1m 3) else (T.bind (D.hazard_Set c1.p c1.thread 0 c2.index) (fun _ => (D.check_look_2_1 c3 c0 c4 c5 c1 c2 c6))))

theorem c_check_look_2 {n : Nat} {F : Nat → Prop} {w0 : World} (hF : ∀ b, F b → b < w0.heap.size)
    (c0 : Int) {c0_b : Nat} (c0_F : F c0_b) (c0_h : w0.heap[c0_b]? = some (.cells ([(.int .u64 c0)]).toArray 22 (0, 0))) (c1 : Seat) {c1_b : Nat} (c1_F : F c1_b) (c1_h : w0.heap[c1_b]? = some (.cells ((seatC c1)).toArray 29 (0, 0))) (c2 : Handle) {c2_b : Nat} (c2_F : F c2_b) (c2_h : w0.heap[c2_b]? = some (.cells ((handleC c2)).toArray 63 (0, 0))) (c3 : Int) {c3_b : Nat} (c3_F : F c3_b) (c3_h : w0.heap[c3_b]? = some (.cells ([(.int .i64 c3)]).toArray 3 (0, 0))) {c4_f : FuncId} {c4_1 c4_2 : List Value} {c4 : (Res → T Res)} {c4_b : Nat} (c4_F : F c4_b) (c4_h : w0.heap[c4_b]? = some (.cells #[.func (.func c4_f) c4_1.toArray c4_2.toArray] 265 (0, 0))) (c4_n : FnT Tryz.prog encRes argRes (n + 1) F w0 (.func (.func c4_f) c4_1.toArray c4_2.toArray) c4) {c5_f : FuncId} {c5_1 c5_2 : List Value} {c5 : (Int → (Int → T Res) → T Res)} {c5_b : Nat} (c5_F : F c5_b) (c5_h : w0.heap[c5_b]? = some (.cells #[.func (.func c5_f) c5_1.toArray c5_2.toArray] 198 (0, 0))) (c5_n : FnH Tryz.prog encRes F w0 (.func (.func c5_f) c5_1.toArray c5_2.toArray) c5) (c6 : Int) {c6_b : Nat} (c6_F : F c6_b) (c6_h : w0.heap[c6_b]? = some (.cells ([(.int .i64 c6)]).toArray 3 (0, 0))) (a0 : Int) :
    Calls Tryz.prog 220 #[.int .u64 a0, .pointer (some ⟨c0_b, 0, none⟩), .pointer (some ⟨c1_b, 0, none⟩), .pointer (some ⟨c2_b, 0, none⟩), .pointer (some ⟨c3_b, 0, none⟩), .pointer (some ⟨c4_b, 0, none⟩), .pointer (some ⟨c5_b, 0, none⟩), .pointer (some ⟨c6_b, 0, none⟩)] w0 (RepRes Tryz.prog encRes n (D.zz5n c0 c1 c2 c3 c4 c5 c6 a0) F w0) := by
 refine enter Tryz.func220 rfl 23 rfl rfl fun fr r => ?_
 have hB := Below.refl w0.heap.size w0
 have l_c0_b := lt_of_block c0_h
 have l_c1_b := lt_of_block c1_h
 have l_c2_b := lt_of_block c2_h
 have l_c3_b := lt_of_block c3_h
 have l_c4_b := lt_of_block c4_h
 have l_c5_b := lt_of_block c5_h
 have l_c6_b := lt_of_block c6_h
 refine wsr ?_
 refine seq_new (.cells (progCells false encRes.zero 0 0 0 0 .nilFunc) 39 (0, 0)) r (fun R => y_alloc tz39) rfl fun fr b1 w2 n3 r => ?_
 obtain ⟨e_b1, z_w2, h_b1, hB, zB⟩ := n3.all hB
 refine wn ?_
 refine wp_seq ?_
 refine wsr ?_
 refine seq_val (U a0) r (fun R => y_move r rfl) rfl fun fr r => ?_
 refine seq_val (U c0) r (fun R => zz01 r rfl (keep hB c0_h) to22 rfl) rfl fun fr r => ?_
 refine seq_val _ r (fun R => y_bin r rfl rfl rfl rfl) rfl fun fr r => ?_
 refine wn ?_
 refine wp_cond_split (t := (a0 != c0)) (r.ev rfl) (fun h4 => ?_) (fun h4 => ?_)
 ·
  refine wsr ?_
  have hF1 := fgrow hF hB b1
  refine zz06 r (zz2e (F := (fun b => F b ∨ (w0.heap.size ≤ b ∧ b < w2.heap.size ∧ b ≠ b1))) (n := n) hF1 3) (fun R hc => y_call r rfl cl112 hc) rfl ?_
  rintro _ w5 ⟨v6, rfl, hb, hr7⟩
  refine ⟨_, rfl, fun fr r => ?_⟩
  have z_w5 := hb.size
  have h_b1 := keep hb h_b1
  obtain ⟨hB, zB⟩ := bon hb hB
  refine seq_upd (.cells v6.cells 39 (0, 0)) r (fun R => zz0c r hr7.shape rfl rfl h_b1 ts39 rfl) rfl fun fr w8 u9 r => ?_
  have z_w8 := u9.size
  have h_b1 := u9.at_
  obtain ⟨hB, zB⟩ := u9.on hB (by omega)
  refine wn ?_
  refine wp_ret ?_
  have hd : D.zz5n c0 c1 c2 c3 c4 c5 c6 a0 = (D.zz1m 3) := (cond_t h4).trans (rfl)
  have hs := hr7.shape.cells
  refine zz0a r rfl rfl h_b1 (k := 8) hs.1 ta39 ?_
  rw [← hs.2.2, hd]
  exact rfin hF hB hr7 u9 (by omega) (by omega) (by omega)
 ·
  refine wp_skip ?_
  refine wsr ?_
  refine seq_val _ r (fun R => zz02 r (o := 0) rfl fo29_0) rfl fun fr r => ?_
  refine seq_val (.agg (planC c1.p).toArray) r (fun R => zz03 r (cs := (planC c1.p)) (n := 6) rfl (keep hB c1_h) ta25 rfl) rfl fun fr r => ?_
  refine seq_val _ r (fun R => zz02 r (o := 0) rfl fo29_2) rfl fun fr r => ?_
  refine seq_val (I c1.thread) r (fun R => zz01 r rfl (keep hB c1_h) to3 rfl) rfl fun fr r => ?_
  refine seq_val _ r (fun R => zz02 r (o := 0) rfl fo63_0) rfl fun fr r => ?_
  refine seq_val (I c2.index) r (fun R => zz01 r rfl (keep hB c2_h) to3 rfl) rfl fun fr r => ?_
  have hF1 := fgrow hF hB b1
  refine zz06 r (c_hazard_Set (F := (fun b => F b ∨ (w0.heap.size ≤ b ∧ b < w2.heap.size ∧ b ≠ b1))) (n := n) hF1 c1.p c1.thread 0 c2.index) (fun R hc => y_call r rfl cl218 hc) rfl ?_
  rintro _ w10 ⟨v11, rfl, hb, hr12⟩
  refine ⟨_, rfl, fun fr r => ?_⟩
  have z_w10 := hb.size
  have h_b1 := keep hb h_b1
  obtain ⟨hB, zB⟩ := bon hb hB
  refine seq_val (.func (.func 221) #[] #[.pointer (some ⟨c3_b, 0, none⟩), .pointer (some ⟨c0_b, 0, none⟩), .pointer (some ⟨c4_b, 0, none⟩), .pointer (some ⟨c5_b, 0, none⟩), .pointer (some ⟨c1_b, 0, none⟩), .pointer (some ⟨c2_b, 0, none⟩), .pointer (some ⟨c6_b, 0, none⟩)]) r (fun R => zz0o r rfl) rfl fun fr r => ?_
  have hF1 := fgrow hF hB b1
  have f13 : ((fun b => F b ∨ (w0.heap.size ≤ b ∧ b < w10.heap.size ∧ b ≠ b1))) c3_b := (.inl c3_F)
  have f14 : ((fun b => F b ∨ (w0.heap.size ≤ b ∧ b < w10.heap.size ∧ b ≠ b1))) c0_b := (.inl c0_F)
  have f15 : ((fun b => F b ∨ (w0.heap.size ≤ b ∧ b < w10.heap.size ∧ b ≠ b1))) c4_b := (.inl c4_F)
  have f16 : ((fun b => F b ∨ (w0.heap.size ≤ b ∧ b < w10.heap.size ∧ b ≠ b1))) c5_b := (.inl c5_F)
  have f17 : ((fun b => F b ∨ (w0.heap.size ≤ b ∧ b < w10.heap.size ∧ b ≠ b1))) c1_b := (.inl c1_F)
  have f18 : ((fun b => F b ∨ (w0.heap.size ≤ b ∧ b < w10.heap.size ∧ b ≠ b1))) c2_b := (.inl c2_F)
  have f19 : ((fun b => F b ∨ (w0.heap.size ≤ b ∧ b < w10.heap.size ∧ b ≠ b1))) c6_b := (.inl c6_F)
  refine zz06 r (zz4f (F := (fun b => F b ∨ (w0.heap.size ≤ b ∧ b < w10.heap.size ∧ b ≠ b1))) (n := n) hF1 (Rep.mono (by rintro b (h | h); (rcases h with h | ⟨h1, h2, h3⟩; exact .inl h; exact .inr ⟨h1, by omega, h3⟩); exact .inr ⟨by omega, by omega, by omega⟩) (Same.refl _ _) (by omega) n _ _ hr12) ⟨221, [], [.pointer (some ⟨c3_b, 0, none⟩), .pointer (some ⟨c0_b, 0, none⟩), .pointer (some ⟨c4_b, 0, none⟩), .pointer (some ⟨c5_b, 0, none⟩), .pointer (some ⟨c1_b, 0, none⟩), .pointer (some ⟨c2_b, 0, none⟩), .pointer (some ⟨c6_b, 0, none⟩)], cl221, rfl, fun m hm _ w' hs hz => c_check_look_2_1 (fun b hb => Nat.lt_of_lt_of_le (hF1 b hb) hz) c3 f13 (hs.at_ f13 (keep hB c3_h)) c0 f14 (hs.at_ f14 (keep hB c0_h)) f15 (hs.at_ f15 (keep hB c4_h)) (c4_n.mono (by omega) (fun b h => .inl h) ((Same.below hB hF).trans (hs.sub (fun b h => .inl h))) (Nat.le_trans hB.size hz)) f16 (hs.at_ f16 (keep hB c5_h)) (c5_n.mono (fun b h => .inl h) ((Same.below hB hF).trans (hs.sub (fun b h => .inl h))) (Nat.le_trans hB.size hz)) c1 f17 (hs.at_ f17 (keep hB c1_h)) c2 f18 (hs.at_ f18 (keep hB c2_h)) c6 f19 (hs.at_ f19 (keep hB c6_h))⟩) (fun R hc => y_call r rfl cl217 hc) rfl ?_
  rintro _ w20 ⟨v21, rfl, hb, hr22⟩
  refine ⟨_, rfl, fun fr r => ?_⟩
  have z_w20 := hb.size
  have h_b1 := keep hb h_b1
  obtain ⟨hB, zB⟩ := bon hb hB
  refine seq_upd (.cells v21.cells 39 (0, 0)) r (fun R => zz0c r hr22.shape rfl rfl h_b1 ts39 rfl) rfl fun fr w23 u24 r => ?_
  have z_w23 := u24.size
  have h_b1 := u24.at_
  obtain ⟨hB, zB⟩ := u24.on hB (by omega)
  refine wn ?_
  refine wp_ret ?_
  have hd : D.zz5n c0 c1 c2 c3 c4 c5 c6 a0 = (T.bind (D.hazard_Set c1.p c1.thread 0 c2.index) (fun _ => (D.check_look_2_1 c3 c0 c4 c5 c1 c2 c6))) := (cond_f h4).trans (rfl)
  have hs := hr22.shape.cells
  refine zz0a r rfl rfl h_b1 (k := 8) hs.1 ta39 ?_
  rw [← hs.2.2, hd]
  exact rfin hF hB hr22 u24 (by omega) (by omega) (by omega)

def D.zz4y (a0 : Seat) (a1 : Int) (a2 : Int) (a3 : (Int → (Int → T Res) → T Res)) : T Res := (bif (!(D.zz0u a0)) then (D.zz1m 1) else (bif (decide (a2 < 0)) then (D.zz1m 1) else (bif (decide (a2 ≥ 3)) then (D.zz1m 1) else (bif (!((D.zz07 a1 a0.tenant a0.p.nodes).2)) then (D.zz1m 3) else (D.zz3a (D.zz0h a0.p (((D.zz07 a1 a0.tenant a0.p.nodes).1).index)) (fun x => (D.zz5n (D.zz0e (D.zz26 ((D.zz07 a1 a0.tenant a0.p.nodes).1))) a0 ((D.zz07 a1 a0.tenant a0.p.nodes).1) (D.zz0h a0.p (((D.zz07 a1 a0.tenant a0.p.nodes).1).index)) (fun x => (D.zz6m a0 x)) a3 a2 x)))))))

theorem c_check_look {n : Nat} {F : Nat → Prop} {w0 : World} (hF : ∀ b, F b → b < w0.heap.size)
    (a0 : Seat) (a1 : Int) (a2 : Int) {a3_f : FuncId} {a3_1 a3_2 : List Value} {a3 : (Int → (Int → T Res) → T Res)} (a3_n : FnH Tryz.prog encRes F w0 (.func (.func a3_f) a3_1.toArray a3_2.toArray) a3) :
    Calls Tryz.prog 118 #[.agg (seatC a0).toArray, .int .u64 a1, .int .i64 a2, .func (.func a3_f) a3_1.toArray a3_2.toArray] w0 (RepRes Tryz.prog encRes n (D.zz4y a0 a1 a2 a3) F w0) := by
 refine enter Tryz.func118 rfl 51 rfl rfl fun fr r => ?_
 have hB := Below.refl w0.heap.size w0
 refine wsr ?_
 refine seq_new (.cells ((seatC a0)).toArray 29 (0, 0)) r (fun R => y_box r (v := (.agg (seatC a0).toArray)) rfl) rfl fun fr b1 w2 n3 r => ?_
 obtain ⟨e_b1, z_w2, h_b1, hB, zB⟩ := n3.all hB
 refine seq_new (.cells #[(I a2)] 3 (0, 0)) r (fun R => y_box r (v := (I a2)) rfl) rfl fun fr b4 w5 n6 r => ?_
 have h_b1 := keep n6.below h_b1
 obtain ⟨e_b4, z_w5, h_b4, hB, zB⟩ := n6.all hB
 refine seq_new (.cells #[.func (.func a3_f) a3_1.toArray a3_2.toArray] 198 (0, 0)) r (fun R => y_box r (v := (.func (.func a3_f) a3_1.toArray a3_2.toArray)) rfl) rfl fun fr b7 w8 n9 r => ?_
 have h_b1 := keep n9.below h_b1
 have h_b4 := keep n9.below h_b4
 obtain ⟨e_b7, z_w8, h_b7, hB, zB⟩ := n9.all hB
 refine seq_new (.cells (progCells false encRes.zero 0 0 0 0 .nilFunc) 39 (0, 0)) r (fun R => y_alloc tz39) rfl fun fr b10 w11 n12 r => ?_
 have h_b1 := keep n12.below h_b1
 have h_b4 := keep n12.below h_b4
 have h_b7 := keep n12.below h_b7
 obtain ⟨e_b10, z_w11, h_b10, hB, zB⟩ := n12.all hB
 refine wn ?_
 refine wp_seq ?_
 refine wsr ?_
 refine seq_val (.agg (seatC a0).toArray) r (fun R => zz03 r (cs := (seatC a0)) (n := 8) rfl h_b1 ta29 rfl) rfl fun fr r => ?_
 refine zz06 r (zz41 w11 a0) (fun R hc => y_call r rfl cl41 hc) rfl ?_
 rintro _ w13 ⟨rfl, hb⟩
 refine ⟨_, rfl, fun fr r => ?_⟩
 have z_w13 := hb.size
 have h_b1 := keep hb h_b1
 have h_b4 := keep hb h_b4
 have h_b7 := keep hb h_b7
 have h_b10 := keep hb h_b10
 obtain ⟨hB, zB⟩ := bon hb hB
 refine seq_val (.bool (!(D.zz0u a0))) r (fun R => y_un r (u := (.bool (D.zz0u a0))) rfl rfl) rfl fun fr r => ?_
 refine seq_val (.bool (!(D.zz0u a0))) r (fun R => y_move r rfl) rfl fun fr r => ?_
 refine zz0r (!(D.zz0u a0)) (fun h14 => ?_) (fun h14 => ?_)
 ·
  refine s0 r h14 fun fr r => ?_
  refine s0 r h14 fun fr r => ?_
  refine seq_val (.bool true) r (fun R => y_pick r (b := true) (congrArg Value.bool h14) rfl) rfl fun fr r => ?_
  refine seq_val (.bool true) r (fun R => y_move r rfl) rfl fun fr r => ?_
  refine s0 r (rfl : true = _) fun fr r => ?_
  refine s0 r (rfl : true = _) fun fr r => ?_
  refine seq_val (.bool true) r (fun R => y_pick r (b := true) (congrArg Value.bool (rfl : true = _)) rfl) rfl fun fr r => ?_
  refine wn ?_
  refine wp_cond_split (t := true) (r.ev rfl) (fun _ => ?_) (fun h => absurd ((rfl : true = _).symm.trans h) (by decide))
  refine wsr ?_
  have hF1 := fgrow hF hB b10
  refine zz06 r (zz2e (F := (fun b => F b ∨ (w0.heap.size ≤ b ∧ b < w13.heap.size ∧ b ≠ b10))) (n := n) hF1 1) (fun R hc => y_call r rfl cl112 hc) rfl ?_
  rintro _ w15 ⟨v16, rfl, hb, hr17⟩
  refine ⟨_, rfl, fun fr r => ?_⟩
  have z_w15 := hb.size
  have h_b1 := keep hb h_b1
  have h_b4 := keep hb h_b4
  have h_b7 := keep hb h_b7
  have h_b10 := keep hb h_b10
  obtain ⟨hB, zB⟩ := bon hb hB
  refine seq_upd (.cells v16.cells 39 (0, 0)) r (fun R => zz0c r hr17.shape rfl rfl h_b10 ts39 rfl) rfl fun fr w18 u19 r => ?_
  have z_w18 := u19.size
  have h_b1 := u19.keep h_b1 (by omega)
  have h_b4 := u19.keep h_b4 (by omega)
  have h_b7 := u19.keep h_b7 (by omega)
  have h_b10 := u19.at_
  obtain ⟨hB, zB⟩ := u19.on hB (by omega)
  refine wn ?_
  refine wp_ret ?_
  have hd : D.zz4y a0 a1 a2 a3 = (D.zz1m 1) := (cond_t h14).trans (rfl)
  have hs := hr17.shape.cells
  refine zz0a r rfl rfl h_b10 (k := 8) hs.1 ta39 ?_
  rw [← hs.2.2, hd]
  exact rfin hF hB hr17 u19 (by omega) (by omega) (by omega)
 ·
  refine s1 r h14 ?_
  refine seq_val (I a2) r (fun R => zz01 r rfl h_b4 to3 rfl) rfl fun fr r => ?_
  refine s1 r h14 ?_
  refine seq_val _ r (fun R => y_bin r rfl rfl rfl rfl) rfl fun fr r => ?_
  refine seq_val (.bool (decide (a2 < 0))) r (fun R => y_pick r (b := false) (congrArg Value.bool h14) rfl) rfl fun fr r => ?_
  refine seq_val (.bool (decide (a2 < 0))) r (fun R => y_move r rfl) rfl fun fr r => ?_
  refine zz0r (decide (a2 < 0)) (fun h20 => ?_) (fun h20 => ?_)
  ·
   refine s0 r h20 fun fr r => ?_
   refine s0 r h20 fun fr r => ?_
   refine seq_val (.bool true) r (fun R => y_pick r (b := true) (congrArg Value.bool h20) rfl) rfl fun fr r => ?_
   refine wn ?_
   refine wp_cond_split (t := true) (r.ev rfl) (fun _ => ?_) (fun h => absurd ((rfl : true = _).symm.trans h) (by decide))
   refine wsr ?_
   have hF1 := fgrow hF hB b10
   refine zz06 r (zz2e (F := (fun b => F b ∨ (w0.heap.size ≤ b ∧ b < w13.heap.size ∧ b ≠ b10))) (n := n) hF1 1) (fun R hc => y_call r rfl cl112 hc) rfl ?_
   rintro _ w21 ⟨v22, rfl, hb, hr23⟩
   refine ⟨_, rfl, fun fr r => ?_⟩
   have z_w21 := hb.size
   have h_b1 := keep hb h_b1
   have h_b4 := keep hb h_b4
   have h_b7 := keep hb h_b7
   have h_b10 := keep hb h_b10
   obtain ⟨hB, zB⟩ := bon hb hB
   refine seq_upd (.cells v22.cells 39 (0, 0)) r (fun R => zz0c r hr23.shape rfl rfl h_b10 ts39 rfl) rfl fun fr w24 u25 r => ?_
   have z_w24 := u25.size
   have h_b1 := u25.keep h_b1 (by omega)
   have h_b4 := u25.keep h_b4 (by omega)
   have h_b7 := u25.keep h_b7 (by omega)
   have h_b10 := u25.at_
   obtain ⟨hB, zB⟩ := u25.on hB (by omega)
   refine wn ?_
   refine wp_ret ?_
   have hd : D.zz4y a0 a1 a2 a3 = (D.zz1m 1) := (cond_f h14).trans ((cond_t h20).trans (rfl))
   have hs := hr23.shape.cells
   refine zz0a r rfl rfl h_b10 (k := 8) hs.1 ta39 ?_
   rw [← hs.2.2, hd]
   exact rfin hF hB hr23 u25 (by omega) (by omega) (by omega)
  ·
   refine s1 r h20 ?_
   refine seq_val (I a2) r (fun R => zz01 r rfl h_b4 to3 rfl) rfl fun fr r => ?_
   refine s1 r h20 ?_
   refine seq_val _ r (fun R => y_bin r rfl rfl rfl rfl) rfl fun fr r => ?_
   refine seq_val (.bool (decide (a2 ≥ 3))) r (fun R => y_pick r (b := false) (congrArg Value.bool h20) rfl) rfl fun fr r => ?_
   refine wn ?_
   refine wp_cond_split (t := (decide (a2 ≥ 3))) (r.ev rfl) (fun h26 => ?_) (fun h26 => ?_)
   ·
    refine wsr ?_
    have hF1 := fgrow hF hB b10
    refine zz06 r (zz2e (F := (fun b => F b ∨ (w0.heap.size ≤ b ∧ b < w13.heap.size ∧ b ≠ b10))) (n := n) hF1 1) (fun R hc => y_call r rfl cl112 hc) rfl ?_
    rintro _ w27 ⟨v28, rfl, hb, hr29⟩
    refine ⟨_, rfl, fun fr r => ?_⟩
    have z_w27 := hb.size
    have h_b1 := keep hb h_b1
    have h_b4 := keep hb h_b4
    have h_b7 := keep hb h_b7
    have h_b10 := keep hb h_b10
    obtain ⟨hB, zB⟩ := bon hb hB
    refine seq_upd (.cells v28.cells 39 (0, 0)) r (fun R => zz0c r hr29.shape rfl rfl h_b10 ts39 rfl) rfl fun fr w30 u31 r => ?_
    have z_w30 := u31.size
    have h_b1 := u31.keep h_b1 (by omega)
    have h_b4 := u31.keep h_b4 (by omega)
    have h_b7 := u31.keep h_b7 (by omega)
    have h_b10 := u31.at_
    obtain ⟨hB, zB⟩ := u31.on hB (by omega)
    refine wn ?_
    refine wp_ret ?_
    have hd : D.zz4y a0 a1 a2 a3 = (D.zz1m 1) := (cond_f h14).trans ((cond_f h20).trans ((cond_t h26).trans (rfl)))
    have hs := hr29.shape.cells
    refine zz0a r rfl rfl h_b10 (k := 8) hs.1 ta39 ?_
    rw [← hs.2.2, hd]
    exact rfin hF hB hr29 u31 (by omega) (by omega) (by omega)
   ·
    refine wp_skip ?_
    refine wsr ?_
    refine seq_val (U a1) r (fun R => y_move r rfl) rfl fun fr r => ?_
    refine seq_val _ r (fun R => zz02 r (o := 0) rfl fo29_1) rfl fun fr r => ?_
    refine seq_val (I a0.tenant) r (fun R => zz01 r rfl h_b1 to3 rfl) rfl fun fr r => ?_
    refine seq_val _ r (fun R => zz02 r (o := 0) rfl fo29_0) rfl fun fr r => ?_
    refine seq_val _ r (fun R => zz02 r (o := 0) rfl fo25_0) rfl fun fr r => ?_
    refine seq_val (I a0.p.nodes) r (fun R => zz01 r rfl h_b1 to3 rfl) rfl fun fr r => ?_
    refine zz06 r (c_handle_Mine w13 a1 a0.tenant a0.p.nodes) (fun R hc => y_call r rfl cl127 hc) rfl ?_
    rintro _ w32 ⟨rfl, hb⟩
    refine ⟨_, rfl, fun fr r => ?_⟩
    have z_w32 := hb.size
    have h_b1 := keep hb h_b1
    have h_b4 := keep hb h_b4
    have h_b7 := keep hb h_b7
    have h_b10 := keep hb h_b10
    obtain ⟨hB, zB⟩ := bon hb hB
    refine seq_val (.tuple #[(.agg (handleC (D.zz07 a1 a0.tenant a0.p.nodes).1).toArray), (.bool (D.zz07 a1 a0.tenant a0.p.nodes).2)]) r (fun R => y_move r rfl) rfl fun fr r => ?_
    refine seq_val (.agg (handleC (D.zz07 a1 a0.tenant a0.p.nodes).1).toArray) r (fun R => zz0t r (vs := #[(.agg (handleC (D.zz07 a1 a0.tenant a0.p.nodes).1).toArray), (.bool (D.zz07 a1 a0.tenant a0.p.nodes).2)]) rfl rfl) rfl fun fr r => ?_
    refine seq_val (.bool (D.zz07 a1 a0.tenant a0.p.nodes).2) r (fun R => zz0t r (vs := #[(.agg (handleC (D.zz07 a1 a0.tenant a0.p.nodes).1).toArray), (.bool (D.zz07 a1 a0.tenant a0.p.nodes).2)]) rfl rfl) rfl fun fr r => ?_
    refine seq_new (.cells ((handleC (⟨0, 0, 0⟩ : Handle))).toArray 63 (0, 0)) r (fun R => y_alloc tz63) rfl fun fr b33 w34 n35 r => ?_
    have h_b1 := keep n35.below h_b1
    have h_b4 := keep n35.below h_b4
    have h_b7 := keep n35.below h_b7
    have h_b10 := keep n35.below h_b10
    obtain ⟨e_b33, z_w34, h_b33, hB, zB⟩ := n35.all hB
    refine seq_upd (.cells ((handleC ((D.zz07 a1 a0.tenant a0.p.nodes).1))).toArray 63 (0, 0)) r (fun R => y_store r (o := 0) (v := (.agg (handleC (D.zz07 a1 a0.tenant a0.p.nodes).1).toArray)) rfl rfl h_b33 ts63 (Nat.le_of_ble_eq_true rfl) rfl rfl) rfl fun fr w36 u37 r => ?_
    have z_w36 := u37.size
    have h_b1 := u37.keep h_b1 (by omega)
    have h_b4 := u37.keep h_b4 (by omega)
    have h_b7 := u37.keep h_b7 (by omega)
    have h_b10 := u37.keep h_b10 (by omega)
    have h_b33 := u37.at_
    obtain ⟨hB, zB⟩ := u37.on hB (by omega)
    refine seq_val (.bool (D.zz07 a1 a0.tenant a0.p.nodes).2) r (fun R => zz04 r rfl) rfl fun fr r => ?_
    refine wn ?_
    refine wp_seq ?_
    refine wsr ?_
    refine seq_val (.bool (D.zz07 a1 a0.tenant a0.p.nodes).2) r (fun R => y_move r rfl) rfl fun fr r => ?_
    refine seq_val (.bool (!((D.zz07 a1 a0.tenant a0.p.nodes).2))) r (fun R => y_un r (u := (.bool (D.zz07 a1 a0.tenant a0.p.nodes).2)) rfl rfl) rfl fun fr r => ?_
    refine wn ?_
    refine wp_cond_split (t := (!((D.zz07 a1 a0.tenant a0.p.nodes).2))) (r.ev rfl) (fun h38 => ?_) (fun h38 => ?_)
    ·
     refine wsr ?_
     have hF1 := fgrow hF hB b10
     refine zz06 r (zz2e (F := (fun b => F b ∨ (w0.heap.size ≤ b ∧ b < w36.heap.size ∧ b ≠ b10))) (n := n) hF1 3) (fun R hc => y_call r rfl cl112 hc) rfl ?_
     rintro _ w39 ⟨v40, rfl, hb, hr41⟩
     refine ⟨_, rfl, fun fr r => ?_⟩
     have z_w39 := hb.size
     have h_b1 := keep hb h_b1
     have h_b4 := keep hb h_b4
     have h_b7 := keep hb h_b7
     have h_b10 := keep hb h_b10
     have h_b33 := keep hb h_b33
     obtain ⟨hB, zB⟩ := bon hb hB
     refine seq_upd (.cells v40.cells 39 (0, 0)) r (fun R => zz0c r hr41.shape rfl rfl h_b10 ts39 rfl) rfl fun fr w42 u43 r => ?_
     have z_w42 := u43.size
     have h_b1 := u43.keep h_b1 (by omega)
     have h_b4 := u43.keep h_b4 (by omega)
     have h_b7 := u43.keep h_b7 (by omega)
     have h_b33 := u43.keep h_b33 (by omega)
     have h_b10 := u43.at_
     obtain ⟨hB, zB⟩ := u43.on hB (by omega)
     refine wn ?_
     refine wp_ret ?_
     have hd : D.zz4y a0 a1 a2 a3 = (D.zz1m 3) := (cond_f h14).trans ((cond_f h20).trans ((cond_f h26).trans ((cond_t h38).trans (rfl))))
     have hs := hr41.shape.cells
     refine zz0a r rfl rfl h_b10 (k := 8) hs.1 ta39 ?_
     rw [← hs.2.2, hd]
     exact rfin hF hB hr41 u43 (by omega) (by omega) (by omega)
    ·
     refine wp_skip ?_
     refine wp_seq ?_
     refine zz43 [.val (.pointer (some ⟨b1, 0, none⟩)), .val (.agg (planC a0.p).toArray), .val (.pointer (some ⟨b33, 0, none⟩)), .val (I ((D.zz07 a1 a0.tenant a0.p.nodes).1).index), .val (I (D.zz0h a0.p (((D.zz07 a1 a0.tenant a0.p.nodes).1).index))), .val (.agg (handleC (D.zz07 a1 a0.tenant a0.p.nodes).1).toArray), .val (.agg (stateC (D.zz26 ((D.zz07 a1 a0.tenant a0.p.nodes).1))).toArray), .val (U (D.zz0e (D.zz26 ((D.zz07 a1 a0.tenant a0.p.nodes).1)))), .cell 3 1, .cell 22 1, .stored 8 #[(I (D.zz0h a0.p (((D.zz07 a1 a0.tenant a0.p.nodes).1).index)))] 3 1 rfl, .stored 9 #[(U (D.zz0e (D.zz26 ((D.zz07 a1 a0.tenant a0.p.nodes).1))))] 22 1 rfl] mixed r (by kernel_rfl) ?_ ?_
     ·
      refine fc r (fun fr1 g w' hb' hd r' => zz02 r' (b := b1) (o := 0) rfl fo29_0 bz) ?_
      refine fc r (fun fr1 g w' hb' hd r' => zz03 r' (cs := (planC a0.p)) (n := 6) (hd 0 rfl).1 (keep hb' h_b1) ta25 rfl bz) ?_
      refine fc r (fun fr1 g w' hb' hd r' => zz02 r' (b := b33) (o := 0) rfl fo63_0 bz) ?_
      refine fc r (fun fr1 g w' hb' hd r' => zz01 r' (hd 2 rfl).1 (keep hb' h_b33) to3 rfl bz) ?_
      refine fc r (fun fr1 g w' hb' hd r' => y_call r' (args := [(.agg (planC a0.p).toArray), (I ((D.zz07 a1 a0.tenant a0.p.nodes).1).index)]) (lc (hd 1 rfl).1 (lc (hd 3 rfl).1 l0)) cl68 ((zz2j _ a0.p (((D.zz07 a1 a0.tenant a0.p.nodes).1).index)).mono (by rintro _ w2 ⟨rfl, hb2⟩; exact ⟨_, rfl, hb2, rfl⟩))) ?_
      refine fc r (fun fr1 g w' hb' hd r' => zz03 r' (cs := (handleC ((D.zz07 a1 a0.tenant a0.p.nodes).1))) (n := 3) rfl (keep hb' h_b33) ta63 rfl bz) ?_
      refine fc r (fun fr1 g w' hb' hd r' => y_call r' (args := [(.agg (handleC (D.zz07 a1 a0.tenant a0.p.nodes).1).toArray)]) (lc (hd 5 rfl).1 l0) cl128 ((c_check_live _ ((D.zz07 a1 a0.tenant a0.p.nodes).1)).mono (by rintro _ w2 ⟨rfl, hb2⟩; exact ⟨_, rfl, hb2, rfl⟩))) ?_
      refine fc r (fun fr1 g w' hb' hd r' => y_call r' (args := [(.agg (stateC (D.zz26 ((D.zz07 a1 a0.tenant a0.p.nodes).1))).toArray)]) (lc (hd 6 rfl).1 l0) cl91 ((zz27 _ (D.zz26 ((D.zz07 a1 a0.tenant a0.p.nodes).1))).mono (by rintro _ w2 ⟨rfl, hb2⟩; exact ⟨_, rfl, hb2, rfl⟩))) ?_
      refine fc r (fun fr1 g w' hb' hd r' => y_alloc tz3 (fun b w2 n2 => ⟨n2.below, b, rfl, n2.eq, _, n2.at_, rfl⟩)) ?_
      refine fc r (fun fr1 g w' hb' hd r' => y_alloc tz22 (fun b w2 n2 => ⟨n2.below, b, rfl, n2.eq, _, n2.at_, rfl⟩)) ?_
      refine zz52 r rfl (fun fr1 g w' hb' hd r' => ?_) ?_
      · obtain ⟨hp, _, c, hc, hn⟩ := (hd 8 rfl).1; exact y_store r' (o := 0) (c := c) (v := (I (D.zz0h a0.p (((D.zz07 a1 a0.tenant a0.p.nodes).1).index)))) hp (hd 4 rfl).1 hc ts3 (by rw [hn]; exact Nat.le_of_ble_eq_true rfl) rfl (zz2m (hn.trans rfl)) (fun w2 u2 => ⟨u2, rfl⟩)
      refine zz52 r rfl (fun fr1 g w' hb' hd r' => ?_) ?_
      · obtain ⟨hp, _, c, hc, hn⟩ := (hd 9 rfl).1; exact y_store r' (o := 0) (c := c) (v := (U (D.zz0e (D.zz26 ((D.zz07 a1 a0.tenant a0.p.nodes).1))))) hp (hd 7 rfl).1 hc ts22 (by rw [hn]; exact Nat.le_of_ble_eq_true rfl) rfl (zz2m (hn.trans rfl)) (fun w2 u2 => ⟨u2, rfl⟩)
      exact zz1z
     ·
      intro fr gg w44 hb hΦ hap r
      obtain ⟨b45, ee_b45⟩ : ∃ b, b = (gg 8).lo := ⟨_, rfl⟩
      have g8 : (gg 8).v = .pointer (some ⟨b45, 0, none⟩) := by rw [ee_b45]; exact (hΦ 8 rfl).1.1
      have e_b45 : w36.heap.size ≤ b45 := by rw [ee_b45]; exact (hΦ 8 rfl).2.1
      have h_b45 : w44.heap[b45]? = some (.cells #[(I (D.zz0h a0.p (((D.zz07 a1 a0.tenant a0.p.nodes).1).index)))] 3 (0, 0)) := by rw [ee_b45]; exact (hΦ 10 rfl).1.2
      have l_b45 := lt_of_block h_b45
      have q_b45 : (gg 8).lo < (gg 8).hi := (hΦ 8 rfl).1.2.1
      obtain ⟨b46, ee_b46⟩ : ∃ b, b = (gg 9).lo := ⟨_, rfl⟩
      have g9 : (gg 9).v = .pointer (some ⟨b46, 0, none⟩) := by rw [ee_b46]; exact (hΦ 9 rfl).1.1
      have e_b46 : w36.heap.size ≤ b46 := by rw [ee_b46]; exact (hΦ 9 rfl).2.1
      have h_b46 : w44.heap[b46]? = some (.cells #[(U (D.zz0e (D.zz26 ((D.zz07 a1 a0.tenant a0.p.nodes).1))))] 22 (0, 0)) := by rw [ee_b46]; exact (hΦ 11 rfl).1.2
      have l_b46 := lt_of_block h_b46
      have q_b46 : (gg 9).lo < (gg 9).hi := (hΦ 9 rfl).1.2.1
      have ne_b45_b46 : b45 ≠ b46 := by have := hap 8 9 rfl; omega
      have r := r.congr (sc g9 (sc g8 (sc ((hΦ 7 rfl).1) (sc ((hΦ 6 rfl).1) (sc ((hΦ 5 rfl).1) (sc ((hΦ 4 rfl).1) (sc ((hΦ 3 rfl).1) (sc ((hΦ 2 rfl).1) (sc ((hΦ 1 rfl).1) (sc ((hΦ 0 rfl).1) rfl))))))))))
      have z_w44 := hb.size
      have h_b1 := keep hb h_b1
      have h_b4 := keep hb h_b4
      have h_b7 := keep hb h_b7
      have h_b10 := keep hb h_b10
      have h_b33 := keep hb h_b33
      obtain ⟨hB, zB⟩ := bon hb hB
      refine wsr ?_
      refine seq_val (.func (.func 216) #[] #[.pointer (some ⟨b1, 0, none⟩)]) r (fun R => zz0o r rfl) rfl fun fr r => ?_
      refine seq_new (.cells #[.nilFunc] 265 (0, 0)) r (fun R => y_alloc tz265) rfl fun fr b47 w48 n49 r => ?_
      have h_b1 := keep n49.below h_b1
      have h_b4 := keep n49.below h_b4
      have h_b7 := keep n49.below h_b7
      have h_b10 := keep n49.below h_b10
      have h_b33 := keep n49.below h_b33
      have h_b45 := keep n49.below h_b45
      have h_b46 := keep n49.below h_b46
      obtain ⟨e_b47, z_w48, h_b47, hB, zB⟩ := n49.all hB
      refine seq_upd (.cells #[.func (.func 216) #[] #[.pointer (some ⟨b1, 0, none⟩)]] 265 (0, 0)) r (fun R => y_store r (o := 0) (v := (.func (.func 216) #[] #[.pointer (some ⟨b1, 0, none⟩)])) rfl rfl h_b47 ts265 (Nat.le_of_ble_eq_true rfl) rfl rfl) rfl fun fr w50 u51 r => ?_
      have z_w50 := u51.size
      have h_b1 := u51.keep h_b1 (by omega)
      have h_b4 := u51.keep h_b4 (by omega)
      have h_b7 := u51.keep h_b7 (by omega)
      have h_b10 := u51.keep h_b10 (by omega)
      have h_b33 := u51.keep h_b33 (by omega)
      have h_b45 := u51.keep h_b45 (by omega)
      have h_b46 := u51.keep h_b46 (by omega)
      have h_b47 := u51.at_
      obtain ⟨hB, zB⟩ := u51.on hB (by omega)
      refine wn ?_
      refine wsr ?_
      refine seq_val (I (D.zz0h a0.p (((D.zz07 a1 a0.tenant a0.p.nodes).1).index))) r (fun R => zz01 r rfl h_b45 to3 rfl) rfl fun fr r => ?_
      refine seq_val (.func (.func 220) #[] #[.pointer (some ⟨b46, 0, none⟩), .pointer (some ⟨b1, 0, none⟩), .pointer (some ⟨b33, 0, none⟩), .pointer (some ⟨b45, 0, none⟩), .pointer (some ⟨b47, 0, none⟩), .pointer (some ⟨b7, 0, none⟩), .pointer (some ⟨b4, 0, none⟩)]) r (fun R => zz0o r rfl) rfl fun fr r => ?_
      have hF1 := fgrow hF hB b10
      have f52 : ((fun b => F b ∨ (w0.heap.size ≤ b ∧ b < w50.heap.size ∧ b ≠ b10))) b46 := (.inr ⟨by omega, by omega, by omega⟩)
      have f53 : ((fun b => F b ∨ (w0.heap.size ≤ b ∧ b < w50.heap.size ∧ b ≠ b10))) b1 := (.inr ⟨by omega, by omega, by omega⟩)
      have f54 : ((fun b => F b ∨ (w0.heap.size ≤ b ∧ b < w50.heap.size ∧ b ≠ b10))) b33 := (.inr ⟨by omega, by omega, by omega⟩)
      have f55 : ((fun b => F b ∨ (w0.heap.size ≤ b ∧ b < w50.heap.size ∧ b ≠ b10))) b45 := (.inr ⟨by omega, by omega, by omega⟩)
      have f56 : ((fun b => F b ∨ (w0.heap.size ≤ b ∧ b < w50.heap.size ∧ b ≠ b10))) b47 := (.inr ⟨by omega, by omega, by omega⟩)
      have f58 : ((fun b => F b ∨ (w0.heap.size ≤ b ∧ b < w50.heap.size ∧ b ≠ b10))) b1 := (.inr ⟨by omega, by omega, by omega⟩)
      have q57 : FnT Tryz.prog encRes argRes (n) (fun b => F b ∨ (w0.heap.size ≤ b ∧ b < w50.heap.size ∧ b ≠ b10)) w50 (.func (.func 216) #[] #[.pointer (some ⟨b1, 0, none⟩)]) (fun x => (D.zz6m a0 x)) := ⟨216, [], [.pointer (some ⟨b1, 0, none⟩)], cl216, rfl, fun m hm x w' hs hz => c_check_look_1 (fun b hb => Nat.lt_of_lt_of_le (hF1 b hb) hz) a0 f58 (hs.at_ f58 h_b1) x⟩
      have f59 : ((fun b => F b ∨ (w0.heap.size ≤ b ∧ b < w50.heap.size ∧ b ≠ b10))) b7 := (.inr ⟨by omega, by omega, by omega⟩)
      have f60 : ((fun b => F b ∨ (w0.heap.size ≤ b ∧ b < w50.heap.size ∧ b ≠ b10))) b4 := (.inr ⟨by omega, by omega, by omega⟩)
      refine zz06 r (zz4r (F := (fun b => F b ∨ (w0.heap.size ≤ b ∧ b < w50.heap.size ∧ b ≠ b10))) (n := n) hF1 (D.zz0h a0.p (((D.zz07 a1 a0.tenant a0.p.nodes).1).index)) ⟨220, [], [.pointer (some ⟨b46, 0, none⟩), .pointer (some ⟨b1, 0, none⟩), .pointer (some ⟨b33, 0, none⟩), .pointer (some ⟨b45, 0, none⟩), .pointer (some ⟨b47, 0, none⟩), .pointer (some ⟨b7, 0, none⟩), .pointer (some ⟨b4, 0, none⟩)], cl220, rfl, fun m hm x w' hs hz => c_check_look_2 (fun b hb => Nat.lt_of_lt_of_le (hF1 b hb) hz) (D.zz0e (D.zz26 ((D.zz07 a1 a0.tenant a0.p.nodes).1))) f52 (hs.at_ f52 h_b46) a0 f53 (hs.at_ f53 h_b1) ((D.zz07 a1 a0.tenant a0.p.nodes).1) f54 (hs.at_ f54 h_b33) (D.zz0h a0.p (((D.zz07 a1 a0.tenant a0.p.nodes).1).index)) f55 (hs.at_ f55 h_b45) f56 (hs.at_ f56 h_b47) (q57.mono (by omega) (fun b h => h) hs hz) f59 (hs.at_ f59 h_b7) (a3_n.mono (fun b h => .inl h) ((Same.below hB hF).trans (hs.sub (fun b h => .inl h))) (Nat.le_trans hB.size hz)) a2 f60 (hs.at_ f60 h_b4) x⟩) (fun R hc => y_call r rfl cl123 hc) rfl ?_
      rintro _ w61 ⟨v62, rfl, hb, hr63⟩
      refine ⟨_, rfl, fun fr r => ?_⟩
      have z_w61 := hb.size
      have h_b1 := keep hb h_b1
      have h_b4 := keep hb h_b4
      have h_b7 := keep hb h_b7
      have h_b10 := keep hb h_b10
      have h_b33 := keep hb h_b33
      have h_b45 := keep hb h_b45
      have h_b46 := keep hb h_b46
      have h_b47 := keep hb h_b47
      obtain ⟨hB, zB⟩ := bon hb hB
      refine seq_upd (.cells v62.cells 39 (0, 0)) r (fun R => zz0c r hr63.shape rfl rfl h_b10 ts39 rfl) rfl fun fr w64 u65 r => ?_
      have z_w64 := u65.size
      have h_b1 := u65.keep h_b1 (by omega)
      have h_b4 := u65.keep h_b4 (by omega)
      have h_b7 := u65.keep h_b7 (by omega)
      have h_b33 := u65.keep h_b33 (by omega)
      have h_b45 := u65.keep h_b45 (by omega)
      have h_b46 := u65.keep h_b46 (by omega)
      have h_b47 := u65.keep h_b47 (by omega)
      have h_b10 := u65.at_
      obtain ⟨hB, zB⟩ := u65.on hB (by omega)
      refine wn ?_
      refine wp_ret ?_
      have hd : D.zz4y a0 a1 a2 a3 = (D.zz3a (D.zz0h a0.p (((D.zz07 a1 a0.tenant a0.p.nodes).1).index)) (fun x => (D.zz5n (D.zz0e (D.zz26 ((D.zz07 a1 a0.tenant a0.p.nodes).1))) a0 ((D.zz07 a1 a0.tenant a0.p.nodes).1) (D.zz0h a0.p (((D.zz07 a1 a0.tenant a0.p.nodes).1).index)) (fun x => (D.zz6m a0 x)) a3 a2 x))) := (cond_f h14).trans ((cond_f h20).trans ((cond_f h26).trans ((cond_f h38).trans (rfl))))
      have hs := hr63.shape.cells
      refine zz0a r rfl rfl h_b10 (k := 8) hs.1 ta39 ?_
      rw [← hs.2.2, hd]
      exact rfin hF hB hr63 u65 (by omega) (by omega) (by omega)

def D.check_Read_1 (a0 : Int) (a1 : (Int → T Res)) : T Res := (D.zz3a a0 a1)

theorem c_check_Read_1 {n : Nat} {F : Nat → Prop} {w0 : World} (hF : ∀ b, F b → b < w0.heap.size)
    (a0 : Int) {a1_f : FuncId} {a1_1 a1_2 : List Value} {a1 : (Int → T Res)} (a1_n : FnT Tryz.prog encRes u64 (n) F w0 (.func (.func a1_f) a1_1.toArray a1_2.toArray) a1) :
    Calls Tryz.prog 122 #[.int .i64 a0, .func (.func a1_f) a1_1.toArray a1_2.toArray] w0 (RepRes Tryz.prog encRes n (D.check_Read_1 a0 a1) F w0) := by
 refine enter Tryz.func122 rfl 8 rfl rfl fun fr r => ?_
 have hB := Below.refl w0.heap.size w0
 refine wsr ?_
 refine seq_new (.cells (progCells false encRes.zero 0 0 0 0 .nilFunc) 39 (0, 0)) r (fun R => y_alloc tz39) rfl fun fr b1 w2 n3 r => ?_
 obtain ⟨e_b1, z_w2, h_b1, hB, zB⟩ := n3.all hB
 refine wn ?_
 refine wsr ?_
 refine seq_val (I a0) r (fun R => y_move r rfl) rfl fun fr r => ?_
 refine seq_val (.func (.func a1_f) a1_1.toArray a1_2.toArray) r (fun R => y_move r rfl) rfl fun fr r => ?_
 have hF1 := fgrow hF hB b1
 refine zz06 r (zz4r (F := (fun b => F b ∨ (w0.heap.size ≤ b ∧ b < w2.heap.size ∧ b ≠ b1))) (n := n) hF1 a0 (a1_n.mono (by omega) (fun b h => .inl h) (Same.below hB hF) hB.size)) (fun R hc => y_call r rfl cl123 hc) rfl ?_
 rintro _ w4 ⟨v5, rfl, hb, hr6⟩
 refine ⟨_, rfl, fun fr r => ?_⟩
 have z_w4 := hb.size
 have h_b1 := keep hb h_b1
 obtain ⟨hB, zB⟩ := bon hb hB
 refine seq_upd (.cells v5.cells 39 (0, 0)) r (fun R => zz0c r hr6.shape rfl rfl h_b1 ts39 rfl) rfl fun fr w7 u8 r => ?_
 have z_w7 := u8.size
 have h_b1 := u8.at_
 obtain ⟨hB, zB⟩ := u8.on hB (by omega)
 refine wn ?_
 refine wp_ret ?_
 have hs := hr6.shape.cells
 refine zz0a r rfl rfl h_b1 (k := 8) hs.1 ta39 ?_
 rw [← hs.2.2]
 exact rfin hF hB hr6 u8 (by omega) (by omega) (by omega)

def D.zz45 (a0 : Seat) (a1 : Int) (a2 : Int) : T Res := (D.zz4y a0 a1 a2 (fun x y => (D.check_Read_1 x y)))

theorem c_check_Read {n : Nat} {F : Nat → Prop} {w0 : World} (hF : ∀ b, F b → b < w0.heap.size)
    (a0 : Seat) (a1 : Int) (a2 : Int) :
    Calls Tryz.prog 33 #[.agg (seatC a0).toArray, .int .u64 a1, .int .i64 a2] w0 (RepRes Tryz.prog encRes n (D.zz45 a0 a1 a2) F w0) := by
 refine enter Tryz.func33 rfl 11 rfl rfl fun fr r => ?_
 have hB := Below.refl w0.heap.size w0
 refine wsr ?_
 refine seq_new (.cells ((seatC a0)).toArray 29 (0, 0)) r (fun R => y_box r (v := (.agg (seatC a0).toArray)) rfl) rfl fun fr b1 w2 n3 r => ?_
 obtain ⟨e_b1, z_w2, h_b1, hB, zB⟩ := n3.all hB
 refine seq_new (.cells (progCells false encRes.zero 0 0 0 0 .nilFunc) 39 (0, 0)) r (fun R => y_alloc tz39) rfl fun fr b4 w5 n6 r => ?_
 have h_b1 := keep n6.below h_b1
 obtain ⟨e_b4, z_w5, h_b4, hB, zB⟩ := n6.all hB
 refine wn ?_
 refine wsr ?_
 refine seq_val (.agg (seatC a0).toArray) r (fun R => zz03 r (cs := (seatC a0)) (n := 8) rfl h_b1 ta29 rfl) rfl fun fr r => ?_
 refine seq_val (U a1) r (fun R => y_move r rfl) rfl fun fr r => ?_
 refine seq_val (I a2) r (fun R => y_move r rfl) rfl fun fr r => ?_
 have hF1 := fgrow hF hB b4
 refine zz06 r (c_check_look (F := (fun b => F b ∨ (w0.heap.size ≤ b ∧ b < w5.heap.size ∧ b ≠ b4))) (n := n) hF1 a0 a1 a2 ⟨122, [], [], cl122, rfl, fun m x nf n1 n2 g F1 w1 hsu hs hz hF1' hg => c_check_Read_1 hF1'  x hg⟩) (fun R hc => y_call r rfl cl118 hc) rfl ?_
 rintro _ w7 ⟨v8, rfl, hb, hr9⟩
 refine ⟨_, rfl, fun fr r => ?_⟩
 have z_w7 := hb.size
 have h_b1 := keep hb h_b1
 have h_b4 := keep hb h_b4
 obtain ⟨hB, zB⟩ := bon hb hB
 refine seq_upd (.cells v8.cells 39 (0, 0)) r (fun R => zz0c r hr9.shape rfl rfl h_b4 ts39 rfl) rfl fun fr w10 u11 r => ?_
 have z_w10 := u11.size
 have h_b1 := u11.keep h_b1 (by omega)
 have h_b4 := u11.at_
 obtain ⟨hB, zB⟩ := u11.on hB (by omega)
 refine wn ?_
 refine wp_ret ?_
 have hs := hr9.shape.cells
 refine zz0a r rfl rfl h_b4 (k := 8) hs.1 ta39 ?_
 rw [← hs.2.2]
 exact rfin hF hB hr9 u11 (by omega) (by omega) (by omega)

def D.zz59 (c0 : (Int → T Res)) (a0 : Bool) : T Res := (bif a0 then (c0 1) else (c0 0))

theorem c_check_Swap_1_1 {n : Nat} {F : Nat → Prop} {w0 : World} (hF : ∀ b, F b → b < w0.heap.size)
    {c0_f : FuncId} {c0_1 c0_2 : List Value} {c0 : (Int → T Res)} {c0_b : Nat} (c0_F : F c0_b) (c0_h : w0.heap[c0_b]? = some (.cells #[.func (.func c0_f) c0_1.toArray c0_2.toArray] 37 (0, 0))) (c0_n : FnT Tryz.prog encRes u64 (n + 1) F w0 (.func (.func c0_f) c0_1.toArray c0_2.toArray) c0) (a0 : Bool) :
    Calls Tryz.prog 126 #[.bool a0, .pointer (some ⟨c0_b, 0, none⟩)] w0 (RepRes Tryz.prog encRes n (D.zz59 c0 a0) F w0) := by
 refine enter Tryz.func126 rfl 9 rfl rfl fun fr r => ?_
 have hB := Below.refl w0.heap.size w0
 have l_c0_b := lt_of_block c0_h
 refine wsr ?_
 refine seq_new (.cells (progCells false encRes.zero 0 0 0 0 .nilFunc) 39 (0, 0)) r (fun R => y_alloc tz39) rfl fun fr b1 w2 n3 r => ?_
 obtain ⟨e_b1, z_w2, h_b1, hB, zB⟩ := n3.all hB
 refine wn ?_
 refine wp_seq ?_
 refine wsr ?_
 refine seq_val (.bool a0) r (fun R => y_move r rfl) rfl fun fr r => ?_
 refine wn ?_
 refine wp_cond_split (t := a0) (r.ev rfl) (fun h4 => ?_) (fun h4 => ?_)
 ·
  refine wsr ?_
  refine seq_val (.func (.func c0_f) c0_1.toArray c0_2.toArray) r (fun R => zz01 r rfl (keep hB c0_h) to37 rfl) rfl fun fr r => ?_
  refine zz06 r (c0_n.at_.2 n (Nat.lt_succ_self n) 1 w2 (Same.below hB hF) hB.size) (fun R hc => zz3z r rfl rfl c0_n.at_.1 hc) rfl ?_
  rintro _ w5 ⟨v6, rfl, hb, hr7⟩
  refine ⟨_, rfl, fun fr r => ?_⟩
  have z_w5 := hb.size
  have h_b1 := keep hb h_b1
  obtain ⟨hB, zB⟩ := bon hb hB
  refine seq_upd (.cells v6.cells 39 (0, 0)) r (fun R => zz0c r hr7.shape rfl rfl h_b1 ts39 rfl) rfl fun fr w8 u9 r => ?_
  have z_w8 := u9.size
  have h_b1 := u9.at_
  obtain ⟨hB, zB⟩ := u9.on hB (by omega)
  refine wn ?_
  refine wp_ret ?_
  have hd : D.zz59 c0 a0 = (c0 1) := (cond_t h4).trans (rfl)
  have hs := hr7.shape.cells
  refine zz0a r rfl rfl h_b1 (k := 8) hs.1 ta39 ?_
  rw [← hs.2.2, hd]
  exact RepRes.fin hB hr7 u9 (fun b hb => .inl hb) (fun h => by have := hF _ h; omega) (by omega) (by omega) (by omega)
 ·
  refine wp_skip ?_
  refine wsr ?_
  refine seq_val (.func (.func c0_f) c0_1.toArray c0_2.toArray) r (fun R => zz01 r rfl (keep hB c0_h) to37 rfl) rfl fun fr r => ?_
  refine zz06 r (c0_n.at_.2 n (Nat.lt_succ_self n) 0 w2 (Same.below hB hF) hB.size) (fun R hc => zz3z r rfl rfl c0_n.at_.1 hc) rfl ?_
  rintro _ w10 ⟨v11, rfl, hb, hr12⟩
  refine ⟨_, rfl, fun fr r => ?_⟩
  have z_w10 := hb.size
  have h_b1 := keep hb h_b1
  obtain ⟨hB, zB⟩ := bon hb hB
  refine seq_upd (.cells v11.cells 39 (0, 0)) r (fun R => zz0c r hr12.shape rfl rfl h_b1 ts39 rfl) rfl fun fr w13 u14 r => ?_
  have z_w13 := u14.size
  have h_b1 := u14.at_
  obtain ⟨hB, zB⟩ := u14.on hB (by omega)
  refine wn ?_
  refine wp_ret ?_
  have hd : D.zz59 c0 a0 = (c0 0) := (cond_f h4).trans (rfl)
  have hs := hr12.shape.cells
  refine zz0a r rfl rfl h_b1 (k := 8) hs.1 ta39 ?_
  rw [← hs.2.2, hd]
  exact RepRes.fin hB hr12 u14 (fun b hb => .inl hb) (fun h => by have := hF _ h; omega) (by omega) (by omega) (by omega)

def D.check_Swap_1 (c0 : Int) (c1 : Int) (a0 : Int) (a1 : (Int → T Res)) : T Res := (D.zz5r a0 c0 c1 (fun x => (D.zz59 a1 x)))

theorem c_check_Swap_1 {n : Nat} {F : Nat → Prop} {w0 : World} (hF : ∀ b, F b → b < w0.heap.size)
    (c0 : Int) {c0_b : Nat} (c0_F : F c0_b) (c0_h : w0.heap[c0_b]? = some (.cells ([(.int .u64 c0)]).toArray 22 (0, 0))) (c1 : Int) {c1_b : Nat} (c1_F : F c1_b) (c1_h : w0.heap[c1_b]? = some (.cells ([(.int .u64 c1)]).toArray 22 (0, 0))) (a0 : Int) {a1_f : FuncId} {a1_1 a1_2 : List Value} {a1 : (Int → T Res)} (a1_n : FnT Tryz.prog encRes u64 (n) F w0 (.func (.func a1_f) a1_1.toArray a1_2.toArray) a1) :
    Calls Tryz.prog 124 #[.int .i64 a0, .func (.func a1_f) a1_1.toArray a1_2.toArray, .pointer (some ⟨c0_b, 0, none⟩), .pointer (some ⟨c1_b, 0, none⟩)] w0 (RepRes Tryz.prog encRes n (D.check_Swap_1 c0 c1 a0 a1) F w0) := by
 refine enter Tryz.func124 rfl 12 rfl rfl fun fr r => ?_
 have hB := Below.refl w0.heap.size w0
 have l_c0_b := lt_of_block c0_h
 have l_c1_b := lt_of_block c1_h
 refine wsr ?_
 refine seq_new (.cells #[.func (.func a1_f) a1_1.toArray a1_2.toArray] 37 (0, 0)) r (fun R => y_box r (v := (.func (.func a1_f) a1_1.toArray a1_2.toArray)) rfl) rfl fun fr b1 w2 n3 r => ?_
 obtain ⟨e_b1, z_w2, h_b1, hB, zB⟩ := n3.all hB
 refine seq_new (.cells (progCells false encRes.zero 0 0 0 0 .nilFunc) 39 (0, 0)) r (fun R => y_alloc tz39) rfl fun fr b4 w5 n6 r => ?_
 have h_b1 := keep n6.below h_b1
 obtain ⟨e_b4, z_w5, h_b4, hB, zB⟩ := n6.all hB
 refine wn ?_
 refine wsr ?_
 refine seq_val (I a0) r (fun R => y_move r rfl) rfl fun fr r => ?_
 refine seq_val (U c0) r (fun R => zz01 r rfl (keep hB c0_h) to22 rfl) rfl fun fr r => ?_
 refine seq_val (U c1) r (fun R => zz01 r rfl (keep hB c1_h) to22 rfl) rfl fun fr r => ?_
 refine seq_val (.func (.func 126) #[] #[.pointer (some ⟨b1, 0, none⟩)]) r (fun R => zz0o r rfl) rfl fun fr r => ?_
 have hF1 := fgrow hF hB b4
 have f7 : ((fun b => F b ∨ (w0.heap.size ≤ b ∧ b < w5.heap.size ∧ b ≠ b4))) b1 := (.inr ⟨by omega, by omega, by omega⟩)
 refine zz06 r (c_prog_Swap_Res (F := (fun b => F b ∨ (w0.heap.size ≤ b ∧ b < w5.heap.size ∧ b ≠ b4))) (n := n) hF1 a0 c0 c1 ⟨126, [], [.pointer (some ⟨b1, 0, none⟩)], cl126, rfl, fun m hm x w' hs hz => c_check_Swap_1_1 (fun b hb => Nat.lt_of_lt_of_le (hF1 b hb) hz) f7 (hs.at_ f7 h_b1) (a1_n.mono (by omega) (fun b h => .inl h) ((Same.below hB hF).trans (hs.sub (fun b h => .inl h))) (Nat.le_trans hB.size hz)) x⟩) (fun R hc => y_call r rfl cl125 hc) rfl ?_
 rintro _ w8 ⟨v9, rfl, hb, hr10⟩
 refine ⟨_, rfl, fun fr r => ?_⟩
 have z_w8 := hb.size
 have h_b1 := keep hb h_b1
 have h_b4 := keep hb h_b4
 obtain ⟨hB, zB⟩ := bon hb hB
 refine seq_upd (.cells v9.cells 39 (0, 0)) r (fun R => zz0c r hr10.shape rfl rfl h_b4 ts39 rfl) rfl fun fr w11 u12 r => ?_
 have z_w11 := u12.size
 have h_b1 := u12.keep h_b1 (by omega)
 have h_b4 := u12.at_
 obtain ⟨hB, zB⟩ := u12.on hB (by omega)
 refine wn ?_
 refine wp_ret ?_
 have hs := hr10.shape.cells
 refine zz0a r rfl rfl h_b4 (k := 8) hs.1 ta39 ?_
 rw [← hs.2.2]
 exact rfin hF hB hr10 u12 (by omega) (by omega) (by omega)

def D.zz1i (a0 : Seat) (a1 : Int) (a2 : Int) (a3 : Int) (a4 : Int) : T Res := (D.zz4y a0 a1 a2 (fun x y => (D.check_Swap_1 a3 a4 x y)))

theorem c_check_Swap {n : Nat} {F : Nat → Prop} {w0 : World} (hF : ∀ b, F b → b < w0.heap.size)
    (a0 : Seat) (a1 : Int) (a2 : Int) (a3 : Int) (a4 : Int) :
    Calls Tryz.prog 34 #[.agg (seatC a0).toArray, .int .u64 a1, .int .i64 a2, .int .u64 a3, .int .u64 a4] w0 (RepRes Tryz.prog encRes n (D.zz1i a0 a1 a2 a3 a4) F w0) := by
 refine enter Tryz.func34 rfl 16 rfl rfl fun fr r => ?_
 have hB := Below.refl w0.heap.size w0
 refine wsr ?_
 refine seq_new (.cells ((seatC a0)).toArray 29 (0, 0)) r (fun R => y_box r (v := (.agg (seatC a0).toArray)) rfl) rfl fun fr b1 w2 n3 r => ?_
 obtain ⟨e_b1, z_w2, h_b1, hB, zB⟩ := n3.all hB
 refine seq_new (.cells #[(U a3)] 22 (0, 0)) r (fun R => y_box r (v := (U a3)) rfl) rfl fun fr b4 w5 n6 r => ?_
 have h_b1 := keep n6.below h_b1
 obtain ⟨e_b4, z_w5, h_b4, hB, zB⟩ := n6.all hB
 refine seq_new (.cells #[(U a4)] 22 (0, 0)) r (fun R => y_box r (v := (U a4)) rfl) rfl fun fr b7 w8 n9 r => ?_
 have h_b1 := keep n9.below h_b1
 have h_b4 := keep n9.below h_b4
 obtain ⟨e_b7, z_w8, h_b7, hB, zB⟩ := n9.all hB
 refine seq_new (.cells (progCells false encRes.zero 0 0 0 0 .nilFunc) 39 (0, 0)) r (fun R => y_alloc tz39) rfl fun fr b10 w11 n12 r => ?_
 have h_b1 := keep n12.below h_b1
 have h_b4 := keep n12.below h_b4
 have h_b7 := keep n12.below h_b7
 obtain ⟨e_b10, z_w11, h_b10, hB, zB⟩ := n12.all hB
 refine wn ?_
 refine wsr ?_
 refine seq_val (.agg (seatC a0).toArray) r (fun R => zz03 r (cs := (seatC a0)) (n := 8) rfl h_b1 ta29 rfl) rfl fun fr r => ?_
 refine seq_val (U a1) r (fun R => y_move r rfl) rfl fun fr r => ?_
 refine seq_val (I a2) r (fun R => y_move r rfl) rfl fun fr r => ?_
 refine seq_val (.func (.func 124) #[] #[.pointer (some ⟨b4, 0, none⟩), .pointer (some ⟨b7, 0, none⟩)]) r (fun R => zz0o r rfl) rfl fun fr r => ?_
 have hF1 := fgrow hF hB b10
 have f13 : ((fun b => F b ∨ (w0.heap.size ≤ b ∧ b < w11.heap.size ∧ b ≠ b10))) b4 := (.inr ⟨by omega, by omega, by omega⟩)
 have f14 : ((fun b => F b ∨ (w0.heap.size ≤ b ∧ b < w11.heap.size ∧ b ≠ b10))) b7 := (.inr ⟨by omega, by omega, by omega⟩)
 refine zz06 r (c_check_look (F := (fun b => F b ∨ (w0.heap.size ≤ b ∧ b < w11.heap.size ∧ b ≠ b10))) (n := n) hF1 a0 a1 a2 ⟨124, [], [.pointer (some ⟨b4, 0, none⟩), .pointer (some ⟨b7, 0, none⟩)], cl124, rfl, fun m x nf n1 n2 g F1 w1 hsu hs hz hF1' hg => c_check_Swap_1 hF1' a3 (hsu _ (show ((fun b => F b ∨ (w0.heap.size ≤ b ∧ b < w11.heap.size ∧ b ≠ b10))) b4 from (.inr ⟨by omega, by omega, by omega⟩))) (hs.at_ (show ((fun b => F b ∨ (w0.heap.size ≤ b ∧ b < w11.heap.size ∧ b ≠ b10))) b4 from (.inr ⟨by omega, by omega, by omega⟩)) h_b4) a4 (hsu _ (show ((fun b => F b ∨ (w0.heap.size ≤ b ∧ b < w11.heap.size ∧ b ≠ b10))) b7 from (.inr ⟨by omega, by omega, by omega⟩))) (hs.at_ (show ((fun b => F b ∨ (w0.heap.size ≤ b ∧ b < w11.heap.size ∧ b ≠ b10))) b7 from (.inr ⟨by omega, by omega, by omega⟩)) h_b7) x hg⟩) (fun R hc => y_call r rfl cl118 hc) rfl ?_
 rintro _ w15 ⟨v16, rfl, hb, hr17⟩
 refine ⟨_, rfl, fun fr r => ?_⟩
 have z_w15 := hb.size
 have h_b1 := keep hb h_b1
 have h_b4 := keep hb h_b4
 have h_b7 := keep hb h_b7
 have h_b10 := keep hb h_b10
 obtain ⟨hB, zB⟩ := bon hb hB
 refine seq_upd (.cells v16.cells 39 (0, 0)) r (fun R => zz0c r hr17.shape rfl rfl h_b10 ts39 rfl) rfl fun fr w18 u19 r => ?_
 have z_w18 := u19.size
 have h_b1 := u19.keep h_b1 (by omega)
 have h_b4 := u19.keep h_b4 (by omega)
 have h_b7 := u19.keep h_b7 (by omega)
 have h_b10 := u19.at_
 obtain ⟨hB, zB⟩ := u19.on hB (by omega)
 refine wn ?_
 refine wp_ret ?_
 have hs := hr17.shape.cells
 refine zz0a r rfl rfl h_b10 (k := 8) hs.1 ta39 ?_
 rw [← hs.2.2]
 exact rfin hF hB hr17 u19 (by omega) (by omega) (by omega)

def D.zz5e (a0 : Int) : T Res := (D.check_done 0)

theorem c_check_Drop_1_1_1 {n : Nat} {F : Nat → Prop} {w0 : World} (hF : ∀ b, F b → b < w0.heap.size)
    (a0 : Int) :
    Calls Tryz.prog 134 #[.int .i64 a0] w0 (RepRes Tryz.prog encRes n (D.zz5e a0) F w0) := by
 refine enter Tryz.func134 rfl 4 rfl rfl fun fr r => ?_
 have hB := Below.refl w0.heap.size w0
 refine wsr ?_
 refine seq_new (.cells (progCells false encRes.zero 0 0 0 0 .nilFunc) 39 (0, 0)) r (fun R => y_alloc tz39) rfl fun fr b1 w2 n3 r => ?_
 obtain ⟨e_b1, z_w2, h_b1, hB, zB⟩ := n3.all hB
 refine wn ?_
 refine wsr ?_
 have hF1 := fgrow hF hB b1
 refine zz06 r (c_check_done (F := (fun b => F b ∨ (w0.heap.size ≤ b ∧ b < w2.heap.size ∧ b ≠ b1))) (n := n) hF1 0) (fun R hc => y_call r rfl cl115 hc) rfl ?_
 rintro _ w4 ⟨v5, rfl, hb, hr6⟩
 refine ⟨_, rfl, fun fr r => ?_⟩
 have z_w4 := hb.size
 have h_b1 := keep hb h_b1
 obtain ⟨hB, zB⟩ := bon hb hB
 refine seq_upd (.cells v5.cells 39 (0, 0)) r (fun R => zz0c r hr6.shape rfl rfl h_b1 ts39 rfl) rfl fun fr w7 u8 r => ?_
 have z_w7 := u8.size
 have h_b1 := u8.at_
 obtain ⟨hB, zB⟩ := u8.on hB (by omega)
 refine wn ?_
 refine wp_ret ?_
 have hs := hr6.shape.cells
 refine zz0a r rfl rfl h_b1 (k := 8) hs.1 ta39 ?_
 rw [← hs.2.2]
 exact rfin hF hB hr6 u8 (by omega) (by omega) (by omega)

def D.zz3x (j : Nat) (c0 : Seat) (c1 : Handle) (a0 : Bool) : T Res := (bif (!a0) then (D.zz1m 3) else (T.bind (D.alloc_Stash j c0.p c0.thread c1.index) (fun x => (D.zz5e x))))

theorem c_check_Drop_1_1 {n : Nat} {F : Nat → Prop} {j : Nat} {w0 : World} (hF : ∀ b, F b → b < w0.heap.size) (hj : n < j)
    (c0 : Seat) {c0_b : Nat} (c0_F : F c0_b) (c0_h : w0.heap[c0_b]? = some (.cells ((seatC c0)).toArray 29 (0, 0))) (c1 : Handle) {c1_b : Nat} (c1_F : F c1_b) (c1_h : w0.heap[c1_b]? = some (.cells ((handleC c1)).toArray 63 (0, 0))) (a0 : Bool) :
    Calls Tryz.prog 131 #[.bool a0, .pointer (some ⟨c0_b, 0, none⟩), .pointer (some ⟨c1_b, 0, none⟩)] w0 (RepRes Tryz.prog encRes n (D.zz3x j c0 c1 a0) F w0) := by
 refine enter Tryz.func131 rfl 16 rfl rfl fun fr r => ?_
 have hB := Below.refl w0.heap.size w0
 have l_c0_b := lt_of_block c0_h
 have l_c1_b := lt_of_block c1_h
 refine wsr ?_
 refine seq_new (.cells (progCells false encRes.zero 0 0 0 0 .nilFunc) 39 (0, 0)) r (fun R => y_alloc tz39) rfl fun fr b1 w2 n3 r => ?_
 obtain ⟨e_b1, z_w2, h_b1, hB, zB⟩ := n3.all hB
 refine wn ?_
 refine wp_seq ?_
 refine wsr ?_
 refine seq_val (.bool a0) r (fun R => y_move r rfl) rfl fun fr r => ?_
 refine seq_val (.bool (!a0)) r (fun R => y_un r (u := (.bool a0)) rfl rfl) rfl fun fr r => ?_
 refine wn ?_
 refine wp_cond_split (t := (!a0)) (r.ev rfl) (fun h4 => ?_) (fun h4 => ?_)
 ·
  refine wsr ?_
  have hF1 := fgrow hF hB b1
  refine zz06 r (zz2e (F := (fun b => F b ∨ (w0.heap.size ≤ b ∧ b < w2.heap.size ∧ b ≠ b1))) (n := n) hF1 3) (fun R hc => y_call r rfl cl112 hc) rfl ?_
  rintro _ w5 ⟨v6, rfl, hb, hr7⟩
  refine ⟨_, rfl, fun fr r => ?_⟩
  have z_w5 := hb.size
  have h_b1 := keep hb h_b1
  obtain ⟨hB, zB⟩ := bon hb hB
  refine seq_upd (.cells v6.cells 39 (0, 0)) r (fun R => zz0c r hr7.shape rfl rfl h_b1 ts39 rfl) rfl fun fr w8 u9 r => ?_
  have z_w8 := u9.size
  have h_b1 := u9.at_
  obtain ⟨hB, zB⟩ := u9.on hB (by omega)
  refine wn ?_
  refine wp_ret ?_
  have hd : D.zz3x j c0 c1 a0 = (D.zz1m 3) := (cond_t h4).trans (rfl)
  have hs := hr7.shape.cells
  refine zz0a r rfl rfl h_b1 (k := 8) hs.1 ta39 ?_
  rw [← hs.2.2, hd]
  exact rfin hF hB hr7 u9 (by omega) (by omega) (by omega)
 ·
  refine wp_skip ?_
  refine wsr ?_
  refine seq_val _ r (fun R => zz02 r (o := 0) rfl fo29_0) rfl fun fr r => ?_
  refine seq_val (.agg (planC c0.p).toArray) r (fun R => zz03 r (cs := (planC c0.p)) (n := 6) rfl (keep hB c0_h) ta25 rfl) rfl fun fr r => ?_
  refine seq_val _ r (fun R => zz02 r (o := 0) rfl fo29_2) rfl fun fr r => ?_
  refine seq_val (I c0.thread) r (fun R => zz01 r rfl (keep hB c0_h) to3 rfl) rfl fun fr r => ?_
  refine seq_val _ r (fun R => zz02 r (o := 0) rfl fo63_0) rfl fun fr r => ?_
  refine seq_val (I c1.index) r (fun R => zz01 r rfl (keep hB c1_h) to3 rfl) rfl fun fr r => ?_
  have hF1 := fgrow hF hB b1
  refine zz06 r (c_alloc_Stash (j := j) (F := (fun b => F b ∨ (w0.heap.size ≤ b ∧ b < w2.heap.size ∧ b ≠ b1))) (n := n) hF1 (by omega) c0.p c0.thread c1.index) (fun R hc => y_call r rfl cl133 hc) rfl ?_
  rintro _ w10 ⟨v11, rfl, hb, hr12⟩
  refine ⟨_, rfl, fun fr r => ?_⟩
  have z_w10 := hb.size
  have h_b1 := keep hb h_b1
  obtain ⟨hB, zB⟩ := bon hb hB
  have hF1 := fgrow hF hB b1
  refine zz06 r (c_prog_Then_int_Res_le (F := (fun b => F b ∨ (w0.heap.size ≤ b ∧ b < w10.heap.size ∧ b ≠ b1))) (n := n) hF1 (Rep.mono (by rintro b (h | h); (rcases h with h | ⟨h1, h2, h3⟩; exact .inl h; exact .inr ⟨h1, by omega, h3⟩); exact .inr ⟨by omega, by omega, by omega⟩) (Same.refl _ _) (by omega) n _ _ hr12) ⟨134, [], [], cl134, rfl, fun m hm x w' hs hz => c_check_Drop_1_1_1 (fun b hb => Nat.lt_of_lt_of_le (hF1 b hb) hz)  x⟩) (fun R hc => y_call r rfl cl132 hc) rfl ?_
  rintro _ w13 ⟨v14, rfl, hb, hr15⟩
  refine ⟨_, rfl, fun fr r => ?_⟩
  have z_w13 := hb.size
  have h_b1 := keep hb h_b1
  obtain ⟨hB, zB⟩ := bon hb hB
  refine seq_upd (.cells v14.cells 39 (0, 0)) r (fun R => zz0c r hr15.shape rfl rfl h_b1 ts39 rfl) rfl fun fr w16 u17 r => ?_
  have z_w16 := u17.size
  have h_b1 := u17.at_
  obtain ⟨hB, zB⟩ := u17.on hB (by omega)
  refine wn ?_
  refine wp_ret ?_
  have hd : D.zz3x j c0 c1 a0 = (T.bind (D.alloc_Stash j c0.p c0.thread c1.index) (fun x => (D.zz5e x))) := (cond_f h4).trans (rfl)
  have hs := hr15.shape.cells
  refine zz0a r rfl rfl h_b1 (k := 8) hs.1 ta39 ?_
  rw [← hs.2.2, hd]
  exact rfin hF hB hr15 u17 (by omega) (by omega) (by omega)

def D.zz5c (j : Nat) (c0 : State) (c1 : Int) (c2 : Seat) (c3 : Handle) (a0 : Int) : T Res := (bif (a0 != (D.zz0e c0)) then (D.zz1m 3) else (D.zz5r c1 a0 (D.zz0e (D.zz1p c0)) (fun x => (D.zz3x j c2 c3 x))))

theorem c_check_Drop_1 {n : Nat} {F : Nat → Prop} {j : Nat} {w0 : World} (hF : ∀ b, F b → b < w0.heap.size) (hj : n < j)
    (c0 : State) {c0_b : Nat} (c0_F : F c0_b) (c0_h : w0.heap[c0_b]? = some (.cells ((stateC c0)).toArray 118 (0, 0))) (c1 : Int) {c1_b : Nat} (c1_F : F c1_b) (c1_h : w0.heap[c1_b]? = some (.cells ([(.int .i64 c1)]).toArray 3 (0, 0))) (c2 : Seat) {c2_b : Nat} (c2_F : F c2_b) (c2_h : w0.heap[c2_b]? = some (.cells ((seatC c2)).toArray 29 (0, 0))) (c3 : Handle) {c3_b : Nat} (c3_F : F c3_b) (c3_h : w0.heap[c3_b]? = some (.cells ((handleC c3)).toArray 63 (0, 0))) (a0 : Int) :
    Calls Tryz.prog 129 #[.int .u64 a0, .pointer (some ⟨c0_b, 0, none⟩), .pointer (some ⟨c1_b, 0, none⟩), .pointer (some ⟨c2_b, 0, none⟩), .pointer (some ⟨c3_b, 0, none⟩)] w0 (RepRes Tryz.prog encRes n (D.zz5c j c0 c1 c2 c3 a0) F w0) := by
 refine enter Tryz.func129 rfl 19 rfl rfl fun fr r => ?_
 have hB := Below.refl w0.heap.size w0
 have l_c0_b := lt_of_block c0_h
 have l_c1_b := lt_of_block c1_h
 have l_c2_b := lt_of_block c2_h
 have l_c3_b := lt_of_block c3_h
 refine wsr ?_
 refine seq_new (.cells (progCells false encRes.zero 0 0 0 0 .nilFunc) 39 (0, 0)) r (fun R => y_alloc tz39) rfl fun fr b1 w2 n3 r => ?_
 obtain ⟨e_b1, z_w2, h_b1, hB, zB⟩ := n3.all hB
 refine wn ?_
 refine wp_seq ?_
 refine wsr ?_
 refine seq_val (U a0) r (fun R => y_move r rfl) rfl fun fr r => ?_
 refine seq_val (.agg (stateC c0).toArray) r (fun R => zz03 r (cs := (stateC c0)) (n := 3) rfl (keep hB c0_h) ta118 rfl) rfl fun fr r => ?_
 refine zz06 r (zz27 w2 c0) (fun R hc => y_call r rfl cl91 hc) rfl ?_
 rintro _ w4 ⟨rfl, hb⟩
 refine ⟨_, rfl, fun fr r => ?_⟩
 have z_w4 := hb.size
 have h_b1 := keep hb h_b1
 obtain ⟨hB, zB⟩ := bon hb hB
 refine seq_val _ r (fun R => y_bin r rfl rfl rfl rfl) rfl fun fr r => ?_
 refine wn ?_
 refine wp_cond_split (t := (a0 != (D.zz0e c0))) (r.ev rfl) (fun h5 => ?_) (fun h5 => ?_)
 ·
  refine wsr ?_
  have hF1 := fgrow hF hB b1
  refine zz06 r (zz2e (F := (fun b => F b ∨ (w0.heap.size ≤ b ∧ b < w4.heap.size ∧ b ≠ b1))) (n := n) hF1 3) (fun R hc => y_call r rfl cl112 hc) rfl ?_
  rintro _ w6 ⟨v7, rfl, hb, hr8⟩
  refine ⟨_, rfl, fun fr r => ?_⟩
  have z_w6 := hb.size
  have h_b1 := keep hb h_b1
  obtain ⟨hB, zB⟩ := bon hb hB
  refine seq_upd (.cells v7.cells 39 (0, 0)) r (fun R => zz0c r hr8.shape rfl rfl h_b1 ts39 rfl) rfl fun fr w9 u10 r => ?_
  have z_w9 := u10.size
  have h_b1 := u10.at_
  obtain ⟨hB, zB⟩ := u10.on hB (by omega)
  refine wn ?_
  refine wp_ret ?_
  have hd : D.zz5c j c0 c1 c2 c3 a0 = (D.zz1m 3) := (cond_t h5).trans (rfl)
  have hs := hr8.shape.cells
  refine zz0a r rfl rfl h_b1 (k := 8) hs.1 ta39 ?_
  rw [← hs.2.2, hd]
  exact rfin hF hB hr8 u10 (by omega) (by omega) (by omega)
 ·
  refine wp_skip ?_
  refine wp_seq ?_
  refine zz1c 6 [.val (I c1), .val (U a0), .val (.agg (stateC c0).toArray), .val (.agg (stateC (D.zz1p c0)).toArray), .val (U (D.zz0e (D.zz1p c0))), .val (.func (.func 131) #[] #[.pointer (some ⟨c2_b, 0, none⟩), .pointer (some ⟨c3_b, 0, none⟩)])] mixed r (by kernel_rfl) (zz00 (by exact trivial) (zz00 (by exact trivial) (zz00 (by exact trivial) (zz00 (by exact trivial) (zz00 (by exact trivial) (zz00 (by exact trivial) zz12)))))) ?_ ?_
  ·
   refine ec r (fun _ u _ b d s => zz01 s rfl (keep2 hB b c1_h) to3 rfl bz) ?_
   refine ec r (fun _ u _ b d s => y_move s rfl bz) ?_
   refine ec r (fun _ u _ b d s => zz03 s (cs := (stateC c0)) (n := 3) rfl (keep2 hB b c0_h) ta118 rfl bz) ?_
   refine ec r (fun fr1 u w' hb' hd r' => y_call r' (args := [(.agg (stateC c0).toArray)]) (lc hd.1 l0) cl130 ((c_state_State_Retire _ c0).mono (by rintro _ w2 ⟨rfl, hb2⟩; exact ⟨_, rfl, hb2, rfl⟩))) ?_
   refine ec r (fun fr1 u w' hb' hd r' => y_call r' (args := [(.agg (stateC (D.zz1p c0)).toArray)]) (lc hd.1 l0) cl91 ((zz27 _ (D.zz1p c0)).mono (by rintro _ w2 ⟨rfl, hb2⟩; exact ⟨_, rfl, hb2, rfl⟩))) ?_
   refine ec r (fun _ u _ b d s => zz0o s (v := (.func (.func 131) #[] #[.pointer (some ⟨c2_b, 0, none⟩), .pointer (some ⟨c3_b, 0, none⟩)])) rfl bz) ?_
   exact zz1l
  ·
   intro fr u w11 hb hΦ hne r
   have r := r.congr (sc (hΦ 5 (by decide)) (sc (hΦ 4 (by decide)) (sc (hΦ 3 (by decide)) (sc (hΦ 2 (by decide)) (sc (hΦ 1 (by decide)) (sc (hΦ 0 (by decide)) rfl))))))
   have z_w11 := hb.size
   have h_b1 := keep hb h_b1
   obtain ⟨hB, zB⟩ := bon hb hB
   have hF1 := fgrow hF hB b1
   have f12 : ((fun b => F b ∨ (w0.heap.size ≤ b ∧ b < w11.heap.size ∧ b ≠ b1))) c2_b := (.inl c2_F)
   have f13 : ((fun b => F b ∨ (w0.heap.size ≤ b ∧ b < w11.heap.size ∧ b ≠ b1))) c3_b := (.inl c3_F)
   refine zz06 r (c_prog_Swap_Res (F := (fun b => F b ∨ (w0.heap.size ≤ b ∧ b < w11.heap.size ∧ b ≠ b1))) (n := n) hF1 c1 a0 (D.zz0e (D.zz1p c0)) ⟨131, [], [.pointer (some ⟨c2_b, 0, none⟩), .pointer (some ⟨c3_b, 0, none⟩)], cl131, rfl, fun m hm x w' hs hz => c_check_Drop_1_1 (j := j) (fun b hb => Nat.lt_of_lt_of_le (hF1 b hb) hz) (by omega) c2 f12 (hs.at_ f12 (keep hB c2_h)) c3 f13 (hs.at_ f13 (keep hB c3_h)) x⟩) (fun R hc => y_call r rfl cl125 hc) rfl ?_
   rintro _ w14 ⟨v15, rfl, hb, hr16⟩
   refine ⟨_, rfl, fun fr r => ?_⟩
   have z_w14 := hb.size
   have h_b1 := keep hb h_b1
   obtain ⟨hB, zB⟩ := bon hb hB
   refine seq_upd (.cells v15.cells 39 (0, 0)) r (fun R => zz0c r hr16.shape rfl rfl h_b1 ts39 rfl) rfl fun fr w17 u18 r => ?_
   have z_w17 := u18.size
   have h_b1 := u18.at_
   obtain ⟨hB, zB⟩ := u18.on hB (by omega)
   refine wn ?_
   refine wp_ret ?_
   have hd : D.zz5c j c0 c1 c2 c3 a0 = (D.zz5r c1 a0 (D.zz0e (D.zz1p c0)) (fun x => (D.zz3x j c2 c3 x))) := (cond_f h5).trans (rfl)
   have hs := hr16.shape.cells
   refine zz0a r rfl rfl h_b1 (k := 8) hs.1 ta39 ?_
   rw [← hs.2.2, hd]
   exact rfin hF hB hr16 u18 (by omega) (by omega) (by omega)

def D.zz1r (j : Nat) (a0 : Seat) (a1 : Int) : T Res := (bif (!(D.zz0u a0)) then (D.zz1m 1) else (bif (!((D.zz07 a1 a0.tenant a0.p.nodes).2)) then (D.zz1m 3) else (D.zz3a (D.zz0h a0.p (((D.zz07 a1 a0.tenant a0.p.nodes).1).index)) (fun x => (D.zz5c j (D.zz26 ((D.zz07 a1 a0.tenant a0.p.nodes).1)) (D.zz0h a0.p (((D.zz07 a1 a0.tenant a0.p.nodes).1).index)) a0 ((D.zz07 a1 a0.tenant a0.p.nodes).1) x)))))

theorem c_check_Drop {n : Nat} {F : Nat → Prop} {j : Nat} {w0 : World} (hF : ∀ b, F b → b < w0.heap.size) (hj : n < j)
    (a0 : Seat) (a1 : Int) :
    Calls Tryz.prog 36 #[.agg (seatC a0).toArray, .int .u64 a1] w0 (RepRes Tryz.prog encRes n (D.zz1r j a0 a1) F w0) := by
 refine enter Tryz.func36 rfl 36 rfl rfl fun fr r => ?_
 have hB := Below.refl w0.heap.size w0
 refine wsr ?_
 refine seq_new (.cells ((seatC a0)).toArray 29 (0, 0)) r (fun R => y_box r (v := (.agg (seatC a0).toArray)) rfl) rfl fun fr b1 w2 n3 r => ?_
 obtain ⟨e_b1, z_w2, h_b1, hB, zB⟩ := n3.all hB
 refine seq_new (.cells (progCells false encRes.zero 0 0 0 0 .nilFunc) 39 (0, 0)) r (fun R => y_alloc tz39) rfl fun fr b4 w5 n6 r => ?_
 have h_b1 := keep n6.below h_b1
 obtain ⟨e_b4, z_w5, h_b4, hB, zB⟩ := n6.all hB
 refine wn ?_
 refine wp_seq ?_
 refine wsr ?_
 refine seq_val (.agg (seatC a0).toArray) r (fun R => zz03 r (cs := (seatC a0)) (n := 8) rfl h_b1 ta29 rfl) rfl fun fr r => ?_
 refine zz06 r (zz41 w5 a0) (fun R hc => y_call r rfl cl41 hc) rfl ?_
 rintro _ w7 ⟨rfl, hb⟩
 refine ⟨_, rfl, fun fr r => ?_⟩
 have z_w7 := hb.size
 have h_b1 := keep hb h_b1
 have h_b4 := keep hb h_b4
 obtain ⟨hB, zB⟩ := bon hb hB
 refine seq_val (.bool (!(D.zz0u a0))) r (fun R => y_un r (u := (.bool (D.zz0u a0))) rfl rfl) rfl fun fr r => ?_
 refine wn ?_
 refine wp_cond_split (t := (!(D.zz0u a0))) (r.ev rfl) (fun h8 => ?_) (fun h8 => ?_)
 ·
  refine wsr ?_
  have hF1 := fgrow hF hB b4
  refine zz06 r (zz2e (F := (fun b => F b ∨ (w0.heap.size ≤ b ∧ b < w7.heap.size ∧ b ≠ b4))) (n := n) hF1 1) (fun R hc => y_call r rfl cl112 hc) rfl ?_
  rintro _ w9 ⟨v10, rfl, hb, hr11⟩
  refine ⟨_, rfl, fun fr r => ?_⟩
  have z_w9 := hb.size
  have h_b1 := keep hb h_b1
  have h_b4 := keep hb h_b4
  obtain ⟨hB, zB⟩ := bon hb hB
  refine seq_upd (.cells v10.cells 39 (0, 0)) r (fun R => zz0c r hr11.shape rfl rfl h_b4 ts39 rfl) rfl fun fr w12 u13 r => ?_
  have z_w12 := u13.size
  have h_b1 := u13.keep h_b1 (by omega)
  have h_b4 := u13.at_
  obtain ⟨hB, zB⟩ := u13.on hB (by omega)
  refine wn ?_
  refine wp_ret ?_
  have hd : D.zz1r j a0 a1 = (D.zz1m 1) := (cond_t h8).trans (rfl)
  have hs := hr11.shape.cells
  refine zz0a r rfl rfl h_b4 (k := 8) hs.1 ta39 ?_
  rw [← hs.2.2, hd]
  exact rfin hF hB hr11 u13 (by omega) (by omega) (by omega)
 ·
  refine wp_skip ?_
  refine wsr ?_
  refine seq_val (U a1) r (fun R => y_move r rfl) rfl fun fr r => ?_
  refine seq_val _ r (fun R => zz02 r (o := 0) rfl fo29_1) rfl fun fr r => ?_
  refine seq_val (I a0.tenant) r (fun R => zz01 r rfl h_b1 to3 rfl) rfl fun fr r => ?_
  refine seq_val _ r (fun R => zz02 r (o := 0) rfl fo29_0) rfl fun fr r => ?_
  refine seq_val _ r (fun R => zz02 r (o := 0) rfl fo25_0) rfl fun fr r => ?_
  refine seq_val (I a0.p.nodes) r (fun R => zz01 r rfl h_b1 to3 rfl) rfl fun fr r => ?_
  refine zz06 r (c_handle_Mine w7 a1 a0.tenant a0.p.nodes) (fun R hc => y_call r rfl cl127 hc) rfl ?_
  rintro _ w14 ⟨rfl, hb⟩
  refine ⟨_, rfl, fun fr r => ?_⟩
  have z_w14 := hb.size
  have h_b1 := keep hb h_b1
  have h_b4 := keep hb h_b4
  obtain ⟨hB, zB⟩ := bon hb hB
  refine seq_val (.tuple #[(.agg (handleC (D.zz07 a1 a0.tenant a0.p.nodes).1).toArray), (.bool (D.zz07 a1 a0.tenant a0.p.nodes).2)]) r (fun R => y_move r rfl) rfl fun fr r => ?_
  refine seq_val (.agg (handleC (D.zz07 a1 a0.tenant a0.p.nodes).1).toArray) r (fun R => zz0t r (vs := #[(.agg (handleC (D.zz07 a1 a0.tenant a0.p.nodes).1).toArray), (.bool (D.zz07 a1 a0.tenant a0.p.nodes).2)]) rfl rfl) rfl fun fr r => ?_
  refine seq_val (.bool (D.zz07 a1 a0.tenant a0.p.nodes).2) r (fun R => zz0t r (vs := #[(.agg (handleC (D.zz07 a1 a0.tenant a0.p.nodes).1).toArray), (.bool (D.zz07 a1 a0.tenant a0.p.nodes).2)]) rfl rfl) rfl fun fr r => ?_
  refine seq_new (.cells ((handleC (⟨0, 0, 0⟩ : Handle))).toArray 63 (0, 0)) r (fun R => y_alloc tz63) rfl fun fr b15 w16 n17 r => ?_
  have h_b1 := keep n17.below h_b1
  have h_b4 := keep n17.below h_b4
  obtain ⟨e_b15, z_w16, h_b15, hB, zB⟩ := n17.all hB
  refine seq_upd (.cells ((handleC ((D.zz07 a1 a0.tenant a0.p.nodes).1))).toArray 63 (0, 0)) r (fun R => y_store r (o := 0) (v := (.agg (handleC (D.zz07 a1 a0.tenant a0.p.nodes).1).toArray)) rfl rfl h_b15 ts63 (Nat.le_of_ble_eq_true rfl) rfl rfl) rfl fun fr w18 u19 r => ?_
  have z_w18 := u19.size
  have h_b1 := u19.keep h_b1 (by omega)
  have h_b4 := u19.keep h_b4 (by omega)
  have h_b15 := u19.at_
  obtain ⟨hB, zB⟩ := u19.on hB (by omega)
  refine seq_val (.bool (D.zz07 a1 a0.tenant a0.p.nodes).2) r (fun R => zz04 r rfl) rfl fun fr r => ?_
  refine wn ?_
  refine wp_seq ?_
  refine wsr ?_
  refine seq_val (.bool (D.zz07 a1 a0.tenant a0.p.nodes).2) r (fun R => y_move r rfl) rfl fun fr r => ?_
  refine seq_val (.bool (!((D.zz07 a1 a0.tenant a0.p.nodes).2))) r (fun R => y_un r (u := (.bool (D.zz07 a1 a0.tenant a0.p.nodes).2)) rfl rfl) rfl fun fr r => ?_
  refine wn ?_
  refine wp_cond_split (t := (!((D.zz07 a1 a0.tenant a0.p.nodes).2))) (r.ev rfl) (fun h20 => ?_) (fun h20 => ?_)
  ·
   refine wsr ?_
   have hF1 := fgrow hF hB b4
   refine zz06 r (zz2e (F := (fun b => F b ∨ (w0.heap.size ≤ b ∧ b < w18.heap.size ∧ b ≠ b4))) (n := n) hF1 3) (fun R hc => y_call r rfl cl112 hc) rfl ?_
   rintro _ w21 ⟨v22, rfl, hb, hr23⟩
   refine ⟨_, rfl, fun fr r => ?_⟩
   have z_w21 := hb.size
   have h_b1 := keep hb h_b1
   have h_b4 := keep hb h_b4
   have h_b15 := keep hb h_b15
   obtain ⟨hB, zB⟩ := bon hb hB
   refine seq_upd (.cells v22.cells 39 (0, 0)) r (fun R => zz0c r hr23.shape rfl rfl h_b4 ts39 rfl) rfl fun fr w24 u25 r => ?_
   have z_w24 := u25.size
   have h_b1 := u25.keep h_b1 (by omega)
   have h_b15 := u25.keep h_b15 (by omega)
   have h_b4 := u25.at_
   obtain ⟨hB, zB⟩ := u25.on hB (by omega)
   refine wn ?_
   refine wp_ret ?_
   have hd : D.zz1r j a0 a1 = (D.zz1m 3) := (cond_f h8).trans ((cond_t h20).trans (rfl))
   have hs := hr23.shape.cells
   refine zz0a r rfl rfl h_b4 (k := 8) hs.1 ta39 ?_
   rw [← hs.2.2, hd]
   exact rfin hF hB hr23 u25 (by omega) (by omega) (by omega)
  ·
   refine wp_skip ?_
   refine wp_seq ?_
   refine zz43 [.val (.pointer (some ⟨b1, 0, none⟩)), .val (.agg (planC a0.p).toArray), .val (.pointer (some ⟨b15, 0, none⟩)), .val (I ((D.zz07 a1 a0.tenant a0.p.nodes).1).index), .val (I (D.zz0h a0.p (((D.zz07 a1 a0.tenant a0.p.nodes).1).index))), .val (.agg (handleC (D.zz07 a1 a0.tenant a0.p.nodes).1).toArray), .val (.agg (stateC (D.zz26 ((D.zz07 a1 a0.tenant a0.p.nodes).1))).toArray), .cell 3 1, .cell 118 3, .stored 7 #[(I (D.zz0h a0.p (((D.zz07 a1 a0.tenant a0.p.nodes).1).index)))] 3 1 rfl, .stored 8 ((stateC (D.zz26 ((D.zz07 a1 a0.tenant a0.p.nodes).1)))).toArray 118 3 rfl] mixed r (by kernel_rfl) ?_ ?_
   ·
    refine fc r (fun fr1 g w' hb' hd r' => zz02 r' (b := b1) (o := 0) rfl fo29_0 bz) ?_
    refine fc r (fun fr1 g w' hb' hd r' => zz03 r' (cs := (planC a0.p)) (n := 6) (hd 0 rfl).1 (keep hb' h_b1) ta25 rfl bz) ?_
    refine fc r (fun fr1 g w' hb' hd r' => zz02 r' (b := b15) (o := 0) rfl fo63_0 bz) ?_
    refine fc r (fun fr1 g w' hb' hd r' => zz01 r' (hd 2 rfl).1 (keep hb' h_b15) to3 rfl bz) ?_
    refine fc r (fun fr1 g w' hb' hd r' => y_call r' (args := [(.agg (planC a0.p).toArray), (I ((D.zz07 a1 a0.tenant a0.p.nodes).1).index)]) (lc (hd 1 rfl).1 (lc (hd 3 rfl).1 l0)) cl68 ((zz2j _ a0.p (((D.zz07 a1 a0.tenant a0.p.nodes).1).index)).mono (by rintro _ w2 ⟨rfl, hb2⟩; exact ⟨_, rfl, hb2, rfl⟩))) ?_
    refine fc r (fun fr1 g w' hb' hd r' => zz03 r' (cs := (handleC ((D.zz07 a1 a0.tenant a0.p.nodes).1))) (n := 3) rfl (keep hb' h_b15) ta63 rfl bz) ?_
    refine fc r (fun fr1 g w' hb' hd r' => y_call r' (args := [(.agg (handleC (D.zz07 a1 a0.tenant a0.p.nodes).1).toArray)]) (lc (hd 5 rfl).1 l0) cl128 ((c_check_live _ ((D.zz07 a1 a0.tenant a0.p.nodes).1)).mono (by rintro _ w2 ⟨rfl, hb2⟩; exact ⟨_, rfl, hb2, rfl⟩))) ?_
    refine fc r (fun fr1 g w' hb' hd r' => y_alloc tz3 (fun b w2 n2 => ⟨n2.below, b, rfl, n2.eq, _, n2.at_, rfl⟩)) ?_
    refine fc r (fun fr1 g w' hb' hd r' => y_alloc tz118 (fun b w2 n2 => ⟨n2.below, b, rfl, n2.eq, _, n2.at_, rfl⟩)) ?_
    refine zz52 r rfl (fun fr1 g w' hb' hd r' => ?_) ?_
    · obtain ⟨hp, _, c, hc, hn⟩ := (hd 7 rfl).1; exact y_store r' (o := 0) (c := c) (v := (I (D.zz0h a0.p (((D.zz07 a1 a0.tenant a0.p.nodes).1).index)))) hp (hd 4 rfl).1 hc ts3 (by rw [hn]; exact Nat.le_of_ble_eq_true rfl) rfl (zz2m (hn.trans rfl)) (fun w2 u2 => ⟨u2, rfl⟩)
    refine zz52 r rfl (fun fr1 g w' hb' hd r' => ?_) ?_
    · obtain ⟨hp, _, c, hc, hn⟩ := (hd 8 rfl).1; exact y_store r' (o := 0) (c := c) (v := (.agg (stateC (D.zz26 ((D.zz07 a1 a0.tenant a0.p.nodes).1))).toArray)) hp (hd 6 rfl).1 hc ts118 (by rw [hn]; exact Nat.le_of_ble_eq_true rfl) rfl (zz2m (hn.trans rfl)) (fun w2 u2 => ⟨u2, rfl⟩)
    exact zz1z
   ·
    intro fr gg w26 hb hΦ hap r
    obtain ⟨b27, ee_b27⟩ : ∃ b, b = (gg 7).lo := ⟨_, rfl⟩
    have g7 : (gg 7).v = .pointer (some ⟨b27, 0, none⟩) := by rw [ee_b27]; exact (hΦ 7 rfl).1.1
    have e_b27 : w18.heap.size ≤ b27 := by rw [ee_b27]; exact (hΦ 7 rfl).2.1
    have h_b27 : w26.heap[b27]? = some (.cells #[(I (D.zz0h a0.p (((D.zz07 a1 a0.tenant a0.p.nodes).1).index)))] 3 (0, 0)) := by rw [ee_b27]; exact (hΦ 9 rfl).1.2
    have l_b27 := lt_of_block h_b27
    have q_b27 : (gg 7).lo < (gg 7).hi := (hΦ 7 rfl).1.2.1
    obtain ⟨b28, ee_b28⟩ : ∃ b, b = (gg 8).lo := ⟨_, rfl⟩
    have g8 : (gg 8).v = .pointer (some ⟨b28, 0, none⟩) := by rw [ee_b28]; exact (hΦ 8 rfl).1.1
    have e_b28 : w18.heap.size ≤ b28 := by rw [ee_b28]; exact (hΦ 8 rfl).2.1
    have h_b28 : w26.heap[b28]? = some (.cells ((stateC (D.zz26 ((D.zz07 a1 a0.tenant a0.p.nodes).1)))).toArray 118 (0, 0)) := by rw [ee_b28]; exact (hΦ 10 rfl).1.2
    have l_b28 := lt_of_block h_b28
    have q_b28 : (gg 8).lo < (gg 8).hi := (hΦ 8 rfl).1.2.1
    have ne_b27_b28 : b27 ≠ b28 := by have := hap 7 8 rfl; omega
    have r := r.congr (sc g8 (sc g7 (sc ((hΦ 6 rfl).1) (sc ((hΦ 5 rfl).1) (sc ((hΦ 4 rfl).1) (sc ((hΦ 3 rfl).1) (sc ((hΦ 2 rfl).1) (sc ((hΦ 1 rfl).1) (sc ((hΦ 0 rfl).1) rfl)))))))))
    have z_w26 := hb.size
    have h_b1 := keep hb h_b1
    have h_b4 := keep hb h_b4
    have h_b15 := keep hb h_b15
    obtain ⟨hB, zB⟩ := bon hb hB
    refine wsr ?_
    refine seq_val (I (D.zz0h a0.p (((D.zz07 a1 a0.tenant a0.p.nodes).1).index))) r (fun R => zz01 r rfl h_b27 to3 rfl) rfl fun fr r => ?_
    refine seq_val (.func (.func 129) #[] #[.pointer (some ⟨b28, 0, none⟩), .pointer (some ⟨b27, 0, none⟩), .pointer (some ⟨b1, 0, none⟩), .pointer (some ⟨b15, 0, none⟩)]) r (fun R => zz0o r rfl) rfl fun fr r => ?_
    have hF1 := fgrow hF hB b4
    have f29 : ((fun b => F b ∨ (w0.heap.size ≤ b ∧ b < w26.heap.size ∧ b ≠ b4))) b28 := (.inr ⟨by omega, by omega, by omega⟩)
    have f30 : ((fun b => F b ∨ (w0.heap.size ≤ b ∧ b < w26.heap.size ∧ b ≠ b4))) b27 := (.inr ⟨by omega, by omega, by omega⟩)
    have f31 : ((fun b => F b ∨ (w0.heap.size ≤ b ∧ b < w26.heap.size ∧ b ≠ b4))) b1 := (.inr ⟨by omega, by omega, by omega⟩)
    have f32 : ((fun b => F b ∨ (w0.heap.size ≤ b ∧ b < w26.heap.size ∧ b ≠ b4))) b15 := (.inr ⟨by omega, by omega, by omega⟩)
    refine zz06 r (zz4r (F := (fun b => F b ∨ (w0.heap.size ≤ b ∧ b < w26.heap.size ∧ b ≠ b4))) (n := n) hF1 (D.zz0h a0.p (((D.zz07 a1 a0.tenant a0.p.nodes).1).index)) ⟨129, [], [.pointer (some ⟨b28, 0, none⟩), .pointer (some ⟨b27, 0, none⟩), .pointer (some ⟨b1, 0, none⟩), .pointer (some ⟨b15, 0, none⟩)], cl129, rfl, fun m hm x w' hs hz => c_check_Drop_1 (j := j) (fun b hb => Nat.lt_of_lt_of_le (hF1 b hb) hz) (by omega) (D.zz26 ((D.zz07 a1 a0.tenant a0.p.nodes).1)) f29 (hs.at_ f29 h_b28) (D.zz0h a0.p (((D.zz07 a1 a0.tenant a0.p.nodes).1).index)) f30 (hs.at_ f30 h_b27) a0 f31 (hs.at_ f31 h_b1) ((D.zz07 a1 a0.tenant a0.p.nodes).1) f32 (hs.at_ f32 h_b15) x⟩) (fun R hc => y_call r rfl cl123 hc) rfl ?_
    rintro _ w33 ⟨v34, rfl, hb, hr35⟩
    refine ⟨_, rfl, fun fr r => ?_⟩
    have z_w33 := hb.size
    have h_b1 := keep hb h_b1
    have h_b4 := keep hb h_b4
    have h_b15 := keep hb h_b15
    have h_b27 := keep hb h_b27
    have h_b28 := keep hb h_b28
    obtain ⟨hB, zB⟩ := bon hb hB
    refine seq_upd (.cells v34.cells 39 (0, 0)) r (fun R => zz0c r hr35.shape rfl rfl h_b4 ts39 rfl) rfl fun fr w36 u37 r => ?_
    have z_w36 := u37.size
    have h_b1 := u37.keep h_b1 (by omega)
    have h_b15 := u37.keep h_b15 (by omega)
    have h_b27 := u37.keep h_b27 (by omega)
    have h_b28 := u37.keep h_b28 (by omega)
    have h_b4 := u37.at_
    obtain ⟨hB, zB⟩ := u37.on hB (by omega)
    refine wn ?_
    refine wp_ret ?_
    have hd : D.zz1r j a0 a1 = (D.zz3a (D.zz0h a0.p (((D.zz07 a1 a0.tenant a0.p.nodes).1).index)) (fun x => (D.zz5c j (D.zz26 ((D.zz07 a1 a0.tenant a0.p.nodes).1)) (D.zz0h a0.p (((D.zz07 a1 a0.tenant a0.p.nodes).1).index)) a0 ((D.zz07 a1 a0.tenant a0.p.nodes).1) x))) := (cond_f h8).trans ((cond_f h20).trans (rfl))
    have hs := hr35.shape.cells
    refine zz0a r rfl rfl h_b4 (k := 8) hs.1 ta39 ?_
    rw [← hs.2.2, hd]
    exact rfin hF hB hr35 u37 (by omega) (by omega) (by omega)

end Go.Proofs.YtjkinpbfmihhdaaGreat
