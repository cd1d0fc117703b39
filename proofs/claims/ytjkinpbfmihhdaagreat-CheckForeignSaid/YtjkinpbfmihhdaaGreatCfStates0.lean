/- Written by a program of ours (wip/gen.py): states -/
import Derived.Test.YtjkinpbfmihhdaaGreatCfFields
import Derived.Test.YtjkinpbfmihhdaaGreatCfTypes2
set_option linter.unusedVariables false
set_option maxRecDepth 20000
set_option maxHeartbeats 2000000
namespace Go.Proofs.YtjkinpbfmihhdaaGreat
open Go.RowKit
theorem fo118_0 : fieldOff Tryz.prog 118 0 0 = true := by kernel_rfl

theorem fo118_1 : fieldOff Tryz.prog 118 1 1 = true := by kernel_rfl

theorem fo118_2 : fieldOff Tryz.prog 118 2 2 = true := by kernel_rfl

theorem ta118 : tyA Tryz.prog 118 3 = true := by kernel_rfl

theorem ts118 : sized Tryz.prog 118 3 = true := by kernel_rfl

theorem ts3 : sized Tryz.prog 3 1 = true := by kernel_rfl

theorem tz118 : zeroOf Tryz.prog 118 = some (.agg (stateC (⟨0, 0, 0⟩ : State)).toArray) := by kernel_rfl

def D.state_State_Live (a0 : State) (a1 : Int) : State := (⟨a0.gen, 1, a1⟩ : State)

theorem c_state_State_Live (w0 : World) 
    (a0 : State) (a1 : Int) :
    Calls Tryz.prog 284 #[.agg (stateC a0).toArray, .int .i64 a1] w0 (PureRes (.agg (stateC (D.state_State_Live a0 a1)).toArray) w0) := by
 refine enter Tryz.func284 rfl 9 rfl rfl fun fr r => ?_
 have hB := Below.refl w0.heap.size w0
 refine wsr ?_
 refine seq_new (.cells ((stateC a0)).toArray 118 (0, 0)) r (fun R => y_box r (v := (.agg (stateC a0).toArray)) rfl) rfl fun fr b1 w2 n3 r => ?_
 obtain ⟨e_b1, z_w2, h_b1, hB, zB⟩ := n3.all hB
 refine seq_new (.cells ((stateC (⟨0, 0, 0⟩ : State))).toArray 118 (0, 0)) r (fun R => y_alloc tz118) rfl fun fr b4 w5 n6 r => ?_
 have h_b1 := keep n6.below h_b1
 obtain ⟨e_b4, z_w5, h_b4, hB, zB⟩ := n6.all hB
 refine wn ?_
 refine wsr ?_
 refine seq_val _ r (fun R => y_fieldAddr r (o := 0) rfl fo118_0) rfl fun fr r => ?_
 refine seq_val (I a0.gen) r (fun R => y_load_one r rfl h_b1 to3 rfl) rfl fun fr r => ?_
 refine seq_val (I a1) r (fun R => y_move r rfl) rfl fun fr r => ?_
 refine seq_val (.agg (stateC (⟨a0.gen, 1, a1⟩ : State)).toArray) r (fun R => y_build r (by kernel_rfl)) rfl fun fr r => ?_
 refine seq_upd (.cells ((stateC (⟨a0.gen, 1, a1⟩ : State))).toArray 118 (0, 0)) r (fun R => y_store r (o := 0) (v := (.agg (stateC (⟨a0.gen, 1, a1⟩ : State)).toArray)) rfl rfl h_b4 ts118 (Nat.le_of_ble_eq_true rfl) rfl rfl) rfl fun fr w7 u8 r => ?_
 have z_w7 := u8.size
 have h_b1 := u8.keep h_b1 (by omega)
 have h_b4 := u8.at_
 obtain ⟨hB, zB⟩ := u8.on hB (by omega)
 refine wn ?_
 refine wp_ret ?_
 refine ret_cell r rfl rfl h_b4 (k := 3) rfl ta118 ?_
 exact ⟨rfl, hB⟩

def D.state_State_Freed (a0 : State) (a1 : Int) : State := (bif (decide (a0.gen ≥ a1)) then (⟨a0.gen, 3, 0⟩ : State) else (⟨(IntKind.i64.wrap (a0.gen + 1)), 0, 0⟩ : State))

theorem c_state_State_Freed (w0 : World) 
    (a0 : State) (a1 : Int) :
    Calls Tryz.prog 341 #[.agg (stateC a0).toArray, .int .i64 a1] w0 (PureRes (.agg (stateC (D.state_State_Freed a0 a1)).toArray) w0) := by
 refine enter Tryz.func341 rfl 16 rfl rfl fun fr r => ?_
 have hB := Below.refl w0.heap.size w0
 refine wsr ?_
 refine seq_new (.cells ((stateC a0)).toArray 118 (0, 0)) r (fun R => y_box r (v := (.agg (stateC a0).toArray)) rfl) rfl fun fr b1 w2 n3 r => ?_
 obtain ⟨e_b1, z_w2, h_b1, hB, zB⟩ := n3.all hB
 refine seq_new (.cells ((stateC (⟨0, 0, 0⟩ : State))).toArray 118 (0, 0)) r (fun R => y_alloc tz118) rfl fun fr b4 w5 n6 r => ?_
 have h_b1 := keep n6.below h_b1
 obtain ⟨e_b4, z_w5, h_b4, hB, zB⟩ := n6.all hB
 refine wn ?_
 refine wp_seq ?_
 refine wsr ?_
 refine seq_val _ r (fun R => y_fieldAddr r (o := 0) rfl fo118_0) rfl fun fr r => ?_
 refine seq_val (I a0.gen) r (fun R => y_load_one r rfl h_b1 to3 rfl) rfl fun fr r => ?_
 refine seq_val (I a1) r (fun R => y_move r rfl) rfl fun fr r => ?_
 refine seq_val _ r (fun R => y_bin r rfl rfl rfl rfl) rfl fun fr r => ?_
 refine wn ?_
 refine wp_cond_split (t := (decide (a0.gen ≥ a1))) (r.ev rfl) (fun h7 => ?_) (fun h7 => ?_)
 ·
  refine wsr ?_
  refine seq_val _ r (fun R => y_fieldAddr r (o := 0) rfl fo118_0) rfl fun fr r => ?_
  refine seq_val (I a0.gen) r (fun R => y_load_one r rfl h_b1 to3 rfl) rfl fun fr r => ?_
  refine seq_val (.agg (stateC (⟨a0.gen, 3, 0⟩ : State)).toArray) r (fun R => y_build r (by kernel_rfl)) rfl fun fr r => ?_
  refine seq_upd (.cells ((stateC (⟨a0.gen, 3, 0⟩ : State))).toArray 118 (0, 0)) r (fun R => y_store r (o := 0) (v := (.agg (stateC (⟨a0.gen, 3, 0⟩ : State)).toArray)) rfl rfl h_b4 ts118 (Nat.le_of_ble_eq_true rfl) rfl rfl) rfl fun fr w8 u9 r => ?_
  have z_w8 := u9.size
  have h_b1 := u9.keep h_b1 (by omega)
  have h_b4 := u9.at_
  obtain ⟨hB, zB⟩ := u9.on hB (by omega)
  refine wn ?_
  refine wp_ret ?_
  have hd : D.state_State_Freed a0 a1 = (⟨a0.gen, 3, 0⟩ : State) := (cond_t h7).trans (rfl)
  refine ret_cell r rfl rfl h_b4 (k := 3) rfl ta118 ?_
  rw [hd]
  exact ⟨rfl, hB⟩
 ·
  refine wp_skip ?_
  refine wsr ?_
  refine seq_val _ r (fun R => y_fieldAddr r (o := 0) rfl fo118_0) rfl fun fr r => ?_
  refine seq_val (I a0.gen) r (fun R => y_load_one r rfl h_b1 to3 rfl) rfl fun fr r => ?_
  refine seq_val _ r (fun R => y_bin r rfl rfl rfl rfl) rfl fun fr r => ?_
  refine seq_val (.agg (stateC (⟨(W (a0.gen + 1)), 0, 0⟩ : State)).toArray) r (fun R => y_build r (by kernel_rfl)) rfl fun fr r => ?_
  refine seq_upd (.cells ((stateC (⟨(W (a0.gen + 1)), 0, 0⟩ : State))).toArray 118 (0, 0)) r (fun R => y_store r (o := 0) (v := (.agg (stateC (⟨(W (a0.gen + 1)), 0, 0⟩ : State)).toArray)) rfl rfl h_b4 ts118 (Nat.le_of_ble_eq_true rfl) rfl rfl) rfl fun fr w10 u11 r => ?_
  have z_w10 := u11.size
  have h_b1 := u11.keep h_b1 (by omega)
  have h_b4 := u11.at_
  obtain ⟨hB, zB⟩ := u11.on hB (by omega)
  refine wn ?_
  refine wp_ret ?_
  have hd : D.state_State_Freed a0 a1 = (⟨(W (a0.gen + 1)), 0, 0⟩ : State) := (cond_f h7).trans (rfl)
  refine ret_cell r rfl rfl h_b4 (k := 3) rfl ta118 ?_
  rw [hd]
  exact ⟨rfl, hB⟩

def D.state_State_Retire (a0 : State) : State := ({ a0 with mode := 2 })

theorem c_state_State_Retire (w0 : World) 
    (a0 : State) :
    Calls Tryz.prog 130 #[.agg (stateC a0).toArray] w0 (PureRes (.agg (stateC (D.state_State_Retire a0)).toArray) w0) := by
 refine enter Tryz.func130 rfl 5 rfl rfl fun fr r => ?_
 have hB := Below.refl w0.heap.size w0
 refine wsr ?_
 refine seq_new (.cells ((stateC a0)).toArray 118 (0, 0)) r (fun R => y_box r (v := (.agg (stateC a0).toArray)) rfl) rfl fun fr b1 w2 n3 r => ?_
 obtain ⟨e_b1, z_w2, h_b1, hB, zB⟩ := n3.all hB
 refine seq_new (.cells ((stateC (⟨0, 0, 0⟩ : State))).toArray 118 (0, 0)) r (fun R => y_alloc tz118) rfl fun fr b4 w5 n6 r => ?_
 have h_b1 := keep n6.below h_b1
 obtain ⟨e_b4, z_w5, h_b4, hB, zB⟩ := n6.all hB
 refine wn ?_
 refine wsr ?_
 refine seq_val _ r (fun R => y_fieldAddr r (o := 0) rfl fo118_1) rfl fun fr r => ?_
 refine seq_upd (.cells ((stateC ({ a0 with mode := 2 }))).toArray 118 (0, 0)) r (fun R => y_store r (o := 1) (v := (I 2)) rfl rfl h_b1 ts3 (Nat.le_of_ble_eq_true rfl) rfl rfl) rfl fun fr w7 u8 r => ?_
 have z_w7 := u8.size
 have h_b4 := u8.keep h_b4 (by omega)
 have h_b1 := u8.at_
 obtain ⟨hB, zB⟩ := u8.on hB (by omega)
 refine wn ?_
 refine wsr ?_
 refine seq_val (.agg (stateC ({ a0 with mode := 2 })).toArray) r (fun R => y_load_agg r (cs := (stateC ({ a0 with mode := 2 }))) (n := 3) rfl h_b1 ta118 rfl) rfl fun fr r => ?_
 refine seq_upd (.cells ((stateC ({ a0 with mode := 2 }))).toArray 118 (0, 0)) r (fun R => y_store r (o := 0) (v := (.agg (stateC ({ a0 with mode := 2 })).toArray)) rfl rfl h_b4 ts118 (Nat.le_of_ble_eq_true rfl) rfl rfl) rfl fun fr w9 u10 r => ?_
 have z_w9 := u10.size
 have h_b1 := u10.keep h_b1 (by omega)
 have h_b4 := u10.at_
 obtain ⟨hB, zB⟩ := u10.on hB (by omega)
 refine wn ?_
 refine wp_ret ?_
 refine ret_cell r rfl rfl h_b4 (k := 3) rfl ta118 ?_
 exact ⟨rfl, hB⟩

def D.state_State_Formed (a0 : State) : Bool := (bif (decide (a0.gen ≥ 0)) then (bif (decide (a0.gen ≤ 1073741823)) then (bif (decide (a0.mode ≥ 0)) then (bif (decide (a0.mode ≤ 3)) then (bif (decide (a0.kind ≥ 0)) then (decide (a0.kind ≤ 2)) else false) else false) else false) else false) else false)

theorem c_state_State_Formed (w0 : World) 
    (a0 : State) :
    Calls Tryz.prog 157 #[.agg (stateC a0).toArray] w0 (PureRes (.bool (D.state_State_Formed a0)) w0) := by
 refine enter Tryz.func157 rfl 31 rfl rfl fun fr r => ?_
 have hB := Below.refl w0.heap.size w0
 refine wsr ?_
 refine seq_new (.cells ((stateC a0)).toArray 118 (0, 0)) r (fun R => y_box r (v := (.agg (stateC a0).toArray)) rfl) rfl fun fr b1 w2 n3 r => ?_
 obtain ⟨e_b1, z_w2, h_b1, hB, zB⟩ := n3.all hB
 refine seq_val (.bool false) r (fun R => y_assign r rfl) rfl fun fr r => ?_
 refine wn ?_
 refine wsr ?_
 refine seq_val _ r (fun R => y_fieldAddr r (o := 0) rfl fo118_0) rfl fun fr r => ?_
 refine seq_val (I a0.gen) r (fun R => y_load_one r rfl h_b1 to3 rfl) rfl fun fr r => ?_
 refine seq_val _ r (fun R => y_bin r rfl rfl rfl rfl) rfl fun fr r => ?_
 refine seq_val (.bool (decide (a0.gen ≥ 0))) r (fun R => y_move r rfl) rfl fun fr r => ?_
 refine seq_split (decide (a0.gen ≥ 0)) (fun h4 => ?_) (fun h4 => ?_)
 ·
  refine s1 r h4 ?_
  refine seq_val _ r (fun R => y_fieldAddr r (o := 0) rfl fo118_0) rfl fun fr r => ?_
  refine s1 r h4 ?_
  refine seq_val (I a0.gen) r (fun R => y_load_one r rfl h_b1 to3 rfl) rfl fun fr r => ?_
  refine s1 r h4 ?_
  refine seq_val _ r (fun R => y_bin r rfl rfl rfl rfl) rfl fun fr r => ?_
  refine seq_val (.bool (decide (a0.gen ≤ 1073741823))) r (fun R => y_pick r (b := true) (congrArg Value.bool h4) rfl) rfl fun fr r => ?_
  refine seq_val (.bool (decide (a0.gen ≤ 1073741823))) r (fun R => y_move r rfl) rfl fun fr r => ?_
  refine seq_split (decide (a0.gen ≤ 1073741823)) (fun h5 => ?_) (fun h5 => ?_)
  ·
   refine s1 r h5 ?_
   refine seq_val _ r (fun R => y_fieldAddr r (o := 0) rfl fo118_1) rfl fun fr r => ?_
   refine s1 r h5 ?_
   refine seq_val (I a0.mode) r (fun R => y_load_one r rfl h_b1 to3 rfl) rfl fun fr r => ?_
   refine s1 r h5 ?_
   refine seq_val _ r (fun R => y_bin r rfl rfl rfl rfl) rfl fun fr r => ?_
   refine seq_val (.bool (decide (a0.mode ≥ 0))) r (fun R => y_pick r (b := true) (congrArg Value.bool h5) rfl) rfl fun fr r => ?_
   refine seq_val (.bool (decide (a0.mode ≥ 0))) r (fun R => y_move r rfl) rfl fun fr r => ?_
   refine seq_split (decide (a0.mode ≥ 0)) (fun h6 => ?_) (fun h6 => ?_)
   ·
    refine s1 r h6 ?_
    refine seq_val _ r (fun R => y_fieldAddr r (o := 0) rfl fo118_1) rfl fun fr r => ?_
    refine s1 r h6 ?_
    refine seq_val (I a0.mode) r (fun R => y_load_one r rfl h_b1 to3 rfl) rfl fun fr r => ?_
    refine s1 r h6 ?_
    refine seq_val _ r (fun R => y_bin r rfl rfl rfl rfl) rfl fun fr r => ?_
    refine seq_val (.bool (decide (a0.mode ≤ 3))) r (fun R => y_pick r (b := true) (congrArg Value.bool h6) rfl) rfl fun fr r => ?_
    refine seq_val (.bool (decide (a0.mode ≤ 3))) r (fun R => y_move r rfl) rfl fun fr r => ?_
    refine seq_split (decide (a0.mode ≤ 3)) (fun h7 => ?_) (fun h7 => ?_)
    ·
     refine s1 r h7 ?_
     refine seq_val _ r (fun R => y_fieldAddr r (o := 0) rfl fo118_2) rfl fun fr r => ?_
     refine s1 r h7 ?_
     refine seq_val (I a0.kind) r (fun R => y_load_one r rfl h_b1 to3 rfl) rfl fun fr r => ?_
     refine s1 r h7 ?_
     refine seq_val _ r (fun R => y_bin r rfl rfl rfl rfl) rfl fun fr r => ?_
     refine seq_val (.bool (decide (a0.kind ≥ 0))) r (fun R => y_pick r (b := true) (congrArg Value.bool h7) rfl) rfl fun fr r => ?_
     refine seq_val (.bool (decide (a0.kind ≥ 0))) r (fun R => y_move r rfl) rfl fun fr r => ?_
     refine seq_split (decide (a0.kind ≥ 0)) (fun h8 => ?_) (fun h8 => ?_)
     ·
      refine s1 r h8 ?_
      refine seq_val _ r (fun R => y_fieldAddr r (o := 0) rfl fo118_2) rfl fun fr r => ?_
      refine s1 r h8 ?_
      refine seq_val (I a0.kind) r (fun R => y_load_one r rfl h_b1 to3 rfl) rfl fun fr r => ?_
      refine s1 r h8 ?_
      refine seq_val _ r (fun R => y_bin r rfl rfl rfl rfl) rfl fun fr r => ?_
      refine seq_val (.bool (decide (a0.kind ≤ 2))) r (fun R => y_pick r (b := true) (congrArg Value.bool h8) rfl) rfl fun fr r => ?_
      refine seq_val (.bool (decide (a0.kind ≤ 2))) r (fun R => y_assign r rfl) rfl fun fr r => ?_
      refine wn ?_
      refine wp_ret ?_
      have hd : D.state_State_Formed a0 = (decide (a0.kind ≤ 2)) := (cond_t h4).trans ((cond_t h5).trans ((cond_t h6).trans ((cond_t h7).trans ((cond_t h8).trans (rfl)))))
      refine ret_tmp r rfl rfl ?_
      rw [hd]
      exact ⟨rfl, hB⟩
     ·
      refine s0 r h8 fun fr r => ?_
      refine s0 r h8 fun fr r => ?_
      refine s0 r h8 fun fr r => ?_
      refine seq_val (.bool false) r (fun R => y_pick r (b := false) (congrArg Value.bool h8) rfl) rfl fun fr r => ?_
      refine seq_val (.bool false) r (fun R => y_assign r rfl) rfl fun fr r => ?_
      refine wn ?_
      refine wp_ret ?_
      have hd : D.state_State_Formed a0 = false := (cond_t h4).trans ((cond_t h5).trans ((cond_t h6).trans ((cond_t h7).trans ((cond_f h8).trans (rfl)))))
      refine ret_tmp r rfl rfl ?_
      rw [hd]
      exact ⟨rfl, hB⟩
    ·
     refine s0 r h7 fun fr r => ?_
     refine s0 r h7 fun fr r => ?_
     refine s0 r h7 fun fr r => ?_
     refine seq_val (.bool false) r (fun R => y_pick r (b := false) (congrArg Value.bool h7) rfl) rfl fun fr r => ?_
     refine seq_val (.bool false) r (fun R => y_move r rfl) rfl fun fr r => ?_
     refine s0 r (rfl : false = _) fun fr r => ?_
     refine s0 r (rfl : false = _) fun fr r => ?_
     refine s0 r (rfl : false = _) fun fr r => ?_
     refine seq_val (.bool false) r (fun R => y_pick r (b := false) (congrArg Value.bool (rfl : false = _)) rfl) rfl fun fr r => ?_
     refine seq_val (.bool false) r (fun R => y_assign r rfl) rfl fun fr r => ?_
     refine wn ?_
     refine wp_ret ?_
     have hd : D.state_State_Formed a0 = false := (cond_t h4).trans ((cond_t h5).trans ((cond_t h6).trans ((cond_f h7).trans (rfl))))
     refine ret_tmp r rfl rfl ?_
     rw [hd]
     exact ⟨rfl, hB⟩
   ·
    refine s0 r h6 fun fr r => ?_
    refine s0 r h6 fun fr r => ?_
    refine s0 r h6 fun fr r => ?_
    refine seq_val (.bool false) r (fun R => y_pick r (b := false) (congrArg Value.bool h6) rfl) rfl fun fr r => ?_
    refine seq_val (.bool false) r (fun R => y_move r rfl) rfl fun fr r => ?_
    refine s0 r (rfl : false = _) fun fr r => ?_
    refine s0 r (rfl : false = _) fun fr r => ?_
    refine s0 r (rfl : false = _) fun fr r => ?_
    refine seq_val (.bool false) r (fun R => y_pick r (b := false) (congrArg Value.bool (rfl : false = _)) rfl) rfl fun fr r => ?_
    refine seq_val (.bool false) r (fun R => y_move r rfl) rfl fun fr r => ?_
    refine s0 r (rfl : false = _) fun fr r => ?_
    refine s0 r (rfl : false = _) fun fr r => ?_
    refine s0 r (rfl : false = _) fun fr r => ?_
    refine seq_val (.bool false) r (fun R => y_pick r (b := false) (congrArg Value.bool (rfl : false = _)) rfl) rfl fun fr r => ?_
    refine seq_val (.bool false) r (fun R => y_assign r rfl) rfl fun fr r => ?_
    refine wn ?_
    refine wp_ret ?_
    have hd : D.state_State_Formed a0 = false := (cond_t h4).trans ((cond_t h5).trans ((cond_f h6).trans (rfl)))
    refine ret_tmp r rfl rfl ?_
    rw [hd]
    exact ⟨rfl, hB⟩
  ·
   refine s0 r h5 fun fr r => ?_
   refine s0 r h5 fun fr r => ?_
   refine s0 r h5 fun fr r => ?_
   refine seq_val (.bool false) r (fun R => y_pick r (b := false) (congrArg Value.bool h5) rfl) rfl fun fr r => ?_
   refine seq_val (.bool false) r (fun R => y_move r rfl) rfl fun fr r => ?_
   refine s0 r (rfl : false = _) fun fr r => ?_
   refine s0 r (rfl : false = _) fun fr r => ?_
   refine s0 r (rfl : false = _) fun fr r => ?_
   refine seq_val (.bool false) r (fun R => y_pick r (b := false) (congrArg Value.bool (rfl : false = _)) rfl) rfl fun fr r => ?_
   refine seq_val (.bool false) r (fun R => y_move r rfl) rfl fun fr r => ?_
   refine s0 r (rfl : false = _) fun fr r => ?_
   refine s0 r (rfl : false = _) fun fr r => ?_
   refine s0 r (rfl : false = _) fun fr r => ?_
   refine seq_val (.bool false) r (fun R => y_pick r (b := false) (congrArg Value.bool (rfl : false = _)) rfl) rfl fun fr r => ?_
   refine seq_val (.bool false) r (fun R => y_move r rfl) rfl fun fr r => ?_
   refine s0 r (rfl : false = _) fun fr r => ?_
   refine s0 r (rfl : false = _) fun fr r => ?_
   refine s0 r (rfl : false = _) fun fr r => ?_
   refine seq_val (.bool false) r (fun R => y_pick r (b := false) (congrArg Value.bool (rfl : false = _)) rfl) rfl fun fr r => ?_
   refine seq_val (.bool false) r (fun R => y_assign r rfl) rfl fun fr r => ?_
   refine wn ?_
   refine wp_ret ?_
   have hd : D.state_State_Formed a0 = false := (cond_t h4).trans ((cond_f h5).trans (rfl))
   refine ret_tmp r rfl rfl ?_
   rw [hd]
   exact ⟨rfl, hB⟩
 ·
  refine s0 r h4 fun fr r => ?_
  refine s0 r h4 fun fr r => ?_
  refine s0 r h4 fun fr r => ?_
  refine seq_val (.bool false) r (fun R => y_pick r (b := false) (congrArg Value.bool h4) rfl) rfl fun fr r => ?_
  refine seq_val (.bool false) r (fun R => y_move r rfl) rfl fun fr r => ?_
  refine s0 r (rfl : false = _) fun fr r => ?_
  refine s0 r (rfl : false = _) fun fr r => ?_
  refine s0 r (rfl : false = _) fun fr r => ?_
  refine seq_val (.bool false) r (fun R => y_pick r (b := false) (congrArg Value.bool (rfl : false = _)) rfl) rfl fun fr r => ?_
  refine seq_val (.bool false) r (fun R => y_move r rfl) rfl fun fr r => ?_
  refine s0 r (rfl : false = _) fun fr r => ?_
  refine s0 r (rfl : false = _) fun fr r => ?_
  refine s0 r (rfl : false = _) fun fr r => ?_
  refine seq_val (.bool false) r (fun R => y_pick r (b := false) (congrArg Value.bool (rfl : false = _)) rfl) rfl fun fr r => ?_
  refine seq_val (.bool false) r (fun R => y_move r rfl) rfl fun fr r => ?_
  refine s0 r (rfl : false = _) fun fr r => ?_
  refine s0 r (rfl : false = _) fun fr r => ?_
  refine s0 r (rfl : false = _) fun fr r => ?_
  refine seq_val (.bool false) r (fun R => y_pick r (b := false) (congrArg Value.bool (rfl : false = _)) rfl) rfl fun fr r => ?_
  refine seq_val (.bool false) r (fun R => y_move r rfl) rfl fun fr r => ?_
  refine s0 r (rfl : false = _) fun fr r => ?_
  refine s0 r (rfl : false = _) fun fr r => ?_
  refine s0 r (rfl : false = _) fun fr r => ?_
  refine seq_val (.bool false) r (fun R => y_pick r (b := false) (congrArg Value.bool (rfl : false = _)) rfl) rfl fun fr r => ?_
  refine seq_val (.bool false) r (fun R => y_assign r rfl) rfl fun fr r => ?_
  refine wn ?_
  refine wp_ret ?_
  have hd : D.state_State_Formed a0 = false := (cond_f h4).trans (rfl)
  refine ret_tmp r rfl rfl ?_
  rw [hd]
  exact ⟨rfl, hB⟩

end Go.Proofs.YtjkinpbfmihhdaaGreat
