/- Written by a program of ours (wip/gen.py): handles -/
import Derived.Test.YtjkinpbfmihhdaaGreatCfFields
import Derived.Test.YtjkinpbfmihhdaaGreatCfTypes2
import Derived.Test.YtjkinpbfmihhdaaGreatCfBsx
set_option linter.unusedVariables false
set_option maxRecDepth 20000
set_option maxHeartbeats 2000000
namespace Go.Proofs.YtjkinpbfmihhdaaGreat
open Go.RowKit
theorem fo63_0 : fieldOff Tryz.prog 63 0 0 = true := by kernel_rfl

theorem fo63_1 : fieldOff Tryz.prog 63 1 1 = true := by kernel_rfl

theorem fo63_2 : fieldOff Tryz.prog 63 2 2 = true := by kernel_rfl

def D.handle_Handle_Formed (a0 : Handle) : Bool := (bif (decide (a0.index ≥ 0)) then (bif (decide (a0.index < 1048576)) then (bif (decide (a0.gen ≥ 0)) then (bif (decide (a0.gen ≤ 1073741823)) then (bif (decide (a0.tenant ≥ 0)) then (decide (a0.tenant < 64)) else false) else false) else false) else false) else false)

theorem c_handle_Handle_Formed (w0 : World) 
    (a0 : Handle) :
    Calls Tryz.prog 214 #[.agg (handleC a0).toArray] w0 (PureRes (.bool (D.handle_Handle_Formed a0)) w0) := by
 refine enter Tryz.func214 rfl 31 rfl rfl fun fr r => ?_
 have hB := Below.refl w0.heap.size w0
 refine wsr ?_
 refine seq_new (.cells ((handleC a0)).toArray 63 (0, 0)) r (fun R => y_box r (v := (.agg (handleC a0).toArray)) rfl) rfl fun fr b1 w2 n3 r => ?_
 obtain ⟨e_b1, z_w2, h_b1, hB, zB⟩ := n3.all hB
 refine seq_val (.bool false) r (fun R => y_assign r rfl) rfl fun fr r => ?_
 refine wn ?_
 refine wsr ?_
 refine seq_val _ r (fun R => y_fieldAddr r (o := 0) rfl fo63_0) rfl fun fr r => ?_
 refine seq_val (I a0.index) r (fun R => y_load_one r rfl h_b1 to3 rfl) rfl fun fr r => ?_
 refine seq_val _ r (fun R => y_bin r rfl rfl rfl rfl) rfl fun fr r => ?_
 refine seq_val (.bool (decide (a0.index ≥ 0))) r (fun R => y_move r rfl) rfl fun fr r => ?_
 refine seq_split (decide (a0.index ≥ 0)) (fun h4 => ?_) (fun h4 => ?_)
 ·
  refine s1 r h4 ?_
  refine seq_val _ r (fun R => y_fieldAddr r (o := 0) rfl fo63_0) rfl fun fr r => ?_
  refine s1 r h4 ?_
  refine seq_val (I a0.index) r (fun R => y_load_one r rfl h_b1 to3 rfl) rfl fun fr r => ?_
  refine s1 r h4 ?_
  refine seq_val _ r (fun R => y_bin r rfl rfl rfl rfl) rfl fun fr r => ?_
  refine seq_val (.bool (decide (a0.index < 1048576))) r (fun R => y_pick r (b := true) (congrArg Value.bool h4) rfl) rfl fun fr r => ?_
  refine seq_val (.bool (decide (a0.index < 1048576))) r (fun R => y_move r rfl) rfl fun fr r => ?_
  refine seq_split (decide (a0.index < 1048576)) (fun h5 => ?_) (fun h5 => ?_)
  ·
   refine s1 r h5 ?_
   refine seq_val _ r (fun R => y_fieldAddr r (o := 0) rfl fo63_1) rfl fun fr r => ?_
   refine s1 r h5 ?_
   refine seq_val (I a0.gen) r (fun R => y_load_one r rfl h_b1 to3 rfl) rfl fun fr r => ?_
   refine s1 r h5 ?_
   refine seq_val _ r (fun R => y_bin r rfl rfl rfl rfl) rfl fun fr r => ?_
   refine seq_val (.bool (decide (a0.gen ≥ 0))) r (fun R => y_pick r (b := true) (congrArg Value.bool h5) rfl) rfl fun fr r => ?_
   refine seq_val (.bool (decide (a0.gen ≥ 0))) r (fun R => y_move r rfl) rfl fun fr r => ?_
   refine seq_split (decide (a0.gen ≥ 0)) (fun h6 => ?_) (fun h6 => ?_)
   ·
    refine s1 r h6 ?_
    refine seq_val _ r (fun R => y_fieldAddr r (o := 0) rfl fo63_1) rfl fun fr r => ?_
    refine s1 r h6 ?_
    refine seq_val (I a0.gen) r (fun R => y_load_one r rfl h_b1 to3 rfl) rfl fun fr r => ?_
    refine s1 r h6 ?_
    refine seq_val _ r (fun R => y_bin r rfl rfl rfl rfl) rfl fun fr r => ?_
    refine seq_val (.bool (decide (a0.gen ≤ 1073741823))) r (fun R => y_pick r (b := true) (congrArg Value.bool h6) rfl) rfl fun fr r => ?_
    refine seq_val (.bool (decide (a0.gen ≤ 1073741823))) r (fun R => y_move r rfl) rfl fun fr r => ?_
    refine seq_split (decide (a0.gen ≤ 1073741823)) (fun h7 => ?_) (fun h7 => ?_)
    ·
     refine s1 r h7 ?_
     refine seq_val _ r (fun R => y_fieldAddr r (o := 0) rfl fo63_2) rfl fun fr r => ?_
     refine s1 r h7 ?_
     refine seq_val (I a0.tenant) r (fun R => y_load_one r rfl h_b1 to3 rfl) rfl fun fr r => ?_
     refine s1 r h7 ?_
     refine seq_val _ r (fun R => y_bin r rfl rfl rfl rfl) rfl fun fr r => ?_
     refine seq_val (.bool (decide (a0.tenant ≥ 0))) r (fun R => y_pick r (b := true) (congrArg Value.bool h7) rfl) rfl fun fr r => ?_
     refine seq_val (.bool (decide (a0.tenant ≥ 0))) r (fun R => y_move r rfl) rfl fun fr r => ?_
     refine seq_split (decide (a0.tenant ≥ 0)) (fun h8 => ?_) (fun h8 => ?_)
     ·
      refine s1 r h8 ?_
      refine seq_val _ r (fun R => y_fieldAddr r (o := 0) rfl fo63_2) rfl fun fr r => ?_
      refine s1 r h8 ?_
      refine seq_val (I a0.tenant) r (fun R => y_load_one r rfl h_b1 to3 rfl) rfl fun fr r => ?_
      refine s1 r h8 ?_
      refine seq_val _ r (fun R => y_bin r rfl rfl rfl rfl) rfl fun fr r => ?_
      refine seq_val (.bool (decide (a0.tenant < 64))) r (fun R => y_pick r (b := true) (congrArg Value.bool h8) rfl) rfl fun fr r => ?_
      refine seq_val (.bool (decide (a0.tenant < 64))) r (fun R => y_assign r rfl) rfl fun fr r => ?_
      refine wn ?_
      refine wp_ret ?_
      have hd : D.handle_Handle_Formed a0 = (decide (a0.tenant < 64)) := (cond_t h4).trans ((cond_t h5).trans ((cond_t h6).trans ((cond_t h7).trans ((cond_t h8).trans (rfl)))))
      refine ret_tmp r rfl rfl ?_
      rw [hd]
      exact ⟨rfl, hB⟩
     ·
      refine s0 r h8 fun fr r => ?_
      refine s0 r h8 fun fr r => ?_
      refine s0 r h8 fun fr r => ?_
      refine seq_val (.bool false) r (fun R => y_pick r (b := false) (congrArg Value.bool h8) rfl) rfl fun fr r => ?_
      refine seq_val (.bool false) r (fun R => y_assign r rfl) rfl fun fr r => ?_
      refine wn ?_
      refine wp_ret ?_
      have hd : D.handle_Handle_Formed a0 = false := (cond_t h4).trans ((cond_t h5).trans ((cond_t h6).trans ((cond_t h7).trans ((cond_f h8).trans (rfl)))))
      refine ret_tmp r rfl rfl ?_
      rw [hd]
      exact ⟨rfl, hB⟩
    ·
     refine s0 r h7 fun fr r => ?_
     refine s0 r h7 fun fr r => ?_
     refine s0 r h7 fun fr r => ?_
     refine seq_val (.bool false) r (fun R => y_pick r (b := false) (congrArg Value.bool h7) rfl) rfl fun fr r => ?_
     refine seq_val (.bool false) r (fun R => y_move r rfl) rfl fun fr r => ?_
     refine s0 r (rfl : false = _) fun fr r => ?_
     refine s0 r (rfl : false = _) fun fr r => ?_
     refine s0 r (rfl : false = _) fun fr r => ?_
     refine seq_val (.bool false) r (fun R => y_pick r (b := false) (congrArg Value.bool (rfl : false = _)) rfl) rfl fun fr r => ?_
     refine seq_val (.bool false) r (fun R => y_assign r rfl) rfl fun fr r => ?_
     refine wn ?_
     refine wp_ret ?_
     have hd : D.handle_Handle_Formed a0 = false := (cond_t h4).trans ((cond_t h5).trans ((cond_t h6).trans ((cond_f h7).trans (rfl))))
     refine ret_tmp r rfl rfl ?_
     rw [hd]
     exact ⟨rfl, hB⟩
   ·
    refine s0 r h6 fun fr r => ?_
    refine s0 r h6 fun fr r => ?_
    refine s0 r h6 fun fr r => ?_
    refine seq_val (.bool false) r (fun R => y_pick r (b := false) (congrArg Value.bool h6) rfl) rfl fun fr r => ?_
    refine seq_val (.bool false) r (fun R => y_move r rfl) rfl fun fr r => ?_
    refine s0 r (rfl : false = _) fun fr r => ?_
    refine s0 r (rfl : false = _) fun fr r => ?_
    refine s0 r (rfl : false = _) fun fr r => ?_
    refine seq_val (.bool false) r (fun R => y_pick r (b := false) (congrArg Value.bool (rfl : false = _)) rfl) rfl fun fr r => ?_
    refine seq_val (.bool false) r (fun R => y_move r rfl) rfl fun fr r => ?_
    refine s0 r (rfl : false = _) fun fr r => ?_
    refine s0 r (rfl : false = _) fun fr r => ?_
    refine s0 r (rfl : false = _) fun fr r => ?_
    refine seq_val (.bool false) r (fun R => y_pick r (b := false) (congrArg Value.bool (rfl : false = _)) rfl) rfl fun fr r => ?_
    refine seq_val (.bool false) r (fun R => y_assign r rfl) rfl fun fr r => ?_
    refine wn ?_
    refine wp_ret ?_
    have hd : D.handle_Handle_Formed a0 = false := (cond_t h4).trans ((cond_t h5).trans ((cond_f h6).trans (rfl)))
    refine ret_tmp r rfl rfl ?_
    rw [hd]
    exact ⟨rfl, hB⟩
  ·
   refine s0 r h5 fun fr r => ?_
   refine s0 r h5 fun fr r => ?_
   refine s0 r h5 fun fr r => ?_
   refine seq_val (.bool false) r (fun R => y_pick r (b := false) (congrArg Value.bool h5) rfl) rfl fun fr r => ?_
   refine seq_val (.bool false) r (fun R => y_move r rfl) rfl fun fr r => ?_
   refine s0 r (rfl : false = _) fun fr r => ?_
   refine s0 r (rfl : false = _) fun fr r => ?_
   refine s0 r (rfl : false = _) fun fr r => ?_
   refine seq_val (.bool false) r (fun R => y_pick r (b := false) (congrArg Value.bool (rfl : false = _)) rfl) rfl fun fr r => ?_
   refine seq_val (.bool false) r (fun R => y_move r rfl) rfl fun fr r => ?_
   refine s0 r (rfl : false = _) fun fr r => ?_
   refine s0 r (rfl : false = _) fun fr r => ?_
   refine s0 r (rfl : false = _) fun fr r => ?_
   refine seq_val (.bool false) r (fun R => y_pick r (b := false) (congrArg Value.bool (rfl : false = _)) rfl) rfl fun fr r => ?_
   refine seq_val (.bool false) r (fun R => y_move r rfl) rfl fun fr r => ?_
   refine s0 r (rfl : false = _) fun fr r => ?_
   refine s0 r (rfl : false = _) fun fr r => ?_
   refine s0 r (rfl : false = _) fun fr r => ?_
   refine seq_val (.bool false) r (fun R => y_pick r (b := false) (congrArg Value.bool (rfl : false = _)) rfl) rfl fun fr r => ?_
   refine seq_val (.bool false) r (fun R => y_assign r rfl) rfl fun fr r => ?_
   refine wn ?_
   refine wp_ret ?_
   have hd : D.handle_Handle_Formed a0 = false := (cond_t h4).trans ((cond_f h5).trans (rfl))
   refine ret_tmp r rfl rfl ?_
   rw [hd]
   exact ⟨rfl, hB⟩
 ·
  refine s0 r h4 fun fr r => ?_
  refine s0 r h4 fun fr r => ?_
  refine s0 r h4 fun fr r => ?_
  refine seq_val (.bool false) r (fun R => y_pick r (b := false) (congrArg Value.bool h4) rfl) rfl fun fr r => ?_
  refine seq_val (.bool false) r (fun R => y_move r rfl) rfl fun fr r => ?_
  refine s0 r (rfl : false = _) fun fr r => ?_
  refine s0 r (rfl : false = _) fun fr r => ?_
  refine s0 r (rfl : false = _) fun fr r => ?_
  refine seq_val (.bool false) r (fun R => y_pick r (b := false) (congrArg Value.bool (rfl : false = _)) rfl) rfl fun fr r => ?_
  refine seq_val (.bool false) r (fun R => y_move r rfl) rfl fun fr r => ?_
  refine s0 r (rfl : false = _) fun fr r => ?_
  refine s0 r (rfl : false = _) fun fr r => ?_
  refine s0 r (rfl : false = _) fun fr r => ?_
  refine seq_val (.bool false) r (fun R => y_pick r (b := false) (congrArg Value.bool (rfl : false = _)) rfl) rfl fun fr r => ?_
  refine seq_val (.bool false) r (fun R => y_move r rfl) rfl fun fr r => ?_
  refine s0 r (rfl : false = _) fun fr r => ?_
  refine s0 r (rfl : false = _) fun fr r => ?_
  refine s0 r (rfl : false = _) fun fr r => ?_
  refine seq_val (.bool false) r (fun R => y_pick r (b := false) (congrArg Value.bool (rfl : false = _)) rfl) rfl fun fr r => ?_
  refine seq_val (.bool false) r (fun R => y_move r rfl) rfl fun fr r => ?_
  refine s0 r (rfl : false = _) fun fr r => ?_
  refine s0 r (rfl : false = _) fun fr r => ?_
  refine s0 r (rfl : false = _) fun fr r => ?_
  refine seq_val (.bool false) r (fun R => y_pick r (b := false) (congrArg Value.bool (rfl : false = _)) rfl) rfl fun fr r => ?_
  refine seq_val (.bool false) r (fun R => y_assign r rfl) rfl fun fr r => ?_
  refine wn ?_
  refine wp_ret ?_
  have hd : D.handle_Handle_Formed a0 = false := (cond_f h4).trans (rfl)
  refine ret_tmp r rfl rfl ?_
  rw [hd]
  exact ⟨rfl, hB⟩

end Go.Proofs.YtjkinpbfmihhdaaGreat
