/- Written by a program of ours (wip/gen.py): fields: their form -/
import Derived.Test.YtjkinpbfmihhdaaGreatCfPlans
set_option linter.unusedVariables false
set_option maxRecDepth 20000
set_option maxHeartbeats 2000000
namespace Go.Proofs.YtjkinpbfmihhdaaGreat
open Go.RowKit
theorem fo223_0 : fieldOff Tryz.prog 223 0 0 = true := by kernel_rfl

theorem fo223_1 : fieldOff Tryz.prog 223 1 1 = true := by kernel_rfl

def D.field_Field_Formed (a0 : Field) : Bool := (bif (decide (a0.at_ ≥ 0)) then (bif (decide (a0.at_ < 64)) then (bif (decide (a0.bits ≥ 1)) then (decide (a0.bits ≤ (IntKind.i64.wrap (64 - a0.at_)))) else false) else false) else false)

theorem c_field_Field_Formed (w0 : World) 
    (a0 : Field) :
    Calls Tryz.prog 262 #[.agg (fieldC a0).toArray] w0 (PureRes (.bool (D.field_Field_Formed a0)) w0) := by
 refine enter Tryz.func262 rfl 24 rfl rfl fun fr r => ?_
 have hB := Below.refl w0.heap.size w0
 refine wsr ?_
 refine seq_new (.cells ((fieldC a0)).toArray 223 (0, 0)) r (fun R => y_box r (v := (.agg (fieldC a0).toArray)) rfl) rfl fun fr b1 w2 n3 r => ?_
 obtain ⟨e_b1, z_w2, h_b1, hB, zB⟩ := n3.all hB
 refine seq_val (.bool false) r (fun R => y_assign r rfl) rfl fun fr r => ?_
 refine wn ?_
 refine wsr ?_
 refine seq_val _ r (fun R => y_fieldAddr r (o := 0) rfl fo223_0) rfl fun fr r => ?_
 refine seq_val (I a0.at_) r (fun R => y_load_one r rfl h_b1 to3 rfl) rfl fun fr r => ?_
 refine seq_val _ r (fun R => y_bin r rfl rfl rfl rfl) rfl fun fr r => ?_
 refine seq_val (.bool (decide (a0.at_ ≥ 0))) r (fun R => y_move r rfl) rfl fun fr r => ?_
 refine seq_split (decide (a0.at_ ≥ 0)) (fun h4 => ?_) (fun h4 => ?_)
 ·
  refine s1 r h4 ?_
  refine seq_val _ r (fun R => y_fieldAddr r (o := 0) rfl fo223_0) rfl fun fr r => ?_
  refine s1 r h4 ?_
  refine seq_val (I a0.at_) r (fun R => y_load_one r rfl h_b1 to3 rfl) rfl fun fr r => ?_
  refine s1 r h4 ?_
  refine seq_val _ r (fun R => y_bin r rfl rfl rfl rfl) rfl fun fr r => ?_
  refine seq_val (.bool (decide (a0.at_ < 64))) r (fun R => y_pick r (b := true) (congrArg Value.bool h4) rfl) rfl fun fr r => ?_
  refine seq_val (.bool (decide (a0.at_ < 64))) r (fun R => y_move r rfl) rfl fun fr r => ?_
  refine seq_split (decide (a0.at_ < 64)) (fun h5 => ?_) (fun h5 => ?_)
  ·
   refine s1 r h5 ?_
   refine seq_val _ r (fun R => y_fieldAddr r (o := 0) rfl fo223_1) rfl fun fr r => ?_
   refine s1 r h5 ?_
   refine seq_val (I a0.bits) r (fun R => y_load_one r rfl h_b1 to3 rfl) rfl fun fr r => ?_
   refine s1 r h5 ?_
   refine seq_val _ r (fun R => y_bin r rfl rfl rfl rfl) rfl fun fr r => ?_
   refine seq_val (.bool (decide (a0.bits ≥ 1))) r (fun R => y_pick r (b := true) (congrArg Value.bool h5) rfl) rfl fun fr r => ?_
   refine seq_val (.bool (decide (a0.bits ≥ 1))) r (fun R => y_move r rfl) rfl fun fr r => ?_
   refine seq_split (decide (a0.bits ≥ 1)) (fun h6 => ?_) (fun h6 => ?_)
   ·
    refine s1 r h6 ?_
    refine seq_val _ r (fun R => y_fieldAddr r (o := 0) rfl fo223_1) rfl fun fr r => ?_
    refine s1 r h6 ?_
    refine seq_val (I a0.bits) r (fun R => y_load_one r rfl h_b1 to3 rfl) rfl fun fr r => ?_
    refine s1 r h6 ?_
    refine seq_val _ r (fun R => y_fieldAddr r (o := 0) rfl fo223_0) rfl fun fr r => ?_
    refine s1 r h6 ?_
    refine seq_val (I a0.at_) r (fun R => y_load_one r rfl h_b1 to3 rfl) rfl fun fr r => ?_
    refine s1 r h6 ?_
    refine seq_val _ r (fun R => y_bin r rfl rfl rfl rfl) rfl fun fr r => ?_
    refine s1 r h6 ?_
    refine seq_val _ r (fun R => y_bin r rfl rfl rfl rfl) rfl fun fr r => ?_
    refine seq_val (.bool (decide (a0.bits ≤ (W (64 - a0.at_))))) r (fun R => y_pick r (b := true) (congrArg Value.bool h6) rfl) rfl fun fr r => ?_
    refine seq_val (.bool (decide (a0.bits ≤ (W (64 - a0.at_))))) r (fun R => y_assign r rfl) rfl fun fr r => ?_
    refine wn ?_
    refine wp_ret ?_
    have hd : D.field_Field_Formed a0 = (decide (a0.bits ≤ (W (64 - a0.at_)))) := (cond_t h4).trans ((cond_t h5).trans ((cond_t h6).trans (rfl)))
    refine ret_tmp r rfl rfl ?_
    rw [hd]
    exact ⟨rfl, hB⟩
   ·
    refine s0 r h6 fun fr r => ?_
    refine s0 r h6 fun fr r => ?_
    refine s0 r h6 fun fr r => ?_
    refine s0 r h6 fun fr r => ?_
    refine s0 r h6 fun fr r => ?_
    refine s0 r h6 fun fr r => ?_
    refine seq_val (.bool false) r (fun R => y_pick r (b := false) (congrArg Value.bool h6) rfl) rfl fun fr r => ?_
    refine seq_val (.bool false) r (fun R => y_assign r rfl) rfl fun fr r => ?_
    refine wn ?_
    refine wp_ret ?_
    have hd : D.field_Field_Formed a0 = false := (cond_t h4).trans ((cond_t h5).trans ((cond_f h6).trans (rfl)))
    refine ret_tmp r rfl rfl ?_
    rw [hd]
    exact ⟨rfl, hB⟩
  ·
   refine s0 r h5 fun fr r => ?_
   refine s0 r h5 fun fr r => ?_
   refine s0 r h5 fun fr r => ?_
   refine seq_val (.bool false) r (fun R => y_pick r (b := false) (congrArg Value.bool h5) rfl) rfl fun fr r => ?_
   refine seq_val (.bool false) r (fun R => y_move r rfl) rfl fun fr r => ?_
   refine s0 r (rfl : false = _) fun fr r => ?_
   refine s0 r (rfl : false = _) fun fr r => ?_
   refine s0 r (rfl : false = _) fun fr r => ?_
   refine s0 r (rfl : false = _) fun fr r => ?_
   refine s0 r (rfl : false = _) fun fr r => ?_
   refine s0 r (rfl : false = _) fun fr r => ?_
   refine seq_val (.bool false) r (fun R => y_pick r (b := false) (congrArg Value.bool (rfl : false = _)) rfl) rfl fun fr r => ?_
   refine seq_val (.bool false) r (fun R => y_assign r rfl) rfl fun fr r => ?_
   refine wn ?_
   refine wp_ret ?_
   have hd : D.field_Field_Formed a0 = false := (cond_t h4).trans ((cond_f h5).trans (rfl))
   refine ret_tmp r rfl rfl ?_
   rw [hd]
   exact ⟨rfl, hB⟩
 ·
  refine s0 r h4 fun fr r => ?_
  refine s0 r h4 fun fr r => ?_
  refine s0 r h4 fun fr r => ?_
  refine seq_val (.bool false) r (fun R => y_pick r (b := false) (congrArg Value.bool h4) rfl) rfl fun fr r => ?_
  refine seq_val (.bool false) r (fun R => y_move r rfl) rfl fun fr r => ?_
  refine s0 r (rfl : false = _) fun fr r => ?_
  refine s0 r (rfl : false = _) fun fr r => ?_
  refine s0 r (rfl : false = _) fun fr r => ?_
  refine seq_val (.bool false) r (fun R => y_pick r (b := false) (congrArg Value.bool (rfl : false = _)) rfl) rfl fun fr r => ?_
  refine seq_val (.bool false) r (fun R => y_move r rfl) rfl fun fr r => ?_
  refine s0 r (rfl : false = _) fun fr r => ?_
  refine s0 r (rfl : false = _) fun fr r => ?_
  refine s0 r (rfl : false = _) fun fr r => ?_
  refine s0 r (rfl : false = _) fun fr r => ?_
  refine s0 r (rfl : false = _) fun fr r => ?_
  refine s0 r (rfl : false = _) fun fr r => ?_
  refine seq_val (.bool false) r (fun R => y_pick r (b := false) (congrArg Value.bool (rfl : false = _)) rfl) rfl fun fr r => ?_
  refine seq_val (.bool false) r (fun R => y_assign r rfl) rfl fun fr r => ?_
  refine wn ?_
  refine wp_ret ?_
  have hd : D.field_Field_Formed a0 = false := (cond_f h4).trans (rfl)
  refine ret_tmp r rfl rfl ?_
  rw [hd]
  exact ⟨rfl, hB⟩

end Go.Proofs.YtjkinpbfmihhdaaGreat
