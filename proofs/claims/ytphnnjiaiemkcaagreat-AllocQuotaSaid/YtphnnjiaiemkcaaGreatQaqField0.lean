/- Written by a program of ours (wip/gen.py): fields: their form -/
import Derived.Test.YtphnnjiaiemkcaaGreatQaqPlans
set_option linter.unusedVariables false
namespace Go.Proofs.YtphnnjiaiemkcaaGreat
open Go.RowKit
theorem fo123_0 : fieldOff Tryz.prog 123 0 0 = true := by kernel_rfl

theorem fo123_1 : fieldOff Tryz.prog 123 1 1 = true := by kernel_rfl

def D.field_Field_Formed (a0 : Field) : Bool := (bif (decide (a0.at_ ≥ 0)) then (bif (decide (a0.at_ < 64)) then (bif (decide (a0.bits ≥ 1)) then (decide (a0.bits ≤ (IntKind.i64.wrap (64 - a0.at_)))) else false) else false) else false)

set_option maxRecDepth 20000 in
set_option maxHeartbeats 1000000 in
theorem c_field_Field_Formed (w0 : World) 
    (a0 : Field) :
    Calls Tryz.prog 118 #[.agg (fieldC a0).toArray] w0 (PureRes (.bool (D.field_Field_Formed a0)) w0) := by
  refine enter (l := [.agg (fieldC a0).toArray]) Tryz.func118 rfl 24 rfl rfl fun fr r => ?_
  have hB := Below.refl w0.heap.size w0
  refine wp_seq ?_
  refine wp_region_lit ?_
  refine seq_new (.cells ((fieldC a0)).toArray 123 (0, 0)) r (fun R => y_box r (v := (.agg (fieldC a0).toArray)) rfl) rfl fun fr b1 w2 n3 r => ?_
  have e_b1 := n3.eq
  have z_w2 := n3.size
  have h_b1 := n3.at_
  have hB := hB.trans (n3.below.mono hB.size)
  have zB := hB.size
  refine seq_val (.bool false) r (fun R => y_assign r rfl) rfl fun fr r => ?_
  refine wpList_nil ?_
  refine wp_seq ?_
  refine wp_region_lit ?_
  refine seq_val (.pointer (some ⟨b1, 0, none⟩)) r (fun R => y_fieldAddr r (o := 0) rfl fo123_0) rfl fun fr r => ?_
  refine seq_val (.int .i64 a0.at_) r (fun R => y_load_one r (v := (.int .i64 a0.at_)) rfl h_b1 to3 rfl) rfl fun fr r => ?_
  refine seq_val (.bool (decide (a0.at_ ≥ 0))) r (fun R => y_bin r (u := (.int .i64 a0.at_)) (u' := (.int .i64 0)) rfl rfl rfl rfl) rfl fun fr r => ?_
  refine seq_val (.bool (decide (a0.at_ ≥ 0))) r (fun R => y_move r rfl) rfl fun fr r => ?_
  refine seq_split (decide (a0.at_ ≥ 0)) (fun h4 => ?_) (fun h4 => ?_)
  · skip
    refine seq_want r rfl rfl rfl (congrArg Value.bool h4) ?_
    refine seq_val (.pointer (some ⟨b1, 0, none⟩)) r (fun R => y_fieldAddr r (o := 0) rfl fo123_0) rfl fun fr r => ?_
    refine seq_want r rfl rfl rfl (congrArg Value.bool h4) ?_
    refine seq_val (.int .i64 a0.at_) r (fun R => y_load_one r (v := (.int .i64 a0.at_)) rfl h_b1 to3 rfl) rfl fun fr r => ?_
    refine seq_want r rfl rfl rfl (congrArg Value.bool h4) ?_
    refine seq_val (.bool (decide (a0.at_ < 64))) r (fun R => y_bin r (u := (.int .i64 a0.at_)) (u' := (.int .i64 64)) rfl rfl rfl rfl) rfl fun fr r => ?_
    refine seq_val (.bool (decide (a0.at_ < 64))) r (fun R => y_pick r (b := true) (congrArg Value.bool h4) rfl) rfl fun fr r => ?_
    refine seq_val (.bool (decide (a0.at_ < 64))) r (fun R => y_move r rfl) rfl fun fr r => ?_
    refine seq_split (decide (a0.at_ < 64)) (fun h5 => ?_) (fun h5 => ?_)
    · skip
      refine seq_want r rfl rfl rfl (congrArg Value.bool h5) ?_
      refine seq_val (.pointer (some ⟨b1, 1, none⟩)) r (fun R => y_fieldAddr r (o := 0) rfl fo123_1) rfl fun fr r => ?_
      refine seq_want r rfl rfl rfl (congrArg Value.bool h5) ?_
      refine seq_val (.int .i64 a0.bits) r (fun R => y_load_one r (v := (.int .i64 a0.bits)) rfl h_b1 to3 rfl) rfl fun fr r => ?_
      refine seq_want r rfl rfl rfl (congrArg Value.bool h5) ?_
      refine seq_val (.bool (decide (a0.bits ≥ 1))) r (fun R => y_bin r (u := (.int .i64 a0.bits)) (u' := (.int .i64 1)) rfl rfl rfl rfl) rfl fun fr r => ?_
      refine seq_val (.bool (decide (a0.bits ≥ 1))) r (fun R => y_pick r (b := true) (congrArg Value.bool h5) rfl) rfl fun fr r => ?_
      refine seq_val (.bool (decide (a0.bits ≥ 1))) r (fun R => y_move r rfl) rfl fun fr r => ?_
      refine seq_split (decide (a0.bits ≥ 1)) (fun h6 => ?_) (fun h6 => ?_)
      · skip
        refine seq_want r rfl rfl rfl (congrArg Value.bool h6) ?_
        refine seq_val (.pointer (some ⟨b1, 1, none⟩)) r (fun R => y_fieldAddr r (o := 0) rfl fo123_1) rfl fun fr r => ?_
        refine seq_want r rfl rfl rfl (congrArg Value.bool h6) ?_
        refine seq_val (.int .i64 a0.bits) r (fun R => y_load_one r (v := (.int .i64 a0.bits)) rfl h_b1 to3 rfl) rfl fun fr r => ?_
        refine seq_want r rfl rfl rfl (congrArg Value.bool h6) ?_
        refine seq_val (.pointer (some ⟨b1, 0, none⟩)) r (fun R => y_fieldAddr r (o := 0) rfl fo123_0) rfl fun fr r => ?_
        refine seq_want r rfl rfl rfl (congrArg Value.bool h6) ?_
        refine seq_val (.int .i64 a0.at_) r (fun R => y_load_one r (v := (.int .i64 a0.at_)) rfl h_b1 to3 rfl) rfl fun fr r => ?_
        refine seq_want r rfl rfl rfl (congrArg Value.bool h6) ?_
        refine seq_val (.int .i64 (IntKind.i64.wrap (64 - a0.at_))) r (fun R => y_bin r (u := (.int .i64 64)) (u' := (.int .i64 a0.at_)) rfl rfl rfl rfl) rfl fun fr r => ?_
        refine seq_want r rfl rfl rfl (congrArg Value.bool h6) ?_
        refine seq_val (.bool (decide (a0.bits ≤ (IntKind.i64.wrap (64 - a0.at_))))) r (fun R => y_bin r (u := (.int .i64 a0.bits)) (u' := (.int .i64 (IntKind.i64.wrap (64 - a0.at_)))) rfl rfl rfl rfl) rfl fun fr r => ?_
        refine seq_val (.bool (decide (a0.bits ≤ (IntKind.i64.wrap (64 - a0.at_))))) r (fun R => y_pick r (b := true) (congrArg Value.bool h6) rfl) rfl fun fr r => ?_
        refine seq_val (.bool (decide (a0.bits ≤ (IntKind.i64.wrap (64 - a0.at_))))) r (fun R => y_assign r rfl) rfl fun fr r => ?_
        refine wpList_nil ?_
        refine wp_ret ?_
        have hd : D.field_Field_Formed a0 = (decide (a0.bits ≤ (IntKind.i64.wrap (64 - a0.at_)))) := (cond_t h4).trans ((cond_t h5).trans ((cond_t h6).trans (rfl)))
        refine ret_tmp r rfl (v := (.bool (decide (a0.bits ≤ (IntKind.i64.wrap (64 - a0.at_)))))) rfl ?_
        rw [hd]
        exact ⟨rfl, hB⟩
      · skip
        refine seq_skip r rfl rfl rfl (v := .bool false) (congrArg Value.bool h6) (by simp [boolOf]) fun fr r => ?_
        refine seq_skip r rfl rfl rfl (v := .bool false) (congrArg Value.bool h6) (by simp [boolOf]) fun fr r => ?_
        refine seq_skip r rfl rfl rfl (v := .bool false) (congrArg Value.bool h6) (by simp [boolOf]) fun fr r => ?_
        refine seq_skip r rfl rfl rfl (v := .bool false) (congrArg Value.bool h6) (by simp [boolOf]) fun fr r => ?_
        refine seq_skip r rfl rfl rfl (v := .bool false) (congrArg Value.bool h6) (by simp [boolOf]) fun fr r => ?_
        refine seq_skip r rfl rfl rfl (v := .bool false) (congrArg Value.bool h6) (by simp [boolOf]) fun fr r => ?_
        refine seq_val (.bool false) r (fun R => y_pick r (b := false) (congrArg Value.bool h6) rfl) rfl fun fr r => ?_
        refine seq_val (.bool false) r (fun R => y_assign r rfl) rfl fun fr r => ?_
        refine wpList_nil ?_
        refine wp_ret ?_
        have hd : D.field_Field_Formed a0 = false := (cond_t h4).trans ((cond_t h5).trans ((cond_f h6).trans (rfl)))
        refine ret_tmp r rfl (v := (.bool false)) rfl ?_
        rw [hd]
        exact ⟨rfl, hB⟩
    · skip
      refine seq_skip r rfl rfl rfl (v := .bool false) (congrArg Value.bool h5) (by simp [boolOf]) fun fr r => ?_
      refine seq_skip r rfl rfl rfl (v := .bool false) (congrArg Value.bool h5) (by simp [boolOf]) fun fr r => ?_
      refine seq_skip r rfl rfl rfl (v := .bool false) (congrArg Value.bool h5) (by simp [boolOf]) fun fr r => ?_
      refine seq_val (.bool false) r (fun R => y_pick r (b := false) (congrArg Value.bool h5) rfl) rfl fun fr r => ?_
      refine seq_val (.bool false) r (fun R => y_move r rfl) rfl fun fr r => ?_
      refine seq_skip r rfl rfl rfl (v := .bool false) (congrArg Value.bool (rfl : false = _)) (by simp [boolOf]) fun fr r => ?_
      refine seq_skip r rfl rfl rfl (v := .bool false) (congrArg Value.bool (rfl : false = _)) (by simp [boolOf]) fun fr r => ?_
      refine seq_skip r rfl rfl rfl (v := .bool false) (congrArg Value.bool (rfl : false = _)) (by simp [boolOf]) fun fr r => ?_
      refine seq_skip r rfl rfl rfl (v := .bool false) (congrArg Value.bool (rfl : false = _)) (by simp [boolOf]) fun fr r => ?_
      refine seq_skip r rfl rfl rfl (v := .bool false) (congrArg Value.bool (rfl : false = _)) (by simp [boolOf]) fun fr r => ?_
      refine seq_skip r rfl rfl rfl (v := .bool false) (congrArg Value.bool (rfl : false = _)) (by simp [boolOf]) fun fr r => ?_
      refine seq_val (.bool false) r (fun R => y_pick r (b := false) (congrArg Value.bool (rfl : false = _)) rfl) rfl fun fr r => ?_
      refine seq_val (.bool false) r (fun R => y_assign r rfl) rfl fun fr r => ?_
      refine wpList_nil ?_
      refine wp_ret ?_
      have hd : D.field_Field_Formed a0 = false := (cond_t h4).trans ((cond_f h5).trans (rfl))
      refine ret_tmp r rfl (v := (.bool false)) rfl ?_
      rw [hd]
      exact ⟨rfl, hB⟩
  · skip
    refine seq_skip r rfl rfl rfl (v := .bool false) (congrArg Value.bool h4) (by simp [boolOf]) fun fr r => ?_
    refine seq_skip r rfl rfl rfl (v := .bool false) (congrArg Value.bool h4) (by simp [boolOf]) fun fr r => ?_
    refine seq_skip r rfl rfl rfl (v := .bool false) (congrArg Value.bool h4) (by simp [boolOf]) fun fr r => ?_
    refine seq_val (.bool false) r (fun R => y_pick r (b := false) (congrArg Value.bool h4) rfl) rfl fun fr r => ?_
    refine seq_val (.bool false) r (fun R => y_move r rfl) rfl fun fr r => ?_
    refine seq_skip r rfl rfl rfl (v := .bool false) (congrArg Value.bool (rfl : false = _)) (by simp [boolOf]) fun fr r => ?_
    refine seq_skip r rfl rfl rfl (v := .bool false) (congrArg Value.bool (rfl : false = _)) (by simp [boolOf]) fun fr r => ?_
    refine seq_skip r rfl rfl rfl (v := .bool false) (congrArg Value.bool (rfl : false = _)) (by simp [boolOf]) fun fr r => ?_
    refine seq_val (.bool false) r (fun R => y_pick r (b := false) (congrArg Value.bool (rfl : false = _)) rfl) rfl fun fr r => ?_
    refine seq_val (.bool false) r (fun R => y_move r rfl) rfl fun fr r => ?_
    refine seq_skip r rfl rfl rfl (v := .bool false) (congrArg Value.bool (rfl : false = _)) (by simp [boolOf]) fun fr r => ?_
    refine seq_skip r rfl rfl rfl (v := .bool false) (congrArg Value.bool (rfl : false = _)) (by simp [boolOf]) fun fr r => ?_
    refine seq_skip r rfl rfl rfl (v := .bool false) (congrArg Value.bool (rfl : false = _)) (by simp [boolOf]) fun fr r => ?_
    refine seq_skip r rfl rfl rfl (v := .bool false) (congrArg Value.bool (rfl : false = _)) (by simp [boolOf]) fun fr r => ?_
    refine seq_skip r rfl rfl rfl (v := .bool false) (congrArg Value.bool (rfl : false = _)) (by simp [boolOf]) fun fr r => ?_
    refine seq_skip r rfl rfl rfl (v := .bool false) (congrArg Value.bool (rfl : false = _)) (by simp [boolOf]) fun fr r => ?_
    refine seq_val (.bool false) r (fun R => y_pick r (b := false) (congrArg Value.bool (rfl : false = _)) rfl) rfl fun fr r => ?_
    refine seq_val (.bool false) r (fun R => y_assign r rfl) rfl fun fr r => ?_
    refine wpList_nil ?_
    refine wp_ret ?_
    have hd : D.field_Field_Formed a0 = false := (cond_f h4).trans (rfl)
    refine ret_tmp r rfl (v := (.bool false)) rfl ?_
    rw [hd]
    exact ⟨rfl, hB⟩

end Go.Proofs.YtphnnjiaiemkcaaGreat
