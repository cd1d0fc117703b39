/- Written by a program of ours (wip/gen.py): fields -/
import Derived.Test.YtphnnjiaiemkcaaGreatQaqField1
set_option linter.unusedVariables false
namespace Go.Proofs.YtphnnjiaiemkcaaGreat
open Go.RowKit
theorem cl118 : callable Tryz.prog 118 = true := by kernel_rfl

theorem cl119 : callable Tryz.prog 119 = true := by kernel_rfl

theorem cl149 : callable Tryz.prog 149 = true := by kernel_rfl

theorem ta123 : tyA Tryz.prog 123 2 = true := by kernel_rfl

def D.field_Field_Most (a0 : Field) : Int := (bif (!(D.field_Field_Formed a0)) then 0 else (bif (a0.bits == 64) then 18446744073709551615 else (IntKind.u64.wrap ((shlI .u64 1 a0.bits) - 1))))

set_option maxRecDepth 20000 in
set_option maxHeartbeats 1000000 in
theorem c_field_Field_Most (w0 : World) 
    (a0 : Field) :
    Calls Tryz.prog 119 #[.agg (fieldC a0).toArray] w0 (PureRes (.int .u64 (D.field_Field_Most a0)) w0) := by
  refine enter (l := [.agg (fieldC a0).toArray]) Tryz.func119 rfl 15 rfl rfl fun fr r => ?_
  have hB := Below.refl w0.heap.size w0
  refine wp_seq ?_
  refine wp_region_lit ?_
  refine seq_new (.cells ((fieldC a0)).toArray 123 (0, 0)) r (fun R => y_box r (v := (.agg (fieldC a0).toArray)) rfl) rfl fun fr b1 w2 n3 r => ?_
  have e_b1 := n3.eq
  have z_w2 := n3.size
  have h_b1 := n3.at_
  have hB := hB.trans (n3.below.mono hB.size)
  have zB := hB.size
  refine seq_val (.int .u64 0) r (fun R => y_assign r rfl) rfl fun fr r => ?_
  refine wpList_nil ?_
  refine wp_seq ?_
  refine wp_block ?_
  refine wp_seq ?_
  refine wp_region_lit ?_
  refine seq_val (.agg (fieldC a0).toArray) r (fun R => y_load_agg r (cs := (fieldC a0)) (n := 2) rfl h_b1 ta123 rfl) rfl fun fr r => ?_
  refine seq_call r (c_field_Field_Formed w2 a0) (fun R hc => y_call r rfl cl118 hc) rfl ?_
  rintro _ w4 ⟨rfl, hb⟩
  refine ⟨_, rfl, fun fr r => ?_⟩
  have z_w4 := hb.size
  have h_b1 := keep hb h_b1
  have hB := hB.trans (hb.mono hB.size)
  have zB := hB.size
  refine seq_val (.bool (!(D.field_Field_Formed a0))) r (fun R => y_un r (u := (.bool (D.field_Field_Formed a0))) rfl rfl) rfl fun fr r => ?_
  refine seq_val (.bool (!(D.field_Field_Formed a0))) r (fun R => y_assign r rfl) rfl fun fr r => ?_
  refine wpList_nil ?_
  refine wp_cond_split (t := (!(D.field_Field_Formed a0))) (r.ev rfl) (fun h5 => ?_) (fun h5 => ?_)
  · skip
    refine wp_seq ?_
    refine wp_region_lit ?_
    refine seq_val (.int .u64 0) r (fun R => y_assign r rfl) rfl fun fr r => ?_
    refine wpList_nil ?_
    refine wp_ret ?_
    have hd : D.field_Field_Most a0 = 0 := (cond_t h5).trans (rfl)
    refine ret_tmp r rfl (v := (.int .u64 0)) rfl ?_
    rw [hd]
    exact ⟨rfl, hB⟩
  · skip
    refine wp_seq ?_
    refine wp_region_lit ?_
    refine seq_val (.pointer (some ⟨b1, 1, none⟩)) r (fun R => y_fieldAddr r (o := 0) rfl fo123_1) rfl fun fr r => ?_
    refine seq_val (.int .i64 a0.bits) r (fun R => y_load_one r (v := (.int .i64 a0.bits)) rfl h_b1 to3 rfl) rfl fun fr r => ?_
    refine seq_val (.bool (a0.bits == 64)) r (fun R => y_bin r (u := (.int .i64 a0.bits)) (u' := (.int .i64 64)) rfl rfl rfl rfl) rfl fun fr r => ?_
    refine seq_val (.bool (a0.bits == 64)) r (fun R => y_assign r rfl) rfl fun fr r => ?_
    refine wpList_nil ?_
    refine wp_cond_split (t := (a0.bits == 64)) (r.ev rfl) (fun h6 => ?_) (fun h6 => ?_)
    · skip
      refine wp_seq ?_
      refine wp_region_lit ?_
      refine seq_val (.int .u64 18446744073709551615) r (fun R => y_assign r rfl) rfl fun fr r => ?_
      refine wpList_nil ?_
      refine wp_ret ?_
      have hd : D.field_Field_Most a0 = 18446744073709551615 := (cond_f h5).trans ((cond_t h6).trans (rfl))
      refine ret_tmp r rfl (v := (.int .u64 18446744073709551615)) rfl ?_
      rw [hd]
      exact ⟨rfl, hB⟩
    · skip
      refine wp_skip ?_
      refine wp_seq ?_
      refine wp_region_lit ?_
      refine seq_val (.pointer (some ⟨b1, 1, none⟩)) r (fun R => y_fieldAddr r (o := 0) rfl fo123_1) rfl fun fr r => ?_
      refine seq_val (.int .i64 a0.bits) r (fun R => y_load_one r (v := (.int .i64 a0.bits)) rfl h_b1 to3 rfl) rfl fun fr r => ?_
      refine seq_val (.int .u64 (shlI .u64 1 a0.bits)) r (fun R => y_bin r (u := (.int .u64 1)) (u' := (.int .i64 a0.bits)) rfl rfl rfl (bin_shl (by first | assumption | decide | (have hq := field_formed (by simpa using ‹(!D.field_Field_Formed _) = false›); omega)))) rfl fun fr r => ?_
      refine seq_val (.int .u64 (IntKind.u64.wrap ((shlI .u64 1 a0.bits) - 1))) r (fun R => y_bin r (u := (.int .u64 (shlI .u64 1 a0.bits))) (u' := (.int .u64 1)) rfl rfl rfl rfl) rfl fun fr r => ?_
      refine seq_val (.int .u64 (IntKind.u64.wrap ((shlI .u64 1 a0.bits) - 1))) r (fun R => y_assign r rfl) rfl fun fr r => ?_
      refine wpList_nil ?_
      refine wp_ret ?_
      have hd : D.field_Field_Most a0 = (IntKind.u64.wrap ((shlI .u64 1 a0.bits) - 1)) := (cond_f h5).trans ((cond_f h6).trans (rfl))
      refine ret_tmp r rfl (v := (.int .u64 (IntKind.u64.wrap ((shlI .u64 1 a0.bits) - 1)))) rfl ?_
      rw [hd]
      exact ⟨rfl, hB⟩

def D.field_Field_Get (a0 : Field) (a1 : Int) : Int := (bif (!(D.field_Field_Formed a0)) then 0 else (bits_and .u64 (shrI .u64 a1 a0.at_) (D.field_Field_Most a0)))

set_option maxRecDepth 20000 in
set_option maxHeartbeats 1000000 in
theorem c_field_Field_Get (w0 : World) 
    (a0 : Field) (a1 : Int) :
    Calls Tryz.prog 67 #[.agg (fieldC a0).toArray, .int .u64 a1] w0 (PureRes (.int .u64 (D.field_Field_Get a0 a1)) w0) := by
  refine enter (l := [.agg (fieldC a0).toArray, .int .u64 a1]) Tryz.func67 rfl 15 rfl rfl fun fr r => ?_
  have hB := Below.refl w0.heap.size w0
  refine wp_seq ?_
  refine wp_region_lit ?_
  refine seq_new (.cells ((fieldC a0)).toArray 123 (0, 0)) r (fun R => y_box r (v := (.agg (fieldC a0).toArray)) rfl) rfl fun fr b1 w2 n3 r => ?_
  have e_b1 := n3.eq
  have z_w2 := n3.size
  have h_b1 := n3.at_
  have hB := hB.trans (n3.below.mono hB.size)
  have zB := hB.size
  refine seq_val (.int .u64 0) r (fun R => y_assign r rfl) rfl fun fr r => ?_
  refine wpList_nil ?_
  refine wp_seq ?_
  refine wp_seq ?_
  refine wp_region_lit ?_
  refine seq_val (.agg (fieldC a0).toArray) r (fun R => y_load_agg r (cs := (fieldC a0)) (n := 2) rfl h_b1 ta123 rfl) rfl fun fr r => ?_
  refine seq_call r (c_field_Field_Formed w2 a0) (fun R hc => y_call r rfl cl118 hc) rfl ?_
  rintro _ w4 ⟨rfl, hb⟩
  refine ⟨_, rfl, fun fr r => ?_⟩
  have z_w4 := hb.size
  have h_b1 := keep hb h_b1
  have hB := hB.trans (hb.mono hB.size)
  have zB := hB.size
  refine seq_val (.bool (!(D.field_Field_Formed a0))) r (fun R => y_un r (u := (.bool (D.field_Field_Formed a0))) rfl rfl) rfl fun fr r => ?_
  refine wpList_nil ?_
  refine wp_cond_split (t := (!(D.field_Field_Formed a0))) (r.ev rfl) (fun h5 => ?_) (fun h5 => ?_)
  · skip
    refine wp_seq ?_
    refine wp_region_lit ?_
    refine seq_val (.int .u64 0) r (fun R => y_assign r rfl) rfl fun fr r => ?_
    refine wpList_nil ?_
    refine wp_ret ?_
    have hd : D.field_Field_Get a0 a1 = 0 := (cond_t h5).trans (rfl)
    refine ret_tmp r rfl (v := (.int .u64 0)) rfl ?_
    rw [hd]
    exact ⟨rfl, hB⟩
  · skip
    refine wp_skip ?_
    refine wp_seq ?_
    refine wp_drawnF 7 [.val (.int .u64 a1), .val (.pointer (some ⟨b1, 0, none⟩)), .val (.int .i64 a0.at_), .val (.int .u64 (shrI .u64 a1 a0.at_)), .val (.agg (fieldC a0).toArray), .val (.int .u64 (D.field_Field_Most a0)), .val (.int .u64 (bits_and .u64 (shrI .u64 a1 a0.at_) (D.field_Field_Most a0)))] mixed r (by kernel_rfl) (within_cons (by exact trivial) (within_cons (by exact trivial) (within_cons (by exact trivial) (within_cons (by exact trivial) (within_cons (by exact trivial) (within_cons (by exact trivial) (within_cons (by exact trivial) within_nil))))))) ?_ ?_
    · skip
      refine each_consF r rfl (fun fr1 u w' hb' hd r' => ?_) ?_
      · exact y_move r' (v := (.int .u64 a1)) rfl ⟨Below.refl _ _, rfl⟩
      refine each_consF r rfl (fun fr1 u w' hb' hd r' => ?_) ?_
      · exact y_fieldAddr r' (b := b1) (o := 0) (k := 0) rfl fo123_0 ⟨Below.refl _ _, rfl⟩
      refine each_consF r rfl (fun fr1 u w' hb' hd r' => ?_) ?_
      · obtain ⟨d0, _⟩ := hd; exact y_load_one r' (v := (.int .i64 a0.at_)) d0 (keep hb' h_b1) to3 rfl ⟨Below.refl _ _, rfl⟩
      refine each_consF r rfl (fun fr1 u w' hb' hd r' => ?_) ?_
      · obtain ⟨d0, d1, _⟩ := hd; exact y_bin r' (u := (.int .u64 a1)) (u' := (.int .i64 a0.at_)) (v := (.int .u64 (shrI .u64 a1 a0.at_))) d0 d1 rfl (bin_shr (by first | assumption | decide | (have hq := field_formed (by simpa using ‹(!D.field_Field_Formed _) = false›); omega))) ⟨Below.refl _ _, rfl⟩
      refine each_consF r rfl (fun fr1 u w' hb' hd r' => ?_) ?_
      · exact y_load_agg r' (cs := (fieldC a0)) (n := 2) rfl (keep hb' h_b1) ta123 rfl ⟨Below.refl _ _, rfl⟩
      refine each_consF r rfl (fun fr1 u w' hb' hd r' => ?_) ?_
      · obtain ⟨d0, _⟩ := hd; exact y_call r' (args := [(.agg (fieldC a0).toArray)]) (lc d0 l0) cl119 ((c_field_Field_Most _ a0).mono (by rintro _ w2 ⟨rfl, hb2⟩; exact ⟨_, rfl, hb2, rfl⟩))
      refine each_consF r rfl (fun fr1 u w' hb' hd r' => ?_) ?_
      · obtain ⟨d0, d1, _⟩ := hd; exact y_bin r' (u := (.int .u64 (shrI .u64 a1 a0.at_))) (u' := (.int .u64 (D.field_Field_Most a0))) (v := (.int .u64 (bits_and .u64 (shrI .u64 a1 a0.at_) (D.field_Field_Most a0)))) d0 d1 rfl rfl ⟨Below.refl _ _, rfl⟩
      exact each_nil
    · skip
      intro fr u w6 hb hΦ hne r
      have g0 : u 0 = (.int .u64 a1) := hΦ 0 (by decide)
      have g1 : u 1 = (.pointer (some ⟨b1, 0, none⟩)) := hΦ 1 (by decide)
      have g2 : u 2 = (.int .i64 a0.at_) := hΦ 2 (by decide)
      have g3 : u 3 = (.int .u64 (shrI .u64 a1 a0.at_)) := hΦ 3 (by decide)
      have g4 : u 4 = (.agg (fieldC a0).toArray) := hΦ 4 (by decide)
      have g5 : u 5 = (.int .u64 (D.field_Field_Most a0)) := hΦ 5 (by decide)
      have g6 : u 6 = (.int .u64 (bits_and .u64 (shrI .u64 a1 a0.at_) (D.field_Field_Most a0))) := hΦ 6 (by decide)
      have r := r.congr (sc g6 (sc g5 (sc g4 (sc g3 (sc g2 (sc g1 (sc g0 rfl)))))))
      have z_w6 := hb.size
      have h_b1 := keep hb h_b1
      have hB := hB.trans (hb.mono hB.size)
      have zB := hB.size
      refine seq_val (.int .u64 (bits_and .u64 (shrI .u64 a1 a0.at_) (D.field_Field_Most a0))) r (fun R => y_assign r rfl) rfl fun fr r => ?_
      refine wpList_nil ?_
      refine wp_ret ?_
      have hd : D.field_Field_Get a0 a1 = (bits_and .u64 (shrI .u64 a1 a0.at_) (D.field_Field_Most a0)) := (cond_f h5).trans (rfl)
      refine ret_tmp r rfl (v := (.int .u64 (bits_and .u64 (shrI .u64 a1 a0.at_) (D.field_Field_Most a0)))) rfl ?_
      rw [hd]
      exact ⟨rfl, hB⟩

def D.field_Field_mask (a0 : Field) : Int := (bif (!(D.field_Field_Formed a0)) then 0 else (shlI .u64 (D.field_Field_Most a0) a0.at_))

set_option maxRecDepth 20000 in
set_option maxHeartbeats 1000000 in
theorem c_field_Field_mask (w0 : World) 
    (a0 : Field) :
    Calls Tryz.prog 149 #[.agg (fieldC a0).toArray] w0 (PureRes (.int .u64 (D.field_Field_mask a0)) w0) := by
  refine enter (l := [.agg (fieldC a0).toArray]) Tryz.func149 rfl 11 rfl rfl fun fr r => ?_
  have hB := Below.refl w0.heap.size w0
  refine wp_seq ?_
  refine wp_region_lit ?_
  refine seq_new (.cells ((fieldC a0)).toArray 123 (0, 0)) r (fun R => y_box r (v := (.agg (fieldC a0).toArray)) rfl) rfl fun fr b1 w2 n3 r => ?_
  have e_b1 := n3.eq
  have z_w2 := n3.size
  have h_b1 := n3.at_
  have hB := hB.trans (n3.below.mono hB.size)
  have zB := hB.size
  refine seq_val (.int .u64 0) r (fun R => y_assign r rfl) rfl fun fr r => ?_
  refine wpList_nil ?_
  refine wp_seq ?_
  refine wp_seq ?_
  refine wp_region_lit ?_
  refine seq_val (.agg (fieldC a0).toArray) r (fun R => y_load_agg r (cs := (fieldC a0)) (n := 2) rfl h_b1 ta123 rfl) rfl fun fr r => ?_
  refine seq_call r (c_field_Field_Formed w2 a0) (fun R hc => y_call r rfl cl118 hc) rfl ?_
  rintro _ w4 ⟨rfl, hb⟩
  refine ⟨_, rfl, fun fr r => ?_⟩
  have z_w4 := hb.size
  have h_b1 := keep hb h_b1
  have hB := hB.trans (hb.mono hB.size)
  have zB := hB.size
  refine seq_val (.bool (!(D.field_Field_Formed a0))) r (fun R => y_un r (u := (.bool (D.field_Field_Formed a0))) rfl rfl) rfl fun fr r => ?_
  refine wpList_nil ?_
  refine wp_cond_split (t := (!(D.field_Field_Formed a0))) (r.ev rfl) (fun h5 => ?_) (fun h5 => ?_)
  · skip
    refine wp_seq ?_
    refine wp_region_lit ?_
    refine seq_val (.int .u64 0) r (fun R => y_assign r rfl) rfl fun fr r => ?_
    refine wpList_nil ?_
    refine wp_ret ?_
    have hd : D.field_Field_mask a0 = 0 := (cond_t h5).trans (rfl)
    refine ret_tmp r rfl (v := (.int .u64 0)) rfl ?_
    rw [hd]
    exact ⟨rfl, hB⟩
  · skip
    refine wp_skip ?_
    refine wp_seq ?_
    refine wp_drawnF 5 [.val (.agg (fieldC a0).toArray), .val (.int .u64 (D.field_Field_Most a0)), .val (.pointer (some ⟨b1, 0, none⟩)), .val (.int .i64 a0.at_), .val (.int .u64 (shlI .u64 (D.field_Field_Most a0) a0.at_))] mixed r (by kernel_rfl) (within_cons (by exact trivial) (within_cons (by exact trivial) (within_cons (by exact trivial) (within_cons (by exact trivial) (within_cons (by exact trivial) within_nil))))) ?_ ?_
    · skip
      refine each_consF r rfl (fun fr1 u w' hb' hd r' => ?_) ?_
      · exact y_load_agg r' (cs := (fieldC a0)) (n := 2) rfl (keep hb' h_b1) ta123 rfl ⟨Below.refl _ _, rfl⟩
      refine each_consF r rfl (fun fr1 u w' hb' hd r' => ?_) ?_
      · obtain ⟨d0, _⟩ := hd; exact y_call r' (args := [(.agg (fieldC a0).toArray)]) (lc d0 l0) cl119 ((c_field_Field_Most _ a0).mono (by rintro _ w2 ⟨rfl, hb2⟩; exact ⟨_, rfl, hb2, rfl⟩))
      refine each_consF r rfl (fun fr1 u w' hb' hd r' => ?_) ?_
      · exact y_fieldAddr r' (b := b1) (o := 0) (k := 0) rfl fo123_0 ⟨Below.refl _ _, rfl⟩
      refine each_consF r rfl (fun fr1 u w' hb' hd r' => ?_) ?_
      · obtain ⟨d0, _⟩ := hd; exact y_load_one r' (v := (.int .i64 a0.at_)) d0 (keep hb' h_b1) to3 rfl ⟨Below.refl _ _, rfl⟩
      refine each_consF r rfl (fun fr1 u w' hb' hd r' => ?_) ?_
      · obtain ⟨d0, d1, _⟩ := hd; exact y_bin r' (u := (.int .u64 (D.field_Field_Most a0))) (u' := (.int .i64 a0.at_)) (v := (.int .u64 (shlI .u64 (D.field_Field_Most a0) a0.at_))) d0 d1 rfl (bin_shl (by first | assumption | decide | (have hq := field_formed (by simpa using ‹(!D.field_Field_Formed _) = false›); omega))) ⟨Below.refl _ _, rfl⟩
      exact each_nil
    · skip
      intro fr u w6 hb hΦ hne r
      have g0 : u 0 = (.agg (fieldC a0).toArray) := hΦ 0 (by decide)
      have g1 : u 1 = (.int .u64 (D.field_Field_Most a0)) := hΦ 1 (by decide)
      have g2 : u 2 = (.pointer (some ⟨b1, 0, none⟩)) := hΦ 2 (by decide)
      have g3 : u 3 = (.int .i64 a0.at_) := hΦ 3 (by decide)
      have g4 : u 4 = (.int .u64 (shlI .u64 (D.field_Field_Most a0) a0.at_)) := hΦ 4 (by decide)
      have r := r.congr (sc g4 (sc g3 (sc g2 (sc g1 (sc g0 rfl)))))
      have z_w6 := hb.size
      have h_b1 := keep hb h_b1
      have hB := hB.trans (hb.mono hB.size)
      have zB := hB.size
      refine seq_val (.int .u64 (shlI .u64 (D.field_Field_Most a0) a0.at_)) r (fun R => y_assign r rfl) rfl fun fr r => ?_
      refine wpList_nil ?_
      refine wp_ret ?_
      have hd : D.field_Field_mask a0 = (shlI .u64 (D.field_Field_Most a0) a0.at_) := (cond_f h5).trans (rfl)
      refine ret_tmp r rfl (v := (.int .u64 (shlI .u64 (D.field_Field_Most a0) a0.at_))) rfl ?_
      rw [hd]
      exact ⟨rfl, hB⟩

def D.field_Field_Put (a0 : Field) (a1 : Int) (a2 : Int) : Int := (bif (!(D.field_Field_Formed a0)) then a1 else (bits_or .u64 (bits_andNot .u64 a1 (D.field_Field_mask a0)) (shlI .u64 (bits_and .u64 a2 (D.field_Field_Most a0)) a0.at_)))

set_option maxRecDepth 20000 in
set_option maxHeartbeats 1000000 in
theorem c_field_Field_Put (w0 : World) 
    (a0 : Field) (a1 : Int) (a2 : Int) :
    Calls Tryz.prog 123 #[.agg (fieldC a0).toArray, .int .u64 a1, .int .u64 a2] w0 (PureRes (.int .u64 (D.field_Field_Put a0 a1 a2)) w0) := by
  refine enter (l := [.agg (fieldC a0).toArray, .int .u64 a1, .int .u64 a2]) Tryz.func123 rfl 23 rfl rfl fun fr r => ?_
  have hB := Below.refl w0.heap.size w0
  refine wp_seq ?_
  refine wp_region_lit ?_
  refine seq_new (.cells ((fieldC a0)).toArray 123 (0, 0)) r (fun R => y_box r (v := (.agg (fieldC a0).toArray)) rfl) rfl fun fr b1 w2 n3 r => ?_
  have e_b1 := n3.eq
  have z_w2 := n3.size
  have h_b1 := n3.at_
  have hB := hB.trans (n3.below.mono hB.size)
  have zB := hB.size
  refine seq_val (.int .u64 0) r (fun R => y_assign r rfl) rfl fun fr r => ?_
  refine wpList_nil ?_
  refine wp_seq ?_
  refine wp_seq ?_
  refine wp_region_lit ?_
  refine seq_val (.agg (fieldC a0).toArray) r (fun R => y_load_agg r (cs := (fieldC a0)) (n := 2) rfl h_b1 ta123 rfl) rfl fun fr r => ?_
  refine seq_call r (c_field_Field_Formed w2 a0) (fun R hc => y_call r rfl cl118 hc) rfl ?_
  rintro _ w4 ⟨rfl, hb⟩
  refine ⟨_, rfl, fun fr r => ?_⟩
  have z_w4 := hb.size
  have h_b1 := keep hb h_b1
  have hB := hB.trans (hb.mono hB.size)
  have zB := hB.size
  refine seq_val (.bool (!(D.field_Field_Formed a0))) r (fun R => y_un r (u := (.bool (D.field_Field_Formed a0))) rfl rfl) rfl fun fr r => ?_
  refine wpList_nil ?_
  refine wp_cond_split (t := (!(D.field_Field_Formed a0))) (r.ev rfl) (fun h5 => ?_) (fun h5 => ?_)
  · skip
    refine wp_seq ?_
    refine wp_region_lit ?_
    refine seq_val (.int .u64 a1) r (fun R => y_move r rfl) rfl fun fr r => ?_
    refine seq_val (.int .u64 a1) r (fun R => y_assign r rfl) rfl fun fr r => ?_
    refine wpList_nil ?_
    refine wp_ret ?_
    have hd : D.field_Field_Put a0 a1 a2 = a1 := (cond_t h5).trans (rfl)
    refine ret_tmp r rfl (v := (.int .u64 a1)) rfl ?_
    rw [hd]
    exact ⟨rfl, hB⟩
  · skip
    refine wp_skip ?_
    refine wp_seq ?_
    refine wp_drawnF 12 [.val (.int .u64 a1), .val (.agg (fieldC a0).toArray), .val (.int .u64 (D.field_Field_mask a0)), .val (.int .u64 (bits_andNot .u64 a1 (D.field_Field_mask a0))), .val (.int .u64 a2), .val (.agg (fieldC a0).toArray), .val (.int .u64 (D.field_Field_Most a0)), .val (.int .u64 (bits_and .u64 a2 (D.field_Field_Most a0))), .val (.pointer (some ⟨b1, 0, none⟩)), .val (.int .i64 a0.at_), .val (.int .u64 (shlI .u64 (bits_and .u64 a2 (D.field_Field_Most a0)) a0.at_)), .val (.int .u64 (bits_or .u64 (bits_andNot .u64 a1 (D.field_Field_mask a0)) (shlI .u64 (bits_and .u64 a2 (D.field_Field_Most a0)) a0.at_)))] mixed r (by kernel_rfl) (within_cons (by exact trivial) (within_cons (by exact trivial) (within_cons (by exact trivial) (within_cons (by exact trivial) (within_cons (by exact trivial) (within_cons (by exact trivial) (within_cons (by exact trivial) (within_cons (by exact trivial) (within_cons (by exact trivial) (within_cons (by exact trivial) (within_cons (by exact trivial) (within_cons (by exact trivial) within_nil)))))))))))) ?_ ?_
    · skip
      refine each_consF r rfl (fun fr1 u w' hb' hd r' => ?_) ?_
      · exact y_move r' (v := (.int .u64 a1)) rfl ⟨Below.refl _ _, rfl⟩
      refine each_consF r rfl (fun fr1 u w' hb' hd r' => ?_) ?_
      · exact y_load_agg r' (cs := (fieldC a0)) (n := 2) rfl (keep hb' h_b1) ta123 rfl ⟨Below.refl _ _, rfl⟩
      refine each_consF r rfl (fun fr1 u w' hb' hd r' => ?_) ?_
      · obtain ⟨d0, _⟩ := hd; exact y_call r' (args := [(.agg (fieldC a0).toArray)]) (lc d0 l0) cl149 ((c_field_Field_mask _ a0).mono (by rintro _ w2 ⟨rfl, hb2⟩; exact ⟨_, rfl, hb2, rfl⟩))
      refine each_consF r rfl (fun fr1 u w' hb' hd r' => ?_) ?_
      · obtain ⟨d0, d1, _⟩ := hd; exact y_bin r' (u := (.int .u64 a1)) (u' := (.int .u64 (D.field_Field_mask a0))) (v := (.int .u64 (bits_andNot .u64 a1 (D.field_Field_mask a0)))) d0 d1 rfl rfl ⟨Below.refl _ _, rfl⟩
      refine each_consF r rfl (fun fr1 u w' hb' hd r' => ?_) ?_
      · exact y_move r' (v := (.int .u64 a2)) rfl ⟨Below.refl _ _, rfl⟩
      refine each_consF r rfl (fun fr1 u w' hb' hd r' => ?_) ?_
      · exact y_load_agg r' (cs := (fieldC a0)) (n := 2) rfl (keep hb' h_b1) ta123 rfl ⟨Below.refl _ _, rfl⟩
      refine each_consF r rfl (fun fr1 u w' hb' hd r' => ?_) ?_
      · obtain ⟨d0, d1, _⟩ := hd; exact y_call r' (args := [(.agg (fieldC a0).toArray)]) (lc d0 l0) cl119 ((c_field_Field_Most _ a0).mono (by rintro _ w2 ⟨rfl, hb2⟩; exact ⟨_, rfl, hb2, rfl⟩))
      refine each_consF r rfl (fun fr1 u w' hb' hd r' => ?_) ?_
      · obtain ⟨d0, d1, _⟩ := hd; exact y_bin r' (u := (.int .u64 a2)) (u' := (.int .u64 (D.field_Field_Most a0))) (v := (.int .u64 (bits_and .u64 a2 (D.field_Field_Most a0)))) d0 d1 rfl rfl ⟨Below.refl _ _, rfl⟩
      refine each_consF r rfl (fun fr1 u w' hb' hd r' => ?_) ?_
      · exact y_fieldAddr r' (b := b1) (o := 0) (k := 0) rfl fo123_0 ⟨Below.refl _ _, rfl⟩
      refine each_consF r rfl (fun fr1 u w' hb' hd r' => ?_) ?_
      · obtain ⟨d0, _⟩ := hd; exact y_load_one r' (v := (.int .i64 a0.at_)) d0 (keep hb' h_b1) to3 rfl ⟨Below.refl _ _, rfl⟩
      refine each_consF r rfl (fun fr1 u w' hb' hd r' => ?_) ?_
      · obtain ⟨d0, d1, _⟩ := hd; exact y_bin r' (u := (.int .u64 (bits_and .u64 a2 (D.field_Field_Most a0)))) (u' := (.int .i64 a0.at_)) (v := (.int .u64 (shlI .u64 (bits_and .u64 a2 (D.field_Field_Most a0)) a0.at_))) d0 d1 rfl (bin_shl (by first | assumption | decide | (have hq := field_formed (by simpa using ‹(!D.field_Field_Formed _) = false›); omega))) ⟨Below.refl _ _, rfl⟩
      refine each_consF r rfl (fun fr1 u w' hb' hd r' => ?_) ?_
      · obtain ⟨d0, d1, _⟩ := hd; exact y_bin r' (u := (.int .u64 (bits_andNot .u64 a1 (D.field_Field_mask a0)))) (u' := (.int .u64 (shlI .u64 (bits_and .u64 a2 (D.field_Field_Most a0)) a0.at_))) (v := (.int .u64 (bits_or .u64 (bits_andNot .u64 a1 (D.field_Field_mask a0)) (shlI .u64 (bits_and .u64 a2 (D.field_Field_Most a0)) a0.at_)))) d0 d1 rfl rfl ⟨Below.refl _ _, rfl⟩
      exact each_nil
    · skip
      intro fr u w6 hb hΦ hne r
      have g0 : u 0 = (.int .u64 a1) := hΦ 0 (by decide)
      have g1 : u 1 = (.agg (fieldC a0).toArray) := hΦ 1 (by decide)
      have g2 : u 2 = (.int .u64 (D.field_Field_mask a0)) := hΦ 2 (by decide)
      have g3 : u 3 = (.int .u64 (bits_andNot .u64 a1 (D.field_Field_mask a0))) := hΦ 3 (by decide)
      have g4 : u 4 = (.int .u64 a2) := hΦ 4 (by decide)
      have g5 : u 5 = (.agg (fieldC a0).toArray) := hΦ 5 (by decide)
      have g6 : u 6 = (.int .u64 (D.field_Field_Most a0)) := hΦ 6 (by decide)
      have g7 : u 7 = (.int .u64 (bits_and .u64 a2 (D.field_Field_Most a0))) := hΦ 7 (by decide)
      have g8 : u 8 = (.pointer (some ⟨b1, 0, none⟩)) := hΦ 8 (by decide)
      have g9 : u 9 = (.int .i64 a0.at_) := hΦ 9 (by decide)
      have g10 : u 10 = (.int .u64 (shlI .u64 (bits_and .u64 a2 (D.field_Field_Most a0)) a0.at_)) := hΦ 10 (by decide)
      have g11 : u 11 = (.int .u64 (bits_or .u64 (bits_andNot .u64 a1 (D.field_Field_mask a0)) (shlI .u64 (bits_and .u64 a2 (D.field_Field_Most a0)) a0.at_))) := hΦ 11 (by decide)
      have r := r.congr (sc g11 (sc g10 (sc g9 (sc g8 (sc g7 (sc g6 (sc g5 (sc g4 (sc g3 (sc g2 (sc g1 (sc g0 rfl))))))))))))
      have z_w6 := hb.size
      have h_b1 := keep hb h_b1
      have hB := hB.trans (hb.mono hB.size)
      have zB := hB.size
      refine seq_val (.int .u64 (bits_or .u64 (bits_andNot .u64 a1 (D.field_Field_mask a0)) (shlI .u64 (bits_and .u64 a2 (D.field_Field_Most a0)) a0.at_))) r (fun R => y_assign r rfl) rfl fun fr r => ?_
      refine wpList_nil ?_
      refine wp_ret ?_
      have hd : D.field_Field_Put a0 a1 a2 = (bits_or .u64 (bits_andNot .u64 a1 (D.field_Field_mask a0)) (shlI .u64 (bits_and .u64 a2 (D.field_Field_Most a0)) a0.at_)) := (cond_f h5).trans (rfl)
      refine ret_tmp r rfl (v := (.int .u64 (bits_or .u64 (bits_andNot .u64 a1 (D.field_Field_mask a0)) (shlI .u64 (bits_and .u64 a2 (D.field_Field_Most a0)) a0.at_)))) rfl ?_
      rw [hd]
      exact ⟨rfl, hB⟩

end Go.Proofs.YtphnnjiaiemkcaaGreat
