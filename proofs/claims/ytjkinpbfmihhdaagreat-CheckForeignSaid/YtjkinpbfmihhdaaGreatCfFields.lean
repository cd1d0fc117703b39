/- Written by a program of ours (wip/gen.py): fields -/
import Derived.Test.YtjkinpbfmihhdaaGreatCfField1
set_option linter.unusedVariables false
set_option maxRecDepth 20000
set_option maxHeartbeats 2000000
namespace Go.Proofs.YtjkinpbfmihhdaaGreat
open Go.RowKit
theorem cl260 : callable Tryz.prog 260 = true := by kernel_rfl

theorem cl262 : callable Tryz.prog 262 = true := by kernel_rfl

theorem cl263 : callable Tryz.prog 263 = true := by kernel_rfl

theorem ta223 : tyA Tryz.prog 223 2 = true := by kernel_rfl

def D.field_Field_Most (a0 : Field) : Int := (bif (!(D.field_Field_Formed a0)) then 0 else (bif (a0.bits == 64) then 18446744073709551615 else (IntKind.u64.wrap ((shlI .u64 1 a0.bits) - 1))))

theorem c_field_Field_Most (w0 : World) 
    (a0 : Field) :
    Calls Tryz.prog 263 #[.agg (fieldC a0).toArray] w0 (PureRes (.int .u64 (D.field_Field_Most a0)) w0) := by
 refine enter Tryz.func263 rfl 15 rfl rfl fun fr r => ?_
 have hB := Below.refl w0.heap.size w0
 refine wsr ?_
 refine seq_new (.cells ((fieldC a0)).toArray 223 (0, 0)) r (fun R => y_box r (v := (.agg (fieldC a0).toArray)) rfl) rfl fun fr b1 w2 n3 r => ?_
 obtain ⟨e_b1, z_w2, h_b1, hB, zB⟩ := n3.all hB
 refine seq_val (U 0) r (fun R => y_assign r rfl) rfl fun fr r => ?_
 refine wn ?_
 refine wp_seq ?_
 refine wp_block ?_
 refine wsr ?_
 refine seq_val (.agg (fieldC a0).toArray) r (fun R => y_load_agg r (cs := (fieldC a0)) (n := 2) rfl h_b1 ta223 rfl) rfl fun fr r => ?_
 refine seq_call r (c_field_Field_Formed w2 a0) (fun R hc => y_call r rfl cl262 hc) rfl ?_
 rintro _ w4 ⟨rfl, hb⟩
 refine ⟨_, rfl, fun fr r => ?_⟩
 have z_w4 := hb.size
 have h_b1 := keep hb h_b1
 obtain ⟨hB, zB⟩ := bon hb hB
 refine seq_val (.bool (!(D.field_Field_Formed a0))) r (fun R => y_un r (u := (.bool (D.field_Field_Formed a0))) rfl rfl) rfl fun fr r => ?_
 refine seq_val (.bool (!(D.field_Field_Formed a0))) r (fun R => y_assign r rfl) rfl fun fr r => ?_
 refine wn ?_
 refine wp_cond_split (t := (!(D.field_Field_Formed a0))) (r.ev rfl) (fun h5 => ?_) (fun h5 => ?_)
 ·
  refine wsr ?_
  refine seq_val (U 0) r (fun R => y_assign r rfl) rfl fun fr r => ?_
  refine wn ?_
  refine wp_ret ?_
  have hd : D.field_Field_Most a0 = 0 := (cond_t h5).trans (rfl)
  refine ret_tmp r rfl rfl ?_
  rw [hd]
  exact ⟨rfl, hB⟩
 ·
  refine wsr ?_
  refine seq_val _ r (fun R => y_fieldAddr r (o := 0) rfl fo223_1) rfl fun fr r => ?_
  refine seq_val (I a0.bits) r (fun R => y_load_one r rfl h_b1 to3 rfl) rfl fun fr r => ?_
  refine seq_val _ r (fun R => y_bin r rfl rfl rfl rfl) rfl fun fr r => ?_
  refine seq_val (.bool (a0.bits == 64)) r (fun R => y_assign r rfl) rfl fun fr r => ?_
  refine wn ?_
  refine wp_cond_split (t := (a0.bits == 64)) (r.ev rfl) (fun h6 => ?_) (fun h6 => ?_)
  ·
   refine wsr ?_
   refine seq_val (U 18446744073709551615) r (fun R => y_assign r rfl) rfl fun fr r => ?_
   refine wn ?_
   refine wp_ret ?_
   have hd : D.field_Field_Most a0 = 18446744073709551615 := (cond_f h5).trans ((cond_t h6).trans (rfl))
   refine ret_tmp r rfl rfl ?_
   rw [hd]
   exact ⟨rfl, hB⟩
  ·
   refine wp_skip ?_
   refine wsr ?_
   refine seq_val _ r (fun R => y_fieldAddr r (o := 0) rfl fo223_1) rfl fun fr r => ?_
   refine seq_val (I a0.bits) r (fun R => y_load_one r rfl h_b1 to3 rfl) rfl fun fr r => ?_
   refine seq_val _ r (fun R => y_bin r rfl rfl rfl (bin_shl (by first | assumption | decide | (have hq := field_formed (by simpa using ‹(!D.field_Field_Formed _) = false›); omega)))) rfl fun fr r => ?_
   refine seq_val _ r (fun R => y_bin r rfl rfl rfl rfl) rfl fun fr r => ?_
   refine seq_val (U (V ((shlI .u64 1 a0.bits) - 1))) r (fun R => y_assign r rfl) rfl fun fr r => ?_
   refine wn ?_
   refine wp_ret ?_
   have hd : D.field_Field_Most a0 = (V ((shlI .u64 1 a0.bits) - 1)) := (cond_f h5).trans ((cond_f h6).trans (rfl))
   refine ret_tmp r rfl rfl ?_
   rw [hd]
   exact ⟨rfl, hB⟩

def D.field_Field_Get (a0 : Field) (a1 : Int) : Int := (bif (!(D.field_Field_Formed a0)) then 0 else (bits_and .u64 (shrI .u64 a1 a0.at_) (D.field_Field_Most a0)))

theorem c_field_Field_Get (w0 : World) 
    (a0 : Field) (a1 : Int) :
    Calls Tryz.prog 161 #[.agg (fieldC a0).toArray, .int .u64 a1] w0 (PureRes (.int .u64 (D.field_Field_Get a0 a1)) w0) := by
 refine enter Tryz.func161 rfl 15 rfl rfl fun fr r => ?_
 have hB := Below.refl w0.heap.size w0
 refine wsr ?_
 refine seq_new (.cells ((fieldC a0)).toArray 223 (0, 0)) r (fun R => y_box r (v := (.agg (fieldC a0).toArray)) rfl) rfl fun fr b1 w2 n3 r => ?_
 obtain ⟨e_b1, z_w2, h_b1, hB, zB⟩ := n3.all hB
 refine seq_val (U 0) r (fun R => y_assign r rfl) rfl fun fr r => ?_
 refine wn ?_
 refine wp_seq ?_
 refine wsr ?_
 refine seq_val (.agg (fieldC a0).toArray) r (fun R => y_load_agg r (cs := (fieldC a0)) (n := 2) rfl h_b1 ta223 rfl) rfl fun fr r => ?_
 refine seq_call r (c_field_Field_Formed w2 a0) (fun R hc => y_call r rfl cl262 hc) rfl ?_
 rintro _ w4 ⟨rfl, hb⟩
 refine ⟨_, rfl, fun fr r => ?_⟩
 have z_w4 := hb.size
 have h_b1 := keep hb h_b1
 obtain ⟨hB, zB⟩ := bon hb hB
 refine seq_val (.bool (!(D.field_Field_Formed a0))) r (fun R => y_un r (u := (.bool (D.field_Field_Formed a0))) rfl rfl) rfl fun fr r => ?_
 refine wn ?_
 refine wp_cond_split (t := (!(D.field_Field_Formed a0))) (r.ev rfl) (fun h5 => ?_) (fun h5 => ?_)
 ·
  refine wsr ?_
  refine seq_val (U 0) r (fun R => y_assign r rfl) rfl fun fr r => ?_
  refine wn ?_
  refine wp_ret ?_
  have hd : D.field_Field_Get a0 a1 = 0 := (cond_t h5).trans (rfl)
  refine ret_tmp r rfl rfl ?_
  rw [hd]
  exact ⟨rfl, hB⟩
 ·
  refine wp_skip ?_
  refine wp_seq ?_
  refine wp_drawnF 7 [.val (U a1), .val (.pointer (some ⟨b1, 0, none⟩)), .val (I a0.at_), .val (U (shrI .u64 a1 a0.at_)), .val (.agg (fieldC a0).toArray), .val (U (D.field_Field_Most a0)), .val (U (bits_and .u64 (shrI .u64 a1 a0.at_) (D.field_Field_Most a0)))] mixed r (by kernel_rfl) (within_cons (by exact trivial) (within_cons (by exact trivial) (within_cons (by exact trivial) (within_cons (by exact trivial) (within_cons (by exact trivial) (within_cons (by exact trivial) (within_cons (by exact trivial) within_nil))))))) ?_ ?_
  ·
   refine ec r (fun _ u _ b d s => y_move s rfl bz) ?_
   refine ec r (fun _ u _ b d s => y_fieldAddr s (b := b1) (o := 0) rfl fo223_0 bz) ?_
   refine ec r (fun _ u _ b d s => y_load_one s d.1 (keep b h_b1) to3 rfl bz) ?_
   refine ec r (fun _ u _ b d s => y_bin s d.1 d.2.1 rfl (bin_shr (by first | assumption | decide | (have hq := field_formed (by simpa using ‹(!D.field_Field_Formed _) = false›); omega))) bz) ?_
   refine ec r (fun _ u _ b d s => y_load_agg s (cs := (fieldC a0)) (n := 2) rfl (keep b h_b1) ta223 rfl bz) ?_
   refine ec r (fun fr1 u w' hb' hd r' => y_call r' (args := [(.agg (fieldC a0).toArray)]) (lc hd.1 l0) cl263 ((c_field_Field_Most _ a0).mono (by rintro _ w2 ⟨rfl, hb2⟩; exact ⟨_, rfl, hb2, rfl⟩))) ?_
   refine ec r (fun _ u _ b d s => y_bin s d.1 d.2.1 rfl rfl bz) ?_
   exact each_nil
  ·
   intro fr u w6 hb hΦ hne r
   have r := r.congr (sc (hΦ 6 (by decide)) (sc (hΦ 5 (by decide)) (sc (hΦ 4 (by decide)) (sc (hΦ 3 (by decide)) (sc (hΦ 2 (by decide)) (sc (hΦ 1 (by decide)) (sc (hΦ 0 (by decide)) rfl)))))))
   have z_w6 := hb.size
   have h_b1 := keep hb h_b1
   obtain ⟨hB, zB⟩ := bon hb hB
   refine seq_val (U (bits_and .u64 (shrI .u64 a1 a0.at_) (D.field_Field_Most a0))) r (fun R => y_assign r rfl) rfl fun fr r => ?_
   refine wn ?_
   refine wp_ret ?_
   have hd : D.field_Field_Get a0 a1 = (bits_and .u64 (shrI .u64 a1 a0.at_) (D.field_Field_Most a0)) := (cond_f h5).trans (rfl)
   refine ret_tmp r rfl rfl ?_
   rw [hd]
   exact ⟨rfl, hB⟩

def D.field_Field_mask (a0 : Field) : Int := (bif (!(D.field_Field_Formed a0)) then 0 else (shlI .u64 (D.field_Field_Most a0) a0.at_))

theorem c_field_Field_mask (w0 : World) 
    (a0 : Field) :
    Calls Tryz.prog 260 #[.agg (fieldC a0).toArray] w0 (PureRes (.int .u64 (D.field_Field_mask a0)) w0) := by
 refine enter Tryz.func260 rfl 11 rfl rfl fun fr r => ?_
 have hB := Below.refl w0.heap.size w0
 refine wsr ?_
 refine seq_new (.cells ((fieldC a0)).toArray 223 (0, 0)) r (fun R => y_box r (v := (.agg (fieldC a0).toArray)) rfl) rfl fun fr b1 w2 n3 r => ?_
 obtain ⟨e_b1, z_w2, h_b1, hB, zB⟩ := n3.all hB
 refine seq_val (U 0) r (fun R => y_assign r rfl) rfl fun fr r => ?_
 refine wn ?_
 refine wp_seq ?_
 refine wsr ?_
 refine seq_val (.agg (fieldC a0).toArray) r (fun R => y_load_agg r (cs := (fieldC a0)) (n := 2) rfl h_b1 ta223 rfl) rfl fun fr r => ?_
 refine seq_call r (c_field_Field_Formed w2 a0) (fun R hc => y_call r rfl cl262 hc) rfl ?_
 rintro _ w4 ⟨rfl, hb⟩
 refine ⟨_, rfl, fun fr r => ?_⟩
 have z_w4 := hb.size
 have h_b1 := keep hb h_b1
 obtain ⟨hB, zB⟩ := bon hb hB
 refine seq_val (.bool (!(D.field_Field_Formed a0))) r (fun R => y_un r (u := (.bool (D.field_Field_Formed a0))) rfl rfl) rfl fun fr r => ?_
 refine wn ?_
 refine wp_cond_split (t := (!(D.field_Field_Formed a0))) (r.ev rfl) (fun h5 => ?_) (fun h5 => ?_)
 ·
  refine wsr ?_
  refine seq_val (U 0) r (fun R => y_assign r rfl) rfl fun fr r => ?_
  refine wn ?_
  refine wp_ret ?_
  have hd : D.field_Field_mask a0 = 0 := (cond_t h5).trans (rfl)
  refine ret_tmp r rfl rfl ?_
  rw [hd]
  exact ⟨rfl, hB⟩
 ·
  refine wp_skip ?_
  refine wp_seq ?_
  refine wp_drawnF 5 [.val (.agg (fieldC a0).toArray), .val (U (D.field_Field_Most a0)), .val (.pointer (some ⟨b1, 0, none⟩)), .val (I a0.at_), .val (U (shlI .u64 (D.field_Field_Most a0) a0.at_))] mixed r (by kernel_rfl) (within_cons (by exact trivial) (within_cons (by exact trivial) (within_cons (by exact trivial) (within_cons (by exact trivial) (within_cons (by exact trivial) within_nil))))) ?_ ?_
  ·
   refine ec r (fun _ u _ b d s => y_load_agg s (cs := (fieldC a0)) (n := 2) rfl (keep b h_b1) ta223 rfl bz) ?_
   refine ec r (fun fr1 u w' hb' hd r' => y_call r' (args := [(.agg (fieldC a0).toArray)]) (lc hd.1 l0) cl263 ((c_field_Field_Most _ a0).mono (by rintro _ w2 ⟨rfl, hb2⟩; exact ⟨_, rfl, hb2, rfl⟩))) ?_
   refine ec r (fun _ u _ b d s => y_fieldAddr s (b := b1) (o := 0) rfl fo223_0 bz) ?_
   refine ec r (fun _ u _ b d s => y_load_one s d.1 (keep b h_b1) to3 rfl bz) ?_
   refine ec r (fun _ u _ b d s => y_bin s d.1 d.2.1 rfl (bin_shl (by first | assumption | decide | (have hq := field_formed (by simpa using ‹(!D.field_Field_Formed _) = false›); omega))) bz) ?_
   exact each_nil
  ·
   intro fr u w6 hb hΦ hne r
   have r := r.congr (sc (hΦ 4 (by decide)) (sc (hΦ 3 (by decide)) (sc (hΦ 2 (by decide)) (sc (hΦ 1 (by decide)) (sc (hΦ 0 (by decide)) rfl)))))
   have z_w6 := hb.size
   have h_b1 := keep hb h_b1
   obtain ⟨hB, zB⟩ := bon hb hB
   refine seq_val (U (shlI .u64 (D.field_Field_Most a0) a0.at_)) r (fun R => y_assign r rfl) rfl fun fr r => ?_
   refine wn ?_
   refine wp_ret ?_
   have hd : D.field_Field_mask a0 = (shlI .u64 (D.field_Field_Most a0) a0.at_) := (cond_f h5).trans (rfl)
   refine ret_tmp r rfl rfl ?_
   rw [hd]
   exact ⟨rfl, hB⟩

def D.field_Field_Put (a0 : Field) (a1 : Int) (a2 : Int) : Int := (bif (!(D.field_Field_Formed a0)) then a1 else (bits_or .u64 (bits_andNot .u64 a1 (D.field_Field_mask a0)) (shlI .u64 (bits_and .u64 a2 (D.field_Field_Most a0)) a0.at_)))

theorem c_field_Field_Put (w0 : World) 
    (a0 : Field) (a1 : Int) (a2 : Int) :
    Calls Tryz.prog 296 #[.agg (fieldC a0).toArray, .int .u64 a1, .int .u64 a2] w0 (PureRes (.int .u64 (D.field_Field_Put a0 a1 a2)) w0) := by
 refine enter Tryz.func296 rfl 23 rfl rfl fun fr r => ?_
 have hB := Below.refl w0.heap.size w0
 refine wsr ?_
 refine seq_new (.cells ((fieldC a0)).toArray 223 (0, 0)) r (fun R => y_box r (v := (.agg (fieldC a0).toArray)) rfl) rfl fun fr b1 w2 n3 r => ?_
 obtain ⟨e_b1, z_w2, h_b1, hB, zB⟩ := n3.all hB
 refine seq_val (U 0) r (fun R => y_assign r rfl) rfl fun fr r => ?_
 refine wn ?_
 refine wp_seq ?_
 refine wsr ?_
 refine seq_val (.agg (fieldC a0).toArray) r (fun R => y_load_agg r (cs := (fieldC a0)) (n := 2) rfl h_b1 ta223 rfl) rfl fun fr r => ?_
 refine seq_call r (c_field_Field_Formed w2 a0) (fun R hc => y_call r rfl cl262 hc) rfl ?_
 rintro _ w4 ⟨rfl, hb⟩
 refine ⟨_, rfl, fun fr r => ?_⟩
 have z_w4 := hb.size
 have h_b1 := keep hb h_b1
 obtain ⟨hB, zB⟩ := bon hb hB
 refine seq_val (.bool (!(D.field_Field_Formed a0))) r (fun R => y_un r (u := (.bool (D.field_Field_Formed a0))) rfl rfl) rfl fun fr r => ?_
 refine wn ?_
 refine wp_cond_split (t := (!(D.field_Field_Formed a0))) (r.ev rfl) (fun h5 => ?_) (fun h5 => ?_)
 ·
  refine wsr ?_
  refine seq_val (U a1) r (fun R => y_move r rfl) rfl fun fr r => ?_
  refine seq_val (U a1) r (fun R => y_assign r rfl) rfl fun fr r => ?_
  refine wn ?_
  refine wp_ret ?_
  have hd : D.field_Field_Put a0 a1 a2 = a1 := (cond_t h5).trans (rfl)
  refine ret_tmp r rfl rfl ?_
  rw [hd]
  exact ⟨rfl, hB⟩
 ·
  refine wp_skip ?_
  refine wp_seq ?_
  refine wp_drawnF 12 [.val (U a1), .val (.agg (fieldC a0).toArray), .val (U (D.field_Field_mask a0)), .val (U (bits_andNot .u64 a1 (D.field_Field_mask a0))), .val (U a2), .val (.agg (fieldC a0).toArray), .val (U (D.field_Field_Most a0)), .val (U (bits_and .u64 a2 (D.field_Field_Most a0))), .val (.pointer (some ⟨b1, 0, none⟩)), .val (I a0.at_), .val (U (shlI .u64 (bits_and .u64 a2 (D.field_Field_Most a0)) a0.at_)), .val (U (bits_or .u64 (bits_andNot .u64 a1 (D.field_Field_mask a0)) (shlI .u64 (bits_and .u64 a2 (D.field_Field_Most a0)) a0.at_)))] mixed r (by kernel_rfl) (within_cons (by exact trivial) (within_cons (by exact trivial) (within_cons (by exact trivial) (within_cons (by exact trivial) (within_cons (by exact trivial) (within_cons (by exact trivial) (within_cons (by exact trivial) (within_cons (by exact trivial) (within_cons (by exact trivial) (within_cons (by exact trivial) (within_cons (by exact trivial) (within_cons (by exact trivial) within_nil)))))))))))) ?_ ?_
  ·
   refine ec r (fun _ u _ b d s => y_move s rfl bz) ?_
   refine ec r (fun _ u _ b d s => y_load_agg s (cs := (fieldC a0)) (n := 2) rfl (keep b h_b1) ta223 rfl bz) ?_
   refine ec r (fun fr1 u w' hb' hd r' => y_call r' (args := [(.agg (fieldC a0).toArray)]) (lc hd.1 l0) cl260 ((c_field_Field_mask _ a0).mono (by rintro _ w2 ⟨rfl, hb2⟩; exact ⟨_, rfl, hb2, rfl⟩))) ?_
   refine ec r (fun _ u _ b d s => y_bin s d.1 d.2.1 rfl rfl bz) ?_
   refine ec r (fun _ u _ b d s => y_move s rfl bz) ?_
   refine ec r (fun _ u _ b d s => y_load_agg s (cs := (fieldC a0)) (n := 2) rfl (keep b h_b1) ta223 rfl bz) ?_
   refine ec r (fun fr1 u w' hb' hd r' => y_call r' (args := [(.agg (fieldC a0).toArray)]) (lc hd.1 l0) cl263 ((c_field_Field_Most _ a0).mono (by rintro _ w2 ⟨rfl, hb2⟩; exact ⟨_, rfl, hb2, rfl⟩))) ?_
   refine ec r (fun _ u _ b d s => y_bin s d.1 d.2.1 rfl rfl bz) ?_
   refine ec r (fun _ u _ b d s => y_fieldAddr s (b := b1) (o := 0) rfl fo223_0 bz) ?_
   refine ec r (fun _ u _ b d s => y_load_one s d.1 (keep b h_b1) to3 rfl bz) ?_
   refine ec r (fun _ u _ b d s => y_bin s d.1 d.2.1 rfl (bin_shl (by first | assumption | decide | (have hq := field_formed (by simpa using ‹(!D.field_Field_Formed _) = false›); omega))) bz) ?_
   refine ec r (fun _ u _ b d s => y_bin s d.1 d.2.1 rfl rfl bz) ?_
   exact each_nil
  ·
   intro fr u w6 hb hΦ hne r
   have r := r.congr (sc (hΦ 11 (by decide)) (sc (hΦ 10 (by decide)) (sc (hΦ 9 (by decide)) (sc (hΦ 8 (by decide)) (sc (hΦ 7 (by decide)) (sc (hΦ 6 (by decide)) (sc (hΦ 5 (by decide)) (sc (hΦ 4 (by decide)) (sc (hΦ 3 (by decide)) (sc (hΦ 2 (by decide)) (sc (hΦ 1 (by decide)) (sc (hΦ 0 (by decide)) rfl))))))))))))
   have z_w6 := hb.size
   have h_b1 := keep hb h_b1
   obtain ⟨hB, zB⟩ := bon hb hB
   refine seq_val (U (bits_or .u64 (bits_andNot .u64 a1 (D.field_Field_mask a0)) (shlI .u64 (bits_and .u64 a2 (D.field_Field_Most a0)) a0.at_))) r (fun R => y_assign r rfl) rfl fun fr r => ?_
   refine wn ?_
   refine wp_ret ?_
   have hd : D.field_Field_Put a0 a1 a2 = (bits_or .u64 (bits_andNot .u64 a1 (D.field_Field_mask a0)) (shlI .u64 (bits_and .u64 a2 (D.field_Field_Most a0)) a0.at_)) := (cond_f h5).trans (rfl)
   refine ret_tmp r rfl rfl ?_
   rw [hd]
   exact ⟨rfl, hB⟩

end Go.Proofs.YtjkinpbfmihhdaaGreat
