/- Written by a program of ours (wip/gen.py): handles -/
import Derived.Test.YtjkinpbfmihhdaaGreatCfHandx
set_option linter.unusedVariables false
set_option maxRecDepth 20000
set_option maxHeartbeats 2000000
namespace Go.Proofs.YtjkinpbfmihhdaaGreat
open Go.RowKit
theorem cl226 : callable Tryz.prog 226 = true := by kernel_rfl

theorem ta63 : tyA Tryz.prog 63 3 = true := by kernel_rfl

theorem ts63 : sized Tryz.prog 63 3 = true := by kernel_rfl

theorem tz63 : zeroOf Tryz.prog 63 = some (.agg (handleC (⟨0, 0, 0⟩ : Handle)).toArray) := by kernel_rfl

def D.handle_Mine (a0 : Int) (a1 : Int) (a2 : Int) : Handle × Bool := (bif (!((D.handle_Of a0).2)) then ((⟨0, 0, 0⟩ : Handle), false) else (bif ((((D.handle_Of a0).1).tenant) != a1) then ((⟨0, 0, 0⟩ : Handle), false) else (bif (decide ((((D.handle_Of a0).1).index) ≥ a2)) then ((⟨0, 0, 0⟩ : Handle), false) else ((D.handle_Of a0).1, true))))

theorem c_handle_Mine (w0 : World) 
    (a0 : Int) (a1 : Int) (a2 : Int) :
    Calls Tryz.prog 127 #[.int .u64 a0, .int .i64 a1, .int .i64 a2] w0 (PureRes (.tuple #[(.agg (handleC (D.handle_Mine a0 a1 a2).1).toArray), (.bool (D.handle_Mine a0 a1 a2).2)]) w0) := by
 refine enter Tryz.func127 rfl 31 rfl rfl fun fr r => ?_
 have hB := Below.refl w0.heap.size w0
 refine wsr ?_
 refine seq_new (.cells ((handleC (⟨0, 0, 0⟩ : Handle))).toArray 63 (0, 0)) r (fun R => y_alloc tz63) rfl fun fr b1 w2 n3 r => ?_
 obtain ⟨e_b1, z_w2, h_b1, hB, zB⟩ := n3.all hB
 refine seq_val (.bool false) r (fun R => y_assign r rfl) rfl fun fr r => ?_
 refine wn ?_
 refine wsr ?_
 refine seq_val (U a0) r (fun R => y_move r rfl) rfl fun fr r => ?_
 refine seq_call r (c_handle_Of w2 a0) (fun R hc => y_call r rfl cl226 hc) rfl ?_
 rintro _ w4 ⟨rfl, hb⟩
 refine ⟨_, rfl, fun fr r => ?_⟩
 have z_w4 := hb.size
 have h_b1 := keep hb h_b1
 obtain ⟨hB, zB⟩ := bon hb hB
 refine seq_val (.tuple #[(.agg (handleC (D.handle_Of a0).1).toArray), (.bool (D.handle_Of a0).2)]) r (fun R => y_move r rfl) rfl fun fr r => ?_
 refine seq_val (.agg (handleC (D.handle_Of a0).1).toArray) r (fun R => y_extract r (vs := #[(.agg (handleC (D.handle_Of a0).1).toArray), (.bool (D.handle_Of a0).2)]) rfl rfl) rfl fun fr r => ?_
 refine seq_val (.bool (D.handle_Of a0).2) r (fun R => y_extract r (vs := #[(.agg (handleC (D.handle_Of a0).1).toArray), (.bool (D.handle_Of a0).2)]) rfl rfl) rfl fun fr r => ?_
 refine seq_new (.cells ((handleC (⟨0, 0, 0⟩ : Handle))).toArray 63 (0, 0)) r (fun R => y_alloc tz63) rfl fun fr b5 w6 n7 r => ?_
 have h_b1 := keep n7.below h_b1
 obtain ⟨e_b5, z_w6, h_b5, hB, zB⟩ := n7.all hB
 refine seq_upd (.cells ((handleC ((D.handle_Of a0).1))).toArray 63 (0, 0)) r (fun R => y_store r (o := 0) (v := (.agg (handleC (D.handle_Of a0).1).toArray)) rfl rfl h_b5 ts63 (Nat.le_of_ble_eq_true rfl) rfl rfl) rfl fun fr w8 u9 r => ?_
 have z_w8 := u9.size
 have h_b1 := u9.keep h_b1 (by omega)
 have h_b5 := u9.at_
 obtain ⟨hB, zB⟩ := u9.on hB (by omega)
 refine seq_val (.bool (D.handle_Of a0).2) r (fun R => y_assign r rfl) rfl fun fr r => ?_
 refine wn ?_
 refine wp_seq ?_
 refine wsr ?_
 refine seq_val (.bool (D.handle_Of a0).2) r (fun R => y_move r rfl) rfl fun fr r => ?_
 refine seq_val (.bool (!((D.handle_Of a0).2))) r (fun R => y_un r (u := (.bool (D.handle_Of a0).2)) rfl rfl) rfl fun fr r => ?_
 refine seq_val (.bool (!((D.handle_Of a0).2))) r (fun R => y_move r rfl) rfl fun fr r => ?_
 refine seq_split (!((D.handle_Of a0).2)) (fun h10 => ?_) (fun h10 => ?_)
 ·
  refine s0 r h10 fun fr r => ?_
  refine s0 r h10 fun fr r => ?_
  refine s0 r h10 fun fr r => ?_
  refine s0 r h10 fun fr r => ?_
  refine seq_val (.bool true) r (fun R => y_pick r (b := true) (congrArg Value.bool h10) rfl) rfl fun fr r => ?_
  refine seq_val (.bool true) r (fun R => y_move r rfl) rfl fun fr r => ?_
  refine s0 r (rfl : true = _) fun fr r => ?_
  refine s0 r (rfl : true = _) fun fr r => ?_
  refine s0 r (rfl : true = _) fun fr r => ?_
  refine s0 r (rfl : true = _) fun fr r => ?_
  refine seq_val (.bool true) r (fun R => y_pick r (b := true) (congrArg Value.bool (rfl : true = _)) rfl) rfl fun fr r => ?_
  refine wn ?_
  refine wp_cond_split (t := true) (r.ev rfl) (fun _ => ?_) (fun h => absurd ((rfl : true = _).symm.trans h) (by decide))
  refine wsr ?_
  refine seq_val (.agg (handleC (⟨0, 0, 0⟩ : Handle)).toArray) r (fun R => y_build r (by kernel_rfl)) rfl fun fr r => ?_
  refine seq_upd (.cells ((handleC (⟨0, 0, 0⟩ : Handle))).toArray 63 (0, 0)) r (fun R => y_store r (o := 0) (v := (.agg (handleC (⟨0, 0, 0⟩ : Handle)).toArray)) rfl rfl h_b1 ts63 (Nat.le_of_ble_eq_true rfl) rfl rfl) rfl fun fr w11 u12 r => ?_
  have z_w11 := u12.size
  have h_b5 := u12.keep h_b5 (by omega)
  have h_b1 := u12.at_
  obtain ⟨hB, zB⟩ := u12.on hB (by omega)
  refine seq_val (.bool false) r (fun R => y_assign r rfl) rfl fun fr r => ?_
  refine wn ?_
  refine wp_ret ?_
  have hd : D.handle_Mine a0 a1 a2 = ((⟨0, 0, 0⟩ : Handle), false) := (cond_t h10).trans (rfl)
  refine ret_cell_tmp r rfl rfl (v' := (.bool false)) rfl h_b1 (k := 3) rfl ta63 ?_
  rw [hd]
  exact ⟨rfl, hB⟩
 ·
  refine s1 r h10 ?_
  refine seq_val _ r (fun R => y_fieldAddr r (o := 0) rfl fo63_2) rfl fun fr r => ?_
  refine s1 r h10 ?_
  refine seq_val (I ((D.handle_Of a0).1).tenant) r (fun R => y_load_one r rfl h_b5 to3 rfl) rfl fun fr r => ?_
  refine s1 r h10 ?_
  refine seq_val (I a1) r (fun R => y_move r rfl) rfl fun fr r => ?_
  refine s1 r h10 ?_
  refine seq_val _ r (fun R => y_bin r rfl rfl rfl rfl) rfl fun fr r => ?_
  refine seq_val (.bool ((((D.handle_Of a0).1).tenant) != a1)) r (fun R => y_pick r (b := false) (congrArg Value.bool h10) rfl) rfl fun fr r => ?_
  refine seq_val (.bool ((((D.handle_Of a0).1).tenant) != a1)) r (fun R => y_move r rfl) rfl fun fr r => ?_
  refine seq_split ((((D.handle_Of a0).1).tenant) != a1) (fun h13 => ?_) (fun h13 => ?_)
  ·
   refine s0 r h13 fun fr r => ?_
   refine s0 r h13 fun fr r => ?_
   refine s0 r h13 fun fr r => ?_
   refine s0 r h13 fun fr r => ?_
   refine seq_val (.bool true) r (fun R => y_pick r (b := true) (congrArg Value.bool h13) rfl) rfl fun fr r => ?_
   refine wn ?_
   refine wp_cond_split (t := true) (r.ev rfl) (fun _ => ?_) (fun h => absurd ((rfl : true = _).symm.trans h) (by decide))
   refine wsr ?_
   refine seq_val (.agg (handleC (⟨0, 0, 0⟩ : Handle)).toArray) r (fun R => y_build r (by kernel_rfl)) rfl fun fr r => ?_
   refine seq_upd (.cells ((handleC (⟨0, 0, 0⟩ : Handle))).toArray 63 (0, 0)) r (fun R => y_store r (o := 0) (v := (.agg (handleC (⟨0, 0, 0⟩ : Handle)).toArray)) rfl rfl h_b1 ts63 (Nat.le_of_ble_eq_true rfl) rfl rfl) rfl fun fr w14 u15 r => ?_
   have z_w14 := u15.size
   have h_b5 := u15.keep h_b5 (by omega)
   have h_b1 := u15.at_
   obtain ⟨hB, zB⟩ := u15.on hB (by omega)
   refine seq_val (.bool false) r (fun R => y_assign r rfl) rfl fun fr r => ?_
   refine wn ?_
   refine wp_ret ?_
   have hd : D.handle_Mine a0 a1 a2 = ((⟨0, 0, 0⟩ : Handle), false) := (cond_f h10).trans ((cond_t h13).trans (rfl))
   refine ret_cell_tmp r rfl rfl (v' := (.bool false)) rfl h_b1 (k := 3) rfl ta63 ?_
   rw [hd]
   exact ⟨rfl, hB⟩
  ·
   refine s1 r h13 ?_
   refine seq_val _ r (fun R => y_fieldAddr r (o := 0) rfl fo63_0) rfl fun fr r => ?_
   refine s1 r h13 ?_
   refine seq_val (I ((D.handle_Of a0).1).index) r (fun R => y_load_one r rfl h_b5 to3 rfl) rfl fun fr r => ?_
   refine s1 r h13 ?_
   refine seq_val (I a2) r (fun R => y_move r rfl) rfl fun fr r => ?_
   refine s1 r h13 ?_
   refine seq_val _ r (fun R => y_bin r rfl rfl rfl rfl) rfl fun fr r => ?_
   refine seq_val (.bool (decide ((((D.handle_Of a0).1).index) ≥ a2))) r (fun R => y_pick r (b := false) (congrArg Value.bool h13) rfl) rfl fun fr r => ?_
   refine wn ?_
   refine wp_cond_split (t := (decide ((((D.handle_Of a0).1).index) ≥ a2))) (r.ev rfl) (fun h16 => ?_) (fun h16 => ?_)
   ·
    refine wsr ?_
    refine seq_val (.agg (handleC (⟨0, 0, 0⟩ : Handle)).toArray) r (fun R => y_build r (by kernel_rfl)) rfl fun fr r => ?_
    refine seq_upd (.cells ((handleC (⟨0, 0, 0⟩ : Handle))).toArray 63 (0, 0)) r (fun R => y_store r (o := 0) (v := (.agg (handleC (⟨0, 0, 0⟩ : Handle)).toArray)) rfl rfl h_b1 ts63 (Nat.le_of_ble_eq_true rfl) rfl rfl) rfl fun fr w17 u18 r => ?_
    have z_w17 := u18.size
    have h_b5 := u18.keep h_b5 (by omega)
    have h_b1 := u18.at_
    obtain ⟨hB, zB⟩ := u18.on hB (by omega)
    refine seq_val (.bool false) r (fun R => y_assign r rfl) rfl fun fr r => ?_
    refine wn ?_
    refine wp_ret ?_
    have hd : D.handle_Mine a0 a1 a2 = ((⟨0, 0, 0⟩ : Handle), false) := (cond_f h10).trans ((cond_f h13).trans ((cond_t h16).trans (rfl)))
    refine ret_cell_tmp r rfl rfl (v' := (.bool false)) rfl h_b1 (k := 3) rfl ta63 ?_
    rw [hd]
    exact ⟨rfl, hB⟩
   ·
    refine wp_skip ?_
    refine wsr ?_
    refine seq_val (.agg (handleC (D.handle_Of a0).1).toArray) r (fun R => y_load_agg r (cs := (handleC ((D.handle_Of a0).1))) (n := 3) rfl h_b5 ta63 rfl) rfl fun fr r => ?_
    refine seq_upd (.cells ((handleC ((D.handle_Of a0).1))).toArray 63 (0, 0)) r (fun R => y_store r (o := 0) (v := (.agg (handleC (D.handle_Of a0).1).toArray)) rfl rfl h_b1 ts63 (Nat.le_of_ble_eq_true rfl) rfl rfl) rfl fun fr w19 u20 r => ?_
    have z_w19 := u20.size
    have h_b5 := u20.keep h_b5 (by omega)
    have h_b1 := u20.at_
    obtain ⟨hB, zB⟩ := u20.on hB (by omega)
    refine seq_val (.bool true) r (fun R => y_assign r rfl) rfl fun fr r => ?_
    refine wn ?_
    refine wp_ret ?_
    have hd : D.handle_Mine a0 a1 a2 = ((D.handle_Of a0).1, true) := (cond_f h10).trans ((cond_f h13).trans ((cond_f h16).trans (rfl)))
    refine ret_cell_tmp r rfl rfl (v' := (.bool true)) rfl h_b1 (k := 3) rfl ta63 ?_
    rw [hd]
    exact ⟨rfl, hB⟩

end Go.Proofs.YtjkinpbfmihhdaaGreat
