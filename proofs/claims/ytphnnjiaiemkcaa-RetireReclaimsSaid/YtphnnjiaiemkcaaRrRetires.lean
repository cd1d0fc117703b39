/- Written by a program of ours (wip/gen.py): nodes that are retired -/
import Derived.Test.YtphnnjiaiemkcaaRrStatex
import Derived.Test.YtphnnjiaiemkcaaRrLists
set_option linter.unusedVariables false
namespace Go.Proofs.Ytphnnjiaiemkcaa
open Go.RowKit
theorem cl116 : callable Try.prog 116 = true := by kernel_rfl

theorem cl117 : callable Try.prog 117 = true := by kernel_rfl

theorem cl118 : callable Try.prog 118 = true := by kernel_rfl

theorem cl119 : callable Try.prog 119 = true := by kernel_rfl

theorem cl120 : callable Try.prog 120 = true := by kernel_rfl

theorem cl144 : callable Try.prog 144 = true := by kernel_rfl

theorem cl145 : callable Try.prog 145 = true := by kernel_rfl

theorem cl146 : callable Try.prog 146 = true := by kernel_rfl

theorem cl147 : callable Try.prog 147 = true := by kernel_rfl

theorem cl20 : callable Try.prog 20 = true := by kernel_rfl

theorem cl28 : callable Try.prog 28 = true := by kernel_rfl

theorem cl29 : callable Try.prog 29 = true := by kernel_rfl

theorem cl73 : callable Try.prog 73 = true := by kernel_rfl

theorem cl74 : callable Try.prog 74 = true := by kernel_rfl

def D.retire_Put_1_1_1 (c0 : Int) : T Int := (D.prog_Done_int (IntKind.i64.wrap ((IntKind.i64.wrap c0) + 1)))

set_option maxRecDepth 20000 in
set_option maxHeartbeats 1000000 in
theorem c_retire_Put_1_1_1 {n : Nat} {F : Nat → Prop} {w0 : World} (hF : ∀ b, F b → b < w0.heap.size)
    (c0 : Int) {c0_b : Nat} (c0_F : F c0_b) (c0_h : w0.heap[c0_b]? = some (.cells ([(.int .u64 c0)]).toArray 49 (0, 0))) :
    Calls Try.prog 146 #[.pointer (some ⟨c0_b, 0, none⟩)] w0 (RepRes Try.prog encInt n (D.retire_Put_1_1_1 c0) F w0) := by
  refine enter (l := [.pointer (some ⟨c0_b, 0, none⟩)]) Try.func146 rfl 6 rfl rfl fun fr r => ?_
  have hB := Below.refl w0.heap.size w0
  have l_c0_b := lt_of_block c0_h
  refine wp_seq ?_
  refine wp_region_lit ?_
  refine seq_new (.cells (progCells false encInt.zero 0 0 0 0 .nilFunc) 103 (0, 0)) r (fun R => y_alloc tz103) rfl fun fr b1 w2 n3 r => ?_
  have c0_h := keep n3.below c0_h
  have e_b1 := n3.eq
  have z_w2 := n3.size
  have h_b1 := n3.at_
  have hB := hB.trans (n3.below.mono hB.size)
  have zB := hB.size
  refine wpList_nil ?_
  refine wp_seq ?_
  refine wp_region_lit ?_
  refine seq_val (.int .u64 c0) r (fun R => y_load_one r (v := (.int .u64 c0)) rfl c0_h to49 rfl) rfl fun fr r => ?_
  refine seq_val (.int .i64 (IntKind.i64.wrap c0)) r (fun R => y_convert r rfl ti49 ti3) rfl fun fr r => ?_
  refine seq_val (.int .i64 (IntKind.i64.wrap ((IntKind.i64.wrap c0) + 1))) r (fun R => y_bin r (u := (.int .i64 (IntKind.i64.wrap c0))) (u' := (.int .i64 1)) rfl rfl rfl rfl) rfl fun fr r => ?_
  have hF1 : ∀ b, (fun b => F b ∨ (w0.heap.size ≤ b ∧ b < w2.heap.size ∧ b ≠ b1)) b → b < w2.heap.size := by rintro b (h | h); exact Nat.lt_of_lt_of_le (hF b h) hB.size; exact h.2.1
  refine seq_call r (c_prog_Done_int (F := (fun b => F b ∨ (w0.heap.size ≤ b ∧ b < w2.heap.size ∧ b ≠ b1))) (n := n) hF1 (IntKind.i64.wrap ((IntKind.i64.wrap c0) + 1))) (fun R hc => y_call r rfl cl103 hc) rfl ?_
  rintro _ w4 ⟨v5, rfl, hb, hr6⟩
  refine ⟨_, rfl, fun fr r => ?_⟩
  have z_w4 := hb.size
  have c0_h := keep hb c0_h
  have h_b1 := keep hb h_b1
  have hB := hB.trans (hb.mono hB.size)
  have zB := hB.size
  refine seq_upd (.cells v5.cells 103 (0, 0)) r (fun R => y_storep r hr6.shape rfl rfl h_b1 ts103 rfl) rfl fun fr w7 u8 r => ?_
  have z_w7 := u8.size
  have c0_h := u8.keep c0_h (by omega)
  have h_b1 := u8.at_
  have hB := u8.below hB (by omega)
  have zB := hB.size
  refine wpList_nil ?_
  refine wp_ret ?_
  have hd : D.retire_Put_1_1_1 c0 = (D.prog_Done_int (IntKind.i64.wrap ((IntKind.i64.wrap c0) + 1))) := rfl
  have hs := hr6.shape.cells
  refine ret_cell r rfl rfl h_b1 (k := 7) hs.1 ta103 ?_
  rw [← hs.2.2, hd]
  exact RepRes.fin hB hr6 u8 (by rintro b (h | ⟨h1, h2, _⟩); exact .inl h; exact .inr ⟨h1, h2⟩) (by rintro (h | ⟨_, _, h⟩); (have := hF _ h; omega); exact h rfl) (by omega) (by omega) (by omega)

def D.retire_Put_1_1 (c0 : Plan) (c1 : Int) (c2 : Int) : T Int := (D.prog_Store_int (D.plan_Plan_Count c0 c1) (IntKind.u64.wrap (c2 + 1)) (fun _ => (D.retire_Put_1_1_1 c2)))

set_option maxRecDepth 20000 in
set_option maxHeartbeats 1000000 in
theorem c_retire_Put_1_1 {n : Nat} {F : Nat → Prop} {w0 : World} (hF : ∀ b, F b → b < w0.heap.size)
    (c0 : Plan) {c0_b : Nat} (c0_F : F c0_b) (c0_h : w0.heap[c0_b]? = some (.cells ((planC c0)).toArray 24 (0, 0))) (c1 : Int) {c1_b : Nat} (c1_F : F c1_b) (c1_h : w0.heap[c1_b]? = some (.cells ([(.int .i64 c1)]).toArray 3 (0, 0))) (c2 : Int) {c2_b : Nat} (c2_F : F c2_b) (c2_h : w0.heap[c2_b]? = some (.cells ([(.int .u64 c2)]).toArray 49 (0, 0))) :
    Calls Try.prog 145 #[.pointer (some ⟨c0_b, 0, none⟩), .pointer (some ⟨c1_b, 0, none⟩), .pointer (some ⟨c2_b, 0, none⟩)] w0 (RepRes Try.prog encInt n (D.retire_Put_1_1 c0 c1 c2) F w0) := by
  refine enter (l := [.pointer (some ⟨c0_b, 0, none⟩), .pointer (some ⟨c1_b, 0, none⟩), .pointer (some ⟨c2_b, 0, none⟩)]) Try.func145 rfl 11 rfl rfl fun fr r => ?_
  have hB := Below.refl w0.heap.size w0
  have l_c0_b := lt_of_block c0_h
  have l_c1_b := lt_of_block c1_h
  have l_c2_b := lt_of_block c2_h
  refine wp_seq ?_
  refine wp_region_lit ?_
  refine seq_new (.cells (progCells false encInt.zero 0 0 0 0 .nilFunc) 103 (0, 0)) r (fun R => y_alloc tz103) rfl fun fr b1 w2 n3 r => ?_
  have c0_h := keep n3.below c0_h
  have c1_h := keep n3.below c1_h
  have c2_h := keep n3.below c2_h
  have e_b1 := n3.eq
  have z_w2 := n3.size
  have h_b1 := n3.at_
  have hB := hB.trans (n3.below.mono hB.size)
  have zB := hB.size
  refine wpList_nil ?_
  refine wp_seq ?_
  refine wp_drawnF 6 [.val (.agg (planC c0).toArray), .val (.int .i64 c1), .val (.int .i64 (D.plan_Plan_Count c0 c1)), .val (.int .u64 c2), .val (.int .u64 (IntKind.u64.wrap (c2 + 1))), .val (.func (.func 146) #[] #[.pointer (some ⟨c2_b, 0, none⟩)])] mixed r (by kernel_rfl) (within_cons (by exact trivial) (within_cons (by exact trivial) (within_cons (by exact trivial) (within_cons (by exact trivial) (within_cons (by exact trivial) (within_cons (by exact trivial) within_nil)))))) ?_ ?_
  · skip
    refine each_consF r rfl (fun fr1 u w' hb' hd r' => ?_) ?_
    · exact y_load_agg r' (cs := (planC c0)) (n := 6) rfl (keep hb' c0_h) ta24 rfl ⟨Below.refl _ _, rfl⟩
    refine each_consF r rfl (fun fr1 u w' hb' hd r' => ?_) ?_
    · exact y_load_one r' (v := (.int .i64 c1)) rfl (keep hb' c1_h) to3 rfl ⟨Below.refl _ _, rfl⟩
    refine each_consF r rfl (fun fr1 u w' hb' hd r' => ?_) ?_
    · obtain ⟨d0, d1, _⟩ := hd; exact y_call r' (args := [(.agg (planC c0).toArray), (.int .i64 c1)]) (lc d0 (lc d1 l0)) cl29 ((c_plan_Plan_Count _ c0 c1).mono (by rintro _ w2 ⟨rfl, hb2⟩; exact ⟨_, rfl, hb2, rfl⟩))
    refine each_consF r rfl (fun fr1 u w' hb' hd r' => ?_) ?_
    · exact y_load_one r' (v := (.int .u64 c2)) rfl (keep hb' c2_h) to49 rfl ⟨Below.refl _ _, rfl⟩
    refine each_consF r rfl (fun fr1 u w' hb' hd r' => ?_) ?_
    · obtain ⟨d0, _⟩ := hd; exact y_bin r' (u := (.int .u64 c2)) (u' := (.int .u64 1)) (v := (.int .u64 (IntKind.u64.wrap (c2 + 1)))) d0 rfl rfl rfl ⟨Below.refl _ _, rfl⟩
    refine each_consF r rfl (fun fr1 u w' hb' hd r' => ?_) ?_
    · exact y_makeFunc r' (v := (.func (.func 146) #[] #[.pointer (some ⟨c2_b, 0, none⟩)])) rfl ⟨Below.refl _ _, rfl⟩
    exact each_nil
  · skip
    intro fr u w4 hb hΦ hne r
    have g0 : u 0 = (.agg (planC c0).toArray) := hΦ 0 (by decide)
    have g1 : u 1 = (.int .i64 c1) := hΦ 1 (by decide)
    have g2 : u 2 = (.int .i64 (D.plan_Plan_Count c0 c1)) := hΦ 2 (by decide)
    have g3 : u 3 = (.int .u64 c2) := hΦ 3 (by decide)
    have g4 : u 4 = (.int .u64 (IntKind.u64.wrap (c2 + 1))) := hΦ 4 (by decide)
    have g5 : u 5 = (.func (.func 146) #[] #[.pointer (some ⟨c2_b, 0, none⟩)]) := hΦ 5 (by decide)
    have r := r.congr (sc g5 (sc g4 (sc g3 (sc g2 (sc g1 (sc g0 rfl))))))
    have z_w4 := hb.size
    have c0_h := keep hb c0_h
    have c1_h := keep hb c1_h
    have c2_h := keep hb c2_h
    have h_b1 := keep hb h_b1
    have hB := hB.trans (hb.mono hB.size)
    have zB := hB.size
    have hF1 : ∀ b, (fun b => F b ∨ (w0.heap.size ≤ b ∧ b < w4.heap.size ∧ b ≠ b1)) b → b < w4.heap.size := by rintro b (h | h); exact Nat.lt_of_lt_of_le (hF b h) hB.size; exact h.2.1
    have f5 : ((fun b => F b ∨ (w0.heap.size ≤ b ∧ b < w4.heap.size ∧ b ≠ b1))) c2_b := (.inl c2_F)
    refine seq_call r (c_prog_Store_int (F := (fun b => F b ∨ (w0.heap.size ≤ b ∧ b < w4.heap.size ∧ b ≠ b1))) (n := n) hF1 (D.plan_Plan_Count c0 c1) (IntKind.u64.wrap (c2 + 1)) ⟨146, [], [.pointer (some ⟨c2_b, 0, none⟩)], cl146, rfl, fun m hm _ w' hs hz => c_retire_Put_1_1_1 (fun b hb => Nat.lt_of_lt_of_le (hF1 b hb) hz) c2 f5 (hs.at_ f5 c2_h)⟩) (fun R hc => y_call r rfl cl109 hc) rfl ?_
    rintro _ w6 ⟨v7, rfl, hb, hr8⟩
    refine ⟨_, rfl, fun fr r => ?_⟩
    have z_w6 := hb.size
    have c0_h := keep hb c0_h
    have c1_h := keep hb c1_h
    have c2_h := keep hb c2_h
    have h_b1 := keep hb h_b1
    have hB := hB.trans (hb.mono hB.size)
    have zB := hB.size
    refine seq_upd (.cells v7.cells 103 (0, 0)) r (fun R => y_storep r hr8.shape rfl rfl h_b1 ts103 rfl) rfl fun fr w9 u10 r => ?_
    have z_w9 := u10.size
    have c0_h := u10.keep c0_h (by omega)
    have c1_h := u10.keep c1_h (by omega)
    have c2_h := u10.keep c2_h (by omega)
    have h_b1 := u10.at_
    have hB := u10.below hB (by omega)
    have zB := hB.size
    refine wpList_nil ?_
    refine wp_ret ?_
    have hd : D.retire_Put_1_1 c0 c1 c2 = (D.prog_Store_int (D.plan_Plan_Count c0 c1) (IntKind.u64.wrap (c2 + 1)) (fun _ => (D.retire_Put_1_1_1 c2))) := rfl
    have hs := hr8.shape.cells
    refine ret_cell r rfl rfl h_b1 (k := 7) hs.1 ta103 ?_
    rw [← hs.2.2, hd]
    exact RepRes.fin hB hr8 u10 (by rintro b (h | ⟨h1, h2, _⟩); exact .inl h; exact .inr ⟨h1, h2⟩) (by rintro (h | ⟨_, _, h⟩); (have := hF _ h; omega); exact h rfl) (by omega) (by omega) (by omega)

def D.retire_Put_1 (c0 : Plan) (c1 : Int) (c2 : Int) (a0 : Int) : T Int := (bif (decide (a0 ≥ (IntKind.u64.wrap c0.retire))) then (D.prog_Done_int (-1)) else (D.prog_Store_int (D.plan_Plan_Retired c0 c1 (IntKind.i64.wrap a0)) (IntKind.u64.wrap (IntKind.i64.wrap (c2 + 1))) (fun _ => (D.retire_Put_1_1 c0 c1 a0))))

set_option maxRecDepth 20000 in
set_option maxHeartbeats 1000000 in
theorem c_retire_Put_1 {n : Nat} {F : Nat → Prop} {w0 : World} (hF : ∀ b, F b → b < w0.heap.size)
    (c0 : Plan) {c0_b : Nat} (c0_F : F c0_b) (c0_h : w0.heap[c0_b]? = some (.cells ((planC c0)).toArray 24 (0, 0))) (c1 : Int) {c1_b : Nat} (c1_F : F c1_b) (c1_h : w0.heap[c1_b]? = some (.cells ([(.int .i64 c1)]).toArray 3 (0, 0))) (c2 : Int) {c2_b : Nat} (c2_F : F c2_b) (c2_h : w0.heap[c2_b]? = some (.cells ([(.int .i64 c2)]).toArray 3 (0, 0))) (a0 : Int) :
    Calls Try.prog 144 #[.int .u64 a0, .pointer (some ⟨c0_b, 0, none⟩), .pointer (some ⟨c1_b, 0, none⟩), .pointer (some ⟨c2_b, 0, none⟩)] w0 (RepRes Try.prog encInt n (D.retire_Put_1 c0 c1 c2 a0) F w0) := by
  refine enter (l := [.int .u64 a0, .pointer (some ⟨c0_b, 0, none⟩), .pointer (some ⟨c1_b, 0, none⟩), .pointer (some ⟨c2_b, 0, none⟩)]) Try.func144 rfl 22 rfl rfl fun fr r => ?_
  have hB := Below.refl w0.heap.size w0
  have l_c0_b := lt_of_block c0_h
  have l_c1_b := lt_of_block c1_h
  have l_c2_b := lt_of_block c2_h
  refine wp_seq ?_
  refine wp_region_lit ?_
  refine seq_new (.cells #[(.int .u64 a0)] 49 (0, 0)) r (fun R => y_box r (v := (.int .u64 a0)) rfl) rfl fun fr b1 w2 n3 r => ?_
  have c0_h := keep n3.below c0_h
  have c1_h := keep n3.below c1_h
  have c2_h := keep n3.below c2_h
  have e_b1 := n3.eq
  have z_w2 := n3.size
  have h_b1 := n3.at_
  have hB := hB.trans (n3.below.mono hB.size)
  have zB := hB.size
  refine seq_new (.cells (progCells false encInt.zero 0 0 0 0 .nilFunc) 103 (0, 0)) r (fun R => y_alloc tz103) rfl fun fr b4 w5 n6 r => ?_
  have c0_h := keep n6.below c0_h
  have c1_h := keep n6.below c1_h
  have c2_h := keep n6.below c2_h
  have h_b1 := keep n6.below h_b1
  have e_b4 := n6.eq
  have z_w5 := n6.size
  have h_b4 := n6.at_
  have hB := hB.trans (n6.below.mono hB.size)
  have zB := hB.size
  refine wpList_nil ?_
  refine wp_seq ?_
  refine wp_seq ?_
  refine wp_region_lit ?_
  refine seq_val (.int .u64 a0) r (fun R => y_load_one r (v := (.int .u64 a0)) rfl h_b1 to49 rfl) rfl fun fr r => ?_
  refine seq_val (.pointer (some ⟨c0_b, 2, none⟩)) r (fun R => y_fieldAddr r (o := 0) rfl fo24_2) rfl fun fr r => ?_
  refine seq_val (.int .i64 c0.retire) r (fun R => y_load_one r (v := (.int .i64 c0.retire)) rfl c0_h to3 rfl) rfl fun fr r => ?_
  refine seq_val (.int .u64 (IntKind.u64.wrap c0.retire)) r (fun R => y_convert r rfl ti3 ti49) rfl fun fr r => ?_
  refine seq_val (.bool (decide (a0 ≥ (IntKind.u64.wrap c0.retire)))) r (fun R => y_bin r (u := (.int .u64 a0)) (u' := (.int .u64 (IntKind.u64.wrap c0.retire))) rfl rfl rfl rfl) rfl fun fr r => ?_
  refine wpList_nil ?_
  refine wp_cond_split (t := (decide (a0 ≥ (IntKind.u64.wrap c0.retire)))) (r.ev rfl) (fun h7 => ?_) (fun h7 => ?_)
  · skip
    refine wp_seq ?_
    refine wp_region_lit ?_
    have hF1 : ∀ b, (fun b => F b ∨ (w0.heap.size ≤ b ∧ b < w5.heap.size ∧ b ≠ b4)) b → b < w5.heap.size := by rintro b (h | h); exact Nat.lt_of_lt_of_le (hF b h) hB.size; exact h.2.1
    refine seq_call r (c_prog_Done_int (F := (fun b => F b ∨ (w0.heap.size ≤ b ∧ b < w5.heap.size ∧ b ≠ b4))) (n := n) hF1 (-1)) (fun R hc => y_call r rfl cl103 hc) rfl ?_
    rintro _ w8 ⟨v9, rfl, hb, hr10⟩
    refine ⟨_, rfl, fun fr r => ?_⟩
    have z_w8 := hb.size
    have c0_h := keep hb c0_h
    have c1_h := keep hb c1_h
    have c2_h := keep hb c2_h
    have h_b1 := keep hb h_b1
    have h_b4 := keep hb h_b4
    have hB := hB.trans (hb.mono hB.size)
    have zB := hB.size
    refine seq_upd (.cells v9.cells 103 (0, 0)) r (fun R => y_storep r hr10.shape rfl rfl h_b4 ts103 rfl) rfl fun fr w11 u12 r => ?_
    have z_w11 := u12.size
    have c0_h := u12.keep c0_h (by omega)
    have c1_h := u12.keep c1_h (by omega)
    have c2_h := u12.keep c2_h (by omega)
    have h_b1 := u12.keep h_b1 (by omega)
    have h_b4 := u12.at_
    have hB := u12.below hB (by omega)
    have zB := hB.size
    refine wpList_nil ?_
    refine wp_ret ?_
    have hd : D.retire_Put_1 c0 c1 c2 a0 = (D.prog_Done_int (-1)) := (cond_t h7).trans (rfl)
    have hs := hr10.shape.cells
    refine ret_cell r rfl rfl h_b4 (k := 7) hs.1 ta103 ?_
    rw [← hs.2.2, hd]
    exact RepRes.fin hB hr10 u12 (by rintro b (h | ⟨h1, h2, _⟩); exact .inl h; exact .inr ⟨h1, h2⟩) (by rintro (h | ⟨_, _, h⟩); (have := hF _ h; omega); exact h rfl) (by omega) (by omega) (by omega)
  · skip
    refine wp_skip ?_
    refine wp_seq ?_
    refine wp_drawnF 9 [.val (.agg (planC c0).toArray), .val (.int .i64 c1), .val (.int .u64 a0), .val (.int .i64 (IntKind.i64.wrap a0)), .val (.int .i64 (D.plan_Plan_Retired c0 c1 (IntKind.i64.wrap a0))), .val (.int .i64 c2), .val (.int .i64 (IntKind.i64.wrap (c2 + 1))), .val (.int .u64 (IntKind.u64.wrap (IntKind.i64.wrap (c2 + 1)))), .val (.func (.func 145) #[] #[.pointer (some ⟨c0_b, 0, none⟩), .pointer (some ⟨c1_b, 0, none⟩), .pointer (some ⟨b1, 0, none⟩)])] mixed r (by kernel_rfl) (within_cons (by exact trivial) (within_cons (by exact trivial) (within_cons (by exact trivial) (within_cons (by exact trivial) (within_cons (by exact trivial) (within_cons (by exact trivial) (within_cons (by exact trivial) (within_cons (by exact trivial) (within_cons (by exact trivial) within_nil))))))))) ?_ ?_
    · skip
      refine each_consF r rfl (fun fr1 u w' hb' hd r' => ?_) ?_
      · exact y_load_agg r' (cs := (planC c0)) (n := 6) rfl (keep hb' c0_h) ta24 rfl ⟨Below.refl _ _, rfl⟩
      refine each_consF r rfl (fun fr1 u w' hb' hd r' => ?_) ?_
      · exact y_load_one r' (v := (.int .i64 c1)) rfl (keep hb' c1_h) to3 rfl ⟨Below.refl _ _, rfl⟩
      refine each_consF r rfl (fun fr1 u w' hb' hd r' => ?_) ?_
      · exact y_load_one r' (v := (.int .u64 a0)) rfl (keep hb' h_b1) to49 rfl ⟨Below.refl _ _, rfl⟩
      refine each_consF r rfl (fun fr1 u w' hb' hd r' => ?_) ?_
      · obtain ⟨d0, _⟩ := hd; exact y_convert r' (n := a0) d0 ti49 ti3 ⟨Below.refl _ _, rfl⟩
      refine each_consF r rfl (fun fr1 u w' hb' hd r' => ?_) ?_
      · obtain ⟨d0, d1, d2, _⟩ := hd; exact y_call r' (args := [(.agg (planC c0).toArray), (.int .i64 c1), (.int .i64 (IntKind.i64.wrap a0))]) (lc d0 (lc d1 (lc d2 l0))) cl28 ((c_plan_Plan_Retired _ c0 c1 (IntKind.i64.wrap a0)).mono (by rintro _ w2 ⟨rfl, hb2⟩; exact ⟨_, rfl, hb2, rfl⟩))
      refine each_consF r rfl (fun fr1 u w' hb' hd r' => ?_) ?_
      · exact y_load_one r' (v := (.int .i64 c2)) rfl (keep hb' c2_h) to3 rfl ⟨Below.refl _ _, rfl⟩
      refine each_consF r rfl (fun fr1 u w' hb' hd r' => ?_) ?_
      · obtain ⟨d0, _⟩ := hd; exact y_bin r' (u := (.int .i64 c2)) (u' := (.int .i64 1)) (v := (.int .i64 (IntKind.i64.wrap (c2 + 1)))) d0 rfl rfl rfl ⟨Below.refl _ _, rfl⟩
      refine each_consF r rfl (fun fr1 u w' hb' hd r' => ?_) ?_
      · obtain ⟨d0, _⟩ := hd; exact y_convert r' (n := (IntKind.i64.wrap (c2 + 1))) d0 ti3 ti49 ⟨Below.refl _ _, rfl⟩
      refine each_consF r rfl (fun fr1 u w' hb' hd r' => ?_) ?_
      · exact y_makeFunc r' (v := (.func (.func 145) #[] #[.pointer (some ⟨c0_b, 0, none⟩), .pointer (some ⟨c1_b, 0, none⟩), .pointer (some ⟨b1, 0, none⟩)])) rfl ⟨Below.refl _ _, rfl⟩
      exact each_nil
    · skip
      intro fr u w13 hb hΦ hne r
      have g0 : u 0 = (.agg (planC c0).toArray) := hΦ 0 (by decide)
      have g1 : u 1 = (.int .i64 c1) := hΦ 1 (by decide)
      have g2 : u 2 = (.int .u64 a0) := hΦ 2 (by decide)
      have g3 : u 3 = (.int .i64 (IntKind.i64.wrap a0)) := hΦ 3 (by decide)
      have g4 : u 4 = (.int .i64 (D.plan_Plan_Retired c0 c1 (IntKind.i64.wrap a0))) := hΦ 4 (by decide)
      have g5 : u 5 = (.int .i64 c2) := hΦ 5 (by decide)
      have g6 : u 6 = (.int .i64 (IntKind.i64.wrap (c2 + 1))) := hΦ 6 (by decide)
      have g7 : u 7 = (.int .u64 (IntKind.u64.wrap (IntKind.i64.wrap (c2 + 1)))) := hΦ 7 (by decide)
      have g8 : u 8 = (.func (.func 145) #[] #[.pointer (some ⟨c0_b, 0, none⟩), .pointer (some ⟨c1_b, 0, none⟩), .pointer (some ⟨b1, 0, none⟩)]) := hΦ 8 (by decide)
      have r := r.congr (sc g8 (sc g7 (sc g6 (sc g5 (sc g4 (sc g3 (sc g2 (sc g1 (sc g0 rfl)))))))))
      have z_w13 := hb.size
      have c0_h := keep hb c0_h
      have c1_h := keep hb c1_h
      have c2_h := keep hb c2_h
      have h_b1 := keep hb h_b1
      have h_b4 := keep hb h_b4
      have hB := hB.trans (hb.mono hB.size)
      have zB := hB.size
      have hF1 : ∀ b, (fun b => F b ∨ (w0.heap.size ≤ b ∧ b < w13.heap.size ∧ b ≠ b4)) b → b < w13.heap.size := by rintro b (h | h); exact Nat.lt_of_lt_of_le (hF b h) hB.size; exact h.2.1
      have f14 : ((fun b => F b ∨ (w0.heap.size ≤ b ∧ b < w13.heap.size ∧ b ≠ b4))) c0_b := (.inl c0_F)
      have f15 : ((fun b => F b ∨ (w0.heap.size ≤ b ∧ b < w13.heap.size ∧ b ≠ b4))) c1_b := (.inl c1_F)
      have f16 : ((fun b => F b ∨ (w0.heap.size ≤ b ∧ b < w13.heap.size ∧ b ≠ b4))) b1 := (.inr ⟨by omega, by omega, by omega⟩)
      refine seq_call r (c_prog_Store_int (F := (fun b => F b ∨ (w0.heap.size ≤ b ∧ b < w13.heap.size ∧ b ≠ b4))) (n := n) hF1 (D.plan_Plan_Retired c0 c1 (IntKind.i64.wrap a0)) (IntKind.u64.wrap (IntKind.i64.wrap (c2 + 1))) ⟨145, [], [.pointer (some ⟨c0_b, 0, none⟩), .pointer (some ⟨c1_b, 0, none⟩), .pointer (some ⟨b1, 0, none⟩)], cl145, rfl, fun m hm _ w' hs hz => c_retire_Put_1_1 (fun b hb => Nat.lt_of_lt_of_le (hF1 b hb) hz) c0 f14 (hs.at_ f14 c0_h) c1 f15 (hs.at_ f15 c1_h) a0 f16 (hs.at_ f16 h_b1)⟩) (fun R hc => y_call r rfl cl109 hc) rfl ?_
      rintro _ w17 ⟨v18, rfl, hb, hr19⟩
      refine ⟨_, rfl, fun fr r => ?_⟩
      have z_w17 := hb.size
      have c0_h := keep hb c0_h
      have c1_h := keep hb c1_h
      have c2_h := keep hb c2_h
      have h_b1 := keep hb h_b1
      have h_b4 := keep hb h_b4
      have hB := hB.trans (hb.mono hB.size)
      have zB := hB.size
      refine seq_upd (.cells v18.cells 103 (0, 0)) r (fun R => y_storep r hr19.shape rfl rfl h_b4 ts103 rfl) rfl fun fr w20 u21 r => ?_
      have z_w20 := u21.size
      have c0_h := u21.keep c0_h (by omega)
      have c1_h := u21.keep c1_h (by omega)
      have c2_h := u21.keep c2_h (by omega)
      have h_b1 := u21.keep h_b1 (by omega)
      have h_b4 := u21.at_
      have hB := u21.below hB (by omega)
      have zB := hB.size
      refine wpList_nil ?_
      refine wp_ret ?_
      have hd : D.retire_Put_1 c0 c1 c2 a0 = (D.prog_Store_int (D.plan_Plan_Retired c0 c1 (IntKind.i64.wrap a0)) (IntKind.u64.wrap (IntKind.i64.wrap (c2 + 1))) (fun _ => (D.retire_Put_1_1 c0 c1 a0))) := (cond_f h7).trans (rfl)
      have hs := hr19.shape.cells
      refine ret_cell r rfl rfl h_b4 (k := 7) hs.1 ta103 ?_
      rw [← hs.2.2, hd]
      exact RepRes.fin hB hr19 u21 (by rintro b (h | ⟨h1, h2, _⟩); exact .inl h; exact .inr ⟨h1, h2⟩) (by rintro (h | ⟨_, _, h⟩); (have := hF _ h; omega); exact h rfl) (by omega) (by omega) (by omega)

def D.retire_Put (a0 : Plan) (a1 : Int) (a2 : Int) : T Int := (D.prog_Load_int (D.plan_Plan_Count a0 a1) (fun x => (D.retire_Put_1 a0 a1 a2 x)))

set_option maxRecDepth 20000 in
set_option maxHeartbeats 1000000 in
theorem c_retire_Put {n : Nat} {F : Nat → Prop} {w0 : World} (hF : ∀ b, F b → b < w0.heap.size)
    (a0 : Plan) (a1 : Int) (a2 : Int) :
    Calls Try.prog 114 #[.agg (planC a0).toArray, .int .i64 a1, .int .i64 a2] w0 (RepRes Try.prog encInt n (D.retire_Put a0 a1 a2) F w0) := by
  refine enter (l := [.agg (planC a0).toArray, .int .i64 a1, .int .i64 a2]) Try.func114 rfl 12 rfl rfl fun fr r => ?_
  have hB := Below.refl w0.heap.size w0
  refine wp_seq ?_
  refine wp_region_lit ?_
  refine seq_new (.cells ((planC a0)).toArray 24 (0, 0)) r (fun R => y_box r (v := (.agg (planC a0).toArray)) rfl) rfl fun fr b1 w2 n3 r => ?_
  have e_b1 := n3.eq
  have z_w2 := n3.size
  have h_b1 := n3.at_
  have hB := hB.trans (n3.below.mono hB.size)
  have zB := hB.size
  refine seq_new (.cells #[(.int .i64 a1)] 3 (0, 0)) r (fun R => y_box r (v := (.int .i64 a1)) rfl) rfl fun fr b4 w5 n6 r => ?_
  have h_b1 := keep n6.below h_b1
  have e_b4 := n6.eq
  have z_w5 := n6.size
  have h_b4 := n6.at_
  have hB := hB.trans (n6.below.mono hB.size)
  have zB := hB.size
  refine seq_new (.cells #[(.int .i64 a2)] 3 (0, 0)) r (fun R => y_box r (v := (.int .i64 a2)) rfl) rfl fun fr b7 w8 n9 r => ?_
  have h_b1 := keep n9.below h_b1
  have h_b4 := keep n9.below h_b4
  have e_b7 := n9.eq
  have z_w8 := n9.size
  have h_b7 := n9.at_
  have hB := hB.trans (n9.below.mono hB.size)
  have zB := hB.size
  refine seq_new (.cells (progCells false encInt.zero 0 0 0 0 .nilFunc) 103 (0, 0)) r (fun R => y_alloc tz103) rfl fun fr b10 w11 n12 r => ?_
  have h_b1 := keep n12.below h_b1
  have h_b4 := keep n12.below h_b4
  have h_b7 := keep n12.below h_b7
  have e_b10 := n12.eq
  have z_w11 := n12.size
  have h_b10 := n12.at_
  have hB := hB.trans (n12.below.mono hB.size)
  have zB := hB.size
  refine wpList_nil ?_
  refine wp_seq ?_
  refine wp_region_lit ?_
  refine seq_val (.agg (planC a0).toArray) r (fun R => y_load_agg r (cs := (planC a0)) (n := 6) rfl h_b1 ta24 rfl) rfl fun fr r => ?_
  refine seq_val (.int .i64 a1) r (fun R => y_load_one r (v := (.int .i64 a1)) rfl h_b4 to3 rfl) rfl fun fr r => ?_
  refine seq_call r (c_plan_Plan_Count w11 a0 a1) (fun R hc => y_call r rfl cl29 hc) rfl ?_
  rintro _ w13 ⟨rfl, hb⟩
  refine ⟨_, rfl, fun fr r => ?_⟩
  have z_w13 := hb.size
  have h_b1 := keep hb h_b1
  have h_b4 := keep hb h_b4
  have h_b7 := keep hb h_b7
  have h_b10 := keep hb h_b10
  have hB := hB.trans (hb.mono hB.size)
  have zB := hB.size
  refine seq_val (.func (.func 144) #[] #[.pointer (some ⟨b1, 0, none⟩), .pointer (some ⟨b4, 0, none⟩), .pointer (some ⟨b7, 0, none⟩)]) r (fun R => y_makeFunc r rfl) rfl fun fr r => ?_
  have hF1 : ∀ b, (fun b => F b ∨ (w0.heap.size ≤ b ∧ b < w13.heap.size ∧ b ≠ b10)) b → b < w13.heap.size := by rintro b (h | h); exact Nat.lt_of_lt_of_le (hF b h) hB.size; exact h.2.1
  have f14 : ((fun b => F b ∨ (w0.heap.size ≤ b ∧ b < w13.heap.size ∧ b ≠ b10))) b1 := (.inr ⟨by omega, by omega, by omega⟩)
  have f15 : ((fun b => F b ∨ (w0.heap.size ≤ b ∧ b < w13.heap.size ∧ b ≠ b10))) b4 := (.inr ⟨by omega, by omega, by omega⟩)
  have f16 : ((fun b => F b ∨ (w0.heap.size ≤ b ∧ b < w13.heap.size ∧ b ≠ b10))) b7 := (.inr ⟨by omega, by omega, by omega⟩)
  refine seq_call r (c_prog_Load_int (F := (fun b => F b ∨ (w0.heap.size ≤ b ∧ b < w13.heap.size ∧ b ≠ b10))) (n := n) hF1 (D.plan_Plan_Count a0 a1) ⟨144, [], [.pointer (some ⟨b1, 0, none⟩), .pointer (some ⟨b4, 0, none⟩), .pointer (some ⟨b7, 0, none⟩)], cl144, rfl, fun m hm x w' hs hz => c_retire_Put_1 (fun b hb => Nat.lt_of_lt_of_le (hF1 b hb) hz) a0 f14 (hs.at_ f14 h_b1) a1 f15 (hs.at_ f15 h_b4) a2 f16 (hs.at_ f16 h_b7) x⟩) (fun R hc => y_call r rfl cl99 hc) rfl ?_
  rintro _ w17 ⟨v18, rfl, hb, hr19⟩
  refine ⟨_, rfl, fun fr r => ?_⟩
  have z_w17 := hb.size
  have h_b1 := keep hb h_b1
  have h_b4 := keep hb h_b4
  have h_b7 := keep hb h_b7
  have h_b10 := keep hb h_b10
  have hB := hB.trans (hb.mono hB.size)
  have zB := hB.size
  refine seq_upd (.cells v18.cells 103 (0, 0)) r (fun R => y_storep r hr19.shape rfl rfl h_b10 ts103 rfl) rfl fun fr w20 u21 r => ?_
  have z_w20 := u21.size
  have h_b1 := u21.keep h_b1 (by omega)
  have h_b4 := u21.keep h_b4 (by omega)
  have h_b7 := u21.keep h_b7 (by omega)
  have h_b10 := u21.at_
  have hB := u21.below hB (by omega)
  have zB := hB.size
  refine wpList_nil ?_
  refine wp_ret ?_
  have hd : D.retire_Put a0 a1 a2 = (D.prog_Load_int (D.plan_Plan_Count a0 a1) (fun x => (D.retire_Put_1 a0 a1 a2 x))) := rfl
  have hs := hr19.shape.cells
  refine ret_cell r rfl rfl h_b10 (k := 7) hs.1 ta103 ?_
  rw [← hs.2.2, hd]
  exact RepRes.fin hB hr19 u21 (by rintro b (h | ⟨h1, h2, _⟩); exact .inl h; exact .inr ⟨h1, h2⟩) (by rintro (h | ⟨_, _, h⟩); (have := hF _ h; omega); exact h rfl) (by omega) (by omega) (by omega)

def D.retire_List (fu : Nat) (a0 : Plan) (a1 : Mem) (a2 : Int) (a3 : Int) : Option (List Int) := ((D.mem_Memory_Peek fu a1 a2 (D.plan_Plan_Count a0 a3)).bind (fun (x5 : Int) => (loopThen (fun (x8 : List Int × Int) => (bif (decide (x8.2 < (IntKind.i64.wrap (minI x5 (IntKind.u64.wrap (maxI a0.retire 0)))))) then ((D.mem_Memory_Peek fu a1 a2 (D.plan_Plan_Retired a0 a3 x8.2)).bind (fun (x14 : Int) => (Option.bind (bif (decide (x14 ≥ 1)) then (some (decide (x14 ≤ (IntKind.u64.wrap a0.nodes)))) else (some false)) (fun (x18 : Bool) => (Option.bind (bif x18 then ((appD x8.1 ([(IntKind.i64.wrap ((IntKind.i64.wrap x14) - 1))])).bind (fun (x27 : List Int) => (some x27))) else (some x8.1)) (fun (x31 : List Int) => (some (Lp.next (x31, (IntKind.i64.wrap (x8.2 + 1))))))))))) else (some (Lp.brk (x8.1, x8.2))))) fu ([], 0) (fun (x34 : List Int × Int) => (some x34.1)))))

set_option maxRecDepth 20000 in
set_option maxHeartbeats 2000000 in
theorem c_retire_List {fu : Nat} (w0 : World) (a0 : Plan) {a1_g : MG} (a1 : Mem) (a1_h : MemAt a1_g a1 w0) (a2 : Int) (a3 : Int) {res : List Int} (hD : D.retire_List fu a0 a1 a2 a3 = some res) :
    Calls Try.prog 115 #[.agg (planC a0).toArray, .pointer (some ⟨a1_g.mb, 0, none⟩), .int .i64 a2, .int .i64 a3] w0 (fun e w' => ∃ (v0 : Value), e = .returned v0 ∧ Done No No [rowK 3 1 i64 v0 res] w0 w') := by
  refine enter (l := [.agg (planC a0).toArray, .pointer (some ⟨a1_g.mb, 0, none⟩), .int .i64 a2, .int .i64 a3]) Try.func115 rfl 53 rfl rfl fun fr r => ?_
  have hP : Post No [] w0 w0 := Post.nil w0
  have hP : Post No [memR a1_g a1] w0 w0 := hP.addRo norw_nil a1_h rfl a1_h.lt
  unfold D.retire_List at hD
  refine wp_seq ?_
  refine wp_region_lit ?_
  refine seq_new (.cells ((planC a0)).toArray 24 (0, 0)) r (fun R => y_box r (v := (.agg (planC a0).toArray)) rfl) rfl fun fr b1 w2 n3 r => ?_
  have hP : Post No [memR a1_g a1, cellC b1 ((planC a0)).toArray 24] w0 w2 := hP.new n3
  refine seq_val (Value.slice none 0 0) r (fun R => y_assign r rfl) rfl fun fr r => ?_
  refine wpList_nil ?_
  refine wp_seq ?_
  refine wp_region_lit ?_
  refine seq_val (Value.slice none 0 0) r (fun R => y_assign r rfl) rfl fun fr r => ?_
  refine wpList_nil ?_
  refine wp_seq ?_
  obtain ⟨x5, hx5, hD⟩ := bindD_elim hD
  refine wp_freeF [.val (.pointer (some ⟨a1_g.mb, 0, none⟩)), .val (.int .i64 a2), .val (.agg (planC a0).toArray), .val (.int .i64 a3), .val (.int .i64 (D.plan_Plan_Count a0 a3)), .val (.int .u64 x5), .val (.pointer (some ⟨b1, 2, none⟩)), .val (.int .i64 a0.retire), .val (.int .i64 (maxI a0.retire 0)), .val (.int .u64 (IntKind.u64.wrap (maxI a0.retire 0))), .val (.int .u64 (minI x5 (IntKind.u64.wrap (maxI a0.retire 0)))), .val (.int .u64 (minI x5 (IntKind.u64.wrap (maxI a0.retire 0))))] mixed r (by kernel_rfl) ?_ ?_
  · skip
    refine eachF_cons r rfl (fun fr1 g w' hb' hd r' => ?_) ?_
    · exact y_move r' (v := (.pointer (some ⟨a1_g.mb, 0, none⟩))) rfl ⟨Below.refl _ _, rfl⟩
    refine eachF_cons r rfl (fun fr1 g w' hb' hd r' => ?_) ?_
    · exact y_move r' (v := (.int .i64 a2)) rfl ⟨Below.refl _ _, rfl⟩
    refine eachF_cons r rfl (fun fr1 g w' hb' hd r' => ?_) ?_
    · exact y_load_agg r' (cs := (planC a0)) (n := 6) rfl ((hP.below (dr hb')).cell (i := 1) rfl) ta24 rfl ⟨Below.refl _ _, rfl⟩
    refine eachF_cons r rfl (fun fr1 g w' hb' hd r' => ?_) ?_
    · exact y_move r' (v := (.int .i64 a3)) rfl ⟨Below.refl _ _, rfl⟩
    refine eachF_cons r rfl (fun fr1 g w' hb' hd r' => ?_) ?_
    · exact y_call r' (args := [(.agg (planC a0).toArray), (.int .i64 a3)]) (lc (hd 2 rfl).1 (lc (hd 3 rfl).1 l0)) cl29 ((c_plan_Plan_Count _ a0 a3).mono (by rintro _ w2 ⟨rfl, hb2⟩; exact ⟨_, rfl, hb2, rfl⟩))
    refine eachF_cons r rfl (fun fr1 g w' hb' hd r' => ?_) ?_
    · exact y_call r' (args := [(.pointer (some ⟨a1_g.mb, 0, none⟩)), (.int .i64 a2), (.int .i64 (D.plan_Plan_Count a0 a3))]) (lc (hd 0 rfl).1 (lc (hd 1 rfl).1 (lc (hd 4 rfl).1 l0))) cl47 ((c_mem_Memory_Peek _ a1 ((hP.below (dr hb')).memr (i := 0) rfl) a2 (D.plan_Plan_Count a0 a3) hx5).mono (by rintro _ w2 ⟨rfl, hb2⟩; exact ⟨_, rfl, hb2, rfl⟩))
    refine eachF_cons r rfl (fun fr1 g w' hb' hd r' => ?_) ?_
    · exact y_fieldAddr r' (b := b1) (o := 0) (k := 2) rfl fo24_2 ⟨Below.refl _ _, rfl⟩
    refine eachF_cons r rfl (fun fr1 g w' hb' hd r' => ?_) ?_
    · exact y_load_one r' (v := (.int .i64 a0.retire)) (hd 6 rfl).1 ((hP.below (dr hb')).cell (i := 1) rfl) to3 rfl ⟨Below.refl _ _, rfl⟩
    refine eachF_cons r rfl (fun fr1 g w' hb' hd r' => ?_) ?_
    · exact y_max r' (m := a0.retire) (n := 0) (hd 7 rfl).1 rfl ⟨Below.refl _ _, rfl⟩
    refine eachF_cons r rfl (fun fr1 g w' hb' hd r' => ?_) ?_
    · exact y_convert r' (n := (maxI a0.retire 0)) (hd 8 rfl).1 ti3 ti49 ⟨Below.refl _ _, rfl⟩
    refine eachF_cons r rfl (fun fr1 g w' hb' hd r' => ?_) ?_
    · exact y_min r' (m := x5) (n := (IntKind.u64.wrap (maxI a0.retire 0))) (hd 5 rfl).1 (hd 9 rfl).1 ⟨Below.refl _ _, rfl⟩
    refine eachF_cons r rfl (fun fr1 g w' hb' hd r' => ?_) ?_
    · exact y_assign r' (v := (.int .u64 (minI x5 (IntKind.u64.wrap (maxI a0.retire 0))))) (hd 10 rfl).1 ⟨Below.refl _ _, rfl⟩
    exact eachF_nil
  · skip
    intro fr gg w6 hb hΦ hap r
    have g0 : (gg 0).v = (.pointer (some ⟨a1_g.mb, 0, none⟩)) := (hΦ 0 rfl).1
    have g1 : (gg 1).v = (.int .i64 a2) := (hΦ 1 rfl).1
    have g2 : (gg 2).v = (.agg (planC a0).toArray) := (hΦ 2 rfl).1
    have g3 : (gg 3).v = (.int .i64 a3) := (hΦ 3 rfl).1
    have g4 : (gg 4).v = (.int .i64 (D.plan_Plan_Count a0 a3)) := (hΦ 4 rfl).1
    have g5 : (gg 5).v = (.int .u64 x5) := (hΦ 5 rfl).1
    have g6 : (gg 6).v = (.pointer (some ⟨b1, 2, none⟩)) := (hΦ 6 rfl).1
    have g7 : (gg 7).v = (.int .i64 a0.retire) := (hΦ 7 rfl).1
    have g8 : (gg 8).v = (.int .i64 (maxI a0.retire 0)) := (hΦ 8 rfl).1
    have g9 : (gg 9).v = (.int .u64 (IntKind.u64.wrap (maxI a0.retire 0))) := (hΦ 9 rfl).1
    have g10 : (gg 10).v = (.int .u64 (minI x5 (IntKind.u64.wrap (maxI a0.retire 0)))) := (hΦ 10 rfl).1
    have g11 : (gg 11).v = (.int .u64 (minI x5 (IntKind.u64.wrap (maxI a0.retire 0)))) := (hΦ 11 rfl).1
    have r := r.congr (sc g11 (sc g10 (sc g9 (sc g8 (sc g7 (sc g6 (sc g5 (sc g4 (sc g3 (sc g2 (sc g1 (sc g0 rfl))))))))))))
    have hP : Post No [memR a1_g a1, cellC b1 ((planC a0)).toArray 24] w0 w6 := hP.below hb
    refine wp_seq ?_
    refine wp_seq ?_
    refine wp_region_lit ?_
    refine seq_val (.int .u64 (minI x5 (IntKind.u64.wrap (maxI a0.retire 0)))) r (fun R => y_move r rfl) rfl fun fr r => ?_
    refine seq_val (.int .i64 (IntKind.i64.wrap (minI x5 (IntKind.u64.wrap (maxI a0.retire 0))))) r (fun R => y_convert r rfl ti49 ti3) rfl fun fr r => ?_
    refine seq_val (.int .i64 0) r (fun R => y_move r rfl) rfl fun fr r => ?_
    refine wpList_nil ?_
    have hP : Post No [memR a1_g a1, cellC b1 ((planC a0)).toArray 24, rowK 3 1 i64 (Value.slice none 0 0) ([])] w0 w6 := hP.nilRow 3 1 i64
    refine wp_loopG (X := List Int × Int) (G := Value) (x0 := ([], 0)) (fun x γ => [(0, (.agg (planC a0).toArray)), (1, (.pointer (some ⟨a1_g.mb, 0, none⟩))), (2, (.int .i64 a2)), (3, (.int .i64 a3)), (4, (.pointer (some ⟨b1, 0, none⟩))), (8, (Value.slice none 0 0)), (10, (.int .u64 (minI x5 (IntKind.u64.wrap (maxI a0.retire 0))))), (25, (.int .i64 (IntKind.i64.wrap (minI x5 (IntKind.u64.wrap (maxI a0.retire 0)))))), (9, γ), (26, (.int .i64 x.2))]) (fun x γ w => Post No [memR a1_g a1, cellC b1 ((planC a0)).toArray 24, rowK 3 1 i64 γ x.1] w0 w) (Value.slice none 0 0) r (hs_cons rfl (hs_cons rfl (hs_cons rfl (hs_cons rfl (hs_cons rfl (hs_cons rfl (hs_cons rfl (hs_cons rfl (hs_cons rfl (hs_cons rfl hs_nil)))))))))) hP hD ?_ ?_
    · skip
      rintro x8 γ9 fr w11 g y10 RPy10 nxy10 bky10 rty10 r hP hD
      have hP : Post No [memR a1_g a1, cellC b1 ((planC a0)).toArray 24, rowK 3 1 i64 γ9 x8.1] w0 w11 := hP
      refine wp_seq ?_
      refine wp_region_lit ?_
      refine seq_val (.bool (decide (x8.2 < (IntKind.i64.wrap (minI x5 (IntKind.u64.wrap (maxI a0.retire 0))))))) r (fun R => y_bin r (u := (.int .i64 x8.2)) (u' := (.int .i64 (IntKind.i64.wrap (minI x5 (IntKind.u64.wrap (maxI a0.retire 0)))))) rfl rfl rfl rfl) rfl fun fr r => ?_
      refine wpList_nil ?_
      refine wp_seq ?_
      refine wp_cond_split (t := (decide (x8.2 < (IntKind.i64.wrap (minI x5 (IntKind.u64.wrap (maxI a0.retire 0))))))) (r.ev rfl) (fun h12 => ?_) (fun h12 => ?_)
      · skip
        have hD := (cond_t h12).symm.trans hD
        refine wp_skip ?_
        refine wp_seq ?_
        refine wp_block ?_
        refine wp_seq ?_
        refine wp_region_lit ?_
        refine seq_val (.int .i64 x8.2) r (fun R => y_move r rfl) rfl fun fr r => ?_
        refine seq_val (.int .i64 x8.2) r (fun R => y_assign r rfl) rfl fun fr r => ?_
        refine wpList_nil ?_
        refine wp_seq ?_
        refine wp_region_lit ?_
        refine seq_val (.pointer (some ⟨a1_g.mb, 0, none⟩)) r (fun R => y_move r rfl) rfl fun fr r => ?_
        refine seq_val (.int .i64 a2) r (fun R => y_move r rfl) rfl fun fr r => ?_
        refine seq_val (.agg (planC a0).toArray) r (fun R => y_load_agg r (cs := (planC a0)) (n := 6) rfl (hP.cell (i := 1) rfl) ta24 rfl) rfl fun fr r => ?_
        refine seq_val (.int .i64 a3) r (fun R => y_move r rfl) rfl fun fr r => ?_
        refine seq_val (.int .i64 x8.2) r (fun R => y_move r rfl) rfl fun fr r => ?_
        refine seq_call r (c_plan_Plan_Retired w11 a0 a3 x8.2) (fun R hc => y_call r rfl cl28 hc) rfl ?_
        rintro _ w13 ⟨rfl, hb⟩
        refine ⟨_, rfl, fun fr r => ?_⟩
        have hP : Post No [memR a1_g a1, cellC b1 ((planC a0)).toArray 24, rowK 3 1 i64 γ9 x8.1] w0 w13 := hP.below hb
        obtain ⟨x14, hx14, hD⟩ := bindD_elim hD
        refine seq_call r (c_mem_Memory_Peek w13 a1 (hP.memr (i := 0) rfl) a2 (D.plan_Plan_Retired a0 a3 x8.2) hx14) (fun R hc => y_call r rfl cl47 hc) rfl ?_
        rintro _ w15 ⟨rfl, hb⟩
        refine ⟨_, rfl, fun fr r => ?_⟩
        have hP : Post No [memR a1_g a1, cellC b1 ((planC a0)).toArray 24, rowK 3 1 i64 γ9 x8.1] w0 w15 := hP.below hb
        refine seq_val (.int .u64 x14) r (fun R => y_assign r rfl) rfl fun fr r => ?_
        refine wpList_nil ?_
        refine wp_seq ?_
        refine wp_joinG (N := 53) (Y := Bool) (G := Unit) (fun x γ => [(0, (.agg (planC a0).toArray)), (1, (.pointer (some ⟨a1_g.mb, 0, none⟩))), (2, (.int .i64 a2)), (3, (.int .i64 a3)), (4, (.pointer (some ⟨b1, 0, none⟩))), (8, (Value.slice none 0 0)), (10, (.int .u64 (minI x5 (IntKind.u64.wrap (maxI a0.retire 0))))), (25, (.int .i64 (IntKind.i64.wrap (minI x5 (IntKind.u64.wrap (maxI a0.retire 0)))))), (9, γ9), (26, (.int .i64 x8.2)), (27, (.bool (decide (x8.2 < (IntKind.i64.wrap (minI x5 (IntKind.u64.wrap (maxI a0.retire 0)))))))), (11, (.int .i64 x8.2)), (12, (.int .u64 x14)), (44, (.bool x))]) (fun x γ w => Post No [memR a1_g a1, cellC b1 ((planC a0)).toArray 24, rowK 3 1 i64 γ9 x8.1] w0 w) hD ?_ ?_
        · skip
          rintro y16 RPy16 nxy16 hD
          refine wp_region_lit ?_
          refine seq_val (.int .u64 x14) r (fun R => y_move r rfl) rfl fun fr r => ?_
          refine seq_val (.bool (decide (x14 ≥ 1))) r (fun R => y_bin r (u := (.int .u64 x14)) (u' := (.int .u64 1)) rfl rfl rfl rfl) rfl fun fr r => ?_
          refine seq_val (.bool (decide (x14 ≥ 1))) r (fun R => y_move r rfl) rfl fun fr r => ?_
          refine seq_split (decide (x14 ≥ 1)) (fun h17 => ?_) (fun h17 => ?_)
          · skip
            have hD := (cond_t h17).symm.trans hD
            refine seq_want r rfl rfl rfl (congrArg Value.bool h17) ?_
            refine seq_val (.int .u64 x14) r (fun R => y_move r rfl) rfl fun fr r => ?_
            refine seq_want r rfl rfl rfl (congrArg Value.bool h17) ?_
            refine seq_val (.pointer (some ⟨b1, 0, none⟩)) r (fun R => y_fieldAddr r (o := 0) rfl fo24_0) rfl fun fr r => ?_
            refine seq_want r rfl rfl rfl (congrArg Value.bool h17) ?_
            refine seq_val (.int .i64 a0.nodes) r (fun R => y_load_one r (v := (.int .i64 a0.nodes)) rfl (hP.cell (i := 1) rfl) to3 rfl) rfl fun fr r => ?_
            refine seq_want r rfl rfl rfl (congrArg Value.bool h17) ?_
            refine seq_val (.int .u64 (IntKind.u64.wrap a0.nodes)) r (fun R => y_convert r rfl ti3 ti49) rfl fun fr r => ?_
            refine seq_want r rfl rfl rfl (congrArg Value.bool h17) ?_
            refine seq_val (.bool (decide (x14 ≤ (IntKind.u64.wrap a0.nodes)))) r (fun R => y_bin r (u := (.int .u64 x14)) (u' := (.int .u64 (IntKind.u64.wrap a0.nodes))) rfl rfl rfl rfl) rfl fun fr r => ?_
            refine seq_val (.bool (decide (x14 ≤ (IntKind.u64.wrap a0.nodes)))) r (fun R => y_pick r (b := true) (congrArg Value.bool h17) rfl) rfl fun fr r => ?_
            refine wpList_nil ?_
            exact nxy16 (decide (x14 ≤ (IntKind.u64.wrap a0.nodes))) () _ _ _ hD r (hs_cons rfl (hs_cons rfl (hs_cons rfl (hs_cons rfl (hs_cons rfl (hs_cons rfl (hs_cons rfl (hs_cons rfl (hs_cons rfl (hs_cons rfl (hs_cons rfl (hs_cons rfl (hs_cons rfl (hs_cons rfl hs_nil)))))))))))))) (hP.pick [0, 1, 2] rfl rfl)
          · skip
            have hD := (cond_f h17).symm.trans hD
            refine seq_skip r rfl rfl rfl (v := .bool false) (congrArg Value.bool h17) (by simp [boolOf]) fun fr r => ?_
            refine seq_skip r rfl rfl rfl (v := .bool false) (congrArg Value.bool h17) (by simp [boolOf]) fun fr r => ?_
            refine seq_skip r rfl rfl rfl (v := .bool false) (congrArg Value.bool h17) (by simp [boolOf]) fun fr r => ?_
            refine seq_skip r rfl rfl rfl (v := .bool false) (congrArg Value.bool h17) (by simp [boolOf]) fun fr r => ?_
            refine seq_skip r rfl rfl rfl (v := .bool false) (congrArg Value.bool h17) (by simp [boolOf]) fun fr r => ?_
            refine seq_val (.bool false) r (fun R => y_pick r (b := false) (congrArg Value.bool h17) rfl) rfl fun fr r => ?_
            refine wpList_nil ?_
            exact nxy16 false () _ _ _ hD r (hs_cons rfl (hs_cons rfl (hs_cons rfl (hs_cons rfl (hs_cons rfl (hs_cons rfl (hs_cons rfl (hs_cons rfl (hs_cons rfl (hs_cons rfl (hs_cons rfl (hs_cons rfl (hs_cons rfl (hs_cons rfl hs_nil)))))))))))))) (hP.pick [0, 1, 2] rfl rfl)
        · skip
          rintro x18 γ19 fr w20 g r hP hD
          have hP : Post No [memR a1_g a1, cellC b1 ((planC a0)).toArray 24, rowK 3 1 i64 γ9 x8.1] w0 w20 := hP
          refine wp_joinG (N := 53) (Y := List Int) (G := Value) (fun x γ => [(0, (.agg (planC a0).toArray)), (1, (.pointer (some ⟨a1_g.mb, 0, none⟩))), (2, (.int .i64 a2)), (3, (.int .i64 a3)), (4, (.pointer (some ⟨b1, 0, none⟩))), (8, (Value.slice none 0 0)), (10, (.int .u64 (minI x5 (IntKind.u64.wrap (maxI a0.retire 0))))), (25, (.int .i64 (IntKind.i64.wrap (minI x5 (IntKind.u64.wrap (maxI a0.retire 0)))))), (26, (.int .i64 x8.2)), (27, (.bool (decide (x8.2 < (IntKind.i64.wrap (minI x5 (IntKind.u64.wrap (maxI a0.retire 0)))))))), (11, (.int .i64 x8.2)), (12, (.int .u64 x14)), (44, (.bool x18)), (9, γ)]) (fun x γ w => Post No [memR a1_g a1, cellC b1 ((planC a0)).toArray 24, rowK 3 1 i64 γ x] w0 w) hD ?_ ?_
          · skip
            rintro y21 RPy21 nxy21 hD
            refine wp_cond_split (t := x18) (r.ev rfl) (fun h22 => ?_) (fun h22 => ?_)
            · skip
              have hD := (cond_t h22).symm.trans hD
              refine wp_region_lit ?_
              refine seq_val γ9 r (fun R => y_move r rfl) rfl fun fr r => ?_
              refine seq_val (.int .u64 x14) r (fun R => y_move r rfl) rfl fun fr r => ?_
              refine seq_val (.int .i64 (IntKind.i64.wrap x14)) r (fun R => y_convert r rfl ti49 ti3) rfl fun fr r => ?_
              refine seq_val (.int .i64 (IntKind.i64.wrap ((IntKind.i64.wrap x14) - 1))) r (fun R => y_bin r (u := (.int .i64 (IntKind.i64.wrap x14))) (u' := (.int .i64 1)) rfl rfl rfl rfl) rfl fun fr r => ?_
              refine seq_newS (.cells (([(IntKind.i64.wrap ((IntKind.i64.wrap x14) - 1))]).flatMap i64).toArray 3 (0, 0)) 1 r (fun R => y_bslice r (by kernel_rfl)) rfl fun fr b23 w24 n25 r => ?_
              have hP : Post No [memR a1_g a1, cellC b1 ((planC a0)).toArray 24, rowK 3 1 i64 γ9 x8.1, rowK 3 1 i64 (.slice (some ⟨b23, 0, none⟩) 1 1) ([(IntKind.i64.wrap ((IntKind.i64.wrap x14) - 1))])] w0 w24 := hP.newRow n25 (fun _ => rfl) rfl
              obtain ⟨x27, hx27, hD⟩ := bindD_elim hD
              refine seq_app 3 1 i64 γ9 r (fun R => y_append r rt36 (fun _ => rfl) (fun _ => rfl) (hP.row (i := 2) rfl) (hP.row (i := 3) rfl).ro hx27 rfl rfl) rfl fun fr v28 w29 ha30 r => ?_
              have hP : Post No [memR a1_g a1, cellC b1 ((planC a0)).toArray 24, rowK 3 1 i64 v28 x27, rowK 3 1 i64 (.slice (some ⟨b23, 0, none⟩) 1 1) ([(IntKind.i64.wrap ((IntKind.i64.wrap x14) - 1))])] w0 w29 := hP.append (i := 2) rfl ha30
              refine seq_val v28 r (fun R => y_assign r rfl) rfl fun fr r => ?_
              refine wpList_nil ?_
              exact nxy21 x27 v28 _ _ _ hD r (hs_cons rfl (hs_cons rfl (hs_cons rfl (hs_cons rfl (hs_cons rfl (hs_cons rfl (hs_cons rfl (hs_cons rfl (hs_cons rfl (hs_cons rfl (hs_cons rfl (hs_cons rfl (hs_cons rfl (hs_cons rfl hs_nil)))))))))))))) (hP.pick [0, 1, 2] rfl rfl)
            · skip
              have hD := (cond_f h22).symm.trans hD
              refine wp_skip ?_
              exact nxy21 x8.1 γ9 _ _ _ hD r (hs_cons rfl (hs_cons rfl (hs_cons rfl (hs_cons rfl (hs_cons rfl (hs_cons rfl (hs_cons rfl (hs_cons rfl (hs_cons rfl (hs_cons rfl (hs_cons rfl (hs_cons rfl (hs_cons rfl (hs_cons rfl hs_nil)))))))))))))) (hP.pick [0, 1, 2] rfl rfl)
          · skip
            rintro x31 γ32 fr w33 g r hP hD
            have hP : Post No [memR a1_g a1, cellC b1 ((planC a0)).toArray 24, rowK 3 1 i64 γ32 x31] w0 w33 := hP
            refine wp_region_lit ?_
            refine seq_val (.int .i64 (IntKind.i64.wrap (x8.2 + 1))) r (fun R => y_bin r (u := (.int .i64 x8.2)) (u' := (.int .i64 1)) rfl rfl rfl rfl) rfl fun fr r => ?_
            refine seq_val (.int .i64 (IntKind.i64.wrap (x8.2 + 1))) r (fun R => y_move r rfl) rfl fun fr r => ?_
            refine wpList_nil ?_
            exact nxy10 (x31, (IntKind.i64.wrap (x8.2 + 1))) γ32 _ _ _ hD r (hs_cons rfl (hs_cons rfl (hs_cons rfl (hs_cons rfl (hs_cons rfl (hs_cons rfl (hs_cons rfl (hs_cons rfl (hs_cons rfl (hs_cons rfl hs_nil)))))))))) (hP.pick [0, 1, 2] rfl rfl)
      · skip
        have hD := (cond_f h12).symm.trans hD
        refine wp_exit ?_
        exact bky10 (x8.1, x8.2) γ9 _ _ _ hD r (hs_cons rfl (hs_cons rfl (hs_cons rfl (hs_cons rfl (hs_cons rfl (hs_cons rfl (hs_cons rfl (hs_cons rfl (hs_cons rfl (hs_cons rfl hs_nil)))))))))) (hP.pick [0, 1, 2] rfl rfl)
    · skip
      rintro x34 γ35 fr w36 g r hP hD
      have hP : Post No [memR a1_g a1, cellC b1 ((planC a0)).toArray 24, rowK 3 1 i64 γ35 x34.1] w0 w36 := hP
      refine wp_seq ?_
      refine wp_region_lit ?_
      refine seq_val γ35 r (fun R => y_move r rfl) rfl fun fr r => ?_
      refine seq_val γ35 r (fun R => y_assign r rfl) rfl fun fr r => ?_
      refine wpList_nil ?_
      refine wp_ret ?_
      have hv : x34.1 = res := Option.some.inj hD
      try dsimp only [Exit.then, Exit.inBlock]
      refine ret_tmp (fn := Try.f115) r (t := 8) rfl (v := γ35) rfl ?_
      subst hv
      exact ⟨γ35, rfl, (hP.pick [2] rfl rfl).done (rest_cons rfl rest_nil)⟩

def D.retire_zero_1 (r_retire_zero : Plan → Int → Int → (Unit → T Int) → T Int) (c0 : Plan) (c1 : Int) (c2 : Int) (c3 : (Unit → T Int)) : T Int := (r_retire_zero c0 c1 (IntKind.i64.wrap (c2 + 1)) c3)

def D.retire_zero_body (r_retire_zero : Plan → Int → Int → (Unit → T Int) → T Int) (a0 : Plan) (a1 : Int) (a2 : Int) (a3 : (Unit → T Int)) : T Int := (bif (a2 == 3) then (a3 ()) else (D.prog_Store_int (D.plan_Plan_Field a0 a1 a2) 0 (fun _ => (D.retire_zero_1 r_retire_zero a0 a1 a2 a3))))

def D.retire_zero : Nat → Plan → Int → Int → (Unit → T Int) → T Int
  | 0, _, _, _, _ => .cut
  | k + 1, a0, a1, a2, a3 => D.retire_zero_body (D.retire_zero k) a0 a1 a2 a3

def Spec_retire_zero (r : Plan → Int → Int → (Unit → T Int) → T Int) (n : Nat) : Prop := ∀ (F : Nat → Prop) (w0 : World), (∀ b, F b → b < w0.heap.size) → ∀ (a0 : Plan) (a1 : Int) (a2 : Int) {a3_f : FuncId} {a3_1 a3_2 : List Value} {a3 : (Unit → T Int)} (a3_n : FnT Try.prog encInt unitE (n + 1) F w0 (.func (.func a3_f) a3_1.toArray a3_2.toArray) a3), Calls Try.prog 116 #[.agg (planC a0).toArray, .int .i64 a1, .int .i64 a2, .func (.func a3_f) a3_1.toArray a3_2.toArray] w0 (RepRes Try.prog encInt n (r a0 a1 a2 a3) F w0)

set_option maxRecDepth 20000 in
set_option maxHeartbeats 1000000 in
theorem c_retire_zero_1 {n : Nat} {F : Nat → Prop} {r_retire_zero : Plan → Int → Int → (Unit → T Int) → T Int} {w0 : World} (hF : ∀ b, F b → b < w0.heap.size) (ih_retire_zero : ∀ m, m ≤ n → Spec_retire_zero r_retire_zero m)
    (c0 : Plan) {c0_b : Nat} (c0_F : F c0_b) (c0_h : w0.heap[c0_b]? = some (.cells ((planC c0)).toArray 24 (0, 0))) (c1 : Int) {c1_b : Nat} (c1_F : F c1_b) (c1_h : w0.heap[c1_b]? = some (.cells ([(.int .i64 c1)]).toArray 3 (0, 0))) (c2 : Int) {c2_b : Nat} (c2_F : F c2_b) (c2_h : w0.heap[c2_b]? = some (.cells ([(.int .i64 c2)]).toArray 3 (0, 0))) {c3_f : FuncId} {c3_1 c3_2 : List Value} {c3 : (Unit → T Int)} {c3_b : Nat} (c3_F : F c3_b) (c3_h : w0.heap[c3_b]? = some (.cells #[.func (.func c3_f) c3_1.toArray c3_2.toArray] 169 (0, 0))) (c3_n : FnT Try.prog encInt unitE (n + 1) F w0 (.func (.func c3_f) c3_1.toArray c3_2.toArray) c3) :
    Calls Try.prog 147 #[.pointer (some ⟨c0_b, 0, none⟩), .pointer (some ⟨c1_b, 0, none⟩), .pointer (some ⟨c2_b, 0, none⟩), .pointer (some ⟨c3_b, 0, none⟩)] w0 (RepRes Try.prog encInt n (D.retire_zero_1 r_retire_zero c0 c1 c2 c3) F w0) := by
  refine enter (l := [.pointer (some ⟨c0_b, 0, none⟩), .pointer (some ⟨c1_b, 0, none⟩), .pointer (some ⟨c2_b, 0, none⟩), .pointer (some ⟨c3_b, 0, none⟩)]) Try.func147 rfl 11 rfl rfl fun fr r => ?_
  have hB := Below.refl w0.heap.size w0
  have l_c0_b := lt_of_block c0_h
  have l_c1_b := lt_of_block c1_h
  have l_c2_b := lt_of_block c2_h
  have l_c3_b := lt_of_block c3_h
  refine wp_seq ?_
  refine wp_region_lit ?_
  refine seq_new (.cells (progCells false encInt.zero 0 0 0 0 .nilFunc) 103 (0, 0)) r (fun R => y_alloc tz103) rfl fun fr b1 w2 n3 r => ?_
  have c0_h := keep n3.below c0_h
  have c1_h := keep n3.below c1_h
  have c2_h := keep n3.below c2_h
  have c3_h := keep n3.below c3_h
  have e_b1 := n3.eq
  have z_w2 := n3.size
  have h_b1 := n3.at_
  have hB := hB.trans (n3.below.mono hB.size)
  have zB := hB.size
  refine wpList_nil ?_
  refine wp_seq ?_
  refine wp_region_lit ?_
  refine seq_val (.agg (planC c0).toArray) r (fun R => y_load_agg r (cs := (planC c0)) (n := 6) rfl c0_h ta24 rfl) rfl fun fr r => ?_
  refine seq_val (.int .i64 c1) r (fun R => y_load_one r (v := (.int .i64 c1)) rfl c1_h to3 rfl) rfl fun fr r => ?_
  refine seq_val (.int .i64 c2) r (fun R => y_load_one r (v := (.int .i64 c2)) rfl c2_h to3 rfl) rfl fun fr r => ?_
  refine seq_val (.int .i64 (IntKind.i64.wrap (c2 + 1))) r (fun R => y_bin r (u := (.int .i64 c2)) (u' := (.int .i64 1)) rfl rfl rfl rfl) rfl fun fr r => ?_
  refine seq_val (.func (.func c3_f) c3_1.toArray c3_2.toArray) r (fun R => y_load_one r (v := (.func (.func c3_f) c3_1.toArray c3_2.toArray)) rfl c3_h to169 rfl) rfl fun fr r => ?_
  have hF1 : ∀ b, (fun b => F b ∨ (w0.heap.size ≤ b ∧ b < w2.heap.size ∧ b ≠ b1)) b → b < w2.heap.size := by rintro b (h | h); exact Nat.lt_of_lt_of_le (hF b h) hB.size; exact h.2.1
  refine seq_call r ((ih_retire_zero n (by omega)) (fun b => F b ∨ (w0.heap.size ≤ b ∧ b < w2.heap.size ∧ b ≠ b1)) _ hF1 c0 c1 (IntKind.i64.wrap (c2 + 1)) (c3_n.mono (by omega) (fun b h => .inl h) (Same.below hB hF) hB.size)) (fun R hc => y_call r rfl cl116 hc) rfl ?_
  rintro _ w4 ⟨v5, rfl, hb, hr6⟩
  refine ⟨_, rfl, fun fr r => ?_⟩
  have z_w4 := hb.size
  have c0_h := keep hb c0_h
  have c1_h := keep hb c1_h
  have c2_h := keep hb c2_h
  have c3_h := keep hb c3_h
  have h_b1 := keep hb h_b1
  have hB := hB.trans (hb.mono hB.size)
  have zB := hB.size
  refine seq_upd (.cells v5.cells 103 (0, 0)) r (fun R => y_storep r hr6.shape rfl rfl h_b1 ts103 rfl) rfl fun fr w7 u8 r => ?_
  have z_w7 := u8.size
  have c0_h := u8.keep c0_h (by omega)
  have c1_h := u8.keep c1_h (by omega)
  have c2_h := u8.keep c2_h (by omega)
  have c3_h := u8.keep c3_h (by omega)
  have h_b1 := u8.at_
  have hB := u8.below hB (by omega)
  have zB := hB.size
  refine wpList_nil ?_
  refine wp_ret ?_
  have hd : D.retire_zero_1 r_retire_zero c0 c1 c2 c3 = (r_retire_zero c0 c1 (IntKind.i64.wrap (c2 + 1)) c3) := rfl
  have hs := hr6.shape.cells
  refine ret_cell r rfl rfl h_b1 (k := 7) hs.1 ta103 ?_
  rw [← hs.2.2, hd]
  exact RepRes.fin hB hr6 u8 (by rintro b (h | ⟨h1, h2, _⟩); exact .inl h; exact .inr ⟨h1, h2⟩) (by rintro (h | ⟨_, _, h⟩); (have := hF _ h; omega); exact h rfl) (by omega) (by omega) (by omega)

set_option maxRecDepth 20000 in
set_option maxHeartbeats 1000000 in
theorem b_retire_zero {n : Nat} {F : Nat → Prop} {r_retire_zero : Plan → Int → Int → (Unit → T Int) → T Int} {w0 : World} (hF : ∀ b, F b → b < w0.heap.size) (ih_retire_zero : ∀ m, m < n → Spec_retire_zero r_retire_zero m)
    (a0 : Plan) (a1 : Int) (a2 : Int) {a3_f : FuncId} {a3_1 a3_2 : List Value} {a3 : (Unit → T Int)} (a3_n : FnT Try.prog encInt unitE (n + 1) F w0 (.func (.func a3_f) a3_1.toArray a3_2.toArray) a3) :
    Calls Try.prog 116 #[.agg (planC a0).toArray, .int .i64 a1, .int .i64 a2, .func (.func a3_f) a3_1.toArray a3_2.toArray] w0 (RepRes Try.prog encInt n (D.retire_zero_body r_retire_zero a0 a1 a2 a3) F w0) := by
  refine enter (l := [.agg (planC a0).toArray, .int .i64 a1, .int .i64 a2, .func (.func a3_f) a3_1.toArray a3_2.toArray]) Try.func116 rfl 19 rfl rfl fun fr r => ?_
  have hB := Below.refl w0.heap.size w0
  refine wp_seq ?_
  refine wp_region_lit ?_
  refine seq_new (.cells ((planC a0)).toArray 24 (0, 0)) r (fun R => y_box r (v := (.agg (planC a0).toArray)) rfl) rfl fun fr b1 w2 n3 r => ?_
  have e_b1 := n3.eq
  have z_w2 := n3.size
  have h_b1 := n3.at_
  have hB := hB.trans (n3.below.mono hB.size)
  have zB := hB.size
  refine seq_new (.cells #[(.int .i64 a1)] 3 (0, 0)) r (fun R => y_box r (v := (.int .i64 a1)) rfl) rfl fun fr b4 w5 n6 r => ?_
  have h_b1 := keep n6.below h_b1
  have e_b4 := n6.eq
  have z_w5 := n6.size
  have h_b4 := n6.at_
  have hB := hB.trans (n6.below.mono hB.size)
  have zB := hB.size
  refine seq_new (.cells #[(.int .i64 a2)] 3 (0, 0)) r (fun R => y_box r (v := (.int .i64 a2)) rfl) rfl fun fr b7 w8 n9 r => ?_
  have h_b1 := keep n9.below h_b1
  have h_b4 := keep n9.below h_b4
  have e_b7 := n9.eq
  have z_w8 := n9.size
  have h_b7 := n9.at_
  have hB := hB.trans (n9.below.mono hB.size)
  have zB := hB.size
  refine seq_new (.cells #[.func (.func a3_f) a3_1.toArray a3_2.toArray] 169 (0, 0)) r (fun R => y_box r (v := (.func (.func a3_f) a3_1.toArray a3_2.toArray)) rfl) rfl fun fr b10 w11 n12 r => ?_
  have h_b1 := keep n12.below h_b1
  have h_b4 := keep n12.below h_b4
  have h_b7 := keep n12.below h_b7
  have e_b10 := n12.eq
  have z_w11 := n12.size
  have h_b10 := n12.at_
  have hB := hB.trans (n12.below.mono hB.size)
  have zB := hB.size
  refine seq_new (.cells (progCells false encInt.zero 0 0 0 0 .nilFunc) 103 (0, 0)) r (fun R => y_alloc tz103) rfl fun fr b13 w14 n15 r => ?_
  have h_b1 := keep n15.below h_b1
  have h_b4 := keep n15.below h_b4
  have h_b7 := keep n15.below h_b7
  have h_b10 := keep n15.below h_b10
  have e_b13 := n15.eq
  have z_w14 := n15.size
  have h_b13 := n15.at_
  have hB := hB.trans (n15.below.mono hB.size)
  have zB := hB.size
  refine wpList_nil ?_
  refine wp_seq ?_
  refine wp_seq ?_
  refine wp_region_lit ?_
  refine seq_val (.int .i64 a2) r (fun R => y_load_one r (v := (.int .i64 a2)) rfl h_b7 to3 rfl) rfl fun fr r => ?_
  refine seq_val (.bool (a2 == 3)) r (fun R => y_bin r (u := (.int .i64 a2)) (u' := (.int .i64 3)) rfl rfl rfl rfl) rfl fun fr r => ?_
  refine wpList_nil ?_
  refine wp_cond_split (t := (a2 == 3)) (r.ev rfl) (fun h16 => ?_) (fun h16 => ?_)
  · skip
    refine wp_seq ?_
    refine wp_region_lit ?_
    refine seq_val (.func (.func a3_f) a3_1.toArray a3_2.toArray) r (fun R => y_load_one r (v := (.func (.func a3_f) a3_1.toArray a3_2.toArray)) rfl h_b10 to169 rfl) rfl fun fr r => ?_
    refine seq_call r (a3_n.at_.2 n (Nat.lt_succ_self n) () w14 (Same.below hB hF) hB.size) (fun R hc => y_callv0 r rfl a3_n.at_.1 hc) rfl ?_
    rintro _ w17 ⟨v18, rfl, hb, hr19⟩
    refine ⟨_, rfl, fun fr r => ?_⟩
    have z_w17 := hb.size
    have h_b1 := keep hb h_b1
    have h_b4 := keep hb h_b4
    have h_b7 := keep hb h_b7
    have h_b10 := keep hb h_b10
    have h_b13 := keep hb h_b13
    have hB := hB.trans (hb.mono hB.size)
    have zB := hB.size
    refine seq_upd (.cells v18.cells 103 (0, 0)) r (fun R => y_storep r hr19.shape rfl rfl h_b13 ts103 rfl) rfl fun fr w20 u21 r => ?_
    have z_w20 := u21.size
    have h_b1 := u21.keep h_b1 (by omega)
    have h_b4 := u21.keep h_b4 (by omega)
    have h_b7 := u21.keep h_b7 (by omega)
    have h_b10 := u21.keep h_b10 (by omega)
    have h_b13 := u21.at_
    have hB := u21.below hB (by omega)
    have zB := hB.size
    refine wpList_nil ?_
    refine wp_ret ?_
    have hd : D.retire_zero_body r_retire_zero a0 a1 a2 a3 = (a3 ()) := (cond_t h16).trans (rfl)
    have hs := hr19.shape.cells
    refine ret_cell r rfl rfl h_b13 (k := 7) hs.1 ta103 ?_
    rw [← hs.2.2, hd]
    exact RepRes.fin hB hr19 u21 (fun b hb => .inl hb) (fun h => by have := hF _ h; omega) (by omega) (by omega) (by omega)
  · skip
    refine wp_skip ?_
    refine wp_seq ?_
    refine wp_region_lit ?_
    refine seq_val (.agg (planC a0).toArray) r (fun R => y_load_agg r (cs := (planC a0)) (n := 6) rfl h_b1 ta24 rfl) rfl fun fr r => ?_
    refine seq_val (.int .i64 a1) r (fun R => y_load_one r (v := (.int .i64 a1)) rfl h_b4 to3 rfl) rfl fun fr r => ?_
    refine seq_val (.int .i64 a2) r (fun R => y_load_one r (v := (.int .i64 a2)) rfl h_b7 to3 rfl) rfl fun fr r => ?_
    refine seq_call r (c_plan_Plan_Field w14 a0 a1 a2) (fun R hc => y_call r rfl cl20 hc) rfl ?_
    rintro _ w22 ⟨rfl, hb⟩
    refine ⟨_, rfl, fun fr r => ?_⟩
    have z_w22 := hb.size
    have h_b1 := keep hb h_b1
    have h_b4 := keep hb h_b4
    have h_b7 := keep hb h_b7
    have h_b10 := keep hb h_b10
    have h_b13 := keep hb h_b13
    have hB := hB.trans (hb.mono hB.size)
    have zB := hB.size
    refine seq_val (.func (.func 147) #[] #[.pointer (some ⟨b1, 0, none⟩), .pointer (some ⟨b4, 0, none⟩), .pointer (some ⟨b7, 0, none⟩), .pointer (some ⟨b10, 0, none⟩)]) r (fun R => y_makeFunc r rfl) rfl fun fr r => ?_
    have hF1 : ∀ b, (fun b => F b ∨ (w0.heap.size ≤ b ∧ b < w22.heap.size ∧ b ≠ b13)) b → b < w22.heap.size := by rintro b (h | h); exact Nat.lt_of_lt_of_le (hF b h) hB.size; exact h.2.1
    have f23 : ((fun b => F b ∨ (w0.heap.size ≤ b ∧ b < w22.heap.size ∧ b ≠ b13))) b1 := (.inr ⟨by omega, by omega, by omega⟩)
    have f24 : ((fun b => F b ∨ (w0.heap.size ≤ b ∧ b < w22.heap.size ∧ b ≠ b13))) b4 := (.inr ⟨by omega, by omega, by omega⟩)
    have f25 : ((fun b => F b ∨ (w0.heap.size ≤ b ∧ b < w22.heap.size ∧ b ≠ b13))) b7 := (.inr ⟨by omega, by omega, by omega⟩)
    have f26 : ((fun b => F b ∨ (w0.heap.size ≤ b ∧ b < w22.heap.size ∧ b ≠ b13))) b10 := (.inr ⟨by omega, by omega, by omega⟩)
    refine seq_call r (c_prog_Store_int (F := (fun b => F b ∨ (w0.heap.size ≤ b ∧ b < w22.heap.size ∧ b ≠ b13))) (n := n) hF1 (D.plan_Plan_Field a0 a1 a2) 0 ⟨147, [], [.pointer (some ⟨b1, 0, none⟩), .pointer (some ⟨b4, 0, none⟩), .pointer (some ⟨b7, 0, none⟩), .pointer (some ⟨b10, 0, none⟩)], cl147, rfl, fun m hm _ w' hs hz => c_retire_zero_1 (fun b hb => Nat.lt_of_lt_of_le (hF1 b hb) hz) (fun m' hm' => ih_retire_zero m' (by omega)) a0 f23 (hs.at_ f23 h_b1) a1 f24 (hs.at_ f24 h_b4) a2 f25 (hs.at_ f25 h_b7) f26 (hs.at_ f26 h_b10) (a3_n.mono (by omega) (fun b h => .inl h) ((Same.below hB hF).trans (hs.sub (fun b h => .inl h))) (Nat.le_trans hB.size hz))⟩) (fun R hc => y_call r rfl cl109 hc) rfl ?_
    rintro _ w27 ⟨v28, rfl, hb, hr29⟩
    refine ⟨_, rfl, fun fr r => ?_⟩
    have z_w27 := hb.size
    have h_b1 := keep hb h_b1
    have h_b4 := keep hb h_b4
    have h_b7 := keep hb h_b7
    have h_b10 := keep hb h_b10
    have h_b13 := keep hb h_b13
    have hB := hB.trans (hb.mono hB.size)
    have zB := hB.size
    refine seq_upd (.cells v28.cells 103 (0, 0)) r (fun R => y_storep r hr29.shape rfl rfl h_b13 ts103 rfl) rfl fun fr w30 u31 r => ?_
    have z_w30 := u31.size
    have h_b1 := u31.keep h_b1 (by omega)
    have h_b4 := u31.keep h_b4 (by omega)
    have h_b7 := u31.keep h_b7 (by omega)
    have h_b10 := u31.keep h_b10 (by omega)
    have h_b13 := u31.at_
    have hB := u31.below hB (by omega)
    have zB := hB.size
    refine wpList_nil ?_
    refine wp_ret ?_
    have hd : D.retire_zero_body r_retire_zero a0 a1 a2 a3 = (D.prog_Store_int (D.plan_Plan_Field a0 a1 a2) 0 (fun _ => (D.retire_zero_1 r_retire_zero a0 a1 a2 a3))) := (cond_f h16).trans (rfl)
    have hs := hr29.shape.cells
    refine ret_cell r rfl rfl h_b13 (k := 7) hs.1 ta103 ?_
    rw [← hs.2.2, hd]
    exact RepRes.fin hB hr29 u31 (by rintro b (h | ⟨h1, h2, _⟩); exact .inl h; exact .inr ⟨h1, h2⟩) (by rintro (h | ⟨_, _, h⟩); (have := hF _ h; omega); exact h rfl) (by omega) (by omega) (by omega)

theorem c_retire_zero {n : Nat} {k : Nat} (hk : n < k) : Spec_retire_zero (D.retire_zero k) n := by
  induction n using Nat.strongRecOn generalizing k with
  | _ n ih =>
    obtain ⟨k, rfl⟩ : ∃ q, k = q + 1 := ⟨k - 1, by omega⟩
    intro F w0 hF
    have h := @b_retire_zero n F (D.retire_zero k) w0 hF (fun m hm => ih m hm (by omega))
    exact h

def D.retire_Reclaim_1_1_1 (j : Nat) (c0 : State) (c1 : Plan) (c2 : Int) : T Int := (bif (c0.mode == 3) then (D.prog_Done_int (-1)) else (D.free_Push j c1 c2))

set_option maxRecDepth 20000 in
set_option maxHeartbeats 1000000 in
theorem c_retire_Reclaim_1_1_1 {n : Nat} {F : Nat → Prop} {j : Nat} {w0 : World} (hF : ∀ b, F b → b < w0.heap.size) (hj : n < j)
    (c0 : State) {c0_b : Nat} (c0_F : F c0_b) (c0_h : w0.heap[c0_b]? = some (.cells ((stateC c0)).toArray 126 (0, 0))) (c1 : Plan) {c1_b : Nat} (c1_F : F c1_b) (c1_h : w0.heap[c1_b]? = some (.cells ((planC c1)).toArray 24 (0, 0))) (c2 : Int) {c2_b : Nat} (c2_F : F c2_b) (c2_h : w0.heap[c2_b]? = some (.cells ([(.int .i64 c2)]).toArray 3 (0, 0))) :
    Calls Try.prog 120 #[.pointer (some ⟨c0_b, 0, none⟩), .pointer (some ⟨c1_b, 0, none⟩), .pointer (some ⟨c2_b, 0, none⟩)] w0 (RepRes Try.prog encInt n (D.retire_Reclaim_1_1_1 j c0 c1 c2) F w0) := by
  refine enter (l := [.pointer (some ⟨c0_b, 0, none⟩), .pointer (some ⟨c1_b, 0, none⟩), .pointer (some ⟨c2_b, 0, none⟩)]) Try.func120 rfl 11 rfl rfl fun fr r => ?_
  have hB := Below.refl w0.heap.size w0
  have l_c0_b := lt_of_block c0_h
  have l_c1_b := lt_of_block c1_h
  have l_c2_b := lt_of_block c2_h
  refine wp_seq ?_
  refine wp_region_lit ?_
  refine seq_new (.cells (progCells false encInt.zero 0 0 0 0 .nilFunc) 103 (0, 0)) r (fun R => y_alloc tz103) rfl fun fr b1 w2 n3 r => ?_
  have c0_h := keep n3.below c0_h
  have c1_h := keep n3.below c1_h
  have c2_h := keep n3.below c2_h
  have e_b1 := n3.eq
  have z_w2 := n3.size
  have h_b1 := n3.at_
  have hB := hB.trans (n3.below.mono hB.size)
  have zB := hB.size
  refine wpList_nil ?_
  refine wp_seq ?_
  refine wp_seq ?_
  refine wp_region_lit ?_
  refine seq_val (.pointer (some ⟨c0_b, 1, none⟩)) r (fun R => y_fieldAddr r (o := 0) rfl fo126_1) rfl fun fr r => ?_
  refine seq_val (.int .i64 c0.mode) r (fun R => y_load_one r (v := (.int .i64 c0.mode)) rfl c0_h to3 rfl) rfl fun fr r => ?_
  refine seq_val (.bool (c0.mode == 3)) r (fun R => y_bin r (u := (.int .i64 c0.mode)) (u' := (.int .i64 3)) rfl rfl rfl rfl) rfl fun fr r => ?_
  refine wpList_nil ?_
  refine wp_cond_split (t := (c0.mode == 3)) (r.ev rfl) (fun h4 => ?_) (fun h4 => ?_)
  · skip
    refine wp_seq ?_
    refine wp_region_lit ?_
    have hF1 : ∀ b, (fun b => F b ∨ (w0.heap.size ≤ b ∧ b < w2.heap.size ∧ b ≠ b1)) b → b < w2.heap.size := by rintro b (h | h); exact Nat.lt_of_lt_of_le (hF b h) hB.size; exact h.2.1
    refine seq_call r (c_prog_Done_int (F := (fun b => F b ∨ (w0.heap.size ≤ b ∧ b < w2.heap.size ∧ b ≠ b1))) (n := n) hF1 (-1)) (fun R hc => y_call r rfl cl103 hc) rfl ?_
    rintro _ w5 ⟨v6, rfl, hb, hr7⟩
    refine ⟨_, rfl, fun fr r => ?_⟩
    have z_w5 := hb.size
    have c0_h := keep hb c0_h
    have c1_h := keep hb c1_h
    have c2_h := keep hb c2_h
    have h_b1 := keep hb h_b1
    have hB := hB.trans (hb.mono hB.size)
    have zB := hB.size
    refine seq_upd (.cells v6.cells 103 (0, 0)) r (fun R => y_storep r hr7.shape rfl rfl h_b1 ts103 rfl) rfl fun fr w8 u9 r => ?_
    have z_w8 := u9.size
    have c0_h := u9.keep c0_h (by omega)
    have c1_h := u9.keep c1_h (by omega)
    have c2_h := u9.keep c2_h (by omega)
    have h_b1 := u9.at_
    have hB := u9.below hB (by omega)
    have zB := hB.size
    refine wpList_nil ?_
    refine wp_ret ?_
    have hd : D.retire_Reclaim_1_1_1 j c0 c1 c2 = (D.prog_Done_int (-1)) := (cond_t h4).trans (rfl)
    have hs := hr7.shape.cells
    refine ret_cell r rfl rfl h_b1 (k := 7) hs.1 ta103 ?_
    rw [← hs.2.2, hd]
    exact RepRes.fin hB hr7 u9 (by rintro b (h | ⟨h1, h2, _⟩); exact .inl h; exact .inr ⟨h1, h2⟩) (by rintro (h | ⟨_, _, h⟩); (have := hF _ h; omega); exact h rfl) (by omega) (by omega) (by omega)
  · skip
    refine wp_skip ?_
    refine wp_seq ?_
    refine wp_region_lit ?_
    refine seq_val (.agg (planC c1).toArray) r (fun R => y_load_agg r (cs := (planC c1)) (n := 6) rfl c1_h ta24 rfl) rfl fun fr r => ?_
    refine seq_val (.int .i64 c2) r (fun R => y_load_one r (v := (.int .i64 c2)) rfl c2_h to3 rfl) rfl fun fr r => ?_
    have hF1 : ∀ b, (fun b => F b ∨ (w0.heap.size ≤ b ∧ b < w2.heap.size ∧ b ≠ b1)) b → b < w2.heap.size := by rintro b (h | h); exact Nat.lt_of_lt_of_le (hF b h) hB.size; exact h.2.1
    refine seq_call r ((c_free_Push (k := j) (n := n) (by omega)) (fun b => F b ∨ (w0.heap.size ≤ b ∧ b < w2.heap.size ∧ b ≠ b1)) _ hF1 c1 c2) (fun R hc => y_call r rfl cl60 hc) rfl ?_
    rintro _ w10 ⟨v11, rfl, hb, hr12⟩
    refine ⟨_, rfl, fun fr r => ?_⟩
    have z_w10 := hb.size
    have c0_h := keep hb c0_h
    have c1_h := keep hb c1_h
    have c2_h := keep hb c2_h
    have h_b1 := keep hb h_b1
    have hB := hB.trans (hb.mono hB.size)
    have zB := hB.size
    refine seq_upd (.cells v11.cells 103 (0, 0)) r (fun R => y_storep r hr12.shape rfl rfl h_b1 ts103 rfl) rfl fun fr w13 u14 r => ?_
    have z_w13 := u14.size
    have c0_h := u14.keep c0_h (by omega)
    have c1_h := u14.keep c1_h (by omega)
    have c2_h := u14.keep c2_h (by omega)
    have h_b1 := u14.at_
    have hB := u14.below hB (by omega)
    have zB := hB.size
    refine wpList_nil ?_
    refine wp_ret ?_
    have hd : D.retire_Reclaim_1_1_1 j c0 c1 c2 = (D.free_Push j c1 c2) := (cond_f h4).trans (rfl)
    have hs := hr12.shape.cells
    refine ret_cell r rfl rfl h_b1 (k := 7) hs.1 ta103 ?_
    rw [← hs.2.2, hd]
    exact RepRes.fin hB hr12 u14 (by rintro b (h | ⟨h1, h2, _⟩); exact .inl h; exact .inr ⟨h1, h2⟩) (by rintro (h | ⟨_, _, h⟩); (have := hF _ h; omega); exact h rfl) (by omega) (by omega) (by omega)

def D.retire_Reclaim_1_1 (j : Nat) (c0 : Plan) (c1 : Int) (a0 : Int) : T Int := (D.prog_Store_int (D.plan_Plan_State c0 c1) (D.state_State_Word (D.state_State_Freed ((D.state_Of a0).1) c0.gen)) (fun _ => (D.retire_Reclaim_1_1_1 j (D.state_State_Freed ((D.state_Of a0).1) c0.gen) c0 c1)))

set_option maxRecDepth 20000 in
set_option maxHeartbeats 1000000 in
theorem c_retire_Reclaim_1_1 {n : Nat} {F : Nat → Prop} {j : Nat} {w0 : World} (hF : ∀ b, F b → b < w0.heap.size) (hj : n < j)
    (c0 : Plan) {c0_b : Nat} (c0_F : F c0_b) (c0_h : w0.heap[c0_b]? = some (.cells ((planC c0)).toArray 24 (0, 0))) (c1 : Int) {c1_b : Nat} (c1_F : F c1_b) (c1_h : w0.heap[c1_b]? = some (.cells ([(.int .i64 c1)]).toArray 3 (0, 0))) (a0 : Int) :
    Calls Try.prog 118 #[.int .u64 a0, .pointer (some ⟨c0_b, 0, none⟩), .pointer (some ⟨c1_b, 0, none⟩)] w0 (RepRes Try.prog encInt n (D.retire_Reclaim_1_1 j c0 c1 a0) F w0) := by
  refine enter (l := [.int .u64 a0, .pointer (some ⟨c0_b, 0, none⟩), .pointer (some ⟨c1_b, 0, none⟩)]) Try.func118 rfl 24 rfl rfl fun fr r => ?_
  have hB := Below.refl w0.heap.size w0
  have l_c0_b := lt_of_block c0_h
  have l_c1_b := lt_of_block c1_h
  refine wp_seq ?_
  refine wp_region_lit ?_
  refine seq_new (.cells (progCells false encInt.zero 0 0 0 0 .nilFunc) 103 (0, 0)) r (fun R => y_alloc tz103) rfl fun fr b1 w2 n3 r => ?_
  have c0_h := keep n3.below c0_h
  have c1_h := keep n3.below c1_h
  have e_b1 := n3.eq
  have z_w2 := n3.size
  have h_b1 := n3.at_
  have hB := hB.trans (n3.below.mono hB.size)
  have zB := hB.size
  refine wpList_nil ?_
  refine wp_seq ?_
  refine wp_region_lit ?_
  refine seq_val (.int .u64 a0) r (fun R => y_move r rfl) rfl fun fr r => ?_
  refine seq_call r (c_state_Of w2 a0) (fun R hc => y_call r rfl cl119 hc) rfl ?_
  rintro _ w4 ⟨rfl, hb⟩
  refine ⟨_, rfl, fun fr r => ?_⟩
  have z_w4 := hb.size
  have c0_h := keep hb c0_h
  have c1_h := keep hb c1_h
  have h_b1 := keep hb h_b1
  have hB := hB.trans (hb.mono hB.size)
  have zB := hB.size
  refine seq_val (.tuple #[(.agg (stateC (D.state_Of a0).1).toArray), (.bool (D.state_Of a0).2)]) r (fun R => y_move r rfl) rfl fun fr r => ?_
  refine seq_val (.agg (stateC (D.state_Of a0).1).toArray) r (fun R => y_extract r (vs := #[(.agg (stateC (D.state_Of a0).1).toArray), (.bool (D.state_Of a0).2)]) rfl rfl) rfl fun fr r => ?_
  refine seq_val (.bool (D.state_Of a0).2) r (fun R => y_extract r (vs := #[(.agg (stateC (D.state_Of a0).1).toArray), (.bool (D.state_Of a0).2)]) rfl rfl) rfl fun fr r => ?_
  refine seq_new (.cells ((stateC (⟨0, 0, 0⟩ : State))).toArray 126 (0, 0)) r (fun R => y_alloc tz126) rfl fun fr b5 w6 n7 r => ?_
  have c0_h := keep n7.below c0_h
  have c1_h := keep n7.below c1_h
  have h_b1 := keep n7.below h_b1
  have e_b5 := n7.eq
  have z_w6 := n7.size
  have h_b5 := n7.at_
  have hB := hB.trans (n7.below.mono hB.size)
  have zB := hB.size
  refine seq_upd (.cells ((stateC ((D.state_Of a0).1))).toArray 126 (0, 0)) r (fun R => y_store r (o := 0) (v := (.agg (stateC (D.state_Of a0).1).toArray)) rfl rfl h_b5 ts126 (Nat.le_of_ble_eq_true rfl) rfl rfl) rfl fun fr w8 u9 r => ?_
  have z_w8 := u9.size
  have c0_h := u9.keep c0_h (by omega)
  have c1_h := u9.keep c1_h (by omega)
  have h_b1 := u9.keep h_b1 (by omega)
  have h_b5 := u9.at_
  have hB := u9.below hB (by omega)
  have zB := hB.size
  refine seq_val (.bool (D.state_Of a0).2) r (fun R => y_assign r rfl) rfl fun fr r => ?_
  refine wpList_nil ?_
  refine wp_seq ?_
  refine wp_region_lit ?_
  refine seq_val (.agg (stateC (D.state_Of a0).1).toArray) r (fun R => y_load_agg r (cs := (stateC ((D.state_Of a0).1))) (n := 3) rfl h_b5 ta126 rfl) rfl fun fr r => ?_
  refine seq_val (.pointer (some ⟨c0_b, 5, none⟩)) r (fun R => y_fieldAddr r (o := 0) rfl fo24_5) rfl fun fr r => ?_
  refine seq_val (.int .i64 c0.gen) r (fun R => y_load_one r (v := (.int .i64 c0.gen)) rfl c0_h to3 rfl) rfl fun fr r => ?_
  refine seq_call r (c_state_State_Freed w8 ((D.state_Of a0).1) c0.gen) (fun R hc => y_call r rfl cl73 hc) rfl ?_
  rintro _ w10 ⟨rfl, hb⟩
  refine ⟨_, rfl, fun fr r => ?_⟩
  have z_w10 := hb.size
  have c0_h := keep hb c0_h
  have c1_h := keep hb c1_h
  have h_b1 := keep hb h_b1
  have h_b5 := keep hb h_b5
  have hB := hB.trans (hb.mono hB.size)
  have zB := hB.size
  refine seq_new (.cells ((stateC (⟨0, 0, 0⟩ : State))).toArray 126 (0, 0)) r (fun R => y_alloc tz126) rfl fun fr b11 w12 n13 r => ?_
  have c0_h := keep n13.below c0_h
  have c1_h := keep n13.below c1_h
  have h_b1 := keep n13.below h_b1
  have h_b5 := keep n13.below h_b5
  have e_b11 := n13.eq
  have z_w12 := n13.size
  have h_b11 := n13.at_
  have hB := hB.trans (n13.below.mono hB.size)
  have zB := hB.size
  refine seq_upd (.cells ((stateC (D.state_State_Freed ((D.state_Of a0).1) c0.gen))).toArray 126 (0, 0)) r (fun R => y_store r (o := 0) (v := (.agg (stateC (D.state_State_Freed ((D.state_Of a0).1) c0.gen)).toArray)) rfl rfl h_b11 ts126 (Nat.le_of_ble_eq_true rfl) rfl rfl) rfl fun fr w14 u15 r => ?_
  have z_w14 := u15.size
  have c0_h := u15.keep c0_h (by omega)
  have c1_h := u15.keep c1_h (by omega)
  have h_b1 := u15.keep h_b1 (by omega)
  have h_b5 := u15.keep h_b5 (by omega)
  have h_b11 := u15.at_
  have hB := u15.below hB (by omega)
  have zB := hB.size
  refine wpList_nil ?_
  refine wp_seq ?_
  refine wp_drawnF 6 [.val (.agg (planC c0).toArray), .val (.int .i64 c1), .val (.int .i64 (D.plan_Plan_State c0 c1)), .val (.agg (stateC (D.state_State_Freed ((D.state_Of a0).1) c0.gen)).toArray), .val (.int .u64 (D.state_State_Word (D.state_State_Freed ((D.state_Of a0).1) c0.gen))), .val (.func (.func 120) #[] #[.pointer (some ⟨b11, 0, none⟩), .pointer (some ⟨c0_b, 0, none⟩), .pointer (some ⟨c1_b, 0, none⟩)])] mixed r (by kernel_rfl) (within_cons (by exact trivial) (within_cons (by exact trivial) (within_cons (by exact trivial) (within_cons (by exact trivial) (within_cons (by exact trivial) (within_cons (by exact trivial) within_nil)))))) ?_ ?_
  · skip
    refine each_consF r rfl (fun fr1 u w' hb' hd r' => ?_) ?_
    · exact y_load_agg r' (cs := (planC c0)) (n := 6) rfl (keep hb' c0_h) ta24 rfl ⟨Below.refl _ _, rfl⟩
    refine each_consF r rfl (fun fr1 u w' hb' hd r' => ?_) ?_
    · exact y_load_one r' (v := (.int .i64 c1)) rfl (keep hb' c1_h) to3 rfl ⟨Below.refl _ _, rfl⟩
    refine each_consF r rfl (fun fr1 u w' hb' hd r' => ?_) ?_
    · obtain ⟨d0, d1, _⟩ := hd; exact y_call r' (args := [(.agg (planC c0).toArray), (.int .i64 c1)]) (lc d0 (lc d1 l0)) cl25 ((c_plan_Plan_State _ c0 c1).mono (by rintro _ w2 ⟨rfl, hb2⟩; exact ⟨_, rfl, hb2, rfl⟩))
    refine each_consF r rfl (fun fr1 u w' hb' hd r' => ?_) ?_
    · exact y_load_agg r' (cs := (stateC (D.state_State_Freed ((D.state_Of a0).1) c0.gen))) (n := 3) rfl (keep hb' h_b11) ta126 rfl ⟨Below.refl _ _, rfl⟩
    refine each_consF r rfl (fun fr1 u w' hb' hd r' => ?_) ?_
    · obtain ⟨d0, d1, _⟩ := hd; exact y_call r' (args := [(.agg (stateC (D.state_State_Freed ((D.state_Of a0).1) c0.gen)).toArray)]) (lc d0 l0) cl74 ((c_state_State_Word _ (D.state_State_Freed ((D.state_Of a0).1) c0.gen)).mono (by rintro _ w2 ⟨rfl, hb2⟩; exact ⟨_, rfl, hb2, rfl⟩))
    refine each_consF r rfl (fun fr1 u w' hb' hd r' => ?_) ?_
    · exact y_makeFunc r' (v := (.func (.func 120) #[] #[.pointer (some ⟨b11, 0, none⟩), .pointer (some ⟨c0_b, 0, none⟩), .pointer (some ⟨c1_b, 0, none⟩)])) rfl ⟨Below.refl _ _, rfl⟩
    exact each_nil
  · skip
    intro fr u w16 hb hΦ hne r
    have g0 : u 0 = (.agg (planC c0).toArray) := hΦ 0 (by decide)
    have g1 : u 1 = (.int .i64 c1) := hΦ 1 (by decide)
    have g2 : u 2 = (.int .i64 (D.plan_Plan_State c0 c1)) := hΦ 2 (by decide)
    have g3 : u 3 = (.agg (stateC (D.state_State_Freed ((D.state_Of a0).1) c0.gen)).toArray) := hΦ 3 (by decide)
    have g4 : u 4 = (.int .u64 (D.state_State_Word (D.state_State_Freed ((D.state_Of a0).1) c0.gen))) := hΦ 4 (by decide)
    have g5 : u 5 = (.func (.func 120) #[] #[.pointer (some ⟨b11, 0, none⟩), .pointer (some ⟨c0_b, 0, none⟩), .pointer (some ⟨c1_b, 0, none⟩)]) := hΦ 5 (by decide)
    have r := r.congr (sc g5 (sc g4 (sc g3 (sc g2 (sc g1 (sc g0 rfl))))))
    have z_w16 := hb.size
    have c0_h := keep hb c0_h
    have c1_h := keep hb c1_h
    have h_b1 := keep hb h_b1
    have h_b5 := keep hb h_b5
    have h_b11 := keep hb h_b11
    have hB := hB.trans (hb.mono hB.size)
    have zB := hB.size
    have hF1 : ∀ b, (fun b => F b ∨ (w0.heap.size ≤ b ∧ b < w16.heap.size ∧ b ≠ b1)) b → b < w16.heap.size := by rintro b (h | h); exact Nat.lt_of_lt_of_le (hF b h) hB.size; exact h.2.1
    have f17 : ((fun b => F b ∨ (w0.heap.size ≤ b ∧ b < w16.heap.size ∧ b ≠ b1))) b11 := (.inr ⟨by omega, by omega, by omega⟩)
    have f18 : ((fun b => F b ∨ (w0.heap.size ≤ b ∧ b < w16.heap.size ∧ b ≠ b1))) c0_b := (.inl c0_F)
    have f19 : ((fun b => F b ∨ (w0.heap.size ≤ b ∧ b < w16.heap.size ∧ b ≠ b1))) c1_b := (.inl c1_F)
    refine seq_call r (c_prog_Store_int (F := (fun b => F b ∨ (w0.heap.size ≤ b ∧ b < w16.heap.size ∧ b ≠ b1))) (n := n) hF1 (D.plan_Plan_State c0 c1) (D.state_State_Word (D.state_State_Freed ((D.state_Of a0).1) c0.gen)) ⟨120, [], [.pointer (some ⟨b11, 0, none⟩), .pointer (some ⟨c0_b, 0, none⟩), .pointer (some ⟨c1_b, 0, none⟩)], cl120, rfl, fun m hm _ w' hs hz => c_retire_Reclaim_1_1_1 (j := j) (fun b hb => Nat.lt_of_lt_of_le (hF1 b hb) hz) (by omega) (D.state_State_Freed ((D.state_Of a0).1) c0.gen) f17 (hs.at_ f17 h_b11) c0 f18 (hs.at_ f18 c0_h) c1 f19 (hs.at_ f19 c1_h)⟩) (fun R hc => y_call r rfl cl109 hc) rfl ?_
    rintro _ w20 ⟨v21, rfl, hb, hr22⟩
    refine ⟨_, rfl, fun fr r => ?_⟩
    have z_w20 := hb.size
    have c0_h := keep hb c0_h
    have c1_h := keep hb c1_h
    have h_b1 := keep hb h_b1
    have h_b5 := keep hb h_b5
    have h_b11 := keep hb h_b11
    have hB := hB.trans (hb.mono hB.size)
    have zB := hB.size
    refine seq_upd (.cells v21.cells 103 (0, 0)) r (fun R => y_storep r hr22.shape rfl rfl h_b1 ts103 rfl) rfl fun fr w23 u24 r => ?_
    have z_w23 := u24.size
    have c0_h := u24.keep c0_h (by omega)
    have c1_h := u24.keep c1_h (by omega)
    have h_b5 := u24.keep h_b5 (by omega)
    have h_b11 := u24.keep h_b11 (by omega)
    have h_b1 := u24.at_
    have hB := u24.below hB (by omega)
    have zB := hB.size
    refine wpList_nil ?_
    refine wp_ret ?_
    have hd : D.retire_Reclaim_1_1 j c0 c1 a0 = (D.prog_Store_int (D.plan_Plan_State c0 c1) (D.state_State_Word (D.state_State_Freed ((D.state_Of a0).1) c0.gen)) (fun _ => (D.retire_Reclaim_1_1_1 j (D.state_State_Freed ((D.state_Of a0).1) c0.gen) c0 c1))) := rfl
    have hs := hr22.shape.cells
    refine ret_cell r rfl rfl h_b1 (k := 7) hs.1 ta103 ?_
    rw [← hs.2.2, hd]
    exact RepRes.fin hB hr22 u24 (by rintro b (h | ⟨h1, h2, _⟩); exact .inl h; exact .inr ⟨h1, h2⟩) (by rintro (h | ⟨_, _, h⟩); (have := hF _ h; omega); exact h rfl) (by omega) (by omega) (by omega)

def D.retire_Reclaim_1 (j : Nat) (c0 : Plan) (c1 : Int) : T Int := (D.prog_Load_int (D.plan_Plan_State c0 c1) (fun x => (D.retire_Reclaim_1_1 j c0 c1 x)))

set_option maxRecDepth 20000 in
set_option maxHeartbeats 1000000 in
theorem c_retire_Reclaim_1 {n : Nat} {F : Nat → Prop} {j : Nat} {w0 : World} (hF : ∀ b, F b → b < w0.heap.size) (hj : n < j)
    (c0 : Plan) {c0_b : Nat} (c0_F : F c0_b) (c0_h : w0.heap[c0_b]? = some (.cells ((planC c0)).toArray 24 (0, 0))) (c1 : Int) {c1_b : Nat} (c1_F : F c1_b) (c1_h : w0.heap[c1_b]? = some (.cells ([(.int .i64 c1)]).toArray 3 (0, 0))) :
    Calls Try.prog 117 #[.pointer (some ⟨c0_b, 0, none⟩), .pointer (some ⟨c1_b, 0, none⟩)] w0 (RepRes Try.prog encInt n (D.retire_Reclaim_1 j c0 c1) F w0) := by
  refine enter (l := [.pointer (some ⟨c0_b, 0, none⟩), .pointer (some ⟨c1_b, 0, none⟩)]) Try.func117 rfl 8 rfl rfl fun fr r => ?_
  have hB := Below.refl w0.heap.size w0
  have l_c0_b := lt_of_block c0_h
  have l_c1_b := lt_of_block c1_h
  refine wp_seq ?_
  refine wp_region_lit ?_
  refine seq_new (.cells (progCells false encInt.zero 0 0 0 0 .nilFunc) 103 (0, 0)) r (fun R => y_alloc tz103) rfl fun fr b1 w2 n3 r => ?_
  have c0_h := keep n3.below c0_h
  have c1_h := keep n3.below c1_h
  have e_b1 := n3.eq
  have z_w2 := n3.size
  have h_b1 := n3.at_
  have hB := hB.trans (n3.below.mono hB.size)
  have zB := hB.size
  refine wpList_nil ?_
  refine wp_seq ?_
  refine wp_region_lit ?_
  refine seq_val (.agg (planC c0).toArray) r (fun R => y_load_agg r (cs := (planC c0)) (n := 6) rfl c0_h ta24 rfl) rfl fun fr r => ?_
  refine seq_val (.int .i64 c1) r (fun R => y_load_one r (v := (.int .i64 c1)) rfl c1_h to3 rfl) rfl fun fr r => ?_
  refine seq_call r (c_plan_Plan_State w2 c0 c1) (fun R hc => y_call r rfl cl25 hc) rfl ?_
  rintro _ w4 ⟨rfl, hb⟩
  refine ⟨_, rfl, fun fr r => ?_⟩
  have z_w4 := hb.size
  have c0_h := keep hb c0_h
  have c1_h := keep hb c1_h
  have h_b1 := keep hb h_b1
  have hB := hB.trans (hb.mono hB.size)
  have zB := hB.size
  refine seq_val (.func (.func 118) #[] #[.pointer (some ⟨c0_b, 0, none⟩), .pointer (some ⟨c1_b, 0, none⟩)]) r (fun R => y_makeFunc r rfl) rfl fun fr r => ?_
  have hF1 : ∀ b, (fun b => F b ∨ (w0.heap.size ≤ b ∧ b < w4.heap.size ∧ b ≠ b1)) b → b < w4.heap.size := by rintro b (h | h); exact Nat.lt_of_lt_of_le (hF b h) hB.size; exact h.2.1
  have f5 : ((fun b => F b ∨ (w0.heap.size ≤ b ∧ b < w4.heap.size ∧ b ≠ b1))) c0_b := (.inl c0_F)
  have f6 : ((fun b => F b ∨ (w0.heap.size ≤ b ∧ b < w4.heap.size ∧ b ≠ b1))) c1_b := (.inl c1_F)
  refine seq_call r (c_prog_Load_int (F := (fun b => F b ∨ (w0.heap.size ≤ b ∧ b < w4.heap.size ∧ b ≠ b1))) (n := n) hF1 (D.plan_Plan_State c0 c1) ⟨118, [], [.pointer (some ⟨c0_b, 0, none⟩), .pointer (some ⟨c1_b, 0, none⟩)], cl118, rfl, fun m hm x w' hs hz => c_retire_Reclaim_1_1 (j := j) (fun b hb => Nat.lt_of_lt_of_le (hF1 b hb) hz) (by omega) c0 f5 (hs.at_ f5 c0_h) c1 f6 (hs.at_ f6 c1_h) x⟩) (fun R hc => y_call r rfl cl99 hc) rfl ?_
  rintro _ w7 ⟨v8, rfl, hb, hr9⟩
  refine ⟨_, rfl, fun fr r => ?_⟩
  have z_w7 := hb.size
  have c0_h := keep hb c0_h
  have c1_h := keep hb c1_h
  have h_b1 := keep hb h_b1
  have hB := hB.trans (hb.mono hB.size)
  have zB := hB.size
  refine seq_upd (.cells v8.cells 103 (0, 0)) r (fun R => y_storep r hr9.shape rfl rfl h_b1 ts103 rfl) rfl fun fr w10 u11 r => ?_
  have z_w10 := u11.size
  have c0_h := u11.keep c0_h (by omega)
  have c1_h := u11.keep c1_h (by omega)
  have h_b1 := u11.at_
  have hB := u11.below hB (by omega)
  have zB := hB.size
  refine wpList_nil ?_
  refine wp_ret ?_
  have hd : D.retire_Reclaim_1 j c0 c1 = (D.prog_Load_int (D.plan_Plan_State c0 c1) (fun x => (D.retire_Reclaim_1_1 j c0 c1 x))) := rfl
  have hs := hr9.shape.cells
  refine ret_cell r rfl rfl h_b1 (k := 7) hs.1 ta103 ?_
  rw [← hs.2.2, hd]
  exact RepRes.fin hB hr9 u11 (by rintro b (h | ⟨h1, h2, _⟩); exact .inl h; exact .inr ⟨h1, h2⟩) (by rintro (h | ⟨_, _, h⟩); (have := hF _ h; omega); exact h rfl) (by omega) (by omega) (by omega)

def D.retire_Reclaim (j : Nat) (a0 : Plan) (a1 : Int) : T Int := (D.retire_zero j a0 a1 0 (fun _ => (D.retire_Reclaim_1 j a0 a1)))

set_option maxRecDepth 20000 in
set_option maxHeartbeats 1000000 in
theorem c_retire_Reclaim {n : Nat} {F : Nat → Prop} {j : Nat} {w0 : World} (hF : ∀ b, F b → b < w0.heap.size) (hj : n < j)
    (a0 : Plan) (a1 : Int) :
    Calls Try.prog 72 #[.agg (planC a0).toArray, .int .i64 a1] w0 (RepRes Try.prog encInt n (D.retire_Reclaim j a0 a1) F w0) := by
  refine enter (l := [.agg (planC a0).toArray, .int .i64 a1]) Try.func72 rfl 9 rfl rfl fun fr r => ?_
  have hB := Below.refl w0.heap.size w0
  refine wp_seq ?_
  refine wp_region_lit ?_
  refine seq_new (.cells ((planC a0)).toArray 24 (0, 0)) r (fun R => y_box r (v := (.agg (planC a0).toArray)) rfl) rfl fun fr b1 w2 n3 r => ?_
  have e_b1 := n3.eq
  have z_w2 := n3.size
  have h_b1 := n3.at_
  have hB := hB.trans (n3.below.mono hB.size)
  have zB := hB.size
  refine seq_new (.cells #[(.int .i64 a1)] 3 (0, 0)) r (fun R => y_box r (v := (.int .i64 a1)) rfl) rfl fun fr b4 w5 n6 r => ?_
  have h_b1 := keep n6.below h_b1
  have e_b4 := n6.eq
  have z_w5 := n6.size
  have h_b4 := n6.at_
  have hB := hB.trans (n6.below.mono hB.size)
  have zB := hB.size
  refine seq_new (.cells (progCells false encInt.zero 0 0 0 0 .nilFunc) 103 (0, 0)) r (fun R => y_alloc tz103) rfl fun fr b7 w8 n9 r => ?_
  have h_b1 := keep n9.below h_b1
  have h_b4 := keep n9.below h_b4
  have e_b7 := n9.eq
  have z_w8 := n9.size
  have h_b7 := n9.at_
  have hB := hB.trans (n9.below.mono hB.size)
  have zB := hB.size
  refine wpList_nil ?_
  refine wp_seq ?_
  refine wp_region_lit ?_
  refine seq_val (.agg (planC a0).toArray) r (fun R => y_load_agg r (cs := (planC a0)) (n := 6) rfl h_b1 ta24 rfl) rfl fun fr r => ?_
  refine seq_val (.int .i64 a1) r (fun R => y_load_one r (v := (.int .i64 a1)) rfl h_b4 to3 rfl) rfl fun fr r => ?_
  refine seq_val (.func (.func 117) #[] #[.pointer (some ⟨b1, 0, none⟩), .pointer (some ⟨b4, 0, none⟩)]) r (fun R => y_makeFunc r rfl) rfl fun fr r => ?_
  have hF1 : ∀ b, (fun b => F b ∨ (w0.heap.size ≤ b ∧ b < w8.heap.size ∧ b ≠ b7)) b → b < w8.heap.size := by rintro b (h | h); exact Nat.lt_of_lt_of_le (hF b h) hB.size; exact h.2.1
  have f10 : ((fun b => F b ∨ (w0.heap.size ≤ b ∧ b < w8.heap.size ∧ b ≠ b7))) b1 := (.inr ⟨by omega, by omega, by omega⟩)
  have f11 : ((fun b => F b ∨ (w0.heap.size ≤ b ∧ b < w8.heap.size ∧ b ≠ b7))) b4 := (.inr ⟨by omega, by omega, by omega⟩)
  refine seq_call r ((c_retire_zero (k := j) (n := n) (by omega)) (fun b => F b ∨ (w0.heap.size ≤ b ∧ b < w8.heap.size ∧ b ≠ b7)) _ hF1 a0 a1 0 ⟨117, [], [.pointer (some ⟨b1, 0, none⟩), .pointer (some ⟨b4, 0, none⟩)], cl117, rfl, fun m hm _ w' hs hz => c_retire_Reclaim_1 (j := j) (fun b hb => Nat.lt_of_lt_of_le (hF1 b hb) hz) (by omega) a0 f10 (hs.at_ f10 h_b1) a1 f11 (hs.at_ f11 h_b4)⟩) (fun R hc => y_call r rfl cl116 hc) rfl ?_
  rintro _ w12 ⟨v13, rfl, hb, hr14⟩
  refine ⟨_, rfl, fun fr r => ?_⟩
  have z_w12 := hb.size
  have h_b1 := keep hb h_b1
  have h_b4 := keep hb h_b4
  have h_b7 := keep hb h_b7
  have hB := hB.trans (hb.mono hB.size)
  have zB := hB.size
  refine seq_upd (.cells v13.cells 103 (0, 0)) r (fun R => y_storep r hr14.shape rfl rfl h_b7 ts103 rfl) rfl fun fr w15 u16 r => ?_
  have z_w15 := u16.size
  have h_b1 := u16.keep h_b1 (by omega)
  have h_b4 := u16.keep h_b4 (by omega)
  have h_b7 := u16.at_
  have hB := u16.below hB (by omega)
  have zB := hB.size
  refine wpList_nil ?_
  refine wp_ret ?_
  have hd : D.retire_Reclaim j a0 a1 = (D.retire_zero j a0 a1 0 (fun _ => (D.retire_Reclaim_1 j a0 a1))) := rfl
  have hs := hr14.shape.cells
  refine ret_cell r rfl rfl h_b7 (k := 7) hs.1 ta103 ?_
  rw [← hs.2.2, hd]
  exact RepRes.fin hB hr14 u16 (by rintro b (h | ⟨h1, h2, _⟩); exact .inl h; exact .inr ⟨h1, h2⟩) (by rintro (h | ⟨_, _, h⟩); (have := hF _ h; omega); exact h rfl) (by omega) (by omega) (by omega)

end Go.Proofs.Ytphnnjiaiemkcaa
