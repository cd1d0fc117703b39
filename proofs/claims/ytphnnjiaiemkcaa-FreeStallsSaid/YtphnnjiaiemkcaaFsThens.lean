/- Written by a program of ours (wip/gen.py): programs made, and one behind the other -/
import Derived.Test.YtphnnjiaiemkcaaFsFields
set_option linter.unusedVariables false
namespace Go.Proofs.Ytphnnjiaiemkcaa
open Go.RowKit
theorem cl151 : callable Try.prog 151 = true := by kernel_rfl

theorem fo54_0 : fieldOff Try.prog 54 0 0 = true := by kernel_rfl

theorem fo54_2 : fieldOff Try.prog 54 2 1 = true := by kernel_rfl

theorem fo54_3 : fieldOff Try.prog 54 3 5 = true := by kernel_rfl

theorem fz54 : fieldZ Try.prog 54 1 1 = true := by kernel_rfl

theorem ta103 : tyA Try.prog 103 7 = true := by kernel_rfl

theorem ta46 : tyA Try.prog 46 0 = true := by kernel_rfl

theorem ta51 : tyA Try.prog 51 4 = true := by kernel_rfl

theorem ta54 : tyA Try.prog 54 6 = true := by kernel_rfl

theorem to4 : tyO Try.prog 4 = true := by kernel_rfl

theorem to52 : tyO Try.prog 52 = true := by kernel_rfl

theorem ts103 : sized Try.prog 103 7 = true := by kernel_rfl

theorem ts54 : sized Try.prog 54 6 = true := by kernel_rfl

theorem tz103 : zeroOf Try.prog 103 = some (.agg (progCells false encInt.zero 0 0 0 0 .nilFunc)) := by kernel_rfl

theorem tz54 : zeroOf Try.prog 54 = some (.agg (progCells false encNone.zero 0 0 0 0 .nilFunc)) := by kernel_rfl

def D.prog_Do_None (a0 : Access) (a1 : (Int → T Unit)) : T Unit := (T.act a0.op a0.at_ a0.a a0.b a1)

set_option maxRecDepth 20000 in
set_option maxHeartbeats 1000000 in
theorem c_prog_Do_None {n : Nat} {F : Nat → Prop} {w0 : World} (hF : ∀ b, F b → b < w0.heap.size)
    (a0 : Access) {a1_f : FuncId} {a1_1 a1_2 : List Value} {a1 : (Int → T Unit)} (a1_n : FnT Try.prog encNone u64 (n) F w0 (.func (.func a1_f) a1_1.toArray a1_2.toArray) a1) :
    Calls Try.prog 151 #[.agg (accessC a0).toArray, .func (.func a1_f) a1_1.toArray a1_2.toArray] w0 (RepRes Try.prog encNone n (D.prog_Do_None a0 a1) F w0) := by
  refine enter (l := [.agg (accessC a0).toArray, .func (.func a1_f) a1_1.toArray a1_2.toArray]) Try.func151 rfl 8 rfl rfl fun fr r => ?_
  have hB := Below.refl w0.heap.size w0
  refine wp_seq ?_
  refine wp_region_lit ?_
  refine seq_new (.cells ((accessC a0)).toArray 51 (0, 0)) r (fun R => y_box r (v := (.agg (accessC a0).toArray)) rfl) rfl fun fr b1 w2 n3 r => ?_
  have e_b1 := n3.eq
  have z_w2 := n3.size
  have h_b1 := n3.at_
  have hB := hB.trans (n3.below.mono hB.size)
  have zB := hB.size
  refine seq_new (.cells (progCells false encNone.zero 0 0 0 0 .nilFunc) 54 (0, 0)) r (fun R => y_alloc tz54) rfl fun fr b4 w5 n6 r => ?_
  have h_b1 := keep n6.below h_b1
  have e_b4 := n6.eq
  have z_w5 := n6.size
  have h_b4 := n6.at_
  have hB := hB.trans (n6.below.mono hB.size)
  have zB := hB.size
  refine wpList_nil ?_
  refine wp_seq ?_
  refine wp_region_lit ?_
  refine seq_val (.agg (accessC a0).toArray) r (fun R => y_load_agg r (cs := (accessC a0)) (n := 4) rfl h_b1 ta51 rfl) rfl fun fr r => ?_
  refine seq_val (.func (.func a1_f) a1_1.toArray a1_2.toArray) r (fun R => y_move r rfl) rfl fun fr r => ?_
  refine seq_val (.agg (progCells false encNone.zero a0.op a0.at_ a0.a a0.b (.func (.func a1_f) a1_1.toArray a1_2.toArray))) r (fun R => y_build r (by kernel_rfl)) rfl fun fr r => ?_
  refine seq_upd (.cells (progCells false encNone.zero a0.op a0.at_ a0.a a0.b (.func (.func a1_f) a1_1.toArray a1_2.toArray)) 54 (0, 0)) r (fun R => y_store r (o := 0) (v := (.agg (progCells false encNone.zero a0.op a0.at_ a0.a a0.b (.func (.func a1_f) a1_1.toArray a1_2.toArray)))) rfl rfl h_b4 ts54 (Nat.le_of_ble_eq_true rfl) rfl rfl) rfl fun fr w7 u8 r => ?_
  have z_w7 := u8.size
  have h_b1 := u8.keep h_b1 (by omega)
  have h_b4 := u8.at_
  have hB := u8.below hB (by omega)
  have zB := hB.size
  refine wpList_nil ?_
  refine wp_ret ?_
  have hd : D.prog_Do_None a0 a1 = (T.act a0.op a0.at_ a0.a a0.b a1) := rfl
  refine ret_cell r rfl rfl h_b4 (k := 6) rfl ta54 ?_
  rw [hd]
  exact ⟨_, rfl, hB, Rep.act_of (a1_n.mono (Nat.le_refl _) (fun b hb => .inl hb) (Same.below hB hF) hB.size)⟩

def D.prog_Done_None  : T Unit := (T.done ())

set_option maxRecDepth 20000 in
set_option maxHeartbeats 1000000 in
theorem c_prog_Done_None {n : Nat} {F : Nat → Prop} {w0 : World} (hF : ∀ b, F b → b < w0.heap.size)
     :
    Calls Try.prog 126 #[.agg #[]] w0 (RepRes Try.prog encNone n D.prog_Done_None F w0) := by
  refine enter (l := [.agg #[]]) Try.func126 rfl 5 rfl rfl fun fr r => ?_
  have hB := Below.refl w0.heap.size w0
  refine wp_seq ?_
  refine wp_region_lit ?_
  refine seq_new (.cells #[] 46 (0, 0)) r (fun R => y_box r (v := (.agg #[])) rfl) rfl fun fr b1 w2 n3 r => ?_
  have e_b1 := n3.eq
  have z_w2 := n3.size
  have h_b1 := n3.at_
  have hB := hB.trans (n3.below.mono hB.size)
  have zB := hB.size
  refine seq_new (.cells (progCells false encNone.zero 0 0 0 0 .nilFunc) 54 (0, 0)) r (fun R => y_alloc tz54) rfl fun fr b4 w5 n6 r => ?_
  have h_b1 := keep n6.below h_b1
  have e_b4 := n6.eq
  have z_w5 := n6.size
  have h_b4 := n6.at_
  have hB := hB.trans (n6.below.mono hB.size)
  have zB := hB.size
  refine wpList_nil ?_
  refine wp_seq ?_
  refine wp_region_lit ?_
  refine seq_val (.agg #[]) r (fun R => y_load_agg r (cs := []) (n := 0) rfl h_b1 ta46 rfl) rfl fun fr r => ?_
  refine seq_val (.agg (progCells true (encNone.cells ()) 0 0 0 0 .nilFunc)) r (fun R => y_build r (by kernel_rfl)) rfl fun fr r => ?_
  refine seq_upd (.cells (progCells true (encNone.cells ()) 0 0 0 0 .nilFunc) 54 (0, 0)) r (fun R => y_store r (o := 0) (v := (.agg (progCells true (encNone.cells ()) 0 0 0 0 .nilFunc))) rfl rfl h_b4 ts54 (Nat.le_of_ble_eq_true rfl) rfl rfl) rfl fun fr w7 u8 r => ?_
  have z_w7 := u8.size
  have h_b1 := u8.keep h_b1 (by omega)
  have h_b4 := u8.at_
  have hB := u8.below hB (by omega)
  have zB := hB.size
  refine wpList_nil ?_
  refine wp_ret ?_
  have hd : D.prog_Done_None = (T.done ()) := rfl
  refine ret_cell r rfl rfl h_b4 (k := 6) rfl ta54 ?_
  rw [hd]
  exact ⟨_, rfl, hB, Rep.done_of⟩

def D.prog_Do_int (a0 : Access) (a1 : (Int → T Int)) : T Int := (T.act a0.op a0.at_ a0.a a0.b a1)

set_option maxRecDepth 20000 in
set_option maxHeartbeats 1000000 in
theorem c_prog_Do_int {n : Nat} {F : Nat → Prop} {w0 : World} (hF : ∀ b, F b → b < w0.heap.size)
    (a0 : Access) {a1_f : FuncId} {a1_1 a1_2 : List Value} {a1 : (Int → T Int)} (a1_n : FnT Try.prog encInt u64 (n) F w0 (.func (.func a1_f) a1_1.toArray a1_2.toArray) a1) :
    Calls Try.prog 137 #[.agg (accessC a0).toArray, .func (.func a1_f) a1_1.toArray a1_2.toArray] w0 (RepRes Try.prog encInt n (D.prog_Do_int a0 a1) F w0) := by
  refine enter (l := [.agg (accessC a0).toArray, .func (.func a1_f) a1_1.toArray a1_2.toArray]) Try.func137 rfl 8 rfl rfl fun fr r => ?_
  have hB := Below.refl w0.heap.size w0
  refine wp_seq ?_
  refine wp_region_lit ?_
  refine seq_new (.cells ((accessC a0)).toArray 51 (0, 0)) r (fun R => y_box r (v := (.agg (accessC a0).toArray)) rfl) rfl fun fr b1 w2 n3 r => ?_
  have e_b1 := n3.eq
  have z_w2 := n3.size
  have h_b1 := n3.at_
  have hB := hB.trans (n3.below.mono hB.size)
  have zB := hB.size
  refine seq_new (.cells (progCells false encInt.zero 0 0 0 0 .nilFunc) 103 (0, 0)) r (fun R => y_alloc tz103) rfl fun fr b4 w5 n6 r => ?_
  have h_b1 := keep n6.below h_b1
  have e_b4 := n6.eq
  have z_w5 := n6.size
  have h_b4 := n6.at_
  have hB := hB.trans (n6.below.mono hB.size)
  have zB := hB.size
  refine wpList_nil ?_
  refine wp_seq ?_
  refine wp_region_lit ?_
  refine seq_val (.agg (accessC a0).toArray) r (fun R => y_load_agg r (cs := (accessC a0)) (n := 4) rfl h_b1 ta51 rfl) rfl fun fr r => ?_
  refine seq_val (.func (.func a1_f) a1_1.toArray a1_2.toArray) r (fun R => y_move r rfl) rfl fun fr r => ?_
  refine seq_val (.agg (progCells false encInt.zero a0.op a0.at_ a0.a a0.b (.func (.func a1_f) a1_1.toArray a1_2.toArray))) r (fun R => y_build r (by kernel_rfl)) rfl fun fr r => ?_
  refine seq_upd (.cells (progCells false encInt.zero a0.op a0.at_ a0.a a0.b (.func (.func a1_f) a1_1.toArray a1_2.toArray)) 103 (0, 0)) r (fun R => y_store r (o := 0) (v := (.agg (progCells false encInt.zero a0.op a0.at_ a0.a a0.b (.func (.func a1_f) a1_1.toArray a1_2.toArray)))) rfl rfl h_b4 ts103 (Nat.le_of_ble_eq_true rfl) rfl rfl) rfl fun fr w7 u8 r => ?_
  have z_w7 := u8.size
  have h_b1 := u8.keep h_b1 (by omega)
  have h_b4 := u8.at_
  have hB := u8.below hB (by omega)
  have zB := hB.size
  refine wpList_nil ?_
  refine wp_ret ?_
  have hd : D.prog_Do_int a0 a1 = (T.act a0.op a0.at_ a0.a a0.b a1) := rfl
  refine ret_cell r rfl rfl h_b4 (k := 7) rfl ta103 ?_
  rw [hd]
  exact ⟨_, rfl, hB, Rep.act_of (a1_n.mono (Nat.le_refl _) (fun b hb => .inl hb) (Same.below hB hF) hB.size)⟩

def D.prog_Done_int (a0 : Int) : T Int := (T.done a0)

set_option maxRecDepth 20000 in
set_option maxHeartbeats 1000000 in
theorem c_prog_Done_int {n : Nat} {F : Nat → Prop} {w0 : World} (hF : ∀ b, F b → b < w0.heap.size)
    (a0 : Int) :
    Calls Try.prog 103 #[.int .i64 a0] w0 (RepRes Try.prog encInt n (D.prog_Done_int a0) F w0) := by
  refine enter (l := [.int .i64 a0]) Try.func103 rfl 5 rfl rfl fun fr r => ?_
  have hB := Below.refl w0.heap.size w0
  refine wp_seq ?_
  refine wp_region_lit ?_
  refine seq_new (.cells (progCells false encInt.zero 0 0 0 0 .nilFunc) 103 (0, 0)) r (fun R => y_alloc tz103) rfl fun fr b1 w2 n3 r => ?_
  have e_b1 := n3.eq
  have z_w2 := n3.size
  have h_b1 := n3.at_
  have hB := hB.trans (n3.below.mono hB.size)
  have zB := hB.size
  refine wpList_nil ?_
  refine wp_seq ?_
  refine wp_region_lit ?_
  refine seq_val (.int .i64 a0) r (fun R => y_move r rfl) rfl fun fr r => ?_
  refine seq_val (.agg (progCells true (encInt.cells a0) 0 0 0 0 .nilFunc)) r (fun R => y_build r (by kernel_rfl)) rfl fun fr r => ?_
  refine seq_upd (.cells (progCells true (encInt.cells a0) 0 0 0 0 .nilFunc) 103 (0, 0)) r (fun R => y_store r (o := 0) (v := (.agg (progCells true (encInt.cells a0) 0 0 0 0 .nilFunc))) rfl rfl h_b1 ts103 (Nat.le_of_ble_eq_true rfl) rfl rfl) rfl fun fr w4 u5 r => ?_
  have z_w4 := u5.size
  have h_b1 := u5.at_
  have hB := u5.below hB (by omega)
  have zB := hB.size
  refine wpList_nil ?_
  refine wp_ret ?_
  have hd : D.prog_Done_int a0 = (T.done a0) := rfl
  refine ret_cell r rfl rfl h_b1 (k := 7) rfl ta103 ?_
  rw [hd]
  exact ⟨_, rfl, hB, Rep.done_of⟩

end Go.Proofs.Ytphnnjiaiemkcaa
