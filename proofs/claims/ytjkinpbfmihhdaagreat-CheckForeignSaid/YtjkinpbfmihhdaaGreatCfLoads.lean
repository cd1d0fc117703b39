/- Written by a program of ours (wip/gen.py): programs of one access -/
import Derived.Test.YtjkinpbfmihhdaaGreatCfThens
set_option linter.unusedVariables false
set_option maxRecDepth 20000
set_option maxHeartbeats 2000000
namespace Go.Proofs.YtjkinpbfmihhdaaGreat
open Go.RowKit
theorem cl224 : callable Tryz.prog 224 = true := by kernel_rfl

theorem cl225 : callable Tryz.prog 225 = true := by kernel_rfl

theorem cl298 : callable Tryz.prog 298 = true := by kernel_rfl

theorem cl317 : callable Tryz.prog 317 = true := by kernel_rfl

theorem cl353 : callable Tryz.prog 353 = true := by kernel_rfl

theorem cl354 : callable Tryz.prog 354 = true := by kernel_rfl

theorem cl366 : callable Tryz.prog 366 = true := by kernel_rfl

theorem cl367 : callable Tryz.prog 367 = true := by kernel_rfl

theorem cl369 : callable Tryz.prog 369 = true := by kernel_rfl

theorem cl423 : callable Tryz.prog 423 = true := by kernel_rfl

theorem to197 : tyO Tryz.prog 197 = true := by kernel_rfl

theorem to200 : tyO Tryz.prog 200 = true := by kernel_rfl

theorem to257 : tyO Tryz.prog 257 = true := by kernel_rfl

theorem to293 : tyO Tryz.prog 293 = true := by kernel_rfl

theorem to310 : tyO Tryz.prog 310 = true := by kernel_rfl

def D.prog_Store_None_1 (c0 : (Unit → T Unit)) (a0 : Int) : T Unit := (c0 ())

theorem c_prog_Store_None_1 {n : Nat} {F : Nat → Prop} {w0 : World} (hF : ∀ b, F b → b < w0.heap.size)
    {c0_f : FuncId} {c0_1 c0_2 : List Value} {c0 : (Unit → T Unit)} {c0_b : Nat} (c0_F : F c0_b) (c0_h : w0.heap[c0_b]? = some (.cells #[.func (.func c0_f) c0_1.toArray c0_2.toArray] 310 (0, 0))) (c0_n : FnT Tryz.prog encNone unitE (n + 1) F w0 (.func (.func c0_f) c0_1.toArray c0_2.toArray) c0) (a0 : Int) :
    Calls Tryz.prog 369 #[.int .u64 a0, .pointer (some ⟨c0_b, 0, none⟩)] w0 (RepRes Tryz.prog encNone n (D.prog_Store_None_1 c0 a0) F w0) := by
 refine enter Tryz.func369 rfl 6 rfl rfl fun fr r => ?_
 have hB := Below.refl w0.heap.size w0
 have l_c0_b := lt_of_block c0_h
 refine wsr ?_
 refine seq_new (.cells (progCells false encNone.zero 0 0 0 0 .nilFunc) 186 (0, 0)) r (fun R => y_alloc tz186) rfl fun fr b1 w2 n3 r => ?_
 obtain ⟨e_b1, z_w2, h_b1, hB, zB⟩ := n3.all hB
 refine wn ?_
 refine wsr ?_
 refine seq_val (.func (.func c0_f) c0_1.toArray c0_2.toArray) r (fun R => y_load_one r rfl (keep hB c0_h) to310 rfl) rfl fun fr r => ?_
 refine seq_call r (c0_n.at_.2 n (Nat.lt_succ_self n) () w2 (Same.below hB hF) hB.size) (fun R hc => y_callv0 r rfl c0_n.at_.1 hc) rfl ?_
 rintro _ w4 ⟨v5, rfl, hb, hr6⟩
 refine ⟨_, rfl, fun fr r => ?_⟩
 have z_w4 := hb.size
 have h_b1 := keep hb h_b1
 obtain ⟨hB, zB⟩ := bon hb hB
 refine seq_upd (.cells v5.cells 186 (0, 0)) r (fun R => y_storep r hr6.shape rfl rfl h_b1 ts186 rfl) rfl fun fr w7 u8 r => ?_
 have z_w7 := u8.size
 have h_b1 := u8.at_
 obtain ⟨hB, zB⟩ := u8.on hB (by omega)
 refine wn ?_
 refine wp_ret ?_
 have hs := hr6.shape.cells
 refine ret_cell r rfl rfl h_b1 (k := 6) hs.1 ta186 ?_
 rw [← hs.2.2]
 exact RepRes.fin hB hr6 u8 (fun b hb => .inl hb) (fun h => by have := hF _ h; omega) (by omega) (by omega) (by omega)

def D.prog_Store_None (a0 : Int) (a1 : Int) (a2 : (Unit → T Unit)) : T Unit := (D.prog_Do_None (⟨1, a0, a1, 0⟩ : Access) (fun x => (D.prog_Store_None_1 a2 x)))

theorem c_prog_Store_None {n : Nat} {F : Nat → Prop} {w0 : World} (hF : ∀ b, F b → b < w0.heap.size)
    (a0 : Int) (a1 : Int) {a2_f : FuncId} {a2_1 a2_2 : List Value} {a2 : (Unit → T Unit)} (a2_n : FnT Tryz.prog encNone unitE (n) F w0 (.func (.func a2_f) a2_1.toArray a2_2.toArray) a2) :
    Calls Tryz.prog 317 #[.int .i64 a0, .int .u64 a1, .func (.func a2_f) a2_1.toArray a2_2.toArray] w0 (RepRes Tryz.prog encNone n (D.prog_Store_None a0 a1 a2) F w0) := by
 refine enter Tryz.func317 rfl 12 rfl rfl fun fr r => ?_
 have hB := Below.refl w0.heap.size w0
 refine wsr ?_
 refine seq_new (.cells #[.func (.func a2_f) a2_1.toArray a2_2.toArray] 310 (0, 0)) r (fun R => y_box r (v := (.func (.func a2_f) a2_1.toArray a2_2.toArray)) rfl) rfl fun fr b1 w2 n3 r => ?_
 obtain ⟨e_b1, z_w2, h_b1, hB, zB⟩ := n3.all hB
 refine seq_new (.cells (progCells false encNone.zero 0 0 0 0 .nilFunc) 186 (0, 0)) r (fun R => y_alloc tz186) rfl fun fr b4 w5 n6 r => ?_
 have h_b1 := keep n6.below h_b1
 obtain ⟨e_b4, z_w5, h_b4, hB, zB⟩ := n6.all hB
 refine wn ?_
 refine wsr ?_
 refine seq_val (I a0) r (fun R => y_move r rfl) rfl fun fr r => ?_
 refine seq_val (U a1) r (fun R => y_move r rfl) rfl fun fr r => ?_
 refine seq_val (.agg (accessC (⟨1, a0, a1, 0⟩ : Access)).toArray) r (fun R => y_build r (by kernel_rfl)) rfl fun fr r => ?_
 refine seq_val (.func (.func 369) #[] #[.pointer (some ⟨b1, 0, none⟩)]) r (fun R => y_makeFunc r rfl) rfl fun fr r => ?_
 have hF1 := fgrow hF hB b4
 have f7 : ((fun b => F b ∨ (w0.heap.size ≤ b ∧ b < w5.heap.size ∧ b ≠ b4))) b1 := (.inr ⟨by omega, by omega, by omega⟩)
 refine seq_call r (c_prog_Do_None (F := (fun b => F b ∨ (w0.heap.size ≤ b ∧ b < w5.heap.size ∧ b ≠ b4))) (n := n) hF1 (⟨1, a0, a1, 0⟩ : Access) ⟨369, [], [.pointer (some ⟨b1, 0, none⟩)], cl369, rfl, fun m hm x w' hs hz => c_prog_Store_None_1 (fun b hb => Nat.lt_of_lt_of_le (hF1 b hb) hz) f7 (hs.at_ f7 h_b1) (a2_n.mono (by omega) (fun b h => .inl h) ((Same.below hB hF).trans (hs.sub (fun b h => .inl h))) (Nat.le_trans hB.size hz)) x⟩) (fun R hc => y_call r rfl cl368 hc) rfl ?_
 rintro _ w8 ⟨v9, rfl, hb, hr10⟩
 refine ⟨_, rfl, fun fr r => ?_⟩
 have z_w8 := hb.size
 have h_b1 := keep hb h_b1
 have h_b4 := keep hb h_b4
 obtain ⟨hB, zB⟩ := bon hb hB
 refine seq_upd (.cells v9.cells 186 (0, 0)) r (fun R => y_storep r hr10.shape rfl rfl h_b4 ts186 rfl) rfl fun fr w11 u12 r => ?_
 have z_w11 := u12.size
 have h_b1 := u12.keep h_b1 (by omega)
 have h_b4 := u12.at_
 obtain ⟨hB, zB⟩ := u12.on hB (by omega)
 refine wn ?_
 refine wp_ret ?_
 have hs := hr10.shape.cells
 refine ret_cell r rfl rfl h_b4 (k := 6) hs.1 ta186 ?_
 rw [← hs.2.2]
 exact rfin hF hB hr10 u12 (by omega) (by omega) (by omega)

def D.prog_Set_1  : T Unit := D.prog_Done_None

theorem c_prog_Set_1 {n : Nat} {F : Nat → Prop} {w0 : World} (hF : ∀ b, F b → b < w0.heap.size)
     :
    Calls Tryz.prog 366 #[] w0 (RepRes Tryz.prog encNone n D.prog_Set_1 F w0) := by
 refine enter Tryz.func366 rfl 3 rfl rfl fun fr r => ?_
 have hB := Below.refl w0.heap.size w0
 refine wsr ?_
 refine seq_new (.cells (progCells false encNone.zero 0 0 0 0 .nilFunc) 186 (0, 0)) r (fun R => y_alloc tz186) rfl fun fr b1 w2 n3 r => ?_
 obtain ⟨e_b1, z_w2, h_b1, hB, zB⟩ := n3.all hB
 refine wn ?_
 refine wsr ?_
 refine seq_val (.agg #[]) r (fun R => y_build r (by kernel_rfl)) rfl fun fr r => ?_
 have hF1 := fgrow hF hB b1
 refine seq_call r (c_prog_Done_None (F := (fun b => F b ∨ (w0.heap.size ≤ b ∧ b < w2.heap.size ∧ b ≠ b1))) (n := n) hF1 ) (fun R hc => y_call r rfl cl367 hc) rfl ?_
 rintro _ w4 ⟨v5, rfl, hb, hr6⟩
 refine ⟨_, rfl, fun fr r => ?_⟩
 have z_w4 := hb.size
 have h_b1 := keep hb h_b1
 obtain ⟨hB, zB⟩ := bon hb hB
 refine seq_upd (.cells v5.cells 186 (0, 0)) r (fun R => y_storep r hr6.shape rfl rfl h_b1 ts186 rfl) rfl fun fr w7 u8 r => ?_
 have z_w7 := u8.size
 have h_b1 := u8.at_
 obtain ⟨hB, zB⟩ := u8.on hB (by omega)
 refine wn ?_
 refine wp_ret ?_
 have hs := hr6.shape.cells
 refine ret_cell r rfl rfl h_b1 (k := 6) hs.1 ta186 ?_
 rw [← hs.2.2]
 exact rfin hF hB hr6 u8 (by omega) (by omega) (by omega)

def D.prog_Set (a0 : Int) (a1 : Int) : T Unit := (D.prog_Store_None a0 a1 (fun _ => D.prog_Set_1))

theorem c_prog_Set {n : Nat} {F : Nat → Prop} {w0 : World} (hF : ∀ b, F b → b < w0.heap.size)
    (a0 : Int) (a1 : Int) :
    Calls Tryz.prog 315 #[.int .i64 a0, .int .u64 a1] w0 (RepRes Tryz.prog encNone n (D.prog_Set a0 a1) F w0) := by
 refine enter Tryz.func315 rfl 8 rfl rfl fun fr r => ?_
 have hB := Below.refl w0.heap.size w0
 refine wsr ?_
 refine seq_new (.cells (progCells false encNone.zero 0 0 0 0 .nilFunc) 186 (0, 0)) r (fun R => y_alloc tz186) rfl fun fr b1 w2 n3 r => ?_
 obtain ⟨e_b1, z_w2, h_b1, hB, zB⟩ := n3.all hB
 refine wn ?_
 refine wsr ?_
 refine seq_val (I a0) r (fun R => y_move r rfl) rfl fun fr r => ?_
 refine seq_val (U a1) r (fun R => y_move r rfl) rfl fun fr r => ?_
 have hF1 := fgrow hF hB b1
 refine seq_call r (c_prog_Store_None (F := (fun b => F b ∨ (w0.heap.size ≤ b ∧ b < w2.heap.size ∧ b ≠ b1))) (n := n) hF1 a0 a1 ⟨366, [], [], cl366, rfl, fun m hm _ w' hs hz => c_prog_Set_1 (fun b hb => Nat.lt_of_lt_of_le (hF1 b hb) hz) ⟩) (fun R hc => y_call r rfl cl317 hc) rfl ?_
 rintro _ w4 ⟨v5, rfl, hb, hr6⟩
 refine ⟨_, rfl, fun fr r => ?_⟩
 have z_w4 := hb.size
 have h_b1 := keep hb h_b1
 obtain ⟨hB, zB⟩ := bon hb hB
 refine seq_upd (.cells v5.cells 186 (0, 0)) r (fun R => y_storep r hr6.shape rfl rfl h_b1 ts186 rfl) rfl fun fr w7 u8 r => ?_
 have z_w7 := u8.size
 have h_b1 := u8.at_
 obtain ⟨hB, zB⟩ := u8.on hB (by omega)
 refine wn ?_
 refine wp_ret ?_
 have hs := hr6.shape.cells
 refine ret_cell r rfl rfl h_b1 (k := 6) hs.1 ta186 ?_
 rw [← hs.2.2]
 exact rfin hF hB hr6 u8 (by omega) (by omega) (by omega)

def D.prog_Load_int (a0 : Int) (a1 : (Int → T Int)) : T Int := (D.prog_Do_int (⟨0, a0, 0, 0⟩ : Access) a1)

theorem c_prog_Load_int {n : Nat} {F : Nat → Prop} {w0 : World} (hF : ∀ b, F b → b < w0.heap.size)
    (a0 : Int) {a1_f : FuncId} {a1_1 a1_2 : List Value} {a1 : (Int → T Int)} (a1_n : FnT Tryz.prog encInt u64 (n) F w0 (.func (.func a1_f) a1_1.toArray a1_2.toArray) a1) :
    Calls Tryz.prog 198 #[.int .i64 a0, .func (.func a1_f) a1_1.toArray a1_2.toArray] w0 (RepRes Tryz.prog encInt n (D.prog_Load_int a0 a1) F w0) := by
 refine enter Tryz.func198 rfl 9 rfl rfl fun fr r => ?_
 have hB := Below.refl w0.heap.size w0
 refine wsr ?_
 refine seq_new (.cells (progCells false encInt.zero 0 0 0 0 .nilFunc) 167 (0, 0)) r (fun R => y_alloc tz167) rfl fun fr b1 w2 n3 r => ?_
 obtain ⟨e_b1, z_w2, h_b1, hB, zB⟩ := n3.all hB
 refine wn ?_
 refine wsr ?_
 refine seq_val (I a0) r (fun R => y_move r rfl) rfl fun fr r => ?_
 refine seq_val (.agg (accessC (⟨0, a0, 0, 0⟩ : Access)).toArray) r (fun R => y_build r (by kernel_rfl)) rfl fun fr r => ?_
 refine seq_val (.func (.func a1_f) a1_1.toArray a1_2.toArray) r (fun R => y_move r rfl) rfl fun fr r => ?_
 have hF1 := fgrow hF hB b1
 refine seq_call r (c_prog_Do_int (F := (fun b => F b ∨ (w0.heap.size ≤ b ∧ b < w2.heap.size ∧ b ≠ b1))) (n := n) hF1 (⟨0, a0, 0, 0⟩ : Access) (a1_n.mono (by omega) (fun b h => .inl h) (Same.below hB hF) hB.size)) (fun R hc => y_call r rfl cl297 hc) rfl ?_
 rintro _ w4 ⟨v5, rfl, hb, hr6⟩
 refine ⟨_, rfl, fun fr r => ?_⟩
 have z_w4 := hb.size
 have h_b1 := keep hb h_b1
 obtain ⟨hB, zB⟩ := bon hb hB
 refine seq_upd (.cells v5.cells 167 (0, 0)) r (fun R => y_storep r hr6.shape rfl rfl h_b1 ts167 rfl) rfl fun fr w7 u8 r => ?_
 have z_w7 := u8.size
 have h_b1 := u8.at_
 obtain ⟨hB, zB⟩ := u8.on hB (by omega)
 refine wn ?_
 refine wp_ret ?_
 have hs := hr6.shape.cells
 refine ret_cell r rfl rfl h_b1 (k := 7) hs.1 ta167 ?_
 rw [← hs.2.2]
 exact rfin hF hB hr6 u8 (by omega) (by omega) (by omega)

def D.prog_Swap_int_1 (c0 : (Bool → T Int)) (c1 : Int) (a0 : Int) : T Int := (c0 (a0 == c1))

theorem c_prog_Swap_int_1 {n : Nat} {F : Nat → Prop} {w0 : World} (hF : ∀ b, F b → b < w0.heap.size)
    {c0_f : FuncId} {c0_1 c0_2 : List Value} {c0 : (Bool → T Int)} {c0_b : Nat} (c0_F : F c0_b) (c0_h : w0.heap[c0_b]? = some (.cells #[.func (.func c0_f) c0_1.toArray c0_2.toArray] 297 (0, 0))) (c0_n : FnT Tryz.prog encInt boolE (n + 1) F w0 (.func (.func c0_f) c0_1.toArray c0_2.toArray) c0) (c1 : Int) {c1_b : Nat} (c1_F : F c1_b) (c1_h : w0.heap[c1_b]? = some (.cells ([(.int .u64 c1)]).toArray 22 (0, 0))) (a0 : Int) :
    Calls Tryz.prog 354 #[.int .u64 a0, .pointer (some ⟨c0_b, 0, none⟩), .pointer (some ⟨c1_b, 0, none⟩)] w0 (RepRes Tryz.prog encInt n (D.prog_Swap_int_1 c0 c1 a0) F w0) := by
 refine enter Tryz.func354 rfl 10 rfl rfl fun fr r => ?_
 have hB := Below.refl w0.heap.size w0
 have l_c0_b := lt_of_block c0_h
 have l_c1_b := lt_of_block c1_h
 refine wsr ?_
 refine seq_new (.cells (progCells false encInt.zero 0 0 0 0 .nilFunc) 167 (0, 0)) r (fun R => y_alloc tz167) rfl fun fr b1 w2 n3 r => ?_
 obtain ⟨e_b1, z_w2, h_b1, hB, zB⟩ := n3.all hB
 refine wn ?_
 refine wsr ?_
 refine seq_val (.func (.func c0_f) c0_1.toArray c0_2.toArray) r (fun R => y_load_one r rfl (keep hB c0_h) to297 rfl) rfl fun fr r => ?_
 refine seq_val (U a0) r (fun R => y_move r rfl) rfl fun fr r => ?_
 refine seq_val (U c1) r (fun R => y_load_one r rfl (keep hB c1_h) to22 rfl) rfl fun fr r => ?_
 refine seq_val _ r (fun R => y_bin r rfl rfl rfl rfl) rfl fun fr r => ?_
 refine seq_call r (c0_n.at_.2 n (Nat.lt_succ_self n) (a0 == c1) w2 (Same.below hB hF) hB.size) (fun R hc => y_callv1 r rfl rfl c0_n.at_.1 hc) rfl ?_
 rintro _ w4 ⟨v5, rfl, hb, hr6⟩
 refine ⟨_, rfl, fun fr r => ?_⟩
 have z_w4 := hb.size
 have h_b1 := keep hb h_b1
 obtain ⟨hB, zB⟩ := bon hb hB
 refine seq_upd (.cells v5.cells 167 (0, 0)) r (fun R => y_storep r hr6.shape rfl rfl h_b1 ts167 rfl) rfl fun fr w7 u8 r => ?_
 have z_w7 := u8.size
 have h_b1 := u8.at_
 obtain ⟨hB, zB⟩ := u8.on hB (by omega)
 refine wn ?_
 refine wp_ret ?_
 have hs := hr6.shape.cells
 refine ret_cell r rfl rfl h_b1 (k := 7) hs.1 ta167 ?_
 rw [← hs.2.2]
 exact RepRes.fin hB hr6 u8 (fun b hb => .inl hb) (fun h => by have := hF _ h; omega) (by omega) (by omega) (by omega)

def D.prog_Swap_int (a0 : Int) (a1 : Int) (a2 : Int) (a3 : (Bool → T Int)) : T Int := (D.prog_Do_int (⟨2, a0, a1, a2⟩ : Access) (fun x => (D.prog_Swap_int_1 a3 a1 x)))

theorem c_prog_Swap_int {n : Nat} {F : Nat → Prop} {w0 : World} (hF : ∀ b, F b → b < w0.heap.size)
    (a0 : Int) (a1 : Int) (a2 : Int) {a3_f : FuncId} {a3_1 a3_2 : List Value} {a3 : (Bool → T Int)} (a3_n : FnT Tryz.prog encInt boolE (n) F w0 (.func (.func a3_f) a3_1.toArray a3_2.toArray) a3) :
    Calls Tryz.prog 290 #[.int .i64 a0, .int .u64 a1, .int .u64 a2, .func (.func a3_f) a3_1.toArray a3_2.toArray] w0 (RepRes Tryz.prog encInt n (D.prog_Swap_int a0 a1 a2 a3) F w0) := by
 refine enter Tryz.func290 rfl 15 rfl rfl fun fr r => ?_
 have hB := Below.refl w0.heap.size w0
 refine wsr ?_
 refine seq_new (.cells #[(U a1)] 22 (0, 0)) r (fun R => y_box r (v := (U a1)) rfl) rfl fun fr b1 w2 n3 r => ?_
 obtain ⟨e_b1, z_w2, h_b1, hB, zB⟩ := n3.all hB
 refine seq_new (.cells #[.func (.func a3_f) a3_1.toArray a3_2.toArray] 297 (0, 0)) r (fun R => y_box r (v := (.func (.func a3_f) a3_1.toArray a3_2.toArray)) rfl) rfl fun fr b4 w5 n6 r => ?_
 have h_b1 := keep n6.below h_b1
 obtain ⟨e_b4, z_w5, h_b4, hB, zB⟩ := n6.all hB
 refine seq_new (.cells (progCells false encInt.zero 0 0 0 0 .nilFunc) 167 (0, 0)) r (fun R => y_alloc tz167) rfl fun fr b7 w8 n9 r => ?_
 have h_b1 := keep n9.below h_b1
 have h_b4 := keep n9.below h_b4
 obtain ⟨e_b7, z_w8, h_b7, hB, zB⟩ := n9.all hB
 refine wn ?_
 refine wsr ?_
 refine seq_val (I a0) r (fun R => y_move r rfl) rfl fun fr r => ?_
 refine seq_val (U a1) r (fun R => y_load_one r rfl h_b1 to22 rfl) rfl fun fr r => ?_
 refine seq_val (U a2) r (fun R => y_move r rfl) rfl fun fr r => ?_
 refine seq_val (.agg (accessC (⟨2, a0, a1, a2⟩ : Access)).toArray) r (fun R => y_build r (by kernel_rfl)) rfl fun fr r => ?_
 refine seq_val (.func (.func 354) #[] #[.pointer (some ⟨b4, 0, none⟩), .pointer (some ⟨b1, 0, none⟩)]) r (fun R => y_makeFunc r rfl) rfl fun fr r => ?_
 have hF1 := fgrow hF hB b7
 have f10 : ((fun b => F b ∨ (w0.heap.size ≤ b ∧ b < w8.heap.size ∧ b ≠ b7))) b4 := (.inr ⟨by omega, by omega, by omega⟩)
 have f11 : ((fun b => F b ∨ (w0.heap.size ≤ b ∧ b < w8.heap.size ∧ b ≠ b7))) b1 := (.inr ⟨by omega, by omega, by omega⟩)
 refine seq_call r (c_prog_Do_int (F := (fun b => F b ∨ (w0.heap.size ≤ b ∧ b < w8.heap.size ∧ b ≠ b7))) (n := n) hF1 (⟨2, a0, a1, a2⟩ : Access) ⟨354, [], [.pointer (some ⟨b4, 0, none⟩), .pointer (some ⟨b1, 0, none⟩)], cl354, rfl, fun m hm x w' hs hz => c_prog_Swap_int_1 (fun b hb => Nat.lt_of_lt_of_le (hF1 b hb) hz) f10 (hs.at_ f10 h_b4) (a3_n.mono (by omega) (fun b h => .inl h) ((Same.below hB hF).trans (hs.sub (fun b h => .inl h))) (Nat.le_trans hB.size hz)) a1 f11 (hs.at_ f11 h_b1) x⟩) (fun R hc => y_call r rfl cl297 hc) rfl ?_
 rintro _ w12 ⟨v13, rfl, hb, hr14⟩
 refine ⟨_, rfl, fun fr r => ?_⟩
 have z_w12 := hb.size
 have h_b1 := keep hb h_b1
 have h_b4 := keep hb h_b4
 have h_b7 := keep hb h_b7
 obtain ⟨hB, zB⟩ := bon hb hB
 refine seq_upd (.cells v13.cells 167 (0, 0)) r (fun R => y_storep r hr14.shape rfl rfl h_b7 ts167 rfl) rfl fun fr w15 u16 r => ?_
 have z_w15 := u16.size
 have h_b1 := u16.keep h_b1 (by omega)
 have h_b4 := u16.keep h_b4 (by omega)
 have h_b7 := u16.at_
 obtain ⟨hB, zB⟩ := u16.on hB (by omega)
 refine wn ?_
 refine wp_ret ?_
 have hs := hr14.shape.cells
 refine ret_cell r rfl rfl h_b7 (k := 7) hs.1 ta167 ?_
 rw [← hs.2.2]
 exact rfin hF hB hr14 u16 (by omega) (by omega) (by omega)

def D.prog_Load_Grant (a0 : Int) (a1 : (Int → T Grant)) : T Grant := (D.prog_Do_Grant (⟨0, a0, 0, 0⟩ : Access) a1)

theorem c_prog_Load_Grant {n : Nat} {F : Nat → Prop} {w0 : World} (hF : ∀ b, F b → b < w0.heap.size)
    (a0 : Int) {a1_f : FuncId} {a1_1 a1_2 : List Value} {a1 : (Int → T Grant)} (a1_n : FnT Tryz.prog encGrant u64 (n) F w0 (.func (.func a1_f) a1_1.toArray a1_2.toArray) a1) :
    Calls Tryz.prog 281 #[.int .i64 a0, .func (.func a1_f) a1_1.toArray a1_2.toArray] w0 (RepRes Tryz.prog encGrant n (D.prog_Load_Grant a0 a1) F w0) := by
 refine enter Tryz.func281 rfl 9 rfl rfl fun fr r => ?_
 have hB := Below.refl w0.heap.size w0
 refine wsr ?_
 refine seq_new (.cells (progCells false encGrant.zero 0 0 0 0 .nilFunc) 158 (0, 0)) r (fun R => y_alloc tz158) rfl fun fr b1 w2 n3 r => ?_
 obtain ⟨e_b1, z_w2, h_b1, hB, zB⟩ := n3.all hB
 refine wn ?_
 refine wsr ?_
 refine seq_val (I a0) r (fun R => y_move r rfl) rfl fun fr r => ?_
 refine seq_val (.agg (accessC (⟨0, a0, 0, 0⟩ : Access)).toArray) r (fun R => y_build r (by kernel_rfl)) rfl fun fr r => ?_
 refine seq_val (.func (.func a1_f) a1_1.toArray a1_2.toArray) r (fun R => y_move r rfl) rfl fun fr r => ?_
 have hF1 := fgrow hF hB b1
 refine seq_call r (c_prog_Do_Grant (F := (fun b => F b ∨ (w0.heap.size ≤ b ∧ b < w2.heap.size ∧ b ≠ b1))) (n := n) hF1 (⟨0, a0, 0, 0⟩ : Access) (a1_n.mono (by omega) (fun b h => .inl h) (Same.below hB hF) hB.size)) (fun R hc => y_call r rfl cl286 hc) rfl ?_
 rintro _ w4 ⟨v5, rfl, hb, hr6⟩
 refine ⟨_, rfl, fun fr r => ?_⟩
 have z_w4 := hb.size
 have h_b1 := keep hb h_b1
 obtain ⟨hB, zB⟩ := bon hb hB
 refine seq_upd (.cells v5.cells 158 (0, 0)) r (fun R => y_storep r hr6.shape rfl rfl h_b1 ts158 rfl) rfl fun fr w7 u8 r => ?_
 have z_w7 := u8.size
 have h_b1 := u8.at_
 obtain ⟨hB, zB⟩ := u8.on hB (by omega)
 refine wn ?_
 refine wp_ret ?_
 have hs := hr6.shape.cells
 refine ret_cell r rfl rfl h_b1 (k := 9) hs.1 ta158 ?_
 rw [← hs.2.2]
 exact rfin hF hB hr6 u8 (by omega) (by omega) (by omega)

def D.prog_Store_Grant_1 (c0 : (Unit → T Grant)) (a0 : Int) : T Grant := (c0 ())

theorem c_prog_Store_Grant_1 {n : Nat} {F : Nat → Prop} {w0 : World} (hF : ∀ b, F b → b < w0.heap.size)
    {c0_f : FuncId} {c0_1 c0_2 : List Value} {c0 : (Unit → T Grant)} {c0_b : Nat} (c0_F : F c0_b) (c0_h : w0.heap[c0_b]? = some (.cells #[.func (.func c0_f) c0_1.toArray c0_2.toArray] 293 (0, 0))) (c0_n : FnT Tryz.prog encGrant unitE (n + 1) F w0 (.func (.func c0_f) c0_1.toArray c0_2.toArray) c0) (a0 : Int) :
    Calls Tryz.prog 353 #[.int .u64 a0, .pointer (some ⟨c0_b, 0, none⟩)] w0 (RepRes Tryz.prog encGrant n (D.prog_Store_Grant_1 c0 a0) F w0) := by
 refine enter Tryz.func353 rfl 6 rfl rfl fun fr r => ?_
 have hB := Below.refl w0.heap.size w0
 have l_c0_b := lt_of_block c0_h
 refine wsr ?_
 refine seq_new (.cells (progCells false encGrant.zero 0 0 0 0 .nilFunc) 158 (0, 0)) r (fun R => y_alloc tz158) rfl fun fr b1 w2 n3 r => ?_
 obtain ⟨e_b1, z_w2, h_b1, hB, zB⟩ := n3.all hB
 refine wn ?_
 refine wsr ?_
 refine seq_val (.func (.func c0_f) c0_1.toArray c0_2.toArray) r (fun R => y_load_one r rfl (keep hB c0_h) to293 rfl) rfl fun fr r => ?_
 refine seq_call r (c0_n.at_.2 n (Nat.lt_succ_self n) () w2 (Same.below hB hF) hB.size) (fun R hc => y_callv0 r rfl c0_n.at_.1 hc) rfl ?_
 rintro _ w4 ⟨v5, rfl, hb, hr6⟩
 refine ⟨_, rfl, fun fr r => ?_⟩
 have z_w4 := hb.size
 have h_b1 := keep hb h_b1
 obtain ⟨hB, zB⟩ := bon hb hB
 refine seq_upd (.cells v5.cells 158 (0, 0)) r (fun R => y_storep r hr6.shape rfl rfl h_b1 ts158 rfl) rfl fun fr w7 u8 r => ?_
 have z_w7 := u8.size
 have h_b1 := u8.at_
 obtain ⟨hB, zB⟩ := u8.on hB (by omega)
 refine wn ?_
 refine wp_ret ?_
 have hs := hr6.shape.cells
 refine ret_cell r rfl rfl h_b1 (k := 9) hs.1 ta158 ?_
 rw [← hs.2.2]
 exact RepRes.fin hB hr6 u8 (fun b hb => .inl hb) (fun h => by have := hF _ h; omega) (by omega) (by omega) (by omega)

def D.prog_Store_Grant (a0 : Int) (a1 : Int) (a2 : (Unit → T Grant)) : T Grant := (D.prog_Do_Grant (⟨1, a0, a1, 0⟩ : Access) (fun x => (D.prog_Store_Grant_1 a2 x)))

theorem c_prog_Store_Grant {n : Nat} {F : Nat → Prop} {w0 : World} (hF : ∀ b, F b → b < w0.heap.size)
    (a0 : Int) (a1 : Int) {a2_f : FuncId} {a2_1 a2_2 : List Value} {a2 : (Unit → T Grant)} (a2_n : FnT Tryz.prog encGrant unitE (n) F w0 (.func (.func a2_f) a2_1.toArray a2_2.toArray) a2) :
    Calls Tryz.prog 283 #[.int .i64 a0, .int .u64 a1, .func (.func a2_f) a2_1.toArray a2_2.toArray] w0 (RepRes Tryz.prog encGrant n (D.prog_Store_Grant a0 a1 a2) F w0) := by
 refine enter Tryz.func283 rfl 12 rfl rfl fun fr r => ?_
 have hB := Below.refl w0.heap.size w0
 refine wsr ?_
 refine seq_new (.cells #[.func (.func a2_f) a2_1.toArray a2_2.toArray] 293 (0, 0)) r (fun R => y_box r (v := (.func (.func a2_f) a2_1.toArray a2_2.toArray)) rfl) rfl fun fr b1 w2 n3 r => ?_
 obtain ⟨e_b1, z_w2, h_b1, hB, zB⟩ := n3.all hB
 refine seq_new (.cells (progCells false encGrant.zero 0 0 0 0 .nilFunc) 158 (0, 0)) r (fun R => y_alloc tz158) rfl fun fr b4 w5 n6 r => ?_
 have h_b1 := keep n6.below h_b1
 obtain ⟨e_b4, z_w5, h_b4, hB, zB⟩ := n6.all hB
 refine wn ?_
 refine wsr ?_
 refine seq_val (I a0) r (fun R => y_move r rfl) rfl fun fr r => ?_
 refine seq_val (U a1) r (fun R => y_move r rfl) rfl fun fr r => ?_
 refine seq_val (.agg (accessC (⟨1, a0, a1, 0⟩ : Access)).toArray) r (fun R => y_build r (by kernel_rfl)) rfl fun fr r => ?_
 refine seq_val (.func (.func 353) #[] #[.pointer (some ⟨b1, 0, none⟩)]) r (fun R => y_makeFunc r rfl) rfl fun fr r => ?_
 have hF1 := fgrow hF hB b4
 have f7 : ((fun b => F b ∨ (w0.heap.size ≤ b ∧ b < w5.heap.size ∧ b ≠ b4))) b1 := (.inr ⟨by omega, by omega, by omega⟩)
 refine seq_call r (c_prog_Do_Grant (F := (fun b => F b ∨ (w0.heap.size ≤ b ∧ b < w5.heap.size ∧ b ≠ b4))) (n := n) hF1 (⟨1, a0, a1, 0⟩ : Access) ⟨353, [], [.pointer (some ⟨b1, 0, none⟩)], cl353, rfl, fun m hm x w' hs hz => c_prog_Store_Grant_1 (fun b hb => Nat.lt_of_lt_of_le (hF1 b hb) hz) f7 (hs.at_ f7 h_b1) (a2_n.mono (by omega) (fun b h => .inl h) ((Same.below hB hF).trans (hs.sub (fun b h => .inl h))) (Nat.le_trans hB.size hz)) x⟩) (fun R hc => y_call r rfl cl286 hc) rfl ?_
 rintro _ w8 ⟨v9, rfl, hb, hr10⟩
 refine ⟨_, rfl, fun fr r => ?_⟩
 have z_w8 := hb.size
 have h_b1 := keep hb h_b1
 have h_b4 := keep hb h_b4
 obtain ⟨hB, zB⟩ := bon hb hB
 refine seq_upd (.cells v9.cells 158 (0, 0)) r (fun R => y_storep r hr10.shape rfl rfl h_b4 ts158 rfl) rfl fun fr w11 u12 r => ?_
 have z_w11 := u12.size
 have h_b1 := u12.keep h_b1 (by omega)
 have h_b4 := u12.at_
 obtain ⟨hB, zB⟩ := u12.on hB (by omega)
 refine wn ?_
 refine wp_ret ?_
 have hs := hr10.shape.cells
 refine ret_cell r rfl rfl h_b4 (k := 9) hs.1 ta158 ?_
 rw [← hs.2.2]
 exact rfin hF hB hr10 u12 (by omega) (by omega) (by omega)

def D.prog_Load_bool (a0 : Int) (a1 : (Int → T Bool)) : T Bool := (D.prog_Do_bool (⟨0, a0, 0, 0⟩ : Access) a1)

theorem c_prog_Load_bool {n : Nat} {F : Nat → Prop} {w0 : World} (hF : ∀ b, F b → b < w0.heap.size)
    (a0 : Int) {a1_f : FuncId} {a1_1 a1_2 : List Value} {a1 : (Int → T Bool)} (a1_n : FnT Tryz.prog encBool u64 (n) F w0 (.func (.func a1_f) a1_1.toArray a1_2.toArray) a1) :
    Calls Tryz.prog 414 #[.int .i64 a0, .func (.func a1_f) a1_1.toArray a1_2.toArray] w0 (RepRes Tryz.prog encBool n (D.prog_Load_bool a0 a1) F w0) := by
 refine enter Tryz.func414 rfl 9 rfl rfl fun fr r => ?_
 have hB := Below.refl w0.heap.size w0
 refine wsr ?_
 refine seq_new (.cells (progCells false encBool.zero 0 0 0 0 .nilFunc) 324 (0, 0)) r (fun R => y_alloc tz324) rfl fun fr b1 w2 n3 r => ?_
 obtain ⟨e_b1, z_w2, h_b1, hB, zB⟩ := n3.all hB
 refine wn ?_
 refine wsr ?_
 refine seq_val (I a0) r (fun R => y_move r rfl) rfl fun fr r => ?_
 refine seq_val (.agg (accessC (⟨0, a0, 0, 0⟩ : Access)).toArray) r (fun R => y_build r (by kernel_rfl)) rfl fun fr r => ?_
 refine seq_val (.func (.func a1_f) a1_1.toArray a1_2.toArray) r (fun R => y_move r rfl) rfl fun fr r => ?_
 have hF1 := fgrow hF hB b1
 refine seq_call r (c_prog_Do_bool (F := (fun b => F b ∨ (w0.heap.size ≤ b ∧ b < w2.heap.size ∧ b ≠ b1))) (n := n) hF1 (⟨0, a0, 0, 0⟩ : Access) (a1_n.mono (by omega) (fun b h => .inl h) (Same.below hB hF) hB.size)) (fun R hc => y_call r rfl cl423 hc) rfl ?_
 rintro _ w4 ⟨v5, rfl, hb, hr6⟩
 refine ⟨_, rfl, fun fr r => ?_⟩
 have z_w4 := hb.size
 have h_b1 := keep hb h_b1
 obtain ⟨hB, zB⟩ := bon hb hB
 refine seq_upd (.cells v5.cells 324 (0, 0)) r (fun R => y_storep r hr6.shape rfl rfl h_b1 ts324 rfl) rfl fun fr w7 u8 r => ?_
 have z_w7 := u8.size
 have h_b1 := u8.at_
 obtain ⟨hB, zB⟩ := u8.on hB (by omega)
 refine wn ?_
 refine wp_ret ?_
 have hs := hr6.shape.cells
 refine ret_cell r rfl rfl h_b1 (k := 7) hs.1 ta324 ?_
 rw [← hs.2.2]
 exact rfin hF hB hr6 u8 (by omega) (by omega) (by omega)

def D.prog_Store_int_1 (c0 : (Unit → T Int)) (a0 : Int) : T Int := (c0 ())

theorem c_prog_Store_int_1 {n : Nat} {F : Nat → Prop} {w0 : World} (hF : ∀ b, F b → b < w0.heap.size)
    {c0_f : FuncId} {c0_1 c0_2 : List Value} {c0 : (Unit → T Int)} {c0_b : Nat} (c0_F : F c0_b) (c0_h : w0.heap[c0_b]? = some (.cells #[.func (.func c0_f) c0_1.toArray c0_2.toArray] 257 (0, 0))) (c0_n : FnT Tryz.prog encInt unitE (n + 1) F w0 (.func (.func c0_f) c0_1.toArray c0_2.toArray) c0) (a0 : Int) :
    Calls Tryz.prog 298 #[.int .u64 a0, .pointer (some ⟨c0_b, 0, none⟩)] w0 (RepRes Tryz.prog encInt n (D.prog_Store_int_1 c0 a0) F w0) := by
 refine enter Tryz.func298 rfl 6 rfl rfl fun fr r => ?_
 have hB := Below.refl w0.heap.size w0
 have l_c0_b := lt_of_block c0_h
 refine wsr ?_
 refine seq_new (.cells (progCells false encInt.zero 0 0 0 0 .nilFunc) 167 (0, 0)) r (fun R => y_alloc tz167) rfl fun fr b1 w2 n3 r => ?_
 obtain ⟨e_b1, z_w2, h_b1, hB, zB⟩ := n3.all hB
 refine wn ?_
 refine wsr ?_
 refine seq_val (.func (.func c0_f) c0_1.toArray c0_2.toArray) r (fun R => y_load_one r rfl (keep hB c0_h) to257 rfl) rfl fun fr r => ?_
 refine seq_call r (c0_n.at_.2 n (Nat.lt_succ_self n) () w2 (Same.below hB hF) hB.size) (fun R hc => y_callv0 r rfl c0_n.at_.1 hc) rfl ?_
 rintro _ w4 ⟨v5, rfl, hb, hr6⟩
 refine ⟨_, rfl, fun fr r => ?_⟩
 have z_w4 := hb.size
 have h_b1 := keep hb h_b1
 obtain ⟨hB, zB⟩ := bon hb hB
 refine seq_upd (.cells v5.cells 167 (0, 0)) r (fun R => y_storep r hr6.shape rfl rfl h_b1 ts167 rfl) rfl fun fr w7 u8 r => ?_
 have z_w7 := u8.size
 have h_b1 := u8.at_
 obtain ⟨hB, zB⟩ := u8.on hB (by omega)
 refine wn ?_
 refine wp_ret ?_
 have hs := hr6.shape.cells
 refine ret_cell r rfl rfl h_b1 (k := 7) hs.1 ta167 ?_
 rw [← hs.2.2]
 exact RepRes.fin hB hr6 u8 (fun b hb => .inl hb) (fun h => by have := hF _ h; omega) (by omega) (by omega) (by omega)

def D.prog_Store_int (a0 : Int) (a1 : Int) (a2 : (Unit → T Int)) : T Int := (D.prog_Do_int (⟨1, a0, a1, 0⟩ : Access) (fun x => (D.prog_Store_int_1 a2 x)))

theorem c_prog_Store_int {n : Nat} {F : Nat → Prop} {w0 : World} (hF : ∀ b, F b → b < w0.heap.size)
    (a0 : Int) (a1 : Int) {a2_f : FuncId} {a2_1 a2_2 : List Value} {a2 : (Unit → T Int)} (a2_n : FnT Tryz.prog encInt unitE (n) F w0 (.func (.func a2_f) a2_1.toArray a2_2.toArray) a2) :
    Calls Tryz.prog 200 #[.int .i64 a0, .int .u64 a1, .func (.func a2_f) a2_1.toArray a2_2.toArray] w0 (RepRes Tryz.prog encInt n (D.prog_Store_int a0 a1 a2) F w0) := by
 refine enter Tryz.func200 rfl 12 rfl rfl fun fr r => ?_
 have hB := Below.refl w0.heap.size w0
 refine wsr ?_
 refine seq_new (.cells #[.func (.func a2_f) a2_1.toArray a2_2.toArray] 257 (0, 0)) r (fun R => y_box r (v := (.func (.func a2_f) a2_1.toArray a2_2.toArray)) rfl) rfl fun fr b1 w2 n3 r => ?_
 obtain ⟨e_b1, z_w2, h_b1, hB, zB⟩ := n3.all hB
 refine seq_new (.cells (progCells false encInt.zero 0 0 0 0 .nilFunc) 167 (0, 0)) r (fun R => y_alloc tz167) rfl fun fr b4 w5 n6 r => ?_
 have h_b1 := keep n6.below h_b1
 obtain ⟨e_b4, z_w5, h_b4, hB, zB⟩ := n6.all hB
 refine wn ?_
 refine wsr ?_
 refine seq_val (I a0) r (fun R => y_move r rfl) rfl fun fr r => ?_
 refine seq_val (U a1) r (fun R => y_move r rfl) rfl fun fr r => ?_
 refine seq_val (.agg (accessC (⟨1, a0, a1, 0⟩ : Access)).toArray) r (fun R => y_build r (by kernel_rfl)) rfl fun fr r => ?_
 refine seq_val (.func (.func 298) #[] #[.pointer (some ⟨b1, 0, none⟩)]) r (fun R => y_makeFunc r rfl) rfl fun fr r => ?_
 have hF1 := fgrow hF hB b4
 have f7 : ((fun b => F b ∨ (w0.heap.size ≤ b ∧ b < w5.heap.size ∧ b ≠ b4))) b1 := (.inr ⟨by omega, by omega, by omega⟩)
 refine seq_call r (c_prog_Do_int (F := (fun b => F b ∨ (w0.heap.size ≤ b ∧ b < w5.heap.size ∧ b ≠ b4))) (n := n) hF1 (⟨1, a0, a1, 0⟩ : Access) ⟨298, [], [.pointer (some ⟨b1, 0, none⟩)], cl298, rfl, fun m hm x w' hs hz => c_prog_Store_int_1 (fun b hb => Nat.lt_of_lt_of_le (hF1 b hb) hz) f7 (hs.at_ f7 h_b1) (a2_n.mono (by omega) (fun b h => .inl h) ((Same.below hB hF).trans (hs.sub (fun b h => .inl h))) (Nat.le_trans hB.size hz)) x⟩) (fun R hc => y_call r rfl cl297 hc) rfl ?_
 rintro _ w8 ⟨v9, rfl, hb, hr10⟩
 refine ⟨_, rfl, fun fr r => ?_⟩
 have z_w8 := hb.size
 have h_b1 := keep hb h_b1
 have h_b4 := keep hb h_b4
 obtain ⟨hB, zB⟩ := bon hb hB
 refine seq_upd (.cells v9.cells 167 (0, 0)) r (fun R => y_storep r hr10.shape rfl rfl h_b4 ts167 rfl) rfl fun fr w11 u12 r => ?_
 have z_w11 := u12.size
 have h_b1 := u12.keep h_b1 (by omega)
 have h_b4 := u12.at_
 obtain ⟨hB, zB⟩ := u12.on hB (by omega)
 refine wn ?_
 refine wp_ret ?_
 have hs := hr10.shape.cells
 refine ret_cell r rfl rfl h_b4 (k := 7) hs.1 ta167 ?_
 rw [← hs.2.2]
 exact rfin hF hB hr10 u12 (by omega) (by omega) (by omega)

def D.prog_Load_Res (a0 : Int) (a1 : (Int → T Res)) : T Res := (D.prog_Do_Res (⟨0, a0, 0, 0⟩ : Access) a1)

theorem c_prog_Load_Res {n : Nat} {F : Nat → Prop} {w0 : World} (hF : ∀ b, F b → b < w0.heap.size)
    (a0 : Int) {a1_f : FuncId} {a1_1 a1_2 : List Value} {a1 : (Int → T Res)} (a1_n : FnT Tryz.prog encRes u64 (n) F w0 (.func (.func a1_f) a1_1.toArray a1_2.toArray) a1) :
    Calls Tryz.prog 123 #[.int .i64 a0, .func (.func a1_f) a1_1.toArray a1_2.toArray] w0 (RepRes Tryz.prog encRes n (D.prog_Load_Res a0 a1) F w0) := by
 refine enter Tryz.func123 rfl 9 rfl rfl fun fr r => ?_
 have hB := Below.refl w0.heap.size w0
 refine wsr ?_
 refine seq_new (.cells (progCells false encRes.zero 0 0 0 0 .nilFunc) 39 (0, 0)) r (fun R => y_alloc tz39) rfl fun fr b1 w2 n3 r => ?_
 obtain ⟨e_b1, z_w2, h_b1, hB, zB⟩ := n3.all hB
 refine wn ?_
 refine wsr ?_
 refine seq_val (I a0) r (fun R => y_move r rfl) rfl fun fr r => ?_
 refine seq_val (.agg (accessC (⟨0, a0, 0, 0⟩ : Access)).toArray) r (fun R => y_build r (by kernel_rfl)) rfl fun fr r => ?_
 refine seq_val (.func (.func a1_f) a1_1.toArray a1_2.toArray) r (fun R => y_move r rfl) rfl fun fr r => ?_
 have hF1 := fgrow hF hB b1
 refine seq_call r (c_prog_Do_Res (F := (fun b => F b ∨ (w0.heap.size ≤ b ∧ b < w2.heap.size ∧ b ≠ b1))) (n := n) hF1 (⟨0, a0, 0, 0⟩ : Access) (a1_n.mono (by omega) (fun b h => .inl h) (Same.below hB hF) hB.size)) (fun R hc => y_call r rfl cl212 hc) rfl ?_
 rintro _ w4 ⟨v5, rfl, hb, hr6⟩
 refine ⟨_, rfl, fun fr r => ?_⟩
 have z_w4 := hb.size
 have h_b1 := keep hb h_b1
 obtain ⟨hB, zB⟩ := bon hb hB
 refine seq_upd (.cells v5.cells 39 (0, 0)) r (fun R => y_storep r hr6.shape rfl rfl h_b1 ts39 rfl) rfl fun fr w7 u8 r => ?_
 have z_w7 := u8.size
 have h_b1 := u8.at_
 obtain ⟨hB, zB⟩ := u8.on hB (by omega)
 refine wn ?_
 refine wp_ret ?_
 have hs := hr6.shape.cells
 refine ret_cell r rfl rfl h_b1 (k := 8) hs.1 ta39 ?_
 rw [← hs.2.2]
 exact rfin hF hB hr6 u8 (by omega) (by omega) (by omega)

def D.prog_Store_Res_1 (c0 : (Unit → T Res)) (a0 : Int) : T Res := (c0 ())

theorem c_prog_Store_Res_1 {n : Nat} {F : Nat → Prop} {w0 : World} (hF : ∀ b, F b → b < w0.heap.size)
    {c0_f : FuncId} {c0_1 c0_2 : List Value} {c0 : (Unit → T Res)} {c0_b : Nat} (c0_F : F c0_b) (c0_h : w0.heap[c0_b]? = some (.cells #[.func (.func c0_f) c0_1.toArray c0_2.toArray] 197 (0, 0))) (c0_n : FnT Tryz.prog encRes unitE (n + 1) F w0 (.func (.func c0_f) c0_1.toArray c0_2.toArray) c0) (a0 : Int) :
    Calls Tryz.prog 224 #[.int .u64 a0, .pointer (some ⟨c0_b, 0, none⟩)] w0 (RepRes Tryz.prog encRes n (D.prog_Store_Res_1 c0 a0) F w0) := by
 refine enter Tryz.func224 rfl 6 rfl rfl fun fr r => ?_
 have hB := Below.refl w0.heap.size w0
 have l_c0_b := lt_of_block c0_h
 refine wsr ?_
 refine seq_new (.cells (progCells false encRes.zero 0 0 0 0 .nilFunc) 39 (0, 0)) r (fun R => y_alloc tz39) rfl fun fr b1 w2 n3 r => ?_
 obtain ⟨e_b1, z_w2, h_b1, hB, zB⟩ := n3.all hB
 refine wn ?_
 refine wsr ?_
 refine seq_val (.func (.func c0_f) c0_1.toArray c0_2.toArray) r (fun R => y_load_one r rfl (keep hB c0_h) to197 rfl) rfl fun fr r => ?_
 refine seq_call r (c0_n.at_.2 n (Nat.lt_succ_self n) () w2 (Same.below hB hF) hB.size) (fun R hc => y_callv0 r rfl c0_n.at_.1 hc) rfl ?_
 rintro _ w4 ⟨v5, rfl, hb, hr6⟩
 refine ⟨_, rfl, fun fr r => ?_⟩
 have z_w4 := hb.size
 have h_b1 := keep hb h_b1
 obtain ⟨hB, zB⟩ := bon hb hB
 refine seq_upd (.cells v5.cells 39 (0, 0)) r (fun R => y_storep r hr6.shape rfl rfl h_b1 ts39 rfl) rfl fun fr w7 u8 r => ?_
 have z_w7 := u8.size
 have h_b1 := u8.at_
 obtain ⟨hB, zB⟩ := u8.on hB (by omega)
 refine wn ?_
 refine wp_ret ?_
 have hs := hr6.shape.cells
 refine ret_cell r rfl rfl h_b1 (k := 8) hs.1 ta39 ?_
 rw [← hs.2.2]
 exact RepRes.fin hB hr6 u8 (fun b hb => .inl hb) (fun h => by have := hF _ h; omega) (by omega) (by omega) (by omega)

def D.prog_Store_Res (a0 : Int) (a1 : Int) (a2 : (Unit → T Res)) : T Res := (D.prog_Do_Res (⟨1, a0, a1, 0⟩ : Access) (fun x => (D.prog_Store_Res_1 a2 x)))

theorem c_prog_Store_Res {n : Nat} {F : Nat → Prop} {w0 : World} (hF : ∀ b, F b → b < w0.heap.size)
    (a0 : Int) (a1 : Int) {a2_f : FuncId} {a2_1 a2_2 : List Value} {a2 : (Unit → T Res)} (a2_n : FnT Tryz.prog encRes unitE (n) F w0 (.func (.func a2_f) a2_1.toArray a2_2.toArray) a2) :
    Calls Tryz.prog 120 #[.int .i64 a0, .int .u64 a1, .func (.func a2_f) a2_1.toArray a2_2.toArray] w0 (RepRes Tryz.prog encRes n (D.prog_Store_Res a0 a1 a2) F w0) := by
 refine enter Tryz.func120 rfl 12 rfl rfl fun fr r => ?_
 have hB := Below.refl w0.heap.size w0
 refine wsr ?_
 refine seq_new (.cells #[.func (.func a2_f) a2_1.toArray a2_2.toArray] 197 (0, 0)) r (fun R => y_box r (v := (.func (.func a2_f) a2_1.toArray a2_2.toArray)) rfl) rfl fun fr b1 w2 n3 r => ?_
 obtain ⟨e_b1, z_w2, h_b1, hB, zB⟩ := n3.all hB
 refine seq_new (.cells (progCells false encRes.zero 0 0 0 0 .nilFunc) 39 (0, 0)) r (fun R => y_alloc tz39) rfl fun fr b4 w5 n6 r => ?_
 have h_b1 := keep n6.below h_b1
 obtain ⟨e_b4, z_w5, h_b4, hB, zB⟩ := n6.all hB
 refine wn ?_
 refine wsr ?_
 refine seq_val (I a0) r (fun R => y_move r rfl) rfl fun fr r => ?_
 refine seq_val (U a1) r (fun R => y_move r rfl) rfl fun fr r => ?_
 refine seq_val (.agg (accessC (⟨1, a0, a1, 0⟩ : Access)).toArray) r (fun R => y_build r (by kernel_rfl)) rfl fun fr r => ?_
 refine seq_val (.func (.func 224) #[] #[.pointer (some ⟨b1, 0, none⟩)]) r (fun R => y_makeFunc r rfl) rfl fun fr r => ?_
 have hF1 := fgrow hF hB b4
 have f7 : ((fun b => F b ∨ (w0.heap.size ≤ b ∧ b < w5.heap.size ∧ b ≠ b4))) b1 := (.inr ⟨by omega, by omega, by omega⟩)
 refine seq_call r (c_prog_Do_Res (F := (fun b => F b ∨ (w0.heap.size ≤ b ∧ b < w5.heap.size ∧ b ≠ b4))) (n := n) hF1 (⟨1, a0, a1, 0⟩ : Access) ⟨224, [], [.pointer (some ⟨b1, 0, none⟩)], cl224, rfl, fun m hm x w' hs hz => c_prog_Store_Res_1 (fun b hb => Nat.lt_of_lt_of_le (hF1 b hb) hz) f7 (hs.at_ f7 h_b1) (a2_n.mono (by omega) (fun b h => .inl h) ((Same.below hB hF).trans (hs.sub (fun b h => .inl h))) (Nat.le_trans hB.size hz)) x⟩) (fun R hc => y_call r rfl cl212 hc) rfl ?_
 rintro _ w8 ⟨v9, rfl, hb, hr10⟩
 refine ⟨_, rfl, fun fr r => ?_⟩
 have z_w8 := hb.size
 have h_b1 := keep hb h_b1
 have h_b4 := keep hb h_b4
 obtain ⟨hB, zB⟩ := bon hb hB
 refine seq_upd (.cells v9.cells 39 (0, 0)) r (fun R => y_storep r hr10.shape rfl rfl h_b4 ts39 rfl) rfl fun fr w11 u12 r => ?_
 have z_w11 := u12.size
 have h_b1 := u12.keep h_b1 (by omega)
 have h_b4 := u12.at_
 obtain ⟨hB, zB⟩ := u12.on hB (by omega)
 refine wn ?_
 refine wp_ret ?_
 have hs := hr10.shape.cells
 refine ret_cell r rfl rfl h_b4 (k := 8) hs.1 ta39 ?_
 rw [← hs.2.2]
 exact rfin hF hB hr10 u12 (by omega) (by omega) (by omega)

def D.prog_Swap_Res_1 (c0 : (Bool → T Res)) (c1 : Int) (a0 : Int) : T Res := (c0 (a0 == c1))

theorem c_prog_Swap_Res_1 {n : Nat} {F : Nat → Prop} {w0 : World} (hF : ∀ b, F b → b < w0.heap.size)
    {c0_f : FuncId} {c0_1 c0_2 : List Value} {c0 : (Bool → T Res)} {c0_b : Nat} (c0_F : F c0_b) (c0_h : w0.heap[c0_b]? = some (.cells #[.func (.func c0_f) c0_1.toArray c0_2.toArray] 200 (0, 0))) (c0_n : FnT Tryz.prog encRes boolE (n + 1) F w0 (.func (.func c0_f) c0_1.toArray c0_2.toArray) c0) (c1 : Int) {c1_b : Nat} (c1_F : F c1_b) (c1_h : w0.heap[c1_b]? = some (.cells ([(.int .u64 c1)]).toArray 22 (0, 0))) (a0 : Int) :
    Calls Tryz.prog 225 #[.int .u64 a0, .pointer (some ⟨c0_b, 0, none⟩), .pointer (some ⟨c1_b, 0, none⟩)] w0 (RepRes Tryz.prog encRes n (D.prog_Swap_Res_1 c0 c1 a0) F w0) := by
 refine enter Tryz.func225 rfl 10 rfl rfl fun fr r => ?_
 have hB := Below.refl w0.heap.size w0
 have l_c0_b := lt_of_block c0_h
 have l_c1_b := lt_of_block c1_h
 refine wsr ?_
 refine seq_new (.cells (progCells false encRes.zero 0 0 0 0 .nilFunc) 39 (0, 0)) r (fun R => y_alloc tz39) rfl fun fr b1 w2 n3 r => ?_
 obtain ⟨e_b1, z_w2, h_b1, hB, zB⟩ := n3.all hB
 refine wn ?_
 refine wsr ?_
 refine seq_val (.func (.func c0_f) c0_1.toArray c0_2.toArray) r (fun R => y_load_one r rfl (keep hB c0_h) to200 rfl) rfl fun fr r => ?_
 refine seq_val (U a0) r (fun R => y_move r rfl) rfl fun fr r => ?_
 refine seq_val (U c1) r (fun R => y_load_one r rfl (keep hB c1_h) to22 rfl) rfl fun fr r => ?_
 refine seq_val _ r (fun R => y_bin r rfl rfl rfl rfl) rfl fun fr r => ?_
 refine seq_call r (c0_n.at_.2 n (Nat.lt_succ_self n) (a0 == c1) w2 (Same.below hB hF) hB.size) (fun R hc => y_callv1 r rfl rfl c0_n.at_.1 hc) rfl ?_
 rintro _ w4 ⟨v5, rfl, hb, hr6⟩
 refine ⟨_, rfl, fun fr r => ?_⟩
 have z_w4 := hb.size
 have h_b1 := keep hb h_b1
 obtain ⟨hB, zB⟩ := bon hb hB
 refine seq_upd (.cells v5.cells 39 (0, 0)) r (fun R => y_storep r hr6.shape rfl rfl h_b1 ts39 rfl) rfl fun fr w7 u8 r => ?_
 have z_w7 := u8.size
 have h_b1 := u8.at_
 obtain ⟨hB, zB⟩ := u8.on hB (by omega)
 refine wn ?_
 refine wp_ret ?_
 have hs := hr6.shape.cells
 refine ret_cell r rfl rfl h_b1 (k := 8) hs.1 ta39 ?_
 rw [← hs.2.2]
 exact RepRes.fin hB hr6 u8 (fun b hb => .inl hb) (fun h => by have := hF _ h; omega) (by omega) (by omega) (by omega)

def D.prog_Swap_Res (a0 : Int) (a1 : Int) (a2 : Int) (a3 : (Bool → T Res)) : T Res := (D.prog_Do_Res (⟨2, a0, a1, a2⟩ : Access) (fun x => (D.prog_Swap_Res_1 a3 a1 x)))

theorem c_prog_Swap_Res {n : Nat} {F : Nat → Prop} {w0 : World} (hF : ∀ b, F b → b < w0.heap.size)
    (a0 : Int) (a1 : Int) (a2 : Int) {a3_f : FuncId} {a3_1 a3_2 : List Value} {a3 : (Bool → T Res)} (a3_n : FnT Tryz.prog encRes boolE (n) F w0 (.func (.func a3_f) a3_1.toArray a3_2.toArray) a3) :
    Calls Tryz.prog 125 #[.int .i64 a0, .int .u64 a1, .int .u64 a2, .func (.func a3_f) a3_1.toArray a3_2.toArray] w0 (RepRes Tryz.prog encRes n (D.prog_Swap_Res a0 a1 a2 a3) F w0) := by
 refine enter Tryz.func125 rfl 15 rfl rfl fun fr r => ?_
 have hB := Below.refl w0.heap.size w0
 refine wsr ?_
 refine seq_new (.cells #[(U a1)] 22 (0, 0)) r (fun R => y_box r (v := (U a1)) rfl) rfl fun fr b1 w2 n3 r => ?_
 obtain ⟨e_b1, z_w2, h_b1, hB, zB⟩ := n3.all hB
 refine seq_new (.cells #[.func (.func a3_f) a3_1.toArray a3_2.toArray] 200 (0, 0)) r (fun R => y_box r (v := (.func (.func a3_f) a3_1.toArray a3_2.toArray)) rfl) rfl fun fr b4 w5 n6 r => ?_
 have h_b1 := keep n6.below h_b1
 obtain ⟨e_b4, z_w5, h_b4, hB, zB⟩ := n6.all hB
 refine seq_new (.cells (progCells false encRes.zero 0 0 0 0 .nilFunc) 39 (0, 0)) r (fun R => y_alloc tz39) rfl fun fr b7 w8 n9 r => ?_
 have h_b1 := keep n9.below h_b1
 have h_b4 := keep n9.below h_b4
 obtain ⟨e_b7, z_w8, h_b7, hB, zB⟩ := n9.all hB
 refine wn ?_
 refine wsr ?_
 refine seq_val (I a0) r (fun R => y_move r rfl) rfl fun fr r => ?_
 refine seq_val (U a1) r (fun R => y_load_one r rfl h_b1 to22 rfl) rfl fun fr r => ?_
 refine seq_val (U a2) r (fun R => y_move r rfl) rfl fun fr r => ?_
 refine seq_val (.agg (accessC (⟨2, a0, a1, a2⟩ : Access)).toArray) r (fun R => y_build r (by kernel_rfl)) rfl fun fr r => ?_
 refine seq_val (.func (.func 225) #[] #[.pointer (some ⟨b4, 0, none⟩), .pointer (some ⟨b1, 0, none⟩)]) r (fun R => y_makeFunc r rfl) rfl fun fr r => ?_
 have hF1 := fgrow hF hB b7
 have f10 : ((fun b => F b ∨ (w0.heap.size ≤ b ∧ b < w8.heap.size ∧ b ≠ b7))) b4 := (.inr ⟨by omega, by omega, by omega⟩)
 have f11 : ((fun b => F b ∨ (w0.heap.size ≤ b ∧ b < w8.heap.size ∧ b ≠ b7))) b1 := (.inr ⟨by omega, by omega, by omega⟩)
 refine seq_call r (c_prog_Do_Res (F := (fun b => F b ∨ (w0.heap.size ≤ b ∧ b < w8.heap.size ∧ b ≠ b7))) (n := n) hF1 (⟨2, a0, a1, a2⟩ : Access) ⟨225, [], [.pointer (some ⟨b4, 0, none⟩), .pointer (some ⟨b1, 0, none⟩)], cl225, rfl, fun m hm x w' hs hz => c_prog_Swap_Res_1 (fun b hb => Nat.lt_of_lt_of_le (hF1 b hb) hz) f10 (hs.at_ f10 h_b4) (a3_n.mono (by omega) (fun b h => .inl h) ((Same.below hB hF).trans (hs.sub (fun b h => .inl h))) (Nat.le_trans hB.size hz)) a1 f11 (hs.at_ f11 h_b1) x⟩) (fun R hc => y_call r rfl cl212 hc) rfl ?_
 rintro _ w12 ⟨v13, rfl, hb, hr14⟩
 refine ⟨_, rfl, fun fr r => ?_⟩
 have z_w12 := hb.size
 have h_b1 := keep hb h_b1
 have h_b4 := keep hb h_b4
 have h_b7 := keep hb h_b7
 obtain ⟨hB, zB⟩ := bon hb hB
 refine seq_upd (.cells v13.cells 39 (0, 0)) r (fun R => y_storep r hr14.shape rfl rfl h_b7 ts39 rfl) rfl fun fr w15 u16 r => ?_
 have z_w15 := u16.size
 have h_b1 := u16.keep h_b1 (by omega)
 have h_b4 := u16.keep h_b4 (by omega)
 have h_b7 := u16.at_
 obtain ⟨hB, zB⟩ := u16.on hB (by omega)
 refine wn ?_
 refine wp_ret ?_
 have hs := hr14.shape.cells
 refine ret_cell r rfl rfl h_b7 (k := 8) hs.1 ta39 ?_
 rw [← hs.2.2]
 exact rfin hF hB hr14 u16 (by omega) (by omega) (by omega)

end Go.Proofs.YtjkinpbfmihhdaaGreat
