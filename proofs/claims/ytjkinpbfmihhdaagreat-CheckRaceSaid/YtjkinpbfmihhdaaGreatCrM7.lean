/- Some of our texts, one behind the other. -/
import Derived.Test.YtjkinpbfmihhdaaGreatCrThens
import Derived.Test.YtjkinpbfmihhdaaGreatCrM3
set_option linter.all false
/- Written by a program of ours (wip/gen.py): programs of one access -/
set_option linter.unusedVariables false
set_option maxRecDepth 20000
set_option maxHeartbeats 2000000
namespace Go.Proofs.YtjkinpbfmihhdaaGreat
open Go.RowKit
theorem cl225 : callable Tryz.prog 225 = true := by kernel_rfl

theorem cl298 : callable Tryz.prog 298 = true := by kernel_rfl

theorem cl317 : callable Tryz.prog 317 = true := by kernel_rfl

theorem cl353 : callable Tryz.prog 353 = true := by kernel_rfl

theorem cl354 : callable Tryz.prog 354 = true := by kernel_rfl

theorem cl366 : callable Tryz.prog 366 = true := by kernel_rfl

theorem cl367 : callable Tryz.prog 367 = true := by kernel_rfl

theorem cl369 : callable Tryz.prog 369 = true := by kernel_rfl

theorem cl423 : callable Tryz.prog 423 = true := by kernel_rfl

theorem to200 : tyO Tryz.prog 200 = true := by kernel_rfl

theorem to257 : tyO Tryz.prog 257 = true := by kernel_rfl

theorem to293 : tyO Tryz.prog 293 = true := by kernel_rfl

theorem to310 : tyO Tryz.prog 310 = true := by kernel_rfl

def D.prog_Store_None_1 (c0 : (Unit → T Unit)) (a0 : Int) : T Unit := (c0 ())

theorem c_prog_Store_None_1 {n : Nat} {F : Nat → Prop} {w0 : World} (hF : ∀ b, F b → b < w0.heap.size)
    {c0_f : FuncId} {c0_1 c0_2 : List Value} {c0 : (Unit → T Unit)} {c0_b : Nat} (c0_F : F c0_b) (c0_h : w0.heap[c0_b]? = some (.cells #[.func (.func c0_f) c0_1.toArray c0_2.toArray] 310 (0, 0))) (c0_n : FnT Tryz.prog encNone unitE (n + 1) F w0 (.func (.func c0_f) c0_1.toArray c0_2.toArray) c0) (a0 : Int) :
    Calls Tryz.prog 369 #[.int .u64 a0, .pointer (some ⟨c0_b, 0, none⟩)] w0 (RepRes Tryz.prog encNone n (D.prog_Store_None_1 c0 a0) F w0) := by
 refine enter Tryz.func369 rfl 6 rfl rfl fun fr r => ?_
 have hB := Below.refl w0.heap.size w0
 have l_c0_b := lt_of_block c0_h
 refine wsr ?_
 refine seq_new (.cells (progCells false encNone.zero 0 0 0 0 .nilFunc) 186 (0, 0)) r (fun R => y_alloc tz186) rfl fun fr b1 w2 n3 r => ?_
 obtain ⟨e_b1, z_w2, h_b1, hB, zB⟩ := n3.all hB
 refine wn ?_
 refine wsr ?_
 refine seq_val (.func (.func c0_f) c0_1.toArray c0_2.toArray) r (fun R => zz01 r rfl (keep hB c0_h) to310 rfl) rfl fun fr r => ?_
 refine zz06 r (c0_n.at_.2 n (Nat.lt_succ_self n) () w2 (Same.below hB hF) hB.size) (fun R hc => y_callv0 r rfl c0_n.at_.1 hc) rfl ?_
 rintro _ w4 ⟨v5, rfl, hb, hr6⟩
 refine ⟨_, rfl, fun fr r => ?_⟩
 have z_w4 := hb.size
 have h_b1 := keep hb h_b1
 obtain ⟨hB, zB⟩ := bon hb hB
 refine seq_upd (.cells v5.cells 186 (0, 0)) r (fun R => zz0c r hr6.shape rfl rfl h_b1 ts186 rfl) rfl fun fr w7 u8 r => ?_
 have z_w7 := u8.size
 have h_b1 := u8.at_
 obtain ⟨hB, zB⟩ := u8.on hB (by omega)
 refine wn ?_
 refine wp_ret ?_
 have hs := hr6.shape.cells
 refine zz0a r rfl rfl h_b1 (k := 6) hs.1 ta186 ?_
 rw [← hs.2.2]
 exact RepRes.fin hB hr6 u8 (fun b hb => .inl hb) (fun h => by have := hF _ h; omega) (by omega) (by omega) (by omega)

def D.zz4s (a0 : Int) (a1 : Int) (a2 : (Unit → T Unit)) : T Unit := (D.prog_Do_None (⟨1, a0, a1, 0⟩ : Access) (fun x => (D.prog_Store_None_1 a2 x)))

theorem c_prog_Store_None {n : Nat} {F : Nat → Prop} {w0 : World} (hF : ∀ b, F b → b < w0.heap.size)
    (a0 : Int) (a1 : Int) {a2_f : FuncId} {a2_1 a2_2 : List Value} {a2 : (Unit → T Unit)} (a2_n : FnT Tryz.prog encNone unitE (n) F w0 (.func (.func a2_f) a2_1.toArray a2_2.toArray) a2) :
    Calls Tryz.prog 317 #[.int .i64 a0, .int .u64 a1, .func (.func a2_f) a2_1.toArray a2_2.toArray] w0 (RepRes Tryz.prog encNone n (D.zz4s a0 a1 a2) F w0) := by
 refine enter Tryz.func317 rfl 12 rfl rfl fun fr r => ?_
 have hB := Below.refl w0.heap.size w0
 refine wsr ?_
 refine seq_new (.cells #[.func (.func a2_f) a2_1.toArray a2_2.toArray] 310 (0, 0)) r (fun R => y_box r (v := (.func (.func a2_f) a2_1.toArray a2_2.toArray)) rfl) rfl fun fr b1 w2 n3 r => ?_
 obtain ⟨e_b1, z_w2, h_b1, hB, zB⟩ := n3.all hB
 refine seq_new (.cells (progCells false encNone.zero 0 0 0 0 .nilFunc) 186 (0, 0)) r (fun R => y_alloc tz186) rfl fun fr b4 w5 n6 r => ?_
 have h_b1 := keep n6.below h_b1
 obtain ⟨e_b4, z_w5, h_b4, hB, zB⟩ := n6.all hB
 refine wn ?_
 refine wsr ?_
 refine seq_val (I a0) r (fun R => y_move r rfl) rfl fun fr r => ?_
 refine seq_val (U a1) r (fun R => y_move r rfl) rfl fun fr r => ?_
 refine seq_val (.agg (accessC (⟨1, a0, a1, 0⟩ : Access)).toArray) r (fun R => y_build r (by kernel_rfl)) rfl fun fr r => ?_
 refine seq_val (.func (.func 369) #[] #[.pointer (some ⟨b1, 0, none⟩)]) r (fun R => zz0o r rfl) rfl fun fr r => ?_
 have hF1 := fgrow hF hB b4
 have f7 : ((fun b => F b ∨ (w0.heap.size ≤ b ∧ b < w5.heap.size ∧ b ≠ b4))) b1 := (.inr ⟨by omega, by omega, by omega⟩)
 refine zz06 r (c_prog_Do_None (F := (fun b => F b ∨ (w0.heap.size ≤ b ∧ b < w5.heap.size ∧ b ≠ b4))) (n := n) hF1 (⟨1, a0, a1, 0⟩ : Access) ⟨369, [], [.pointer (some ⟨b1, 0, none⟩)], cl369, rfl, fun m hm x w' hs hz => c_prog_Store_None_1 (fun b hb => Nat.lt_of_lt_of_le (hF1 b hb) hz) f7 (hs.at_ f7 h_b1) (a2_n.mono (by omega) (fun b h => .inl h) ((Same.below hB hF).trans (hs.sub (fun b h => .inl h))) (Nat.le_trans hB.size hz)) x⟩) (fun R hc => y_call r rfl cl368 hc) rfl ?_
 rintro _ w8 ⟨v9, rfl, hb, hr10⟩
 refine ⟨_, rfl, fun fr r => ?_⟩
 have z_w8 := hb.size
 have h_b1 := keep hb h_b1
 have h_b4 := keep hb h_b4
 obtain ⟨hB, zB⟩ := bon hb hB
 refine seq_upd (.cells v9.cells 186 (0, 0)) r (fun R => zz0c r hr10.shape rfl rfl h_b4 ts186 rfl) rfl fun fr w11 u12 r => ?_
 have z_w11 := u12.size
 have h_b1 := u12.keep h_b1 (by omega)
 have h_b4 := u12.at_
 obtain ⟨hB, zB⟩ := u12.on hB (by omega)
 refine wn ?_
 refine wp_ret ?_
 have hs := hr10.shape.cells
 refine zz0a r rfl rfl h_b4 (k := 6) hs.1 ta186 ?_
 rw [← hs.2.2]
 exact rfin hF hB hr10 u12 (by omega) (by omega) (by omega)

def D.prog_Set_1  : T Unit := D.prog_Done_None

theorem c_prog_Set_1 {n : Nat} {F : Nat → Prop} {w0 : World} (hF : ∀ b, F b → b < w0.heap.size)
     :
    Calls Tryz.prog 366 #[] w0 (RepRes Tryz.prog encNone n D.prog_Set_1 F w0) := by
 refine enter Tryz.func366 rfl 3 rfl rfl fun fr r => ?_
 have hB := Below.refl w0.heap.size w0
 refine wsr ?_
 refine seq_new (.cells (progCells false encNone.zero 0 0 0 0 .nilFunc) 186 (0, 0)) r (fun R => y_alloc tz186) rfl fun fr b1 w2 n3 r => ?_
 obtain ⟨e_b1, z_w2, h_b1, hB, zB⟩ := n3.all hB
 refine wn ?_
 refine wsr ?_
 refine seq_val (.agg #[]) r (fun R => y_build r (by kernel_rfl)) rfl fun fr r => ?_
 have hF1 := fgrow hF hB b1
 refine zz06 r (c_prog_Done_None (F := (fun b => F b ∨ (w0.heap.size ≤ b ∧ b < w2.heap.size ∧ b ≠ b1))) (n := n) hF1 ) (fun R hc => y_call r rfl cl367 hc) rfl ?_
 rintro _ w4 ⟨v5, rfl, hb, hr6⟩
 refine ⟨_, rfl, fun fr r => ?_⟩
 have z_w4 := hb.size
 have h_b1 := keep hb h_b1
 obtain ⟨hB, zB⟩ := bon hb hB
 refine seq_upd (.cells v5.cells 186 (0, 0)) r (fun R => zz0c r hr6.shape rfl rfl h_b1 ts186 rfl) rfl fun fr w7 u8 r => ?_
 have z_w7 := u8.size
 have h_b1 := u8.at_
 obtain ⟨hB, zB⟩ := u8.on hB (by omega)
 refine wn ?_
 refine wp_ret ?_
 have hs := hr6.shape.cells
 refine zz0a r rfl rfl h_b1 (k := 6) hs.1 ta186 ?_
 rw [← hs.2.2]
 exact rfin hF hB hr6 u8 (by omega) (by omega) (by omega)

def D.prog_Set (a0 : Int) (a1 : Int) : T Unit := (D.zz4s a0 a1 (fun _ => D.prog_Set_1))

theorem c_prog_Set {n : Nat} {F : Nat → Prop} {w0 : World} (hF : ∀ b, F b → b < w0.heap.size)
    (a0 : Int) (a1 : Int) :
    Calls Tryz.prog 315 #[.int .i64 a0, .int .u64 a1] w0 (RepRes Tryz.prog encNone n (D.prog_Set a0 a1) F w0) := by
 refine enter Tryz.func315 rfl 8 rfl rfl fun fr r => ?_
 have hB := Below.refl w0.heap.size w0
 refine wsr ?_
 refine seq_new (.cells (progCells false encNone.zero 0 0 0 0 .nilFunc) 186 (0, 0)) r (fun R => y_alloc tz186) rfl fun fr b1 w2 n3 r => ?_
 obtain ⟨e_b1, z_w2, h_b1, hB, zB⟩ := n3.all hB
 refine wn ?_
 refine wsr ?_
 refine seq_val (I a0) r (fun R => y_move r rfl) rfl fun fr r => ?_
 refine seq_val (U a1) r (fun R => y_move r rfl) rfl fun fr r => ?_
 have hF1 := fgrow hF hB b1
 refine zz06 r (c_prog_Store_None (F := (fun b => F b ∨ (w0.heap.size ≤ b ∧ b < w2.heap.size ∧ b ≠ b1))) (n := n) hF1 a0 a1 ⟨366, [], [], cl366, rfl, fun m hm _ w' hs hz => c_prog_Set_1 (fun b hb => Nat.lt_of_lt_of_le (hF1 b hb) hz) ⟩) (fun R hc => y_call r rfl cl317 hc) rfl ?_
 rintro _ w4 ⟨v5, rfl, hb, hr6⟩
 refine ⟨_, rfl, fun fr r => ?_⟩
 have z_w4 := hb.size
 have h_b1 := keep hb h_b1
 obtain ⟨hB, zB⟩ := bon hb hB
 refine seq_upd (.cells v5.cells 186 (0, 0)) r (fun R => zz0c r hr6.shape rfl rfl h_b1 ts186 rfl) rfl fun fr w7 u8 r => ?_
 have z_w7 := u8.size
 have h_b1 := u8.at_
 obtain ⟨hB, zB⟩ := u8.on hB (by omega)
 refine wn ?_
 refine wp_ret ?_
 have hs := hr6.shape.cells
 refine zz0a r rfl rfl h_b1 (k := 6) hs.1 ta186 ?_
 rw [← hs.2.2]
 exact rfin hF hB hr6 u8 (by omega) (by omega) (by omega)

def D.zz1n (a0 : Int) (a1 : (Int → T Int)) : T Int := (D.prog_Do_int (⟨0, a0, 0, 0⟩ : Access) a1)

theorem zz2a {n : Nat} {F : Nat → Prop} {w0 : World} (hF : ∀ b, F b → b < w0.heap.size)
    (a0 : Int) {a1_f : FuncId} {a1_1 a1_2 : List Value} {a1 : (Int → T Int)} (a1_n : FnT Tryz.prog encInt u64 (n) F w0 (.func (.func a1_f) a1_1.toArray a1_2.toArray) a1) :
    Calls Tryz.prog 198 #[.int .i64 a0, .func (.func a1_f) a1_1.toArray a1_2.toArray] w0 (RepRes Tryz.prog encInt n (D.zz1n a0 a1) F w0) := by
 refine enter Tryz.func198 rfl 9 rfl rfl fun fr r => ?_
 have hB := Below.refl w0.heap.size w0
 refine wsr ?_
 refine seq_new (.cells (progCells false encInt.zero 0 0 0 0 .nilFunc) 167 (0, 0)) r (fun R => y_alloc tz167) rfl fun fr b1 w2 n3 r => ?_
 obtain ⟨e_b1, z_w2, h_b1, hB, zB⟩ := n3.all hB
 refine wn ?_
 refine wsr ?_
 refine seq_val (I a0) r (fun R => y_move r rfl) rfl fun fr r => ?_
 refine seq_val (.agg (accessC (⟨0, a0, 0, 0⟩ : Access)).toArray) r (fun R => y_build r (by kernel_rfl)) rfl fun fr r => ?_
 refine seq_val (.func (.func a1_f) a1_1.toArray a1_2.toArray) r (fun R => y_move r rfl) rfl fun fr r => ?_
 have hF1 := fgrow hF hB b1
 refine zz06 r (zz51 (F := (fun b => F b ∨ (w0.heap.size ≤ b ∧ b < w2.heap.size ∧ b ≠ b1))) (n := n) hF1 (⟨0, a0, 0, 0⟩ : Access) (a1_n.mono (by omega) (fun b h => .inl h) (Same.below hB hF) hB.size)) (fun R hc => y_call r rfl cl297 hc) rfl ?_
 rintro _ w4 ⟨v5, rfl, hb, hr6⟩
 refine ⟨_, rfl, fun fr r => ?_⟩
 have z_w4 := hb.size
 have h_b1 := keep hb h_b1
 obtain ⟨hB, zB⟩ := bon hb hB
 refine seq_upd (.cells v5.cells 167 (0, 0)) r (fun R => zz0c r hr6.shape rfl rfl h_b1 ts167 rfl) rfl fun fr w7 u8 r => ?_
 have z_w7 := u8.size
 have h_b1 := u8.at_
 obtain ⟨hB, zB⟩ := u8.on hB (by omega)
 refine wn ?_
 refine wp_ret ?_
 have hs := hr6.shape.cells
 refine zz0a r rfl rfl h_b1 (k := 7) hs.1 ta167 ?_
 rw [← hs.2.2]
 exact rfin hF hB hr6 u8 (by omega) (by omega) (by omega)

def D.zz38 (c0 : (Bool → T Int)) (c1 : Int) (a0 : Int) : T Int := (c0 (a0 == c1))

theorem c_prog_Swap_int_1 {n : Nat} {F : Nat → Prop} {w0 : World} (hF : ∀ b, F b → b < w0.heap.size)
    {c0_f : FuncId} {c0_1 c0_2 : List Value} {c0 : (Bool → T Int)} {c0_b : Nat} (c0_F : F c0_b) (c0_h : w0.heap[c0_b]? = some (.cells #[.func (.func c0_f) c0_1.toArray c0_2.toArray] 297 (0, 0))) (c0_n : FnT Tryz.prog encInt boolE (n + 1) F w0 (.func (.func c0_f) c0_1.toArray c0_2.toArray) c0) (c1 : Int) {c1_b : Nat} (c1_F : F c1_b) (c1_h : w0.heap[c1_b]? = some (.cells ([(.int .u64 c1)]).toArray 22 (0, 0))) (a0 : Int) :
    Calls Tryz.prog 354 #[.int .u64 a0, .pointer (some ⟨c0_b, 0, none⟩), .pointer (some ⟨c1_b, 0, none⟩)] w0 (RepRes Tryz.prog encInt n (D.zz38 c0 c1 a0) F w0) := by
 refine enter Tryz.func354 rfl 10 rfl rfl fun fr r => ?_
 have hB := Below.refl w0.heap.size w0
 have l_c0_b := lt_of_block c0_h
 have l_c1_b := lt_of_block c1_h
 refine wsr ?_
 refine seq_new (.cells (progCells false encInt.zero 0 0 0 0 .nilFunc) 167 (0, 0)) r (fun R => y_alloc tz167) rfl fun fr b1 w2 n3 r => ?_
 obtain ⟨e_b1, z_w2, h_b1, hB, zB⟩ := n3.all hB
 refine wn ?_
 refine wsr ?_
 refine seq_val (.func (.func c0_f) c0_1.toArray c0_2.toArray) r (fun R => zz01 r rfl (keep hB c0_h) to297 rfl) rfl fun fr r => ?_
 refine seq_val (U a0) r (fun R => y_move r rfl) rfl fun fr r => ?_
 refine seq_val (U c1) r (fun R => zz01 r rfl (keep hB c1_h) to22 rfl) rfl fun fr r => ?_
 refine seq_val _ r (fun R => y_bin r rfl rfl rfl rfl) rfl fun fr r => ?_
 refine zz06 r (c0_n.at_.2 n (Nat.lt_succ_self n) (a0 == c1) w2 (Same.below hB hF) hB.size) (fun R hc => zz3z r rfl rfl c0_n.at_.1 hc) rfl ?_
 rintro _ w4 ⟨v5, rfl, hb, hr6⟩
 refine ⟨_, rfl, fun fr r => ?_⟩
 have z_w4 := hb.size
 have h_b1 := keep hb h_b1
 obtain ⟨hB, zB⟩ := bon hb hB
 refine seq_upd (.cells v5.cells 167 (0, 0)) r (fun R => zz0c r hr6.shape rfl rfl h_b1 ts167 rfl) rfl fun fr w7 u8 r => ?_
 have z_w7 := u8.size
 have h_b1 := u8.at_
 obtain ⟨hB, zB⟩ := u8.on hB (by omega)
 refine wn ?_
 refine wp_ret ?_
 have hs := hr6.shape.cells
 refine zz0a r rfl rfl h_b1 (k := 7) hs.1 ta167 ?_
 rw [← hs.2.2]
 exact RepRes.fin hB hr6 u8 (fun b hb => .inl hb) (fun h => by have := hF _ h; omega) (by omega) (by omega) (by omega)

def D.prog_Swap_int (a0 : Int) (a1 : Int) (a2 : Int) (a3 : (Bool → T Int)) : T Int := (D.prog_Do_int (⟨2, a0, a1, a2⟩ : Access) (fun x => (D.zz38 a3 a1 x)))

theorem c_prog_Swap_int {n : Nat} {F : Nat → Prop} {w0 : World} (hF : ∀ b, F b → b < w0.heap.size)
    (a0 : Int) (a1 : Int) (a2 : Int) {a3_f : FuncId} {a3_1 a3_2 : List Value} {a3 : (Bool → T Int)} (a3_n : FnT Tryz.prog encInt boolE (n) F w0 (.func (.func a3_f) a3_1.toArray a3_2.toArray) a3) :
    Calls Tryz.prog 290 #[.int .i64 a0, .int .u64 a1, .int .u64 a2, .func (.func a3_f) a3_1.toArray a3_2.toArray] w0 (RepRes Tryz.prog encInt n (D.prog_Swap_int a0 a1 a2 a3) F w0) := by
 refine enter Tryz.func290 rfl 15 rfl rfl fun fr r => ?_
 have hB := Below.refl w0.heap.size w0
 refine wsr ?_
 refine seq_new (.cells #[(U a1)] 22 (0, 0)) r (fun R => y_box r (v := (U a1)) rfl) rfl fun fr b1 w2 n3 r => ?_
 obtain ⟨e_b1, z_w2, h_b1, hB, zB⟩ := n3.all hB
 refine seq_new (.cells #[.func (.func a3_f) a3_1.toArray a3_2.toArray] 297 (0, 0)) r (fun R => y_box r (v := (.func (.func a3_f) a3_1.toArray a3_2.toArray)) rfl) rfl fun fr b4 w5 n6 r => ?_
 have h_b1 := keep n6.below h_b1
 obtain ⟨e_b4, z_w5, h_b4, hB, zB⟩ := n6.all hB
 refine seq_new (.cells (progCells false encInt.zero 0 0 0 0 .nilFunc) 167 (0, 0)) r (fun R => y_alloc tz167) rfl fun fr b7 w8 n9 r => ?_
 have h_b1 := keep n9.below h_b1
 have h_b4 := keep n9.below h_b4
 obtain ⟨e_b7, z_w8, h_b7, hB, zB⟩ := n9.all hB
 refine wn ?_
 refine wsr ?_
 refine seq_val (I a0) r (fun R => y_move r rfl) rfl fun fr r => ?_
 refine seq_val (U a1) r (fun R => zz01 r rfl h_b1 to22 rfl) rfl fun fr r => ?_
 refine seq_val (U a2) r (fun R => y_move r rfl) rfl fun fr r => ?_
 refine seq_val (.agg (accessC (⟨2, a0, a1, a2⟩ : Access)).toArray) r (fun R => y_build r (by kernel_rfl)) rfl fun fr r => ?_
 refine seq_val (.func (.func 354) #[] #[.pointer (some ⟨b4, 0, none⟩), .pointer (some ⟨b1, 0, none⟩)]) r (fun R => zz0o r rfl) rfl fun fr r => ?_
 have hF1 := fgrow hF hB b7
 have f10 : ((fun b => F b ∨ (w0.heap.size ≤ b ∧ b < w8.heap.size ∧ b ≠ b7))) b4 := (.inr ⟨by omega, by omega, by omega⟩)
 have f11 : ((fun b => F b ∨ (w0.heap.size ≤ b ∧ b < w8.heap.size ∧ b ≠ b7))) b1 := (.inr ⟨by omega, by omega, by omega⟩)
 refine zz06 r (zz51 (F := (fun b => F b ∨ (w0.heap.size ≤ b ∧ b < w8.heap.size ∧ b ≠ b7))) (n := n) hF1 (⟨2, a0, a1, a2⟩ : Access) ⟨354, [], [.pointer (some ⟨b4, 0, none⟩), .pointer (some ⟨b1, 0, none⟩)], cl354, rfl, fun m hm x w' hs hz => c_prog_Swap_int_1 (fun b hb => Nat.lt_of_lt_of_le (hF1 b hb) hz) f10 (hs.at_ f10 h_b4) (a3_n.mono (by omega) (fun b h => .inl h) ((Same.below hB hF).trans (hs.sub (fun b h => .inl h))) (Nat.le_trans hB.size hz)) a1 f11 (hs.at_ f11 h_b1) x⟩) (fun R hc => y_call r rfl cl297 hc) rfl ?_
 rintro _ w12 ⟨v13, rfl, hb, hr14⟩
 refine ⟨_, rfl, fun fr r => ?_⟩
 have z_w12 := hb.size
 have h_b1 := keep hb h_b1
 have h_b4 := keep hb h_b4
 have h_b7 := keep hb h_b7
 obtain ⟨hB, zB⟩ := bon hb hB
 refine seq_upd (.cells v13.cells 167 (0, 0)) r (fun R => zz0c r hr14.shape rfl rfl h_b7 ts167 rfl) rfl fun fr w15 u16 r => ?_
 have z_w15 := u16.size
 have h_b1 := u16.keep h_b1 (by omega)
 have h_b4 := u16.keep h_b4 (by omega)
 have h_b7 := u16.at_
 obtain ⟨hB, zB⟩ := u16.on hB (by omega)
 refine wn ?_
 refine wp_ret ?_
 have hs := hr14.shape.cells
 refine zz0a r rfl rfl h_b7 (k := 7) hs.1 ta167 ?_
 rw [← hs.2.2]
 exact rfin hF hB hr14 u16 (by omega) (by omega) (by omega)

def D.zz66 (a0 : Int) (a1 : (Int → T Grant)) : T Grant := (D.prog_Do_Grant (⟨0, a0, 0, 0⟩ : Access) a1)

theorem c_prog_Load_Grant {n : Nat} {F : Nat → Prop} {w0 : World} (hF : ∀ b, F b → b < w0.heap.size)
    (a0 : Int) {a1_f : FuncId} {a1_1 a1_2 : List Value} {a1 : (Int → T Grant)} (a1_n : FnT Tryz.prog encGrant u64 (n) F w0 (.func (.func a1_f) a1_1.toArray a1_2.toArray) a1) :
    Calls Tryz.prog 281 #[.int .i64 a0, .func (.func a1_f) a1_1.toArray a1_2.toArray] w0 (RepRes Tryz.prog encGrant n (D.zz66 a0 a1) F w0) := by
 refine enter Tryz.func281 rfl 9 rfl rfl fun fr r => ?_
 have hB := Below.refl w0.heap.size w0
 refine wsr ?_
 refine seq_new (.cells (progCells false encGrant.zero 0 0 0 0 .nilFunc) 158 (0, 0)) r (fun R => y_alloc tz158) rfl fun fr b1 w2 n3 r => ?_
 obtain ⟨e_b1, z_w2, h_b1, hB, zB⟩ := n3.all hB
 refine wn ?_
 refine wsr ?_
 refine seq_val (I a0) r (fun R => y_move r rfl) rfl fun fr r => ?_
 refine seq_val (.agg (accessC (⟨0, a0, 0, 0⟩ : Access)).toArray) r (fun R => y_build r (by kernel_rfl)) rfl fun fr r => ?_
 refine seq_val (.func (.func a1_f) a1_1.toArray a1_2.toArray) r (fun R => y_move r rfl) rfl fun fr r => ?_
 have hF1 := fgrow hF hB b1
 refine zz06 r (zz63 (F := (fun b => F b ∨ (w0.heap.size ≤ b ∧ b < w2.heap.size ∧ b ≠ b1))) (n := n) hF1 (⟨0, a0, 0, 0⟩ : Access) (a1_n.mono (by omega) (fun b h => .inl h) (Same.below hB hF) hB.size)) (fun R hc => y_call r rfl cl286 hc) rfl ?_
 rintro _ w4 ⟨v5, rfl, hb, hr6⟩
 refine ⟨_, rfl, fun fr r => ?_⟩
 have z_w4 := hb.size
 have h_b1 := keep hb h_b1
 obtain ⟨hB, zB⟩ := bon hb hB
 refine seq_upd (.cells v5.cells 158 (0, 0)) r (fun R => zz0c r hr6.shape rfl rfl h_b1 ts158 rfl) rfl fun fr w7 u8 r => ?_
 have z_w7 := u8.size
 have h_b1 := u8.at_
 obtain ⟨hB, zB⟩ := u8.on hB (by omega)
 refine wn ?_
 refine wp_ret ?_
 have hs := hr6.shape.cells
 refine zz0a r rfl rfl h_b1 (k := 9) hs.1 ta158 ?_
 rw [← hs.2.2]
 exact rfin hF hB hr6 u8 (by omega) (by omega) (by omega)

def D.zz6a (c0 : (Unit → T Grant)) (a0 : Int) : T Grant := (c0 ())

theorem c_prog_Store_Grant_1 {n : Nat} {F : Nat → Prop} {w0 : World} (hF : ∀ b, F b → b < w0.heap.size)
    {c0_f : FuncId} {c0_1 c0_2 : List Value} {c0 : (Unit → T Grant)} {c0_b : Nat} (c0_F : F c0_b) (c0_h : w0.heap[c0_b]? = some (.cells #[.func (.func c0_f) c0_1.toArray c0_2.toArray] 293 (0, 0))) (c0_n : FnT Tryz.prog encGrant unitE (n + 1) F w0 (.func (.func c0_f) c0_1.toArray c0_2.toArray) c0) (a0 : Int) :
    Calls Tryz.prog 353 #[.int .u64 a0, .pointer (some ⟨c0_b, 0, none⟩)] w0 (RepRes Tryz.prog encGrant n (D.zz6a c0 a0) F w0) := by
 refine enter Tryz.func353 rfl 6 rfl rfl fun fr r => ?_
 have hB := Below.refl w0.heap.size w0
 have l_c0_b := lt_of_block c0_h
 refine wsr ?_
 refine seq_new (.cells (progCells false encGrant.zero 0 0 0 0 .nilFunc) 158 (0, 0)) r (fun R => y_alloc tz158) rfl fun fr b1 w2 n3 r => ?_
 obtain ⟨e_b1, z_w2, h_b1, hB, zB⟩ := n3.all hB
 refine wn ?_
 refine wsr ?_
 refine seq_val (.func (.func c0_f) c0_1.toArray c0_2.toArray) r (fun R => zz01 r rfl (keep hB c0_h) to293 rfl) rfl fun fr r => ?_
 refine zz06 r (c0_n.at_.2 n (Nat.lt_succ_self n) () w2 (Same.below hB hF) hB.size) (fun R hc => y_callv0 r rfl c0_n.at_.1 hc) rfl ?_
 rintro _ w4 ⟨v5, rfl, hb, hr6⟩
 refine ⟨_, rfl, fun fr r => ?_⟩
 have z_w4 := hb.size
 have h_b1 := keep hb h_b1
 obtain ⟨hB, zB⟩ := bon hb hB
 refine seq_upd (.cells v5.cells 158 (0, 0)) r (fun R => zz0c r hr6.shape rfl rfl h_b1 ts158 rfl) rfl fun fr w7 u8 r => ?_
 have z_w7 := u8.size
 have h_b1 := u8.at_
 obtain ⟨hB, zB⟩ := u8.on hB (by omega)
 refine wn ?_
 refine wp_ret ?_
 have hs := hr6.shape.cells
 refine zz0a r rfl rfl h_b1 (k := 9) hs.1 ta158 ?_
 rw [← hs.2.2]
 exact RepRes.fin hB hr6 u8 (fun b hb => .inl hb) (fun h => by have := hF _ h; omega) (by omega) (by omega) (by omega)

def D.zz5o (a0 : Int) (a1 : Int) (a2 : (Unit → T Grant)) : T Grant := (D.prog_Do_Grant (⟨1, a0, a1, 0⟩ : Access) (fun x => (D.zz6a a2 x)))

theorem c_prog_Store_Grant {n : Nat} {F : Nat → Prop} {w0 : World} (hF : ∀ b, F b → b < w0.heap.size)
    (a0 : Int) (a1 : Int) {a2_f : FuncId} {a2_1 a2_2 : List Value} {a2 : (Unit → T Grant)} (a2_n : FnT Tryz.prog encGrant unitE (n) F w0 (.func (.func a2_f) a2_1.toArray a2_2.toArray) a2) :
    Calls Tryz.prog 283 #[.int .i64 a0, .int .u64 a1, .func (.func a2_f) a2_1.toArray a2_2.toArray] w0 (RepRes Tryz.prog encGrant n (D.zz5o a0 a1 a2) F w0) := by
 refine enter Tryz.func283 rfl 12 rfl rfl fun fr r => ?_
 have hB := Below.refl w0.heap.size w0
 refine wsr ?_
 refine seq_new (.cells #[.func (.func a2_f) a2_1.toArray a2_2.toArray] 293 (0, 0)) r (fun R => y_box r (v := (.func (.func a2_f) a2_1.toArray a2_2.toArray)) rfl) rfl fun fr b1 w2 n3 r => ?_
 obtain ⟨e_b1, z_w2, h_b1, hB, zB⟩ := n3.all hB
 refine seq_new (.cells (progCells false encGrant.zero 0 0 0 0 .nilFunc) 158 (0, 0)) r (fun R => y_alloc tz158) rfl fun fr b4 w5 n6 r => ?_
 have h_b1 := keep n6.below h_b1
 obtain ⟨e_b4, z_w5, h_b4, hB, zB⟩ := n6.all hB
 refine wn ?_
 refine wsr ?_
 refine seq_val (I a0) r (fun R => y_move r rfl) rfl fun fr r => ?_
 refine seq_val (U a1) r (fun R => y_move r rfl) rfl fun fr r => ?_
 refine seq_val (.agg (accessC (⟨1, a0, a1, 0⟩ : Access)).toArray) r (fun R => y_build r (by kernel_rfl)) rfl fun fr r => ?_
 refine seq_val (.func (.func 353) #[] #[.pointer (some ⟨b1, 0, none⟩)]) r (fun R => zz0o r rfl) rfl fun fr r => ?_
 have hF1 := fgrow hF hB b4
 have f7 : ((fun b => F b ∨ (w0.heap.size ≤ b ∧ b < w5.heap.size ∧ b ≠ b4))) b1 := (.inr ⟨by omega, by omega, by omega⟩)
 refine zz06 r (zz63 (F := (fun b => F b ∨ (w0.heap.size ≤ b ∧ b < w5.heap.size ∧ b ≠ b4))) (n := n) hF1 (⟨1, a0, a1, 0⟩ : Access) ⟨353, [], [.pointer (some ⟨b1, 0, none⟩)], cl353, rfl, fun m hm x w' hs hz => c_prog_Store_Grant_1 (fun b hb => Nat.lt_of_lt_of_le (hF1 b hb) hz) f7 (hs.at_ f7 h_b1) (a2_n.mono (by omega) (fun b h => .inl h) ((Same.below hB hF).trans (hs.sub (fun b h => .inl h))) (Nat.le_trans hB.size hz)) x⟩) (fun R hc => y_call r rfl cl286 hc) rfl ?_
 rintro _ w8 ⟨v9, rfl, hb, hr10⟩
 refine ⟨_, rfl, fun fr r => ?_⟩
 have z_w8 := hb.size
 have h_b1 := keep hb h_b1
 have h_b4 := keep hb h_b4
 obtain ⟨hB, zB⟩ := bon hb hB
 refine seq_upd (.cells v9.cells 158 (0, 0)) r (fun R => zz0c r hr10.shape rfl rfl h_b4 ts158 rfl) rfl fun fr w11 u12 r => ?_
 have z_w11 := u12.size
 have h_b1 := u12.keep h_b1 (by omega)
 have h_b4 := u12.at_
 obtain ⟨hB, zB⟩ := u12.on hB (by omega)
 refine wn ?_
 refine wp_ret ?_
 have hs := hr10.shape.cells
 refine zz0a r rfl rfl h_b4 (k := 9) hs.1 ta158 ?_
 rw [← hs.2.2]
 exact rfin hF hB hr10 u12 (by omega) (by omega) (by omega)

def D.prog_Load_bool (a0 : Int) (a1 : (Int → T Bool)) : T Bool := (D.prog_Do_bool (⟨0, a0, 0, 0⟩ : Access) a1)

theorem c_prog_Load_bool {n : Nat} {F : Nat → Prop} {w0 : World} (hF : ∀ b, F b → b < w0.heap.size)
    (a0 : Int) {a1_f : FuncId} {a1_1 a1_2 : List Value} {a1 : (Int → T Bool)} (a1_n : FnT Tryz.prog encBool u64 (n) F w0 (.func (.func a1_f) a1_1.toArray a1_2.toArray) a1) :
    Calls Tryz.prog 414 #[.int .i64 a0, .func (.func a1_f) a1_1.toArray a1_2.toArray] w0 (RepRes Tryz.prog encBool n (D.prog_Load_bool a0 a1) F w0) := by
 refine enter Tryz.func414 rfl 9 rfl rfl fun fr r => ?_
 have hB := Below.refl w0.heap.size w0
 refine wsr ?_
 refine seq_new (.cells (progCells false encBool.zero 0 0 0 0 .nilFunc) 324 (0, 0)) r (fun R => y_alloc tz324) rfl fun fr b1 w2 n3 r => ?_
 obtain ⟨e_b1, z_w2, h_b1, hB, zB⟩ := n3.all hB
 refine wn ?_
 refine wsr ?_
 refine seq_val (I a0) r (fun R => y_move r rfl) rfl fun fr r => ?_
 refine seq_val (.agg (accessC (⟨0, a0, 0, 0⟩ : Access)).toArray) r (fun R => y_build r (by kernel_rfl)) rfl fun fr r => ?_
 refine seq_val (.func (.func a1_f) a1_1.toArray a1_2.toArray) r (fun R => y_move r rfl) rfl fun fr r => ?_
 have hF1 := fgrow hF hB b1
 refine zz06 r (c_prog_Do_bool (F := (fun b => F b ∨ (w0.heap.size ≤ b ∧ b < w2.heap.size ∧ b ≠ b1))) (n := n) hF1 (⟨0, a0, 0, 0⟩ : Access) (a1_n.mono (by omega) (fun b h => .inl h) (Same.below hB hF) hB.size)) (fun R hc => y_call r rfl cl423 hc) rfl ?_
 rintro _ w4 ⟨v5, rfl, hb, hr6⟩
 refine ⟨_, rfl, fun fr r => ?_⟩
 have z_w4 := hb.size
 have h_b1 := keep hb h_b1
 obtain ⟨hB, zB⟩ := bon hb hB
 refine seq_upd (.cells v5.cells 324 (0, 0)) r (fun R => zz0c r hr6.shape rfl rfl h_b1 ts324 rfl) rfl fun fr w7 u8 r => ?_
 have z_w7 := u8.size
 have h_b1 := u8.at_
 obtain ⟨hB, zB⟩ := u8.on hB (by omega)
 refine wn ?_
 refine wp_ret ?_
 have hs := hr6.shape.cells
 refine zz0a r rfl rfl h_b1 (k := 7) hs.1 ta324 ?_
 rw [← hs.2.2]
 exact rfin hF hB hr6 u8 (by omega) (by omega) (by omega)

def D.zz3w (c0 : (Unit → T Int)) (a0 : Int) : T Int := (c0 ())

theorem c_prog_Store_int_1 {n : Nat} {F : Nat → Prop} {w0 : World} (hF : ∀ b, F b → b < w0.heap.size)
    {c0_f : FuncId} {c0_1 c0_2 : List Value} {c0 : (Unit → T Int)} {c0_b : Nat} (c0_F : F c0_b) (c0_h : w0.heap[c0_b]? = some (.cells #[.func (.func c0_f) c0_1.toArray c0_2.toArray] 257 (0, 0))) (c0_n : FnT Tryz.prog encInt unitE (n + 1) F w0 (.func (.func c0_f) c0_1.toArray c0_2.toArray) c0) (a0 : Int) :
    Calls Tryz.prog 298 #[.int .u64 a0, .pointer (some ⟨c0_b, 0, none⟩)] w0 (RepRes Tryz.prog encInt n (D.zz3w c0 a0) F w0) := by
 refine enter Tryz.func298 rfl 6 rfl rfl fun fr r => ?_
 have hB := Below.refl w0.heap.size w0
 have l_c0_b := lt_of_block c0_h
 refine wsr ?_
 refine seq_new (.cells (progCells false encInt.zero 0 0 0 0 .nilFunc) 167 (0, 0)) r (fun R => y_alloc tz167) rfl fun fr b1 w2 n3 r => ?_
 obtain ⟨e_b1, z_w2, h_b1, hB, zB⟩ := n3.all hB
 refine wn ?_
 refine wsr ?_
 refine seq_val (.func (.func c0_f) c0_1.toArray c0_2.toArray) r (fun R => zz01 r rfl (keep hB c0_h) to257 rfl) rfl fun fr r => ?_
 refine zz06 r (c0_n.at_.2 n (Nat.lt_succ_self n) () w2 (Same.below hB hF) hB.size) (fun R hc => y_callv0 r rfl c0_n.at_.1 hc) rfl ?_
 rintro _ w4 ⟨v5, rfl, hb, hr6⟩
 refine ⟨_, rfl, fun fr r => ?_⟩
 have z_w4 := hb.size
 have h_b1 := keep hb h_b1
 obtain ⟨hB, zB⟩ := bon hb hB
 refine seq_upd (.cells v5.cells 167 (0, 0)) r (fun R => zz0c r hr6.shape rfl rfl h_b1 ts167 rfl) rfl fun fr w7 u8 r => ?_
 have z_w7 := u8.size
 have h_b1 := u8.at_
 obtain ⟨hB, zB⟩ := u8.on hB (by omega)
 refine wn ?_
 refine wp_ret ?_
 have hs := hr6.shape.cells
 refine zz0a r rfl rfl h_b1 (k := 7) hs.1 ta167 ?_
 rw [← hs.2.2]
 exact RepRes.fin hB hr6 u8 (fun b hb => .inl hb) (fun h => by have := hF _ h; omega) (by omega) (by omega) (by omega)

def D.zz1y (a0 : Int) (a1 : Int) (a2 : (Unit → T Int)) : T Int := (D.prog_Do_int (⟨1, a0, a1, 0⟩ : Access) (fun x => (D.zz3w a2 x)))

theorem zz2g {n : Nat} {F : Nat → Prop} {w0 : World} (hF : ∀ b, F b → b < w0.heap.size)
    (a0 : Int) (a1 : Int) {a2_f : FuncId} {a2_1 a2_2 : List Value} {a2 : (Unit → T Int)} (a2_n : FnT Tryz.prog encInt unitE (n) F w0 (.func (.func a2_f) a2_1.toArray a2_2.toArray) a2) :
    Calls Tryz.prog 200 #[.int .i64 a0, .int .u64 a1, .func (.func a2_f) a2_1.toArray a2_2.toArray] w0 (RepRes Tryz.prog encInt n (D.zz1y a0 a1 a2) F w0) := by
 refine enter Tryz.func200 rfl 12 rfl rfl fun fr r => ?_
 have hB := Below.refl w0.heap.size w0
 refine wsr ?_
 refine seq_new (.cells #[.func (.func a2_f) a2_1.toArray a2_2.toArray] 257 (0, 0)) r (fun R => y_box r (v := (.func (.func a2_f) a2_1.toArray a2_2.toArray)) rfl) rfl fun fr b1 w2 n3 r => ?_
 obtain ⟨e_b1, z_w2, h_b1, hB, zB⟩ := n3.all hB
 refine seq_new (.cells (progCells false encInt.zero 0 0 0 0 .nilFunc) 167 (0, 0)) r (fun R => y_alloc tz167) rfl fun fr b4 w5 n6 r => ?_
 have h_b1 := keep n6.below h_b1
 obtain ⟨e_b4, z_w5, h_b4, hB, zB⟩ := n6.all hB
 refine wn ?_
 refine wsr ?_
 refine seq_val (I a0) r (fun R => y_move r rfl) rfl fun fr r => ?_
 refine seq_val (U a1) r (fun R => y_move r rfl) rfl fun fr r => ?_
 refine seq_val (.agg (accessC (⟨1, a0, a1, 0⟩ : Access)).toArray) r (fun R => y_build r (by kernel_rfl)) rfl fun fr r => ?_
 refine seq_val (.func (.func 298) #[] #[.pointer (some ⟨b1, 0, none⟩)]) r (fun R => zz0o r rfl) rfl fun fr r => ?_
 have hF1 := fgrow hF hB b4
 have f7 : ((fun b => F b ∨ (w0.heap.size ≤ b ∧ b < w5.heap.size ∧ b ≠ b4))) b1 := (.inr ⟨by omega, by omega, by omega⟩)
 refine zz06 r (zz51 (F := (fun b => F b ∨ (w0.heap.size ≤ b ∧ b < w5.heap.size ∧ b ≠ b4))) (n := n) hF1 (⟨1, a0, a1, 0⟩ : Access) ⟨298, [], [.pointer (some ⟨b1, 0, none⟩)], cl298, rfl, fun m hm x w' hs hz => c_prog_Store_int_1 (fun b hb => Nat.lt_of_lt_of_le (hF1 b hb) hz) f7 (hs.at_ f7 h_b1) (a2_n.mono (by omega) (fun b h => .inl h) ((Same.below hB hF).trans (hs.sub (fun b h => .inl h))) (Nat.le_trans hB.size hz)) x⟩) (fun R hc => y_call r rfl cl297 hc) rfl ?_
 rintro _ w8 ⟨v9, rfl, hb, hr10⟩
 refine ⟨_, rfl, fun fr r => ?_⟩
 have z_w8 := hb.size
 have h_b1 := keep hb h_b1
 have h_b4 := keep hb h_b4
 obtain ⟨hB, zB⟩ := bon hb hB
 refine seq_upd (.cells v9.cells 167 (0, 0)) r (fun R => zz0c r hr10.shape rfl rfl h_b4 ts167 rfl) rfl fun fr w11 u12 r => ?_
 have z_w11 := u12.size
 have h_b1 := u12.keep h_b1 (by omega)
 have h_b4 := u12.at_
 obtain ⟨hB, zB⟩ := u12.on hB (by omega)
 refine wn ?_
 refine wp_ret ?_
 have hs := hr10.shape.cells
 refine zz0a r rfl rfl h_b4 (k := 7) hs.1 ta167 ?_
 rw [← hs.2.2]
 exact rfin hF hB hr10 u12 (by omega) (by omega) (by omega)

def D.zz3a (a0 : Int) (a1 : (Int → T Res)) : T Res := (D.prog_Do_Res (⟨0, a0, 0, 0⟩ : Access) a1)

theorem zz4r {n : Nat} {F : Nat → Prop} {w0 : World} (hF : ∀ b, F b → b < w0.heap.size)
    (a0 : Int) {a1_f : FuncId} {a1_1 a1_2 : List Value} {a1 : (Int → T Res)} (a1_n : FnT Tryz.prog encRes u64 (n) F w0 (.func (.func a1_f) a1_1.toArray a1_2.toArray) a1) :
    Calls Tryz.prog 123 #[.int .i64 a0, .func (.func a1_f) a1_1.toArray a1_2.toArray] w0 (RepRes Tryz.prog encRes n (D.zz3a a0 a1) F w0) := by
 refine enter Tryz.func123 rfl 9 rfl rfl fun fr r => ?_
 have hB := Below.refl w0.heap.size w0
 refine wsr ?_
 refine seq_new (.cells (progCells false encRes.zero 0 0 0 0 .nilFunc) 39 (0, 0)) r (fun R => y_alloc tz39) rfl fun fr b1 w2 n3 r => ?_
 obtain ⟨e_b1, z_w2, h_b1, hB, zB⟩ := n3.all hB
 refine wn ?_
 refine wsr ?_
 refine seq_val (I a0) r (fun R => y_move r rfl) rfl fun fr r => ?_
 refine seq_val (.agg (accessC (⟨0, a0, 0, 0⟩ : Access)).toArray) r (fun R => y_build r (by kernel_rfl)) rfl fun fr r => ?_
 refine seq_val (.func (.func a1_f) a1_1.toArray a1_2.toArray) r (fun R => y_move r rfl) rfl fun fr r => ?_
 have hF1 := fgrow hF hB b1
 refine zz06 r (zz4z (F := (fun b => F b ∨ (w0.heap.size ≤ b ∧ b < w2.heap.size ∧ b ≠ b1))) (n := n) hF1 (⟨0, a0, 0, 0⟩ : Access) (a1_n.mono (by omega) (fun b h => .inl h) (Same.below hB hF) hB.size)) (fun R hc => y_call r rfl cl212 hc) rfl ?_
 rintro _ w4 ⟨v5, rfl, hb, hr6⟩
 refine ⟨_, rfl, fun fr r => ?_⟩
 have z_w4 := hb.size
 have h_b1 := keep hb h_b1
 obtain ⟨hB, zB⟩ := bon hb hB
 refine seq_upd (.cells v5.cells 39 (0, 0)) r (fun R => zz0c r hr6.shape rfl rfl h_b1 ts39 rfl) rfl fun fr w7 u8 r => ?_
 have z_w7 := u8.size
 have h_b1 := u8.at_
 obtain ⟨hB, zB⟩ := u8.on hB (by omega)
 refine wn ?_
 refine wp_ret ?_
 have hs := hr6.shape.cells
 refine zz0a r rfl rfl h_b1 (k := 8) hs.1 ta39 ?_
 rw [← hs.2.2]
 exact rfin hF hB hr6 u8 (by omega) (by omega) (by omega)

def D.prog_Swap_Res_1 (c0 : (Bool → T Res)) (c1 : Int) (a0 : Int) : T Res := (c0 (a0 == c1))

theorem c_prog_Swap_Res_1 {n : Nat} {F : Nat → Prop} {w0 : World} (hF : ∀ b, F b → b < w0.heap.size)
    {c0_f : FuncId} {c0_1 c0_2 : List Value} {c0 : (Bool → T Res)} {c0_b : Nat} (c0_F : F c0_b) (c0_h : w0.heap[c0_b]? = some (.cells #[.func (.func c0_f) c0_1.toArray c0_2.toArray] 200 (0, 0))) (c0_n : FnT Tryz.prog encRes boolE (n + 1) F w0 (.func (.func c0_f) c0_1.toArray c0_2.toArray) c0) (c1 : Int) {c1_b : Nat} (c1_F : F c1_b) (c1_h : w0.heap[c1_b]? = some (.cells ([(.int .u64 c1)]).toArray 22 (0, 0))) (a0 : Int) :
    Calls Tryz.prog 225 #[.int .u64 a0, .pointer (some ⟨c0_b, 0, none⟩), .pointer (some ⟨c1_b, 0, none⟩)] w0 (RepRes Tryz.prog encRes n (D.prog_Swap_Res_1 c0 c1 a0) F w0) := by
 refine enter Tryz.func225 rfl 10 rfl rfl fun fr r => ?_
 have hB := Below.refl w0.heap.size w0
 have l_c0_b := lt_of_block c0_h
 have l_c1_b := lt_of_block c1_h
 refine wsr ?_
 refine seq_new (.cells (progCells false encRes.zero 0 0 0 0 .nilFunc) 39 (0, 0)) r (fun R => y_alloc tz39) rfl fun fr b1 w2 n3 r => ?_
 obtain ⟨e_b1, z_w2, h_b1, hB, zB⟩ := n3.all hB
 refine wn ?_
 refine wsr ?_
 refine seq_val (.func (.func c0_f) c0_1.toArray c0_2.toArray) r (fun R => zz01 r rfl (keep hB c0_h) to200 rfl) rfl fun fr r => ?_
 refine seq_val (U a0) r (fun R => y_move r rfl) rfl fun fr r => ?_
 refine seq_val (U c1) r (fun R => zz01 r rfl (keep hB c1_h) to22 rfl) rfl fun fr r => ?_
 refine seq_val _ r (fun R => y_bin r rfl rfl rfl rfl) rfl fun fr r => ?_
 refine zz06 r (c0_n.at_.2 n (Nat.lt_succ_self n) (a0 == c1) w2 (Same.below hB hF) hB.size) (fun R hc => zz3z r rfl rfl c0_n.at_.1 hc) rfl ?_
 rintro _ w4 ⟨v5, rfl, hb, hr6⟩
 refine ⟨_, rfl, fun fr r => ?_⟩
 have z_w4 := hb.size
 have h_b1 := keep hb h_b1
 obtain ⟨hB, zB⟩ := bon hb hB
 refine seq_upd (.cells v5.cells 39 (0, 0)) r (fun R => zz0c r hr6.shape rfl rfl h_b1 ts39 rfl) rfl fun fr w7 u8 r => ?_
 have z_w7 := u8.size
 have h_b1 := u8.at_
 obtain ⟨hB, zB⟩ := u8.on hB (by omega)
 refine wn ?_
 refine wp_ret ?_
 have hs := hr6.shape.cells
 refine zz0a r rfl rfl h_b1 (k := 8) hs.1 ta39 ?_
 rw [← hs.2.2]
 exact RepRes.fin hB hr6 u8 (fun b hb => .inl hb) (fun h => by have := hF _ h; omega) (by omega) (by omega) (by omega)

def D.zz5r (a0 : Int) (a1 : Int) (a2 : Int) (a3 : (Bool → T Res)) : T Res := (D.prog_Do_Res (⟨2, a0, a1, a2⟩ : Access) (fun x => (D.prog_Swap_Res_1 a3 a1 x)))

theorem c_prog_Swap_Res {n : Nat} {F : Nat → Prop} {w0 : World} (hF : ∀ b, F b → b < w0.heap.size)
    (a0 : Int) (a1 : Int) (a2 : Int) {a3_f : FuncId} {a3_1 a3_2 : List Value} {a3 : (Bool → T Res)} (a3_n : FnT Tryz.prog encRes boolE (n) F w0 (.func (.func a3_f) a3_1.toArray a3_2.toArray) a3) :
    Calls Tryz.prog 125 #[.int .i64 a0, .int .u64 a1, .int .u64 a2, .func (.func a3_f) a3_1.toArray a3_2.toArray] w0 (RepRes Tryz.prog encRes n (D.zz5r a0 a1 a2 a3) F w0) := by
 refine enter Tryz.func125 rfl 15 rfl rfl fun fr r => ?_
 have hB := Below.refl w0.heap.size w0
 refine wsr ?_
 refine seq_new (.cells #[(U a1)] 22 (0, 0)) r (fun R => y_box r (v := (U a1)) rfl) rfl fun fr b1 w2 n3 r => ?_
 obtain ⟨e_b1, z_w2, h_b1, hB, zB⟩ := n3.all hB
 refine seq_new (.cells #[.func (.func a3_f) a3_1.toArray a3_2.toArray] 200 (0, 0)) r (fun R => y_box r (v := (.func (.func a3_f) a3_1.toArray a3_2.toArray)) rfl) rfl fun fr b4 w5 n6 r => ?_
 have h_b1 := keep n6.below h_b1
 obtain ⟨e_b4, z_w5, h_b4, hB, zB⟩ := n6.all hB
 refine seq_new (.cells (progCells false encRes.zero 0 0 0 0 .nilFunc) 39 (0, 0)) r (fun R => y_alloc tz39) rfl fun fr b7 w8 n9 r => ?_
 have h_b1 := keep n9.below h_b1
 have h_b4 := keep n9.below h_b4
 obtain ⟨e_b7, z_w8, h_b7, hB, zB⟩ := n9.all hB
 refine wn ?_
 refine wsr ?_
 refine seq_val (I a0) r (fun R => y_move r rfl) rfl fun fr r => ?_
 refine seq_val (U a1) r (fun R => zz01 r rfl h_b1 to22 rfl) rfl fun fr r => ?_
 refine seq_val (U a2) r (fun R => y_move r rfl) rfl fun fr r => ?_
 refine seq_val (.agg (accessC (⟨2, a0, a1, a2⟩ : Access)).toArray) r (fun R => y_build r (by kernel_rfl)) rfl fun fr r => ?_
 refine seq_val (.func (.func 225) #[] #[.pointer (some ⟨b4, 0, none⟩), .pointer (some ⟨b1, 0, none⟩)]) r (fun R => zz0o r rfl) rfl fun fr r => ?_
 have hF1 := fgrow hF hB b7
 have f10 : ((fun b => F b ∨ (w0.heap.size ≤ b ∧ b < w8.heap.size ∧ b ≠ b7))) b4 := (.inr ⟨by omega, by omega, by omega⟩)
 have f11 : ((fun b => F b ∨ (w0.heap.size ≤ b ∧ b < w8.heap.size ∧ b ≠ b7))) b1 := (.inr ⟨by omega, by omega, by omega⟩)
 refine zz06 r (zz4z (F := (fun b => F b ∨ (w0.heap.size ≤ b ∧ b < w8.heap.size ∧ b ≠ b7))) (n := n) hF1 (⟨2, a0, a1, a2⟩ : Access) ⟨225, [], [.pointer (some ⟨b4, 0, none⟩), .pointer (some ⟨b1, 0, none⟩)], cl225, rfl, fun m hm x w' hs hz => c_prog_Swap_Res_1 (fun b hb => Nat.lt_of_lt_of_le (hF1 b hb) hz) f10 (hs.at_ f10 h_b4) (a3_n.mono (by omega) (fun b h => .inl h) ((Same.below hB hF).trans (hs.sub (fun b h => .inl h))) (Nat.le_trans hB.size hz)) a1 f11 (hs.at_ f11 h_b1) x⟩) (fun R hc => y_call r rfl cl212 hc) rfl ?_
 rintro _ w12 ⟨v13, rfl, hb, hr14⟩
 refine ⟨_, rfl, fun fr r => ?_⟩
 have z_w12 := hb.size
 have h_b1 := keep hb h_b1
 have h_b4 := keep hb h_b4
 have h_b7 := keep hb h_b7
 obtain ⟨hB, zB⟩ := bon hb hB
 refine seq_upd (.cells v13.cells 39 (0, 0)) r (fun R => zz0c r hr14.shape rfl rfl h_b7 ts39 rfl) rfl fun fr w15 u16 r => ?_
 have z_w15 := u16.size
 have h_b1 := u16.keep h_b1 (by omega)
 have h_b4 := u16.keep h_b4 (by omega)
 have h_b7 := u16.at_
 obtain ⟨hB, zB⟩ := u16.on hB (by omega)
 refine wn ?_
 refine wp_ret ?_
 have hs := hr14.shape.cells
 refine zz0a r rfl rfl h_b7 (k := 8) hs.1 ta39 ?_
 rw [← hs.2.2]
 exact rfin hF hB hr14 u16 (by omega) (by omega) (by omega)

end Go.Proofs.YtjkinpbfmihhdaaGreat

/- Written by a program of ours (wip/gen.py): the list of free nodes -/
set_option linter.unusedVariables false
set_option maxRecDepth 20000
set_option maxHeartbeats 2000000
namespace Go.Proofs.YtjkinpbfmihhdaaGreat
open Go.RowKit
theorem cl160 : callable Tryz.prog 160 = true := by kernel_rfl

theorem cl161 : callable Tryz.prog 161 = true := by kernel_rfl

theorem cl162 : callable Tryz.prog 162 = true := by kernel_rfl

theorem cl163 : callable Tryz.prog 163 = true := by kernel_rfl

theorem cl191 : callable Tryz.prog 191 = true := by kernel_rfl

theorem cl198 : callable Tryz.prog 198 = true := by kernel_rfl

theorem cl200 : callable Tryz.prog 200 = true := by kernel_rfl

theorem cl210 : callable Tryz.prog 210 = true := by kernel_rfl

theorem cl229 : callable Tryz.prog 229 = true := by kernel_rfl

theorem cl288 : callable Tryz.prog 288 = true := by kernel_rfl

theorem cl289 : callable Tryz.prog 289 = true := by kernel_rfl

theorem cl290 : callable Tryz.prog 290 = true := by kernel_rfl

theorem cl291 : callable Tryz.prog 291 = true := by kernel_rfl

theorem cl292 : callable Tryz.prog 292 = true := by kernel_rfl

theorem cl296 : callable Tryz.prog 296 = true := by kernel_rfl

theorem cl315 : callable Tryz.prog 315 = true := by kernel_rfl

theorem cl316 : callable Tryz.prog 316 = true := by kernel_rfl

theorem cl318 : callable Tryz.prog 318 = true := by kernel_rfl

theorem cl343 : callable Tryz.prog 343 = true := by kernel_rfl

theorem cl355 : callable Tryz.prog 355 = true := by kernel_rfl

theorem cl379 : callable Tryz.prog 379 = true := by kernel_rfl

theorem cl380 : callable Tryz.prog 380 = true := by kernel_rfl

theorem cl381 : callable Tryz.prog 381 = true := by kernel_rfl

theorem ti22 : intTy Tryz.prog 22 .u64 = true := by kernel_rfl

theorem ti3 : intTy Tryz.prog 3 .i64 = true := by kernel_rfl

theorem ts223 : sized Tryz.prog 223 2 = true := by kernel_rfl

theorem tz223 : zeroOf Tryz.prog 223 = some (.agg (fieldC (⟨0, 0⟩ : Field)).toArray) := by kernel_rfl

theorem tz3 : zeroOf Tryz.prog 3 = some (.int .i64 0) := by kernel_rfl

def D.zz2w (a0 : Int) : Int := (IntKind.u64.wrap (IntKind.i64.wrap (a0 + 1)))

theorem c_free_link (w0 : World) 
    (a0 : Int) :
    Calls Tryz.prog 316 #[.int .i64 a0] w0 (PureRes (.int .u64 (D.zz2w a0)) w0) := by
 refine enter Tryz.func316 rfl 6 rfl rfl fun fr r => ?_
 have hB := Below.refl w0.heap.size w0
 refine wsr ?_
 refine seq_val (U 0) r (fun R => zz04 r rfl) rfl fun fr r => ?_
 refine wn ?_
 refine wsr ?_
 refine seq_val (I a0) r (fun R => y_move r rfl) rfl fun fr r => ?_
 refine seq_val _ r (fun R => y_bin r rfl rfl rfl rfl) rfl fun fr r => ?_
 refine seq_val (U (V (W (a0 + 1)))) r (fun R => zz20 r rfl ti3 ti22) rfl fun fr r => ?_
 refine seq_val (U (V (W (a0 + 1)))) r (fun R => zz04 r rfl) rfl fun fr r => ?_
 refine wn ?_
 refine wp_ret ?_
 refine ret_tmp r rfl rfl ?_
 exact ⟨rfl, hB⟩

def D.free_fresh_1 (r_free_fresh : Plan → Int → T Unit) (c0 : Plan) (c1 : Int) : T Unit := (r_free_fresh c0 (IntKind.i64.wrap (c1 + 1)))

def D.zz4u (r_free_fresh : Plan → Int → T Unit) (a0 : Plan) (a1 : Int) : T Unit := (bif (a1 == a0.nodes) then (D.prog_Set (D.zz1b a0) (D.zz2w 0)) else (let x19 : Int := (bif ((IntKind.i64.wrap (a1 + 1)) == a0.nodes) then 0 else (D.zz2w (IntKind.i64.wrap (a1 + 1)))); (D.zz4s (D.zz1h a0 a1) x19 (fun _ => (D.free_fresh_1 r_free_fresh a0 a1)))))

def D.free_fresh : Nat → Plan → Int → T Unit
  | 0, _, _ => .cut
  | k + 1, a0, a1 => D.zz4u (D.free_fresh k) a0 a1

def zz64 (r : Plan → Int → T Unit) (n : Nat) : Prop := ∀ (F : Nat → Prop) (w0 : World), (∀ b, F b → b < w0.heap.size) → ∀ (a0 : Plan) (a1 : Int), Calls Tryz.prog 210 #[.agg (planC a0).toArray, .int .i64 a1] w0 (RepRes Tryz.prog encNone n (r a0 a1) F w0)

theorem c_free_fresh_1 {n : Nat} {F : Nat → Prop} {r_free_fresh : Plan → Int → T Unit} {w0 : World} (hF : ∀ b, F b → b < w0.heap.size) (ih_free_fresh : ∀ m, m ≤ n → zz64 r_free_fresh m)
    (c0 : Plan) {c0_b : Nat} (c0_F : F c0_b) (c0_h : w0.heap[c0_b]? = some (.cells ((planC c0)).toArray 25 (0, 0))) (c1 : Int) {c1_b : Nat} (c1_F : F c1_b) (c1_h : w0.heap[c1_b]? = some (.cells ([(.int .i64 c1)]).toArray 3 (0, 0))) :
    Calls Tryz.prog 318 #[.pointer (some ⟨c0_b, 0, none⟩), .pointer (some ⟨c1_b, 0, none⟩)] w0 (RepRes Tryz.prog encNone n (D.free_fresh_1 r_free_fresh c0 c1) F w0) := by
 refine enter Tryz.func318 rfl 7 rfl rfl fun fr r => ?_
 have hB := Below.refl w0.heap.size w0
 have l_c0_b := lt_of_block c0_h
 have l_c1_b := lt_of_block c1_h
 refine wsr ?_
 refine seq_new (.cells (progCells false encNone.zero 0 0 0 0 .nilFunc) 186 (0, 0)) r (fun R => y_alloc tz186) rfl fun fr b1 w2 n3 r => ?_
 obtain ⟨e_b1, z_w2, h_b1, hB, zB⟩ := n3.all hB
 refine wn ?_
 refine wsr ?_
 refine seq_val (.agg (planC c0).toArray) r (fun R => zz03 r (cs := (planC c0)) (n := 6) rfl (keep hB c0_h) ta25 rfl) rfl fun fr r => ?_
 refine seq_val (I c1) r (fun R => zz01 r rfl (keep hB c1_h) to3 rfl) rfl fun fr r => ?_
 refine seq_val _ r (fun R => y_bin r rfl rfl rfl rfl) rfl fun fr r => ?_
 have hF1 := fgrow hF hB b1
 refine zz06 r ((ih_free_fresh n (by omega)) (fun b => F b ∨ (w0.heap.size ≤ b ∧ b < w2.heap.size ∧ b ≠ b1)) _ hF1 c0 (W (c1 + 1))) (fun R hc => y_call r rfl cl210 hc) rfl ?_
 rintro _ w4 ⟨v5, rfl, hb, hr6⟩
 refine ⟨_, rfl, fun fr r => ?_⟩
 have z_w4 := hb.size
 have h_b1 := keep hb h_b1
 obtain ⟨hB, zB⟩ := bon hb hB
 refine seq_upd (.cells v5.cells 186 (0, 0)) r (fun R => zz0c r hr6.shape rfl rfl h_b1 ts186 rfl) rfl fun fr w7 u8 r => ?_
 have z_w7 := u8.size
 have h_b1 := u8.at_
 obtain ⟨hB, zB⟩ := u8.on hB (by omega)
 refine wn ?_
 refine wp_ret ?_
 have hs := hr6.shape.cells
 refine zz0a r rfl rfl h_b1 (k := 6) hs.1 ta186 ?_
 rw [← hs.2.2]
 exact rfin hF hB hr6 u8 (by omega) (by omega) (by omega)

theorem b_free_fresh {n : Nat} {F : Nat → Prop} {r_free_fresh : Plan → Int → T Unit} {w0 : World} (hF : ∀ b, F b → b < w0.heap.size) (ih_free_fresh : ∀ m, m < n → zz64 r_free_fresh m)
    (a0 : Plan) (a1 : Int) :
    Calls Tryz.prog 210 #[.agg (planC a0).toArray, .int .i64 a1] w0 (RepRes Tryz.prog encNone n (D.zz4u r_free_fresh a0 a1) F w0) := by
 refine enter Tryz.func210 rfl 28 rfl rfl fun fr r => ?_
 have hB := Below.refl w0.heap.size w0
 refine wsr ?_
 refine seq_new (.cells ((planC a0)).toArray 25 (0, 0)) r (fun R => y_box r (v := (.agg (planC a0).toArray)) rfl) rfl fun fr b1 w2 n3 r => ?_
 obtain ⟨e_b1, z_w2, h_b1, hB, zB⟩ := n3.all hB
 refine seq_new (.cells #[(I a1)] 3 (0, 0)) r (fun R => y_box r (v := (I a1)) rfl) rfl fun fr b4 w5 n6 r => ?_
 have h_b1 := keep n6.below h_b1
 obtain ⟨e_b4, z_w5, h_b4, hB, zB⟩ := n6.all hB
 refine seq_new (.cells (progCells false encNone.zero 0 0 0 0 .nilFunc) 186 (0, 0)) r (fun R => y_alloc tz186) rfl fun fr b7 w8 n9 r => ?_
 have h_b1 := keep n9.below h_b1
 have h_b4 := keep n9.below h_b4
 obtain ⟨e_b7, z_w8, h_b7, hB, zB⟩ := n9.all hB
 refine wn ?_
 refine wp_seq ?_
 refine wsr ?_
 refine seq_val (I a1) r (fun R => zz01 r rfl h_b4 to3 rfl) rfl fun fr r => ?_
 refine seq_val _ r (fun R => zz02 r (o := 0) rfl fo25_0) rfl fun fr r => ?_
 refine seq_val (I a0.nodes) r (fun R => zz01 r rfl h_b1 to3 rfl) rfl fun fr r => ?_
 refine seq_val _ r (fun R => y_bin r rfl rfl rfl rfl) rfl fun fr r => ?_
 refine wn ?_
 refine wp_cond_split (t := (a1 == a0.nodes)) (r.ev rfl) (fun h10 => ?_) (fun h10 => ?_)
 ·
  refine wsr ?_
  refine seq_val (.agg (planC a0).toArray) r (fun R => zz03 r (cs := (planC a0)) (n := 6) rfl h_b1 ta25 rfl) rfl fun fr r => ?_
  refine zz06 r (zz3d w8 a0) (fun R hc => y_call r rfl cl162 hc) rfl ?_
  rintro _ w11 ⟨rfl, hb⟩
  refine ⟨_, rfl, fun fr r => ?_⟩
  have z_w11 := hb.size
  have h_b1 := keep hb h_b1
  have h_b4 := keep hb h_b4
  have h_b7 := keep hb h_b7
  obtain ⟨hB, zB⟩ := bon hb hB
  refine zz06 r (c_free_link w11 0) (fun R hc => y_call r rfl cl316 hc) rfl ?_
  rintro _ w12 ⟨rfl, hb⟩
  refine ⟨_, rfl, fun fr r => ?_⟩
  have z_w12 := hb.size
  have h_b1 := keep hb h_b1
  have h_b4 := keep hb h_b4
  have h_b7 := keep hb h_b7
  obtain ⟨hB, zB⟩ := bon hb hB
  have hF1 := fgrow hF hB b7
  refine zz06 r (c_prog_Set (F := (fun b => F b ∨ (w0.heap.size ≤ b ∧ b < w12.heap.size ∧ b ≠ b7))) (n := n) hF1 (D.zz1b a0) (D.zz2w 0)) (fun R hc => y_call r rfl cl315 hc) rfl ?_
  rintro _ w13 ⟨v14, rfl, hb, hr15⟩
  refine ⟨_, rfl, fun fr r => ?_⟩
  have z_w13 := hb.size
  have h_b1 := keep hb h_b1
  have h_b4 := keep hb h_b4
  have h_b7 := keep hb h_b7
  obtain ⟨hB, zB⟩ := bon hb hB
  refine seq_upd (.cells v14.cells 186 (0, 0)) r (fun R => zz0c r hr15.shape rfl rfl h_b7 ts186 rfl) rfl fun fr w16 u17 r => ?_
  have z_w16 := u17.size
  have h_b1 := u17.keep h_b1 (by omega)
  have h_b4 := u17.keep h_b4 (by omega)
  have h_b7 := u17.at_
  obtain ⟨hB, zB⟩ := u17.on hB (by omega)
  refine wn ?_
  refine wp_ret ?_
  have hd : D.zz4u r_free_fresh a0 a1 = (D.prog_Set (D.zz1b a0) (D.zz2w 0)) := (cond_t h10).trans (rfl)
  have hs := hr15.shape.cells
  refine zz0a r rfl rfl h_b7 (k := 6) hs.1 ta186 ?_
  rw [← hs.2.2, hd]
  exact rfin hF hB hr15 u17 (by omega) (by omega) (by omega)
 ·
  refine wp_skip ?_
  refine wsr ?_
  refine seq_val (I a1) r (fun R => zz01 r rfl h_b4 to3 rfl) rfl fun fr r => ?_
  refine seq_val _ r (fun R => y_bin r rfl rfl rfl rfl) rfl fun fr r => ?_
  refine zz06 r (c_free_link w8 (W (a1 + 1))) (fun R hc => y_call r rfl cl316 hc) rfl ?_
  rintro _ w18 ⟨rfl, hb⟩
  refine ⟨_, rfl, fun fr r => ?_⟩
  have z_w18 := hb.size
  have h_b1 := keep hb h_b1
  have h_b4 := keep hb h_b4
  have h_b7 := keep hb h_b7
  obtain ⟨hB, zB⟩ := bon hb hB
  refine seq_val (U (D.zz2w (W (a1 + 1)))) r (fun R => zz04 r rfl) rfl fun fr r => ?_
  refine wn ?_
  refine wp_seq ?_
  refine wsr ?_
  refine seq_val (I a1) r (fun R => zz01 r rfl h_b4 to3 rfl) rfl fun fr r => ?_
  refine seq_val _ r (fun R => y_bin r rfl rfl rfl rfl) rfl fun fr r => ?_
  refine seq_val _ r (fun R => zz02 r (o := 0) rfl fo25_0) rfl fun fr r => ?_
  refine seq_val (I a0.nodes) r (fun R => zz01 r rfl h_b1 to3 rfl) rfl fun fr r => ?_
  refine seq_val _ r (fun R => y_bin r rfl rfl rfl rfl) rfl fun fr r => ?_
  refine wn ?_
  obtain ⟨x19, hx19⟩ : ∃ x : Int, x = (bif ((W (a1 + 1)) == a0.nodes) then 0 else (D.zz2w (W (a1 + 1)))) := ⟨_, rfl⟩
  refine wp_join (N := 28) [(0, (.agg (planC a0).toArray)), (1, (I a1)), (2, (.pointer (some ⟨b1, 0, none⟩))), (3, (.pointer (some ⟨b4, 0, none⟩))), (4, (.pointer (some ⟨b7, 0, none⟩))), (5, (U x19))] (fun w => Below w0.heap.size w0 w ∧ w18.heap.size ≤ w.heap.size ∧ w.heap[b1]? = some (.cells ((planC a0)).toArray 25 (0, 0)) ∧ w.heap[b4]? = some (.cells #[(I a1)] 3 (0, 0)) ∧ w.heap[b7]? = some (.cells (progCells false encNone.zero 0 0 0 0 .nilFunc) 186 (0, 0))) ?_ ?_
  ·
   refine wp_cond_split (t := ((W (a1 + 1)) == a0.nodes)) (r.ev rfl) (fun h20 => ?_) (fun h20 => ?_)
   ·
    refine wp_region_lit ?_
    refine seq_val (U 0) r (fun R => zz04 r rfl) rfl fun fr r => ?_
    refine wn ?_
    exact ⟨rfl, _, r, (hs_cons rfl (hs_cons rfl (hs_cons rfl (hs_cons rfl (hs_cons rfl (hs_cons (by rw [hx19, cond_t h20]; rfl) hs_nil)))))), hB, (by omega), h_b1, h_b4, h_b7⟩
   ·
    refine wp_skip ?_
    exact ⟨rfl, _, r, (hs_cons rfl (hs_cons rfl (hs_cons rfl (hs_cons rfl (hs_cons rfl (hs_cons (by rw [hx19, cond_f h20]; rfl) hs_nil)))))), hB, (by omega), h_b1, h_b4, h_b7⟩
  ·
   rintro fr w21 g r ⟨hB, z_w21, h_b1, h_b4, h_b7⟩
   have zB := hB.size
   refine wsr ?_
   refine seq_val (.agg (planC a0).toArray) r (fun R => zz03 r (cs := (planC a0)) (n := 6) rfl h_b1 ta25 rfl) rfl fun fr r => ?_
   refine seq_val (I a1) r (fun R => zz01 r rfl h_b4 to3 rfl) rfl fun fr r => ?_
   refine zz06 r (zz47 w21 a0 a1) (fun R hc => y_call r rfl cl163 hc) rfl ?_
   rintro _ w22 ⟨rfl, hb⟩
   refine ⟨_, rfl, fun fr r => ?_⟩
   have z_w22 := hb.size
   have h_b1 := keep hb h_b1
   have h_b4 := keep hb h_b4
   have h_b7 := keep hb h_b7
   obtain ⟨hB, zB⟩ := bon hb hB
   refine seq_val (U x19) r (fun R => y_move r rfl) rfl fun fr r => ?_
   refine seq_val (.func (.func 318) #[] #[.pointer (some ⟨b1, 0, none⟩), .pointer (some ⟨b4, 0, none⟩)]) r (fun R => zz0o r rfl) rfl fun fr r => ?_
   have hF1 := fgrow hF hB b7
   have f23 : ((fun b => F b ∨ (w0.heap.size ≤ b ∧ b < w22.heap.size ∧ b ≠ b7))) b1 := (.inr ⟨by omega, by omega, by omega⟩)
   have f24 : ((fun b => F b ∨ (w0.heap.size ≤ b ∧ b < w22.heap.size ∧ b ≠ b7))) b4 := (.inr ⟨by omega, by omega, by omega⟩)
   refine zz06 r (c_prog_Store_None (F := (fun b => F b ∨ (w0.heap.size ≤ b ∧ b < w22.heap.size ∧ b ≠ b7))) (n := n) hF1 (D.zz1h a0 a1) x19 ⟨318, [], [.pointer (some ⟨b1, 0, none⟩), .pointer (some ⟨b4, 0, none⟩)], cl318, rfl, fun m hm _ w' hs hz => c_free_fresh_1 (fun b hb => Nat.lt_of_lt_of_le (hF1 b hb) hz) (fun m' hm' => ih_free_fresh m' (by omega)) a0 f23 (hs.at_ f23 h_b1) a1 f24 (hs.at_ f24 h_b4)⟩) (fun R hc => y_call r rfl cl317 hc) rfl ?_
   rintro _ w25 ⟨v26, rfl, hb, hr27⟩
   refine ⟨_, rfl, fun fr r => ?_⟩
   have z_w25 := hb.size
   have h_b1 := keep hb h_b1
   have h_b4 := keep hb h_b4
   have h_b7 := keep hb h_b7
   obtain ⟨hB, zB⟩ := bon hb hB
   refine seq_upd (.cells v26.cells 186 (0, 0)) r (fun R => zz0c r hr27.shape rfl rfl h_b7 ts186 rfl) rfl fun fr w28 u29 r => ?_
   have z_w28 := u29.size
   have h_b1 := u29.keep h_b1 (by omega)
   have h_b4 := u29.keep h_b4 (by omega)
   have h_b7 := u29.at_
   obtain ⟨hB, zB⟩ := u29.on hB (by omega)
   refine wn ?_
   refine wp_ret ?_
   have hd : D.zz4u r_free_fresh a0 a1 = (D.zz4s (D.zz1h a0 a1) x19 (fun _ => (D.free_fresh_1 r_free_fresh a0 a1))) := by subst hx19; exact (cond_f h10).trans (rfl)
   have hs := hr27.shape.cells
   refine zz0a r rfl rfl h_b7 (k := 6) hs.1 ta186 ?_
   rw [← hs.2.2, hd]
   exact rfin hF hB hr27 u29 (by omega) (by omega) (by omega)

theorem c_free_fresh {n : Nat} {k : Nat} (hk : n < k) : zz64 (D.free_fresh k) n := by
  induction n using Nat.strongRecOn generalizing k with
  | _ n ih =>
    obtain ⟨k, rfl⟩ : ∃ q, k = q + 1 := ⟨k - 1, by omega⟩
    intro F w0 hF
    have h := @b_free_fresh n F (D.free_fresh k) w0 hF (fun m hm => ih m hm (by omega))
    exact h

def D.zz5f (j : Nat) (a0 : Plan) : T Unit := (D.free_fresh j a0 0)

theorem c_free_Fresh {n : Nat} {F : Nat → Prop} {j : Nat} {w0 : World} (hF : ∀ b, F b → b < w0.heap.size) (hj : n < j)
    (a0 : Plan) :
    Calls Tryz.prog 111 #[.agg (planC a0).toArray] w0 (RepRes Tryz.prog encNone n (D.zz5f j a0) F w0) := by
 refine enter Tryz.func111 rfl 5 rfl rfl fun fr r => ?_
 have hB := Below.refl w0.heap.size w0
 refine wsr ?_
 refine seq_new (.cells ((planC a0)).toArray 25 (0, 0)) r (fun R => y_box r (v := (.agg (planC a0).toArray)) rfl) rfl fun fr b1 w2 n3 r => ?_
 obtain ⟨e_b1, z_w2, h_b1, hB, zB⟩ := n3.all hB
 refine seq_new (.cells (progCells false encNone.zero 0 0 0 0 .nilFunc) 186 (0, 0)) r (fun R => y_alloc tz186) rfl fun fr b4 w5 n6 r => ?_
 have h_b1 := keep n6.below h_b1
 obtain ⟨e_b4, z_w5, h_b4, hB, zB⟩ := n6.all hB
 refine wn ?_
 refine wsr ?_
 refine seq_val (.agg (planC a0).toArray) r (fun R => zz03 r (cs := (planC a0)) (n := 6) rfl h_b1 ta25 rfl) rfl fun fr r => ?_
 have hF1 := fgrow hF hB b4
 refine zz06 r ((c_free_fresh (k := j) (n := n) (by omega)) (fun b => F b ∨ (w0.heap.size ≤ b ∧ b < w5.heap.size ∧ b ≠ b4)) _ hF1 a0 0) (fun R hc => y_call r rfl cl210 hc) rfl ?_
 rintro _ w7 ⟨v8, rfl, hb, hr9⟩
 refine ⟨_, rfl, fun fr r => ?_⟩
 have z_w7 := hb.size
 have h_b1 := keep hb h_b1
 have h_b4 := keep hb h_b4
 obtain ⟨hB, zB⟩ := bon hb hB
 refine seq_upd (.cells v8.cells 186 (0, 0)) r (fun R => zz0c r hr9.shape rfl rfl h_b4 ts186 rfl) rfl fun fr w10 u11 r => ?_
 have z_w10 := u11.size
 have h_b1 := u11.keep h_b1 (by omega)
 have h_b4 := u11.at_
 obtain ⟨hB, zB⟩ := u11.on hB (by omega)
 refine wn ?_
 refine wp_ret ?_
 have hs := hr9.shape.cells
 refine zz0a r rfl rfl h_b4 (k := 6) hs.1 ta186 ?_
 rw [← hs.2.2]
 exact rfin hF hB hr9 u11 (by omega) (by omega) (by omega)

def D.zz19  : Field := (⟨0, 21⟩ : Field)

theorem c_free_node (w0 : World) 
     :
    Calls Tryz.prog 160 #[] w0 (PureRes (.agg (fieldC D.zz19).toArray) w0) := by
 refine enter Tryz.func160 rfl 2 rfl rfl fun fr r => ?_
 have hB := Below.refl w0.heap.size w0
 refine wsr ?_
 refine seq_new (.cells ((fieldC (⟨0, 0⟩ : Field))).toArray 223 (0, 0)) r (fun R => y_alloc tz223) rfl fun fr b1 w2 n3 r => ?_
 obtain ⟨e_b1, z_w2, h_b1, hB, zB⟩ := n3.all hB
 refine wn ?_
 refine wsr ?_
 refine seq_val (.agg (fieldC (⟨0, 21⟩ : Field)).toArray) r (fun R => y_build r (by kernel_rfl)) rfl fun fr r => ?_
 refine seq_upd (.cells ((fieldC (⟨0, 21⟩ : Field))).toArray 223 (0, 0)) r (fun R => y_store r (o := 0) (v := (.agg (fieldC (⟨0, 21⟩ : Field)).toArray)) rfl rfl h_b1 ts223 (Nat.le_of_ble_eq_true rfl) rfl rfl) rfl fun fr w4 u5 r => ?_
 have z_w4 := u5.size
 have h_b1 := u5.at_
 obtain ⟨hB, zB⟩ := u5.on hB (by omega)
 refine wn ?_
 refine wp_ret ?_
 refine zz0a r rfl rfl h_b1 (k := 2) rfl ta223 ?_
 exact ⟨rfl, hB⟩

def D.zz4k  : Field := (⟨21, 43⟩ : Field)

theorem c_free_tag (w0 : World) 
     :
    Calls Tryz.prog 355 #[] w0 (PureRes (.agg (fieldC D.zz4k).toArray) w0) := by
 refine enter Tryz.func355 rfl 2 rfl rfl fun fr r => ?_
 have hB := Below.refl w0.heap.size w0
 refine wsr ?_
 refine seq_new (.cells ((fieldC (⟨0, 0⟩ : Field))).toArray 223 (0, 0)) r (fun R => y_alloc tz223) rfl fun fr b1 w2 n3 r => ?_
 obtain ⟨e_b1, z_w2, h_b1, hB, zB⟩ := n3.all hB
 refine wn ?_
 refine wsr ?_
 refine seq_val (.agg (fieldC (⟨21, 43⟩ : Field)).toArray) r (fun R => y_build r (by kernel_rfl)) rfl fun fr r => ?_
 refine seq_upd (.cells ((fieldC (⟨21, 43⟩ : Field))).toArray 223 (0, 0)) r (fun R => y_store r (o := 0) (v := (.agg (fieldC (⟨21, 43⟩ : Field)).toArray)) rfl rfl h_b1 ts223 (Nat.le_of_ble_eq_true rfl) rfl rfl) rfl fun fr w4 u5 r => ?_
 have z_w4 := u5.size
 have h_b1 := u5.at_
 obtain ⟨hB, zB⟩ := u5.on hB (by omega)
 refine wn ?_
 refine wp_ret ?_
 refine zz0a r rfl rfl h_b1 (k := 2) rfl ta223 ?_
 exact ⟨rfl, hB⟩

def D.zz3j (a0 : Int) (a1 : Int) : Int := (D.zz0n D.zz4k (D.zz0n D.zz19 0 a1) (IntKind.u64.wrap ((D.zz09 D.zz4k a0) + 1)))

theorem c_free_turned (w0 : World) 
    (a0 : Int) (a1 : Int) :
    Calls Tryz.prog 291 #[.int .u64 a0, .int .u64 a1] w0 (PureRes (.int .u64 (D.zz3j a0 a1)) w0) := by
 refine enter Tryz.func291 rfl 14 rfl rfl fun fr r => ?_
 have hB := Below.refl w0.heap.size w0
 refine wsr ?_
 refine seq_val (U 0) r (fun R => zz04 r rfl) rfl fun fr r => ?_
 refine wn ?_
 refine wsr ?_
 refine zz06 r (c_free_tag w0 ) (fun R hc => y_call r rfl cl355 hc) rfl ?_
 rintro _ w1 ⟨rfl, hb⟩
 refine ⟨_, rfl, fun fr r => ?_⟩
 have z_w1 := hb.size
 obtain ⟨hB, zB⟩ := bon hb hB
 refine zz06 r (c_free_node w1 ) (fun R hc => y_call r rfl cl160 hc) rfl ?_
 rintro _ w2 ⟨rfl, hb⟩
 refine ⟨_, rfl, fun fr r => ?_⟩
 have z_w2 := hb.size
 obtain ⟨hB, zB⟩ := bon hb hB
 refine seq_val (U a1) r (fun R => y_move r rfl) rfl fun fr r => ?_
 refine zz06 r (zz56 w2 D.zz19 0 a1) (fun R hc => y_call r rfl cl296 hc) rfl ?_
 rintro _ w3 ⟨rfl, hb⟩
 refine ⟨_, rfl, fun fr r => ?_⟩
 have z_w3 := hb.size
 obtain ⟨hB, zB⟩ := bon hb hB
 refine zz06 r (c_free_tag w3 ) (fun R hc => y_call r rfl cl355 hc) rfl ?_
 rintro _ w4 ⟨rfl, hb⟩
 refine ⟨_, rfl, fun fr r => ?_⟩
 have z_w4 := hb.size
 obtain ⟨hB, zB⟩ := bon hb hB
 refine seq_val (U a0) r (fun R => y_move r rfl) rfl fun fr r => ?_
 refine zz06 r (zz3m w4 D.zz4k a0) (fun R hc => y_call r rfl cl161 hc) rfl ?_
 rintro _ w5 ⟨rfl, hb⟩
 refine ⟨_, rfl, fun fr r => ?_⟩
 have z_w5 := hb.size
 obtain ⟨hB, zB⟩ := bon hb hB
 refine seq_val _ r (fun R => y_bin r rfl rfl rfl rfl) rfl fun fr r => ?_
 refine zz06 r (zz56 w5 D.zz4k (D.zz0n D.zz19 0 a1) (V ((D.zz09 D.zz4k a0) + 1))) (fun R hc => y_call r rfl cl296 hc) rfl ?_
 rintro _ w6 ⟨rfl, hb⟩
 refine ⟨_, rfl, fun fr r => ?_⟩
 have z_w6 := hb.size
 obtain ⟨hB, zB⟩ := bon hb hB
 refine seq_val (U (D.zz0n D.zz4k (D.zz0n D.zz19 0 a1) (V ((D.zz09 D.zz4k a0) + 1)))) r (fun R => zz04 r rfl) rfl fun fr r => ?_
 refine wn ?_
 refine wp_ret ?_
 refine ret_tmp r rfl rfl ?_
 exact ⟨rfl, hB⟩

def D.zz3h (r_free_Pop : Plan → T Int) (c0 : Plan) (c1 : Int) (a0 : Bool) : T Int := (bif (!a0) then (r_free_Pop c0) else (D.zz16 c1))

def D.zz5l (r_free_Pop : Plan → T Int) (c0 : Plan) (c1 : Int) (c2 : Int) (a0 : Int) : T Int := (D.prog_Swap_int (D.zz1b c0) c1 (D.zz3j c1 a0) (fun x => (D.zz3h r_free_Pop c0 c2 x)))

def D.zz6c (r_free_Pop : Plan → T Int) (c0 : Plan) (a0 : Int) : T Int := (bif (decide ((IntKind.i64.wrap ((IntKind.i64.wrap (D.zz09 D.zz19 a0)) - 1)) < 0)) then (D.zz16 (-1)) else (D.zz1n (D.zz1h c0 (IntKind.i64.wrap ((IntKind.i64.wrap (D.zz09 D.zz19 a0)) - 1))) (fun x => (D.zz5l r_free_Pop c0 a0 (IntKind.i64.wrap ((IntKind.i64.wrap (D.zz09 D.zz19 a0)) - 1)) x))))

def D.zz5t (r_free_Pop : Plan → T Int) (a0 : Plan) : T Int := (D.zz1n (D.zz1b a0) (fun x => (D.zz6c r_free_Pop a0 x)))

def D.zz4j : Nat → Plan → T Int
  | 0, _ => .cut
  | k + 1, a0 => D.zz5t (D.zz4j k) a0

def zz53 (r : Plan → T Int) (n : Nat) : Prop := ∀ (F : Nat → Prop) (w0 : World), (∀ b, F b → b < w0.heap.size) → ∀ (a0 : Plan), Calls Tryz.prog 191 #[.agg (planC a0).toArray] w0 (RepRes Tryz.prog encInt n (r a0) F w0)

theorem c_free_Pop_1_1_1 {n : Nat} {F : Nat → Prop} {r_free_Pop : Plan → T Int} {w0 : World} (hF : ∀ b, F b → b < w0.heap.size) (ih_free_Pop : ∀ m, m ≤ n → zz53 r_free_Pop m)
    (c0 : Plan) {c0_b : Nat} (c0_F : F c0_b) (c0_h : w0.heap[c0_b]? = some (.cells ((planC c0)).toArray 25 (0, 0))) (c1 : Int) {c1_b : Nat} (c1_F : F c1_b) (c1_h : w0.heap[c1_b]? = some (.cells ([(.int .i64 c1)]).toArray 3 (0, 0))) (a0 : Bool) :
    Calls Tryz.prog 292 #[.bool a0, .pointer (some ⟨c0_b, 0, none⟩), .pointer (some ⟨c1_b, 0, none⟩)] w0 (RepRes Tryz.prog encInt n (D.zz3h r_free_Pop c0 c1 a0) F w0) := by
 refine enter Tryz.func292 rfl 11 rfl rfl fun fr r => ?_
 have hB := Below.refl w0.heap.size w0
 have l_c0_b := lt_of_block c0_h
 have l_c1_b := lt_of_block c1_h
 refine wsr ?_
 refine seq_new (.cells (progCells false encInt.zero 0 0 0 0 .nilFunc) 167 (0, 0)) r (fun R => y_alloc tz167) rfl fun fr b1 w2 n3 r => ?_
 obtain ⟨e_b1, z_w2, h_b1, hB, zB⟩ := n3.all hB
 refine wn ?_
 refine wp_seq ?_
 refine wsr ?_
 refine seq_val (.bool a0) r (fun R => y_move r rfl) rfl fun fr r => ?_
 refine seq_val (.bool (!a0)) r (fun R => y_un r (u := (.bool a0)) rfl rfl) rfl fun fr r => ?_
 refine wn ?_
 refine wp_cond_split (t := (!a0)) (r.ev rfl) (fun h4 => ?_) (fun h4 => ?_)
 ·
  refine wsr ?_
  refine seq_val (.agg (planC c0).toArray) r (fun R => zz03 r (cs := (planC c0)) (n := 6) rfl (keep hB c0_h) ta25 rfl) rfl fun fr r => ?_
  have hF1 := fgrow hF hB b1
  refine zz06 r ((ih_free_Pop n (by omega)) (fun b => F b ∨ (w0.heap.size ≤ b ∧ b < w2.heap.size ∧ b ≠ b1)) _ hF1 c0) (fun R hc => y_call r rfl cl191 hc) rfl ?_
  rintro _ w5 ⟨v6, rfl, hb, hr7⟩
  refine ⟨_, rfl, fun fr r => ?_⟩
  have z_w5 := hb.size
  have h_b1 := keep hb h_b1
  obtain ⟨hB, zB⟩ := bon hb hB
  refine seq_upd (.cells v6.cells 167 (0, 0)) r (fun R => zz0c r hr7.shape rfl rfl h_b1 ts167 rfl) rfl fun fr w8 u9 r => ?_
  have z_w8 := u9.size
  have h_b1 := u9.at_
  obtain ⟨hB, zB⟩ := u9.on hB (by omega)
  refine wn ?_
  refine wp_ret ?_
  have hd : D.zz3h r_free_Pop c0 c1 a0 = (r_free_Pop c0) := (cond_t h4).trans (rfl)
  have hs := hr7.shape.cells
  refine zz0a r rfl rfl h_b1 (k := 7) hs.1 ta167 ?_
  rw [← hs.2.2, hd]
  exact rfin hF hB hr7 u9 (by omega) (by omega) (by omega)
 ·
  refine wp_skip ?_
  refine wsr ?_
  refine seq_val (I c1) r (fun R => zz01 r rfl (keep hB c1_h) to3 rfl) rfl fun fr r => ?_
  have hF1 := fgrow hF hB b1
  refine zz06 r (zz1v (F := (fun b => F b ∨ (w0.heap.size ≤ b ∧ b < w2.heap.size ∧ b ≠ b1))) (n := n) hF1 c1) (fun R hc => y_call r rfl cl229 hc) rfl ?_
  rintro _ w10 ⟨v11, rfl, hb, hr12⟩
  refine ⟨_, rfl, fun fr r => ?_⟩
  have z_w10 := hb.size
  have h_b1 := keep hb h_b1
  obtain ⟨hB, zB⟩ := bon hb hB
  refine seq_upd (.cells v11.cells 167 (0, 0)) r (fun R => zz0c r hr12.shape rfl rfl h_b1 ts167 rfl) rfl fun fr w13 u14 r => ?_
  have z_w13 := u14.size
  have h_b1 := u14.at_
  obtain ⟨hB, zB⟩ := u14.on hB (by omega)
  refine wn ?_
  refine wp_ret ?_
  have hd : D.zz3h r_free_Pop c0 c1 a0 = (D.zz16 c1) := (cond_f h4).trans (rfl)
  have hs := hr12.shape.cells
  refine zz0a r rfl rfl h_b1 (k := 7) hs.1 ta167 ?_
  rw [← hs.2.2, hd]
  exact rfin hF hB hr12 u14 (by omega) (by omega) (by omega)

theorem c_free_Pop_1_1 {n : Nat} {F : Nat → Prop} {r_free_Pop : Plan → T Int} {w0 : World} (hF : ∀ b, F b → b < w0.heap.size) (ih_free_Pop : ∀ m, m < n → zz53 r_free_Pop m)
    (c0 : Plan) {c0_b : Nat} (c0_F : F c0_b) (c0_h : w0.heap[c0_b]? = some (.cells ((planC c0)).toArray 25 (0, 0))) (c1 : Int) {c1_b : Nat} (c1_F : F c1_b) (c1_h : w0.heap[c1_b]? = some (.cells ([(.int .u64 c1)]).toArray 22 (0, 0))) (c2 : Int) {c2_b : Nat} (c2_F : F c2_b) (c2_h : w0.heap[c2_b]? = some (.cells ([(.int .i64 c2)]).toArray 3 (0, 0))) (a0 : Int) :
    Calls Tryz.prog 289 #[.int .u64 a0, .pointer (some ⟨c0_b, 0, none⟩), .pointer (some ⟨c1_b, 0, none⟩), .pointer (some ⟨c2_b, 0, none⟩)] w0 (RepRes Tryz.prog encInt n (D.zz5l r_free_Pop c0 c1 c2 a0) F w0) := by
 refine enter Tryz.func289 rfl 14 rfl rfl fun fr r => ?_
 have hB := Below.refl w0.heap.size w0
 have l_c0_b := lt_of_block c0_h
 have l_c1_b := lt_of_block c1_h
 have l_c2_b := lt_of_block c2_h
 refine wsr ?_
 refine seq_new (.cells (progCells false encInt.zero 0 0 0 0 .nilFunc) 167 (0, 0)) r (fun R => y_alloc tz167) rfl fun fr b1 w2 n3 r => ?_
 obtain ⟨e_b1, z_w2, h_b1, hB, zB⟩ := n3.all hB
 refine wn ?_
 refine wp_seq ?_
 refine zz1c 7 [.val (.agg (planC c0).toArray), .val (I (D.zz1b c0)), .val (U c1), .val (U c1), .val (U a0), .val (U (D.zz3j c1 a0)), .val (.func (.func 292) #[] #[.pointer (some ⟨c0_b, 0, none⟩), .pointer (some ⟨c2_b, 0, none⟩)])] mixed r (by kernel_rfl) (zz00 (by exact trivial) (zz00 (by exact trivial) (zz00 (by exact trivial) (zz00 (by exact trivial) (zz00 (by exact trivial) (zz00 (by exact trivial) (zz00 (by exact trivial) zz12))))))) ?_ ?_
 ·
  refine ec r (fun _ u _ b d s => zz03 s (cs := (planC c0)) (n := 6) rfl (keep2 hB b c0_h) ta25 rfl bz) ?_
  refine ec r (fun fr1 u w' hb' hd r' => y_call r' (args := [(.agg (planC c0).toArray)]) (lc hd.1 l0) cl162 ((zz3d _ c0).mono (by rintro _ w2 ⟨rfl, hb2⟩; exact ⟨_, rfl, hb2, rfl⟩))) ?_
  refine ec r (fun _ u _ b d s => zz01 s rfl (keep2 hB b c1_h) to22 rfl bz) ?_
  refine ec r (fun _ u _ b d s => zz01 s rfl (keep2 hB b c1_h) to22 rfl bz) ?_
  refine ec r (fun _ u _ b d s => y_move s rfl bz) ?_
  refine ec r (fun fr1 u w' hb' hd r' => y_call r' (args := [(U c1), (U a0)]) (lc hd.1 (lc hd.2.1 l0)) cl291 ((c_free_turned _ c1 a0).mono (by rintro _ w2 ⟨rfl, hb2⟩; exact ⟨_, rfl, hb2, rfl⟩))) ?_
  refine ec r (fun _ u _ b d s => zz0o s (v := (.func (.func 292) #[] #[.pointer (some ⟨c0_b, 0, none⟩), .pointer (some ⟨c2_b, 0, none⟩)])) rfl bz) ?_
  exact zz1l
 ·
  intro fr u w4 hb hΦ hne r
  have r := r.congr (sc (hΦ 6 (by decide)) (sc (hΦ 5 (by decide)) (sc (hΦ 4 (by decide)) (sc (hΦ 3 (by decide)) (sc (hΦ 2 (by decide)) (sc (hΦ 1 (by decide)) (sc (hΦ 0 (by decide)) rfl)))))))
  have z_w4 := hb.size
  have h_b1 := keep hb h_b1
  obtain ⟨hB, zB⟩ := bon hb hB
  have hF1 := fgrow hF hB b1
  have f5 : ((fun b => F b ∨ (w0.heap.size ≤ b ∧ b < w4.heap.size ∧ b ≠ b1))) c0_b := (.inl c0_F)
  have f6 : ((fun b => F b ∨ (w0.heap.size ≤ b ∧ b < w4.heap.size ∧ b ≠ b1))) c2_b := (.inl c2_F)
  refine zz06 r (c_prog_Swap_int (F := (fun b => F b ∨ (w0.heap.size ≤ b ∧ b < w4.heap.size ∧ b ≠ b1))) (n := n) hF1 (D.zz1b c0) c1 (D.zz3j c1 a0) ⟨292, [], [.pointer (some ⟨c0_b, 0, none⟩), .pointer (some ⟨c2_b, 0, none⟩)], cl292, rfl, fun m hm x w' hs hz => c_free_Pop_1_1_1 (fun b hb => Nat.lt_of_lt_of_le (hF1 b hb) hz) (fun m' hm' => ih_free_Pop m' (by omega)) c0 f5 (hs.at_ f5 (keep hB c0_h)) c2 f6 (hs.at_ f6 (keep hB c2_h)) x⟩) (fun R hc => y_call r rfl cl290 hc) rfl ?_
  rintro _ w7 ⟨v8, rfl, hb, hr9⟩
  refine ⟨_, rfl, fun fr r => ?_⟩
  have z_w7 := hb.size
  have h_b1 := keep hb h_b1
  obtain ⟨hB, zB⟩ := bon hb hB
  refine seq_upd (.cells v8.cells 167 (0, 0)) r (fun R => zz0c r hr9.shape rfl rfl h_b1 ts167 rfl) rfl fun fr w10 u11 r => ?_
  have z_w10 := u11.size
  have h_b1 := u11.at_
  obtain ⟨hB, zB⟩ := u11.on hB (by omega)
  refine wn ?_
  refine wp_ret ?_
  have hs := hr9.shape.cells
  refine zz0a r rfl rfl h_b1 (k := 7) hs.1 ta167 ?_
  rw [← hs.2.2]
  exact rfin hF hB hr9 u11 (by omega) (by omega) (by omega)

theorem c_free_Pop_1 {n : Nat} {F : Nat → Prop} {r_free_Pop : Plan → T Int} {w0 : World} (hF : ∀ b, F b → b < w0.heap.size) (ih_free_Pop : ∀ m, m < n → zz53 r_free_Pop m)
    (c0 : Plan) {c0_b : Nat} (c0_F : F c0_b) (c0_h : w0.heap[c0_b]? = some (.cells ((planC c0)).toArray 25 (0, 0))) (a0 : Int) :
    Calls Tryz.prog 288 #[.int .u64 a0, .pointer (some ⟨c0_b, 0, none⟩)] w0 (RepRes Tryz.prog encInt n (D.zz6c r_free_Pop c0 a0) F w0) := by
 refine enter Tryz.func288 rfl 18 rfl rfl fun fr r => ?_
 have hB := Below.refl w0.heap.size w0
 have l_c0_b := lt_of_block c0_h
 refine wsr ?_
 refine seq_new (.cells #[(U a0)] 22 (0, 0)) r (fun R => y_box r (v := (U a0)) rfl) rfl fun fr b1 w2 n3 r => ?_
 obtain ⟨e_b1, z_w2, h_b1, hB, zB⟩ := n3.all hB
 refine seq_new (.cells (progCells false encInt.zero 0 0 0 0 .nilFunc) 167 (0, 0)) r (fun R => y_alloc tz167) rfl fun fr b4 w5 n6 r => ?_
 have h_b1 := keep n6.below h_b1
 obtain ⟨e_b4, z_w5, h_b4, hB, zB⟩ := n6.all hB
 refine wn ?_
 refine wp_seq ?_
 refine zz1c 6 [.val (.agg (fieldC D.zz19).toArray), .val (U a0), .val (U (D.zz09 D.zz19 a0)), .val (I (W (D.zz09 D.zz19 a0))), .val (I (W ((W (D.zz09 D.zz19 a0)) - 1))), .new w5.heap.size (.cells #[(I 0)] 3 (0, 0))] mixed r (by kernel_rfl) (zz00 (by exact trivial) (zz00 (by exact trivial) (zz00 (by exact trivial) (zz00 (by exact trivial) (zz00 (by exact trivial) (zz00 (Nat.le_refl _) zz12)))))) ?_ ?_
 ·
  refine ec r (fun fr1 u w' hb' hd r' => y_call r' (args := []) (l0) cl160 ((c_free_node _ ).mono (by rintro _ w2 ⟨rfl, hb2⟩; exact ⟨_, rfl, hb2, rfl⟩))) ?_
  refine ec r (fun _ u _ b d s => zz01 s rfl (keep b h_b1) to22 rfl bz) ?_
  refine ec r (fun fr1 u w' hb' hd r' => y_call r' (args := [(.agg (fieldC D.zz19).toArray), (U a0)]) (lc hd.1 (lc hd.2.1 l0)) cl161 ((zz3m _ D.zz19 a0).mono (by rintro _ w2 ⟨rfl, hb2⟩; exact ⟨_, rfl, hb2, rfl⟩))) ?_
  refine ec r (fun _ u _ b d s => zz20 s (n := (D.zz09 D.zz19 a0)) d.1 ti22 ti3 bz) ?_
  refine ec r (fun _ u _ b d s => y_bin s d.1 rfl rfl rfl bz) ?_
  refine ec r (fun fr1 u w' hb' hd r' => y_alloc tz3 (fun b w2 n2 => ⟨n2.below, b, rfl, Nat.le_of_eq n2.eq.symm, n2.at_⟩)) ?_
  exact zz1l
 ·
  intro fr u w7 hb hΦ hne r
  obtain ⟨b8, g5, e_b8, h_b8⟩ := hΦ 5 (by decide)
  have l_b8 := lt_of_block h_b8
  have r := r.congr (sc g5 (sc (hΦ 4 (by decide)) (sc (hΦ 3 (by decide)) (sc (hΦ 2 (by decide)) (sc (hΦ 1 (by decide)) (sc (hΦ 0 (by decide)) rfl))))))
  have z_w7 := hb.size
  have h_b1 := keep hb h_b1
  have h_b4 := keep hb h_b4
  obtain ⟨hB, zB⟩ := bon hb hB
  refine seq_upd (.cells #[(I (W ((W (D.zz09 D.zz19 a0)) - 1)))] 3 (0, 0)) r (fun R => y_store r (o := 0) (v := (I (W ((W (D.zz09 D.zz19 a0)) - 1)))) rfl rfl h_b8 ts3 (Nat.le_of_ble_eq_true rfl) rfl rfl) rfl fun fr w9 u10 r => ?_
  have z_w9 := u10.size
  have h_b1 := u10.keep h_b1 (by omega)
  have h_b4 := u10.keep h_b4 (by omega)
  have h_b8 := u10.at_
  obtain ⟨hB, zB⟩ := u10.on hB (by omega)
  refine wn ?_
  refine wp_seq ?_
  refine wsr ?_
  refine seq_val (I (W ((W (D.zz09 D.zz19 a0)) - 1))) r (fun R => zz01 r rfl h_b8 to3 rfl) rfl fun fr r => ?_
  refine seq_val _ r (fun R => y_bin r rfl rfl rfl rfl) rfl fun fr r => ?_
  refine wn ?_
  refine wp_cond_split (t := (decide ((W ((W (D.zz09 D.zz19 a0)) - 1)) < 0))) (r.ev rfl) (fun h11 => ?_) (fun h11 => ?_)
  ·
   refine wsr ?_
   have hF1 := fgrow hF hB b4
   refine zz06 r (zz1v (F := (fun b => F b ∨ (w0.heap.size ≤ b ∧ b < w9.heap.size ∧ b ≠ b4))) (n := n) hF1 (-1)) (fun R hc => y_call r rfl cl229 hc) rfl ?_
   rintro _ w12 ⟨v13, rfl, hb, hr14⟩
   refine ⟨_, rfl, fun fr r => ?_⟩
   have z_w12 := hb.size
   have h_b1 := keep hb h_b1
   have h_b4 := keep hb h_b4
   have h_b8 := keep hb h_b8
   obtain ⟨hB, zB⟩ := bon hb hB
   refine seq_upd (.cells v13.cells 167 (0, 0)) r (fun R => zz0c r hr14.shape rfl rfl h_b4 ts167 rfl) rfl fun fr w15 u16 r => ?_
   have z_w15 := u16.size
   have h_b1 := u16.keep h_b1 (by omega)
   have h_b8 := u16.keep h_b8 (by omega)
   have h_b4 := u16.at_
   obtain ⟨hB, zB⟩ := u16.on hB (by omega)
   refine wn ?_
   refine wp_ret ?_
   have hd : D.zz6c r_free_Pop c0 a0 = (D.zz16 (-1)) := (cond_t h11).trans (rfl)
   have hs := hr14.shape.cells
   refine zz0a r rfl rfl h_b4 (k := 7) hs.1 ta167 ?_
   rw [← hs.2.2, hd]
   exact rfin hF hB hr14 u16 (by omega) (by omega) (by omega)
  ·
   refine wp_skip ?_
   refine wsr ?_
   refine seq_val (.agg (planC c0).toArray) r (fun R => zz03 r (cs := (planC c0)) (n := 6) rfl (keep hB c0_h) ta25 rfl) rfl fun fr r => ?_
   refine seq_val (I (W ((W (D.zz09 D.zz19 a0)) - 1))) r (fun R => zz01 r rfl h_b8 to3 rfl) rfl fun fr r => ?_
   refine zz06 r (zz47 w9 c0 (W ((W (D.zz09 D.zz19 a0)) - 1))) (fun R hc => y_call r rfl cl163 hc) rfl ?_
   rintro _ w17 ⟨rfl, hb⟩
   refine ⟨_, rfl, fun fr r => ?_⟩
   have z_w17 := hb.size
   have h_b1 := keep hb h_b1
   have h_b4 := keep hb h_b4
   have h_b8 := keep hb h_b8
   obtain ⟨hB, zB⟩ := bon hb hB
   refine seq_val (.func (.func 289) #[] #[.pointer (some ⟨c0_b, 0, none⟩), .pointer (some ⟨b1, 0, none⟩), .pointer (some ⟨b8, 0, none⟩)]) r (fun R => zz0o r rfl) rfl fun fr r => ?_
   have hF1 := fgrow hF hB b4
   have f18 : ((fun b => F b ∨ (w0.heap.size ≤ b ∧ b < w17.heap.size ∧ b ≠ b4))) c0_b := (.inl c0_F)
   have f19 : ((fun b => F b ∨ (w0.heap.size ≤ b ∧ b < w17.heap.size ∧ b ≠ b4))) b1 := (.inr ⟨by omega, by omega, by omega⟩)
   have f20 : ((fun b => F b ∨ (w0.heap.size ≤ b ∧ b < w17.heap.size ∧ b ≠ b4))) b8 := (.inr ⟨by omega, by omega, by omega⟩)
   refine zz06 r (zz2a (F := (fun b => F b ∨ (w0.heap.size ≤ b ∧ b < w17.heap.size ∧ b ≠ b4))) (n := n) hF1 (D.zz1h c0 (W ((W (D.zz09 D.zz19 a0)) - 1))) ⟨289, [], [.pointer (some ⟨c0_b, 0, none⟩), .pointer (some ⟨b1, 0, none⟩), .pointer (some ⟨b8, 0, none⟩)], cl289, rfl, fun m hm x w' hs hz => c_free_Pop_1_1 (fun b hb => Nat.lt_of_lt_of_le (hF1 b hb) hz) (fun m' hm' => ih_free_Pop m' (by omega)) c0 f18 (hs.at_ f18 (keep hB c0_h)) a0 f19 (hs.at_ f19 h_b1) (W ((W (D.zz09 D.zz19 a0)) - 1)) f20 (hs.at_ f20 h_b8) x⟩) (fun R hc => y_call r rfl cl198 hc) rfl ?_
   rintro _ w21 ⟨v22, rfl, hb, hr23⟩
   refine ⟨_, rfl, fun fr r => ?_⟩
   have z_w21 := hb.size
   have h_b1 := keep hb h_b1
   have h_b4 := keep hb h_b4
   have h_b8 := keep hb h_b8
   obtain ⟨hB, zB⟩ := bon hb hB
   refine seq_upd (.cells v22.cells 167 (0, 0)) r (fun R => zz0c r hr23.shape rfl rfl h_b4 ts167 rfl) rfl fun fr w24 u25 r => ?_
   have z_w24 := u25.size
   have h_b1 := u25.keep h_b1 (by omega)
   have h_b8 := u25.keep h_b8 (by omega)
   have h_b4 := u25.at_
   obtain ⟨hB, zB⟩ := u25.on hB (by omega)
   refine wn ?_
   refine wp_ret ?_
   have hd : D.zz6c r_free_Pop c0 a0 = (D.zz1n (D.zz1h c0 (W ((W (D.zz09 D.zz19 a0)) - 1))) (fun x => (D.zz5l r_free_Pop c0 a0 (W ((W (D.zz09 D.zz19 a0)) - 1)) x))) := (cond_f h11).trans (rfl)
   have hs := hr23.shape.cells
   refine zz0a r rfl rfl h_b4 (k := 7) hs.1 ta167 ?_
   rw [← hs.2.2, hd]
   exact rfin hF hB hr23 u25 (by omega) (by omega) (by omega)

theorem b_free_Pop {n : Nat} {F : Nat → Prop} {r_free_Pop : Plan → T Int} {w0 : World} (hF : ∀ b, F b → b < w0.heap.size) (ih_free_Pop : ∀ m, m < n → zz53 r_free_Pop m)
    (a0 : Plan) :
    Calls Tryz.prog 191 #[.agg (planC a0).toArray] w0 (RepRes Tryz.prog encInt n (D.zz5t r_free_Pop a0) F w0) := by
 refine enter Tryz.func191 rfl 7 rfl rfl fun fr r => ?_
 have hB := Below.refl w0.heap.size w0
 refine wsr ?_
 refine seq_new (.cells ((planC a0)).toArray 25 (0, 0)) r (fun R => y_box r (v := (.agg (planC a0).toArray)) rfl) rfl fun fr b1 w2 n3 r => ?_
 obtain ⟨e_b1, z_w2, h_b1, hB, zB⟩ := n3.all hB
 refine seq_new (.cells (progCells false encInt.zero 0 0 0 0 .nilFunc) 167 (0, 0)) r (fun R => y_alloc tz167) rfl fun fr b4 w5 n6 r => ?_
 have h_b1 := keep n6.below h_b1
 obtain ⟨e_b4, z_w5, h_b4, hB, zB⟩ := n6.all hB
 refine wn ?_
 refine wsr ?_
 refine seq_val (.agg (planC a0).toArray) r (fun R => zz03 r (cs := (planC a0)) (n := 6) rfl h_b1 ta25 rfl) rfl fun fr r => ?_
 refine zz06 r (zz3d w5 a0) (fun R hc => y_call r rfl cl162 hc) rfl ?_
 rintro _ w7 ⟨rfl, hb⟩
 refine ⟨_, rfl, fun fr r => ?_⟩
 have z_w7 := hb.size
 have h_b1 := keep hb h_b1
 have h_b4 := keep hb h_b4
 obtain ⟨hB, zB⟩ := bon hb hB
 refine seq_val (.func (.func 288) #[] #[.pointer (some ⟨b1, 0, none⟩)]) r (fun R => zz0o r rfl) rfl fun fr r => ?_
 have hF1 := fgrow hF hB b4
 have f8 : ((fun b => F b ∨ (w0.heap.size ≤ b ∧ b < w7.heap.size ∧ b ≠ b4))) b1 := (.inr ⟨by omega, by omega, by omega⟩)
 refine zz06 r (zz2a (F := (fun b => F b ∨ (w0.heap.size ≤ b ∧ b < w7.heap.size ∧ b ≠ b4))) (n := n) hF1 (D.zz1b a0) ⟨288, [], [.pointer (some ⟨b1, 0, none⟩)], cl288, rfl, fun m hm x w' hs hz => c_free_Pop_1 (fun b hb => Nat.lt_of_lt_of_le (hF1 b hb) hz) (fun m' hm' => ih_free_Pop m' (by omega)) a0 f8 (hs.at_ f8 h_b1) x⟩) (fun R hc => y_call r rfl cl198 hc) rfl ?_
 rintro _ w9 ⟨v10, rfl, hb, hr11⟩
 refine ⟨_, rfl, fun fr r => ?_⟩
 have z_w9 := hb.size
 have h_b1 := keep hb h_b1
 have h_b4 := keep hb h_b4
 obtain ⟨hB, zB⟩ := bon hb hB
 refine seq_upd (.cells v10.cells 167 (0, 0)) r (fun R => zz0c r hr11.shape rfl rfl h_b4 ts167 rfl) rfl fun fr w12 u13 r => ?_
 have z_w12 := u13.size
 have h_b1 := u13.keep h_b1 (by omega)
 have h_b4 := u13.at_
 obtain ⟨hB, zB⟩ := u13.on hB (by omega)
 refine wn ?_
 refine wp_ret ?_
 have hs := hr11.shape.cells
 refine zz0a r rfl rfl h_b4 (k := 7) hs.1 ta167 ?_
 rw [← hs.2.2]
 exact rfin hF hB hr11 u13 (by omega) (by omega) (by omega)

theorem c_free_Pop {n : Nat} {k : Nat} (hk : n < k) : zz53 (D.zz4j k) n := by
  induction n using Nat.strongRecOn generalizing k with
  | _ n ih =>
    obtain ⟨k, rfl⟩ : ∃ q, k = q + 1 := ⟨k - 1, by omega⟩
    intro F w0 hF
    have h := @b_free_Pop n F (D.zz4j k) w0 hF (fun m hm => ih m hm (by omega))
    exact h

def D.zz37 (r_free_Push : Plan → Int → T Int) (c0 : Plan) (c1 : Int) (a0 : Bool) : T Int := (bif (!a0) then (r_free_Push c0 c1) else (D.zz16 c1))

def D.zz5z (r_free_Push : Plan → Int → T Int) (c0 : Plan) (c1 : Int) (c2 : Int) : T Int := (D.prog_Swap_int (D.zz1b c0) c1 (D.zz3j c1 (D.zz2w c2)) (fun x => (D.zz37 r_free_Push c0 c2 x)))

def D.zz6d (r_free_Push : Plan → Int → T Int) (c0 : Plan) (c1 : Int) (a0 : Int) : T Int := (D.zz1y (D.zz1h c0 c1) (D.zz09 D.zz19 a0) (fun _ => (D.zz5z r_free_Push c0 a0 c1)))

def D.zz3g (r_free_Push : Plan → Int → T Int) (a0 : Plan) (a1 : Int) : T Int := (bif ((D.zz1h a0 a1) == (-1)) then (D.zz16 (-1)) else (D.zz1n (D.zz1b a0) (fun x => (D.zz6d r_free_Push a0 a1 x))))

def D.zz44 : Nat → Plan → Int → T Int
  | 0, _, _ => .cut
  | k + 1, a0, a1 => D.zz3g (D.zz44 k) a0 a1

def zz49 (r : Plan → Int → T Int) (n : Nat) : Prop := ∀ (F : Nat → Prop) (w0 : World), (∀ b, F b → b < w0.heap.size) → ∀ (a0 : Plan) (a1 : Int), Calls Tryz.prog 343 #[.agg (planC a0).toArray, .int .i64 a1] w0 (RepRes Tryz.prog encInt n (r a0 a1) F w0)

theorem c_free_Push_1_1_1 {n : Nat} {F : Nat → Prop} {r_free_Push : Plan → Int → T Int} {w0 : World} (hF : ∀ b, F b → b < w0.heap.size) (ih_free_Push : ∀ m, m ≤ n → zz49 r_free_Push m)
    (c0 : Plan) {c0_b : Nat} (c0_F : F c0_b) (c0_h : w0.heap[c0_b]? = some (.cells ((planC c0)).toArray 25 (0, 0))) (c1 : Int) {c1_b : Nat} (c1_F : F c1_b) (c1_h : w0.heap[c1_b]? = some (.cells ([(.int .i64 c1)]).toArray 3 (0, 0))) (a0 : Bool) :
    Calls Tryz.prog 381 #[.bool a0, .pointer (some ⟨c0_b, 0, none⟩), .pointer (some ⟨c1_b, 0, none⟩)] w0 (RepRes Tryz.prog encInt n (D.zz37 r_free_Push c0 c1 a0) F w0) := by
 refine enter Tryz.func381 rfl 12 rfl rfl fun fr r => ?_
 have hB := Below.refl w0.heap.size w0
 have l_c0_b := lt_of_block c0_h
 have l_c1_b := lt_of_block c1_h
 refine wsr ?_
 refine seq_new (.cells (progCells false encInt.zero 0 0 0 0 .nilFunc) 167 (0, 0)) r (fun R => y_alloc tz167) rfl fun fr b1 w2 n3 r => ?_
 obtain ⟨e_b1, z_w2, h_b1, hB, zB⟩ := n3.all hB
 refine wn ?_
 refine wp_seq ?_
 refine wsr ?_
 refine seq_val (.bool a0) r (fun R => y_move r rfl) rfl fun fr r => ?_
 refine seq_val (.bool (!a0)) r (fun R => y_un r (u := (.bool a0)) rfl rfl) rfl fun fr r => ?_
 refine wn ?_
 refine wp_cond_split (t := (!a0)) (r.ev rfl) (fun h4 => ?_) (fun h4 => ?_)
 ·
  refine wsr ?_
  refine seq_val (.agg (planC c0).toArray) r (fun R => zz03 r (cs := (planC c0)) (n := 6) rfl (keep hB c0_h) ta25 rfl) rfl fun fr r => ?_
  refine seq_val (I c1) r (fun R => zz01 r rfl (keep hB c1_h) to3 rfl) rfl fun fr r => ?_
  have hF1 := fgrow hF hB b1
  refine zz06 r ((ih_free_Push n (by omega)) (fun b => F b ∨ (w0.heap.size ≤ b ∧ b < w2.heap.size ∧ b ≠ b1)) _ hF1 c0 c1) (fun R hc => y_call r rfl cl343 hc) rfl ?_
  rintro _ w5 ⟨v6, rfl, hb, hr7⟩
  refine ⟨_, rfl, fun fr r => ?_⟩
  have z_w5 := hb.size
  have h_b1 := keep hb h_b1
  obtain ⟨hB, zB⟩ := bon hb hB
  refine seq_upd (.cells v6.cells 167 (0, 0)) r (fun R => zz0c r hr7.shape rfl rfl h_b1 ts167 rfl) rfl fun fr w8 u9 r => ?_
  have z_w8 := u9.size
  have h_b1 := u9.at_
  obtain ⟨hB, zB⟩ := u9.on hB (by omega)
  refine wn ?_
  refine wp_ret ?_
  have hd : D.zz37 r_free_Push c0 c1 a0 = (r_free_Push c0 c1) := (cond_t h4).trans (rfl)
  have hs := hr7.shape.cells
  refine zz0a r rfl rfl h_b1 (k := 7) hs.1 ta167 ?_
  rw [← hs.2.2, hd]
  exact rfin hF hB hr7 u9 (by omega) (by omega) (by omega)
 ·
  refine wp_skip ?_
  refine wsr ?_
  refine seq_val (I c1) r (fun R => zz01 r rfl (keep hB c1_h) to3 rfl) rfl fun fr r => ?_
  have hF1 := fgrow hF hB b1
  refine zz06 r (zz1v (F := (fun b => F b ∨ (w0.heap.size ≤ b ∧ b < w2.heap.size ∧ b ≠ b1))) (n := n) hF1 c1) (fun R hc => y_call r rfl cl229 hc) rfl ?_
  rintro _ w10 ⟨v11, rfl, hb, hr12⟩
  refine ⟨_, rfl, fun fr r => ?_⟩
  have z_w10 := hb.size
  have h_b1 := keep hb h_b1
  obtain ⟨hB, zB⟩ := bon hb hB
  refine seq_upd (.cells v11.cells 167 (0, 0)) r (fun R => zz0c r hr12.shape rfl rfl h_b1 ts167 rfl) rfl fun fr w13 u14 r => ?_
  have z_w13 := u14.size
  have h_b1 := u14.at_
  obtain ⟨hB, zB⟩ := u14.on hB (by omega)
  refine wn ?_
  refine wp_ret ?_
  have hd : D.zz37 r_free_Push c0 c1 a0 = (D.zz16 c1) := (cond_f h4).trans (rfl)
  have hs := hr12.shape.cells
  refine zz0a r rfl rfl h_b1 (k := 7) hs.1 ta167 ?_
  rw [← hs.2.2, hd]
  exact rfin hF hB hr12 u14 (by omega) (by omega) (by omega)

theorem c_free_Push_1_1 {n : Nat} {F : Nat → Prop} {r_free_Push : Plan → Int → T Int} {w0 : World} (hF : ∀ b, F b → b < w0.heap.size) (ih_free_Push : ∀ m, m < n → zz49 r_free_Push m)
    (c0 : Plan) {c0_b : Nat} (c0_F : F c0_b) (c0_h : w0.heap[c0_b]? = some (.cells ((planC c0)).toArray 25 (0, 0))) (c1 : Int) {c1_b : Nat} (c1_F : F c1_b) (c1_h : w0.heap[c1_b]? = some (.cells ([(.int .u64 c1)]).toArray 22 (0, 0))) (c2 : Int) {c2_b : Nat} (c2_F : F c2_b) (c2_h : w0.heap[c2_b]? = some (.cells ([(.int .i64 c2)]).toArray 3 (0, 0))) :
    Calls Tryz.prog 380 #[.pointer (some ⟨c0_b, 0, none⟩), .pointer (some ⟨c1_b, 0, none⟩), .pointer (some ⟨c2_b, 0, none⟩)] w0 (RepRes Tryz.prog encInt n (D.zz5z r_free_Push c0 c1 c2) F w0) := by
 refine enter Tryz.func380 rfl 13 rfl rfl fun fr r => ?_
 have hB := Below.refl w0.heap.size w0
 have l_c0_b := lt_of_block c0_h
 have l_c1_b := lt_of_block c1_h
 have l_c2_b := lt_of_block c2_h
 refine wsr ?_
 refine seq_new (.cells (progCells false encInt.zero 0 0 0 0 .nilFunc) 167 (0, 0)) r (fun R => y_alloc tz167) rfl fun fr b1 w2 n3 r => ?_
 obtain ⟨e_b1, z_w2, h_b1, hB, zB⟩ := n3.all hB
 refine wn ?_
 refine wp_seq ?_
 refine zz1c 8 [.val (.agg (planC c0).toArray), .val (I (D.zz1b c0)), .val (U c1), .val (U c1), .val (I c2), .val (U (D.zz2w c2)), .val (U (D.zz3j c1 (D.zz2w c2))), .val (.func (.func 381) #[] #[.pointer (some ⟨c0_b, 0, none⟩), .pointer (some ⟨c2_b, 0, none⟩)])] mixed r (by kernel_rfl) (zz00 (by exact trivial) (zz00 (by exact trivial) (zz00 (by exact trivial) (zz00 (by exact trivial) (zz00 (by exact trivial) (zz00 (by exact trivial) (zz00 (by exact trivial) (zz00 (by exact trivial) zz12)))))))) ?_ ?_
 ·
  refine ec r (fun _ u _ b d s => zz03 s (cs := (planC c0)) (n := 6) rfl (keep2 hB b c0_h) ta25 rfl bz) ?_
  refine ec r (fun fr1 u w' hb' hd r' => y_call r' (args := [(.agg (planC c0).toArray)]) (lc hd.1 l0) cl162 ((zz3d _ c0).mono (by rintro _ w2 ⟨rfl, hb2⟩; exact ⟨_, rfl, hb2, rfl⟩))) ?_
  refine ec r (fun _ u _ b d s => zz01 s rfl (keep2 hB b c1_h) to22 rfl bz) ?_
  refine ec r (fun _ u _ b d s => zz01 s rfl (keep2 hB b c1_h) to22 rfl bz) ?_
  refine ec r (fun _ u _ b d s => zz01 s rfl (keep2 hB b c2_h) to3 rfl bz) ?_
  refine ec r (fun fr1 u w' hb' hd r' => y_call r' (args := [(I c2)]) (lc hd.1 l0) cl316 ((c_free_link _ c2).mono (by rintro _ w2 ⟨rfl, hb2⟩; exact ⟨_, rfl, hb2, rfl⟩))) ?_
  refine ec r (fun fr1 u w' hb' hd r' => y_call r' (args := [(U c1), (U (D.zz2w c2))]) (lc hd.1 (lc hd.2.1 l0)) cl291 ((c_free_turned _ c1 (D.zz2w c2)).mono (by rintro _ w2 ⟨rfl, hb2⟩; exact ⟨_, rfl, hb2, rfl⟩))) ?_
  refine ec r (fun _ u _ b d s => zz0o s (v := (.func (.func 381) #[] #[.pointer (some ⟨c0_b, 0, none⟩), .pointer (some ⟨c2_b, 0, none⟩)])) rfl bz) ?_
  exact zz1l
 ·
  intro fr u w4 hb hΦ hne r
  have r := r.congr (sc (hΦ 7 (by decide)) (sc (hΦ 6 (by decide)) (sc (hΦ 5 (by decide)) (sc (hΦ 4 (by decide)) (sc (hΦ 3 (by decide)) (sc (hΦ 2 (by decide)) (sc (hΦ 1 (by decide)) (sc (hΦ 0 (by decide)) rfl))))))))
  have z_w4 := hb.size
  have h_b1 := keep hb h_b1
  obtain ⟨hB, zB⟩ := bon hb hB
  have hF1 := fgrow hF hB b1
  have f5 : ((fun b => F b ∨ (w0.heap.size ≤ b ∧ b < w4.heap.size ∧ b ≠ b1))) c0_b := (.inl c0_F)
  have f6 : ((fun b => F b ∨ (w0.heap.size ≤ b ∧ b < w4.heap.size ∧ b ≠ b1))) c2_b := (.inl c2_F)
  refine zz06 r (c_prog_Swap_int (F := (fun b => F b ∨ (w0.heap.size ≤ b ∧ b < w4.heap.size ∧ b ≠ b1))) (n := n) hF1 (D.zz1b c0) c1 (D.zz3j c1 (D.zz2w c2)) ⟨381, [], [.pointer (some ⟨c0_b, 0, none⟩), .pointer (some ⟨c2_b, 0, none⟩)], cl381, rfl, fun m hm x w' hs hz => c_free_Push_1_1_1 (fun b hb => Nat.lt_of_lt_of_le (hF1 b hb) hz) (fun m' hm' => ih_free_Push m' (by omega)) c0 f5 (hs.at_ f5 (keep hB c0_h)) c2 f6 (hs.at_ f6 (keep hB c2_h)) x⟩) (fun R hc => y_call r rfl cl290 hc) rfl ?_
  rintro _ w7 ⟨v8, rfl, hb, hr9⟩
  refine ⟨_, rfl, fun fr r => ?_⟩
  have z_w7 := hb.size
  have h_b1 := keep hb h_b1
  obtain ⟨hB, zB⟩ := bon hb hB
  refine seq_upd (.cells v8.cells 167 (0, 0)) r (fun R => zz0c r hr9.shape rfl rfl h_b1 ts167 rfl) rfl fun fr w10 u11 r => ?_
  have z_w10 := u11.size
  have h_b1 := u11.at_
  obtain ⟨hB, zB⟩ := u11.on hB (by omega)
  refine wn ?_
  refine wp_ret ?_
  have hs := hr9.shape.cells
  refine zz0a r rfl rfl h_b1 (k := 7) hs.1 ta167 ?_
  rw [← hs.2.2]
  exact rfin hF hB hr9 u11 (by omega) (by omega) (by omega)

theorem c_free_Push_1 {n : Nat} {F : Nat → Prop} {r_free_Push : Plan → Int → T Int} {w0 : World} (hF : ∀ b, F b → b < w0.heap.size) (ih_free_Push : ∀ m, m < n → zz49 r_free_Push m)
    (c0 : Plan) {c0_b : Nat} (c0_F : F c0_b) (c0_h : w0.heap[c0_b]? = some (.cells ((planC c0)).toArray 25 (0, 0))) (c1 : Int) {c1_b : Nat} (c1_F : F c1_b) (c1_h : w0.heap[c1_b]? = some (.cells ([(.int .i64 c1)]).toArray 3 (0, 0))) (a0 : Int) :
    Calls Tryz.prog 379 #[.int .u64 a0, .pointer (some ⟨c0_b, 0, none⟩), .pointer (some ⟨c1_b, 0, none⟩)] w0 (RepRes Tryz.prog encInt n (D.zz6d r_free_Push c0 c1 a0) F w0) := by
 refine enter Tryz.func379 rfl 13 rfl rfl fun fr r => ?_
 have hB := Below.refl w0.heap.size w0
 have l_c0_b := lt_of_block c0_h
 have l_c1_b := lt_of_block c1_h
 refine wsr ?_
 refine seq_new (.cells #[(U a0)] 22 (0, 0)) r (fun R => y_box r (v := (U a0)) rfl) rfl fun fr b1 w2 n3 r => ?_
 obtain ⟨e_b1, z_w2, h_b1, hB, zB⟩ := n3.all hB
 refine seq_new (.cells (progCells false encInt.zero 0 0 0 0 .nilFunc) 167 (0, 0)) r (fun R => y_alloc tz167) rfl fun fr b4 w5 n6 r => ?_
 have h_b1 := keep n6.below h_b1
 obtain ⟨e_b4, z_w5, h_b4, hB, zB⟩ := n6.all hB
 refine wn ?_
 refine wp_seq ?_
 refine zz1c 7 [.val (.agg (planC c0).toArray), .val (I c1), .val (I (D.zz1h c0 c1)), .val (.agg (fieldC D.zz19).toArray), .val (U a0), .val (U (D.zz09 D.zz19 a0)), .val (.func (.func 380) #[] #[.pointer (some ⟨c0_b, 0, none⟩), .pointer (some ⟨b1, 0, none⟩), .pointer (some ⟨c1_b, 0, none⟩)])] mixed r (by kernel_rfl) (zz00 (by exact trivial) (zz00 (by exact trivial) (zz00 (by exact trivial) (zz00 (by exact trivial) (zz00 (by exact trivial) (zz00 (by exact trivial) (zz00 (by exact trivial) zz12))))))) ?_ ?_
 ·
  refine ec r (fun _ u _ b d s => zz03 s (cs := (planC c0)) (n := 6) rfl (keep2 hB b c0_h) ta25 rfl bz) ?_
  refine ec r (fun _ u _ b d s => zz01 s rfl (keep2 hB b c1_h) to3 rfl bz) ?_
  refine ec r (fun fr1 u w' hb' hd r' => y_call r' (args := [(.agg (planC c0).toArray), (I c1)]) (lc hd.1 (lc hd.2.1 l0)) cl163 ((zz47 _ c0 c1).mono (by rintro _ w2 ⟨rfl, hb2⟩; exact ⟨_, rfl, hb2, rfl⟩))) ?_
  refine ec r (fun fr1 u w' hb' hd r' => y_call r' (args := []) (l0) cl160 ((c_free_node _ ).mono (by rintro _ w2 ⟨rfl, hb2⟩; exact ⟨_, rfl, hb2, rfl⟩))) ?_
  refine ec r (fun _ u _ b d s => zz01 s rfl (keep b h_b1) to22 rfl bz) ?_
  refine ec r (fun fr1 u w' hb' hd r' => y_call r' (args := [(.agg (fieldC D.zz19).toArray), (U a0)]) (lc hd.1 (lc hd.2.1 l0)) cl161 ((zz3m _ D.zz19 a0).mono (by rintro _ w2 ⟨rfl, hb2⟩; exact ⟨_, rfl, hb2, rfl⟩))) ?_
  refine ec r (fun _ u _ b d s => zz0o s (v := (.func (.func 380) #[] #[.pointer (some ⟨c0_b, 0, none⟩), .pointer (some ⟨b1, 0, none⟩), .pointer (some ⟨c1_b, 0, none⟩)])) rfl bz) ?_
  exact zz1l
 ·
  intro fr u w7 hb hΦ hne r
  have r := r.congr (sc (hΦ 6 (by decide)) (sc (hΦ 5 (by decide)) (sc (hΦ 4 (by decide)) (sc (hΦ 3 (by decide)) (sc (hΦ 2 (by decide)) (sc (hΦ 1 (by decide)) (sc (hΦ 0 (by decide)) rfl)))))))
  have z_w7 := hb.size
  have h_b1 := keep hb h_b1
  have h_b4 := keep hb h_b4
  obtain ⟨hB, zB⟩ := bon hb hB
  have hF1 := fgrow hF hB b4
  have f8 : ((fun b => F b ∨ (w0.heap.size ≤ b ∧ b < w7.heap.size ∧ b ≠ b4))) c0_b := (.inl c0_F)
  have f9 : ((fun b => F b ∨ (w0.heap.size ≤ b ∧ b < w7.heap.size ∧ b ≠ b4))) b1 := (.inr ⟨by omega, by omega, by omega⟩)
  have f10 : ((fun b => F b ∨ (w0.heap.size ≤ b ∧ b < w7.heap.size ∧ b ≠ b4))) c1_b := (.inl c1_F)
  refine zz06 r (zz2g (F := (fun b => F b ∨ (w0.heap.size ≤ b ∧ b < w7.heap.size ∧ b ≠ b4))) (n := n) hF1 (D.zz1h c0 c1) (D.zz09 D.zz19 a0) ⟨380, [], [.pointer (some ⟨c0_b, 0, none⟩), .pointer (some ⟨b1, 0, none⟩), .pointer (some ⟨c1_b, 0, none⟩)], cl380, rfl, fun m hm _ w' hs hz => c_free_Push_1_1 (fun b hb => Nat.lt_of_lt_of_le (hF1 b hb) hz) (fun m' hm' => ih_free_Push m' (by omega)) c0 f8 (hs.at_ f8 (keep hB c0_h)) a0 f9 (hs.at_ f9 h_b1) c1 f10 (hs.at_ f10 (keep hB c1_h))⟩) (fun R hc => y_call r rfl cl200 hc) rfl ?_
  rintro _ w11 ⟨v12, rfl, hb, hr13⟩
  refine ⟨_, rfl, fun fr r => ?_⟩
  have z_w11 := hb.size
  have h_b1 := keep hb h_b1
  have h_b4 := keep hb h_b4
  obtain ⟨hB, zB⟩ := bon hb hB
  refine seq_upd (.cells v12.cells 167 (0, 0)) r (fun R => zz0c r hr13.shape rfl rfl h_b4 ts167 rfl) rfl fun fr w14 u15 r => ?_
  have z_w14 := u15.size
  have h_b1 := u15.keep h_b1 (by omega)
  have h_b4 := u15.at_
  obtain ⟨hB, zB⟩ := u15.on hB (by omega)
  refine wn ?_
  refine wp_ret ?_
  have hs := hr13.shape.cells
  refine zz0a r rfl rfl h_b4 (k := 7) hs.1 ta167 ?_
  rw [← hs.2.2]
  exact rfin hF hB hr13 u15 (by omega) (by omega) (by omega)

theorem b_free_Push {n : Nat} {F : Nat → Prop} {r_free_Push : Plan → Int → T Int} {w0 : World} (hF : ∀ b, F b → b < w0.heap.size) (ih_free_Push : ∀ m, m < n → zz49 r_free_Push m)
    (a0 : Plan) (a1 : Int) :
    Calls Tryz.prog 343 #[.agg (planC a0).toArray, .int .i64 a1] w0 (RepRes Tryz.prog encInt n (D.zz3g r_free_Push a0 a1) F w0) := by
 refine enter Tryz.func343 rfl 14 rfl rfl fun fr r => ?_
 have hB := Below.refl w0.heap.size w0
 refine wsr ?_
 refine seq_new (.cells ((planC a0)).toArray 25 (0, 0)) r (fun R => y_box r (v := (.agg (planC a0).toArray)) rfl) rfl fun fr b1 w2 n3 r => ?_
 obtain ⟨e_b1, z_w2, h_b1, hB, zB⟩ := n3.all hB
 refine seq_new (.cells #[(I a1)] 3 (0, 0)) r (fun R => y_box r (v := (I a1)) rfl) rfl fun fr b4 w5 n6 r => ?_
 have h_b1 := keep n6.below h_b1
 obtain ⟨e_b4, z_w5, h_b4, hB, zB⟩ := n6.all hB
 refine seq_new (.cells (progCells false encInt.zero 0 0 0 0 .nilFunc) 167 (0, 0)) r (fun R => y_alloc tz167) rfl fun fr b7 w8 n9 r => ?_
 have h_b1 := keep n9.below h_b1
 have h_b4 := keep n9.below h_b4
 obtain ⟨e_b7, z_w8, h_b7, hB, zB⟩ := n9.all hB
 refine wn ?_
 refine wp_seq ?_
 refine wsr ?_
 refine seq_val (.agg (planC a0).toArray) r (fun R => zz03 r (cs := (planC a0)) (n := 6) rfl h_b1 ta25 rfl) rfl fun fr r => ?_
 refine seq_val (I a1) r (fun R => zz01 r rfl h_b4 to3 rfl) rfl fun fr r => ?_
 refine zz06 r (zz47 w8 a0 a1) (fun R hc => y_call r rfl cl163 hc) rfl ?_
 rintro _ w10 ⟨rfl, hb⟩
 refine ⟨_, rfl, fun fr r => ?_⟩
 have z_w10 := hb.size
 have h_b1 := keep hb h_b1
 have h_b4 := keep hb h_b4
 have h_b7 := keep hb h_b7
 obtain ⟨hB, zB⟩ := bon hb hB
 refine seq_val _ r (fun R => y_bin r rfl rfl rfl rfl) rfl fun fr r => ?_
 refine wn ?_
 refine wp_cond_split (t := ((D.zz1h a0 a1) == (-1))) (r.ev rfl) (fun h11 => ?_) (fun h11 => ?_)
 ·
  refine wsr ?_
  have hF1 := fgrow hF hB b7
  refine zz06 r (zz1v (F := (fun b => F b ∨ (w0.heap.size ≤ b ∧ b < w10.heap.size ∧ b ≠ b7))) (n := n) hF1 (-1)) (fun R hc => y_call r rfl cl229 hc) rfl ?_
  rintro _ w12 ⟨v13, rfl, hb, hr14⟩
  refine ⟨_, rfl, fun fr r => ?_⟩
  have z_w12 := hb.size
  have h_b1 := keep hb h_b1
  have h_b4 := keep hb h_b4
  have h_b7 := keep hb h_b7
  obtain ⟨hB, zB⟩ := bon hb hB
  refine seq_upd (.cells v13.cells 167 (0, 0)) r (fun R => zz0c r hr14.shape rfl rfl h_b7 ts167 rfl) rfl fun fr w15 u16 r => ?_
  have z_w15 := u16.size
  have h_b1 := u16.keep h_b1 (by omega)
  have h_b4 := u16.keep h_b4 (by omega)
  have h_b7 := u16.at_
  obtain ⟨hB, zB⟩ := u16.on hB (by omega)
  refine wn ?_
  refine wp_ret ?_
  have hd : D.zz3g r_free_Push a0 a1 = (D.zz16 (-1)) := (cond_t h11).trans (rfl)
  have hs := hr14.shape.cells
  refine zz0a r rfl rfl h_b7 (k := 7) hs.1 ta167 ?_
  rw [← hs.2.2, hd]
  exact rfin hF hB hr14 u16 (by omega) (by omega) (by omega)
 ·
  refine wp_skip ?_
  refine wsr ?_
  refine seq_val (.agg (planC a0).toArray) r (fun R => zz03 r (cs := (planC a0)) (n := 6) rfl h_b1 ta25 rfl) rfl fun fr r => ?_
  refine zz06 r (zz3d w10 a0) (fun R hc => y_call r rfl cl162 hc) rfl ?_
  rintro _ w17 ⟨rfl, hb⟩
  refine ⟨_, rfl, fun fr r => ?_⟩
  have z_w17 := hb.size
  have h_b1 := keep hb h_b1
  have h_b4 := keep hb h_b4
  have h_b7 := keep hb h_b7
  obtain ⟨hB, zB⟩ := bon hb hB
  refine seq_val (.func (.func 379) #[] #[.pointer (some ⟨b1, 0, none⟩), .pointer (some ⟨b4, 0, none⟩)]) r (fun R => zz0o r rfl) rfl fun fr r => ?_
  have hF1 := fgrow hF hB b7
  have f18 : ((fun b => F b ∨ (w0.heap.size ≤ b ∧ b < w17.heap.size ∧ b ≠ b7))) b1 := (.inr ⟨by omega, by omega, by omega⟩)
  have f19 : ((fun b => F b ∨ (w0.heap.size ≤ b ∧ b < w17.heap.size ∧ b ≠ b7))) b4 := (.inr ⟨by omega, by omega, by omega⟩)
  refine zz06 r (zz2a (F := (fun b => F b ∨ (w0.heap.size ≤ b ∧ b < w17.heap.size ∧ b ≠ b7))) (n := n) hF1 (D.zz1b a0) ⟨379, [], [.pointer (some ⟨b1, 0, none⟩), .pointer (some ⟨b4, 0, none⟩)], cl379, rfl, fun m hm x w' hs hz => c_free_Push_1 (fun b hb => Nat.lt_of_lt_of_le (hF1 b hb) hz) (fun m' hm' => ih_free_Push m' (by omega)) a0 f18 (hs.at_ f18 h_b1) a1 f19 (hs.at_ f19 h_b4) x⟩) (fun R hc => y_call r rfl cl198 hc) rfl ?_
  rintro _ w20 ⟨v21, rfl, hb, hr22⟩
  refine ⟨_, rfl, fun fr r => ?_⟩
  have z_w20 := hb.size
  have h_b1 := keep hb h_b1
  have h_b4 := keep hb h_b4
  have h_b7 := keep hb h_b7
  obtain ⟨hB, zB⟩ := bon hb hB
  refine seq_upd (.cells v21.cells 167 (0, 0)) r (fun R => zz0c r hr22.shape rfl rfl h_b7 ts167 rfl) rfl fun fr w23 u24 r => ?_
  have z_w23 := u24.size
  have h_b1 := u24.keep h_b1 (by omega)
  have h_b4 := u24.keep h_b4 (by omega)
  have h_b7 := u24.at_
  obtain ⟨hB, zB⟩ := u24.on hB (by omega)
  refine wn ?_
  refine wp_ret ?_
  have hd : D.zz3g r_free_Push a0 a1 = (D.zz1n (D.zz1b a0) (fun x => (D.zz6d r_free_Push a0 a1 x))) := (cond_f h11).trans (rfl)
  have hs := hr22.shape.cells
  refine zz0a r rfl rfl h_b7 (k := 7) hs.1 ta167 ?_
  rw [← hs.2.2, hd]
  exact rfin hF hB hr22 u24 (by omega) (by omega) (by omega)

theorem c_free_Push {n : Nat} {k : Nat} (hk : n < k) : zz49 (D.zz44 k) n := by
  induction n using Nat.strongRecOn generalizing k with
  | _ n ih =>
    obtain ⟨k, rfl⟩ : ∃ q, k = q + 1 := ⟨k - 1, by omega⟩
    intro F w0 hF
    have h := @b_free_Push n F (D.zz44 k) w0 hF (fun m hm => ih m hm (by omega))
    exact h

end Go.Proofs.YtjkinpbfmihhdaaGreat
