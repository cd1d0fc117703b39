/- Written by a program of ours (wip/gen.py): programs made, and one behind the other -/
import Derived.Test.YtjkinpbfmihhdaaGreatCrM2
import Derived.Test.YtjkinpbfmihhdaaGreatCrMems
set_option linter.all false
set_option linter.unusedVariables false
set_option maxRecDepth 20000
set_option maxHeartbeats 2000000
namespace Go.Proofs.YtjkinpbfmihhdaaGreat
open Go.RowKit
theorem cl113 : callable Tryz.prog 113 = true := by kernel_rfl

theorem cl132 : callable Tryz.prog 132 = true := by kernel_rfl

theorem cl190 : callable Tryz.prog 190 = true := by kernel_rfl

theorem cl212 : callable Tryz.prog 212 = true := by kernel_rfl

theorem cl213 : callable Tryz.prog 213 = true := by kernel_rfl

theorem cl217 : callable Tryz.prog 217 = true := by kernel_rfl

theorem cl227 : callable Tryz.prog 227 = true := by kernel_rfl

theorem cl230 : callable Tryz.prog 230 = true := by kernel_rfl

theorem cl286 : callable Tryz.prog 286 = true := by kernel_rfl

theorem cl287 : callable Tryz.prog 287 = true := by kernel_rfl

theorem cl297 : callable Tryz.prog 297 = true := by kernel_rfl

theorem cl319 : callable Tryz.prog 319 = true := by kernel_rfl

theorem cl321 : callable Tryz.prog 321 = true := by kernel_rfl

theorem cl357 : callable Tryz.prog 357 = true := by kernel_rfl

theorem cl368 : callable Tryz.prog 368 = true := by kernel_rfl

theorem cl388 : callable Tryz.prog 388 = true := by kernel_rfl

theorem fo158_0 : fieldOff Tryz.prog 158 0 0 = true := by kernel_rfl

theorem fo158_1 : fieldOff Tryz.prog 158 1 1 = true := by kernel_rfl

theorem fo158_2 : fieldOff Tryz.prog 158 2 4 = true := by kernel_rfl

theorem fo158_3 : fieldOff Tryz.prog 158 3 8 = true := by kernel_rfl

theorem fo167_0 : fieldOff Tryz.prog 167 0 0 = true := by kernel_rfl

theorem fo167_1 : fieldOff Tryz.prog 167 1 1 = true := by kernel_rfl

theorem fo167_2 : fieldOff Tryz.prog 167 2 2 = true := by kernel_rfl

theorem fo167_3 : fieldOff Tryz.prog 167 3 6 = true := by kernel_rfl

theorem fo186_0 : fieldOff Tryz.prog 186 0 0 = true := by kernel_rfl

theorem fo186_2 : fieldOff Tryz.prog 186 2 1 = true := by kernel_rfl

theorem fo186_3 : fieldOff Tryz.prog 186 3 5 = true := by kernel_rfl

theorem fo324_0 : fieldOff Tryz.prog 324 0 0 = true := by kernel_rfl

theorem fo324_1 : fieldOff Tryz.prog 324 1 1 = true := by kernel_rfl

theorem fo324_2 : fieldOff Tryz.prog 324 2 2 = true := by kernel_rfl

theorem fo324_3 : fieldOff Tryz.prog 324 3 6 = true := by kernel_rfl

theorem fo39_0 : fieldOff Tryz.prog 39 0 0 = true := by kernel_rfl

theorem fo39_1 : fieldOff Tryz.prog 39 1 1 = true := by kernel_rfl

theorem fo39_2 : fieldOff Tryz.prog 39 2 3 = true := by kernel_rfl

theorem fo39_3 : fieldOff Tryz.prog 39 3 7 = true := by kernel_rfl

theorem fz186 : fieldZ Tryz.prog 186 1 1 = true := by kernel_rfl

theorem ta153 : tyA Tryz.prog 153 3 = true := by kernel_rfl

theorem ta158 : tyA Tryz.prog 158 9 = true := by kernel_rfl

theorem ta167 : tyA Tryz.prog 167 7 = true := by kernel_rfl

theorem ta181 : tyA Tryz.prog 181 0 = true := by kernel_rfl

theorem ta186 : tyA Tryz.prog 186 6 = true := by kernel_rfl

theorem ta32 : tyA Tryz.prog 32 2 = true := by kernel_rfl

theorem ta324 : tyA Tryz.prog 324 7 = true := by kernel_rfl

theorem ta36 : tyA Tryz.prog 36 4 = true := by kernel_rfl

theorem ta39 : tyA Tryz.prog 39 8 = true := by kernel_rfl

theorem to156 : tyO Tryz.prog 156 = true := by kernel_rfl

theorem to165 : tyO Tryz.prog 165 = true := by kernel_rfl

theorem to184 : tyO Tryz.prog 184 = true := by kernel_rfl

theorem to190 : tyO Tryz.prog 190 = true := by kernel_rfl

theorem to204 : tyO Tryz.prog 204 = true := by kernel_rfl

theorem to246 : tyO Tryz.prog 246 = true := by kernel_rfl

theorem to265 : tyO Tryz.prog 265 = true := by kernel_rfl

theorem to270 : tyO Tryz.prog 270 = true := by kernel_rfl

theorem to271 : tyO Tryz.prog 271 = true := by kernel_rfl

theorem to297 : tyO Tryz.prog 297 = true := by kernel_rfl

theorem to322 : tyO Tryz.prog 322 = true := by kernel_rfl

theorem to37 : tyO Tryz.prog 37 = true := by kernel_rfl

theorem to4 : tyO Tryz.prog 4 = true := by kernel_rfl

theorem ts158 : sized Tryz.prog 158 9 = true := by kernel_rfl

theorem ts167 : sized Tryz.prog 167 7 = true := by kernel_rfl

theorem ts186 : sized Tryz.prog 186 6 = true := by kernel_rfl

theorem ts324 : sized Tryz.prog 324 7 = true := by kernel_rfl

theorem ts39 : sized Tryz.prog 39 8 = true := by kernel_rfl

theorem tz158 : zeroOf Tryz.prog 158 = some (.agg (progCells false encGrant.zero 0 0 0 0 .nilFunc)) := by kernel_rfl

theorem tz167 : zeroOf Tryz.prog 167 = some (.agg (progCells false encInt.zero 0 0 0 0 .nilFunc)) := by kernel_rfl

theorem tz186 : zeroOf Tryz.prog 186 = some (.agg (progCells false encNone.zero 0 0 0 0 .nilFunc)) := by kernel_rfl

theorem tz324 : zeroOf Tryz.prog 324 = some (.agg (progCells false encBool.zero 0 0 0 0 .nilFunc)) := by kernel_rfl

theorem tz39 : zeroOf Tryz.prog 39 = some (.agg (progCells false encRes.zero 0 0 0 0 .nilFunc)) := by kernel_rfl

def D.prog_Do_None (a0 : Access) (a1 : (Int → T Unit)) : T Unit := (T.act a0.op a0.at_ a0.a a0.b a1)

theorem c_prog_Do_None {n : Nat} {F : Nat → Prop} {w0 : World} (hF : ∀ b, F b → b < w0.heap.size)
    (a0 : Access) {a1_f : FuncId} {a1_1 a1_2 : List Value} {a1 : (Int → T Unit)} (a1_n : FnT Tryz.prog encNone u64 (n) F w0 (.func (.func a1_f) a1_1.toArray a1_2.toArray) a1) :
    Calls Tryz.prog 368 #[.agg (accessC a0).toArray, .func (.func a1_f) a1_1.toArray a1_2.toArray] w0 (RepRes Tryz.prog encNone n (D.prog_Do_None a0 a1) F w0) := by
 refine enter Tryz.func368 rfl 8 rfl rfl fun fr r => ?_
 have hB := Below.refl w0.heap.size w0
 refine wsr ?_
 refine seq_new (.cells ((accessC a0)).toArray 36 (0, 0)) r (fun R => y_box r (v := (.agg (accessC a0).toArray)) rfl) rfl fun fr b1 w2 n3 r => ?_
 obtain ⟨e_b1, z_w2, h_b1, hB, zB⟩ := n3.all hB
 refine seq_new (.cells (progCells false encNone.zero 0 0 0 0 .nilFunc) 186 (0, 0)) r (fun R => y_alloc tz186) rfl fun fr b4 w5 n6 r => ?_
 have h_b1 := keep n6.below h_b1
 obtain ⟨e_b4, z_w5, h_b4, hB, zB⟩ := n6.all hB
 refine wn ?_
 refine wsr ?_
 refine seq_val (.agg (accessC a0).toArray) r (fun R => zz03 r (cs := (accessC a0)) (n := 4) rfl h_b1 ta36 rfl) rfl fun fr r => ?_
 refine seq_val (.func (.func a1_f) a1_1.toArray a1_2.toArray) r (fun R => y_move r rfl) rfl fun fr r => ?_
 refine seq_val (.agg (progCells false encNone.zero a0.op a0.at_ a0.a a0.b (.func (.func a1_f) a1_1.toArray a1_2.toArray))) r (fun R => y_build r (by kernel_rfl)) rfl fun fr r => ?_
 refine seq_upd (.cells (progCells false encNone.zero a0.op a0.at_ a0.a a0.b (.func (.func a1_f) a1_1.toArray a1_2.toArray)) 186 (0, 0)) r (fun R => y_store r (o := 0) (v := (.agg (progCells false encNone.zero a0.op a0.at_ a0.a a0.b (.func (.func a1_f) a1_1.toArray a1_2.toArray)))) rfl rfl h_b4 ts186 (Nat.le_of_ble_eq_true rfl) rfl rfl) rfl fun fr w7 u8 r => ?_
 have z_w7 := u8.size
 have h_b1 := u8.keep h_b1 (by omega)
 have h_b4 := u8.at_
 obtain ⟨hB, zB⟩ := u8.on hB (by omega)
 refine wn ?_
 refine wp_ret ?_
 refine zz0a r rfl rfl h_b4 (k := 6) rfl ta186 ?_
 exact ⟨_, rfl, hB, Rep.act_of (a1_n.mono (Nat.le_refl _) (fun b hb => .inl hb) (Same.below hB hF) hB.size)⟩

def D.prog_Done_None  : T Unit := (T.done ())

theorem c_prog_Done_None {n : Nat} {F : Nat → Prop} {w0 : World} (hF : ∀ b, F b → b < w0.heap.size)
     :
    Calls Tryz.prog 367 #[.agg #[]] w0 (RepRes Tryz.prog encNone n D.prog_Done_None F w0) := by
 refine enter Tryz.func367 rfl 5 rfl rfl fun fr r => ?_
 have hB := Below.refl w0.heap.size w0
 refine wsr ?_
 refine seq_new (.cells #[] 181 (0, 0)) r (fun R => y_box r (v := (.agg #[])) rfl) rfl fun fr b1 w2 n3 r => ?_
 obtain ⟨e_b1, z_w2, h_b1, hB, zB⟩ := n3.all hB
 refine seq_new (.cells (progCells false encNone.zero 0 0 0 0 .nilFunc) 186 (0, 0)) r (fun R => y_alloc tz186) rfl fun fr b4 w5 n6 r => ?_
 have h_b1 := keep n6.below h_b1
 obtain ⟨e_b4, z_w5, h_b4, hB, zB⟩ := n6.all hB
 refine wn ?_
 refine wsr ?_
 refine seq_val (.agg #[]) r (fun R => zz03 r (cs := []) (n := 0) rfl h_b1 ta181 rfl) rfl fun fr r => ?_
 refine seq_val (.agg (progCells true (encNone.cells ()) 0 0 0 0 .nilFunc)) r (fun R => y_build r (by kernel_rfl)) rfl fun fr r => ?_
 refine seq_upd (.cells (progCells true (encNone.cells ()) 0 0 0 0 .nilFunc) 186 (0, 0)) r (fun R => y_store r (o := 0) (v := (.agg (progCells true (encNone.cells ()) 0 0 0 0 .nilFunc))) rfl rfl h_b4 ts186 (Nat.le_of_ble_eq_true rfl) rfl rfl) rfl fun fr w7 u8 r => ?_
 have z_w7 := u8.size
 have h_b1 := u8.keep h_b1 (by omega)
 have h_b4 := u8.at_
 obtain ⟨hB, zB⟩ := u8.on hB (by omega)
 refine wn ?_
 refine wp_ret ?_
 refine zz0a r rfl rfl h_b4 (k := 6) rfl ta186 ?_
 exact ⟨_, rfl, hB, Rep.done_of⟩

def D.zz5w (a0 : Res) : T Res := (T.done a0)

theorem zz62 {n : Nat} {F : Nat → Prop} {w0 : World} (hF : ∀ b, F b → b < w0.heap.size)
    (a0 : Res) :
    Calls Tryz.prog 211 #[.agg (resC a0).toArray] w0 (RepRes Tryz.prog encRes n (D.zz5w a0) F w0) := by
 refine enter Tryz.func211 rfl 5 rfl rfl fun fr r => ?_
 have hB := Below.refl w0.heap.size w0
 refine wsr ?_
 refine seq_new (.cells ((resC a0)).toArray 32 (0, 0)) r (fun R => y_box r (v := (.agg (resC a0).toArray)) rfl) rfl fun fr b1 w2 n3 r => ?_
 obtain ⟨e_b1, z_w2, h_b1, hB, zB⟩ := n3.all hB
 refine seq_new (.cells (progCells false encRes.zero 0 0 0 0 .nilFunc) 39 (0, 0)) r (fun R => y_alloc tz39) rfl fun fr b4 w5 n6 r => ?_
 have h_b1 := keep n6.below h_b1
 obtain ⟨e_b4, z_w5, h_b4, hB, zB⟩ := n6.all hB
 refine wn ?_
 refine wsr ?_
 refine seq_val (.agg (resC a0).toArray) r (fun R => zz03 r (cs := (resC a0)) (n := 2) rfl h_b1 ta32 rfl) rfl fun fr r => ?_
 refine seq_val (.agg (progCells true (encRes.cells a0) 0 0 0 0 .nilFunc)) r (fun R => y_build r (by kernel_rfl)) rfl fun fr r => ?_
 refine seq_upd (.cells (progCells true (encRes.cells a0) 0 0 0 0 .nilFunc) 39 (0, 0)) r (fun R => y_store r (o := 0) (v := (.agg (progCells true (encRes.cells a0) 0 0 0 0 .nilFunc))) rfl rfl h_b4 ts39 (Nat.le_of_ble_eq_true rfl) rfl rfl) rfl fun fr w7 u8 r => ?_
 have z_w7 := u8.size
 have h_b1 := u8.keep h_b1 (by omega)
 have h_b4 := u8.at_
 obtain ⟨hB, zB⟩ := u8.on hB (by omega)
 refine wn ?_
 refine wp_ret ?_
 refine zz0a r rfl rfl h_b4 (k := 8) rfl ta39 ?_
 exact ⟨_, rfl, hB, Rep.done_of⟩

def D.prog_Do_int (a0 : Access) (a1 : (Int → T Int)) : T Int := (T.act a0.op a0.at_ a0.a a0.b a1)

theorem zz51 {n : Nat} {F : Nat → Prop} {w0 : World} (hF : ∀ b, F b → b < w0.heap.size)
    (a0 : Access) {a1_f : FuncId} {a1_1 a1_2 : List Value} {a1 : (Int → T Int)} (a1_n : FnT Tryz.prog encInt u64 (n) F w0 (.func (.func a1_f) a1_1.toArray a1_2.toArray) a1) :
    Calls Tryz.prog 297 #[.agg (accessC a0).toArray, .func (.func a1_f) a1_1.toArray a1_2.toArray] w0 (RepRes Tryz.prog encInt n (D.prog_Do_int a0 a1) F w0) := by
 refine enter Tryz.func297 rfl 8 rfl rfl fun fr r => ?_
 have hB := Below.refl w0.heap.size w0
 refine wsr ?_
 refine seq_new (.cells ((accessC a0)).toArray 36 (0, 0)) r (fun R => y_box r (v := (.agg (accessC a0).toArray)) rfl) rfl fun fr b1 w2 n3 r => ?_
 obtain ⟨e_b1, z_w2, h_b1, hB, zB⟩ := n3.all hB
 refine seq_new (.cells (progCells false encInt.zero 0 0 0 0 .nilFunc) 167 (0, 0)) r (fun R => y_alloc tz167) rfl fun fr b4 w5 n6 r => ?_
 have h_b1 := keep n6.below h_b1
 obtain ⟨e_b4, z_w5, h_b4, hB, zB⟩ := n6.all hB
 refine wn ?_
 refine wsr ?_
 refine seq_val (.agg (accessC a0).toArray) r (fun R => zz03 r (cs := (accessC a0)) (n := 4) rfl h_b1 ta36 rfl) rfl fun fr r => ?_
 refine seq_val (.func (.func a1_f) a1_1.toArray a1_2.toArray) r (fun R => y_move r rfl) rfl fun fr r => ?_
 refine seq_val (.agg (progCells false encInt.zero a0.op a0.at_ a0.a a0.b (.func (.func a1_f) a1_1.toArray a1_2.toArray))) r (fun R => y_build r (by kernel_rfl)) rfl fun fr r => ?_
 refine seq_upd (.cells (progCells false encInt.zero a0.op a0.at_ a0.a a0.b (.func (.func a1_f) a1_1.toArray a1_2.toArray)) 167 (0, 0)) r (fun R => y_store r (o := 0) (v := (.agg (progCells false encInt.zero a0.op a0.at_ a0.a a0.b (.func (.func a1_f) a1_1.toArray a1_2.toArray)))) rfl rfl h_b4 ts167 (Nat.le_of_ble_eq_true rfl) rfl rfl) rfl fun fr w7 u8 r => ?_
 have z_w7 := u8.size
 have h_b1 := u8.keep h_b1 (by omega)
 have h_b4 := u8.at_
 obtain ⟨hB, zB⟩ := u8.on hB (by omega)
 refine wn ?_
 refine wp_ret ?_
 refine zz0a r rfl rfl h_b4 (k := 7) rfl ta167 ?_
 exact ⟨_, rfl, hB, Rep.act_of (a1_n.mono (Nat.le_refl _) (fun b hb => .inl hb) (Same.below hB hF) hB.size)⟩

def D.zz16 (a0 : Int) : T Int := (T.done a0)

theorem zz1v {n : Nat} {F : Nat → Prop} {w0 : World} (hF : ∀ b, F b → b < w0.heap.size)
    (a0 : Int) :
    Calls Tryz.prog 229 #[.int .i64 a0] w0 (RepRes Tryz.prog encInt n (D.zz16 a0) F w0) := by
 refine enter Tryz.func229 rfl 5 rfl rfl fun fr r => ?_
 have hB := Below.refl w0.heap.size w0
 refine wsr ?_
 refine seq_new (.cells (progCells false encInt.zero 0 0 0 0 .nilFunc) 167 (0, 0)) r (fun R => y_alloc tz167) rfl fun fr b1 w2 n3 r => ?_
 obtain ⟨e_b1, z_w2, h_b1, hB, zB⟩ := n3.all hB
 refine wn ?_
 refine wsr ?_
 refine seq_val (I a0) r (fun R => y_move r rfl) rfl fun fr r => ?_
 refine seq_val (.agg (progCells true (encInt.cells a0) 0 0 0 0 .nilFunc)) r (fun R => y_build r (by kernel_rfl)) rfl fun fr r => ?_
 refine seq_upd (.cells (progCells true (encInt.cells a0) 0 0 0 0 .nilFunc) 167 (0, 0)) r (fun R => y_store r (o := 0) (v := (.agg (progCells true (encInt.cells a0) 0 0 0 0 .nilFunc))) rfl rfl h_b1 ts167 (Nat.le_of_ble_eq_true rfl) rfl rfl) rfl fun fr w4 u5 r => ?_
 have z_w4 := u5.size
 have h_b1 := u5.at_
 obtain ⟨hB, zB⟩ := u5.on hB (by omega)
 refine wn ?_
 refine wp_ret ?_
 refine zz0a r rfl rfl h_b1 (k := 7) rfl ta167 ?_
 exact ⟨_, rfl, hB, Rep.done_of⟩

def D.zz4v (a0 : Grant) : T Grant := (T.done a0)

theorem c_prog_Done_Grant {n : Nat} {F : Nat → Prop} {w0 : World} (hF : ∀ b, F b → b < w0.heap.size)
    (a0 : Grant) :
    Calls Tryz.prog 188 #[.agg (grantC a0).toArray] w0 (RepRes Tryz.prog encGrant n (D.zz4v a0) F w0) := by
 refine enter Tryz.func188 rfl 5 rfl rfl fun fr r => ?_
 have hB := Below.refl w0.heap.size w0
 refine wsr ?_
 refine seq_new (.cells ((grantC a0)).toArray 153 (0, 0)) r (fun R => y_box r (v := (.agg (grantC a0).toArray)) rfl) rfl fun fr b1 w2 n3 r => ?_
 obtain ⟨e_b1, z_w2, h_b1, hB, zB⟩ := n3.all hB
 refine seq_new (.cells (progCells false encGrant.zero 0 0 0 0 .nilFunc) 158 (0, 0)) r (fun R => y_alloc tz158) rfl fun fr b4 w5 n6 r => ?_
 have h_b1 := keep n6.below h_b1
 obtain ⟨e_b4, z_w5, h_b4, hB, zB⟩ := n6.all hB
 refine wn ?_
 refine wsr ?_
 refine seq_val (.agg (grantC a0).toArray) r (fun R => zz03 r (cs := (grantC a0)) (n := 3) rfl h_b1 ta153 rfl) rfl fun fr r => ?_
 refine seq_val (.agg (progCells true (encGrant.cells a0) 0 0 0 0 .nilFunc)) r (fun R => y_build r (by kernel_rfl)) rfl fun fr r => ?_
 refine seq_upd (.cells (progCells true (encGrant.cells a0) 0 0 0 0 .nilFunc) 158 (0, 0)) r (fun R => y_store r (o := 0) (v := (.agg (progCells true (encGrant.cells a0) 0 0 0 0 .nilFunc))) rfl rfl h_b4 ts158 (Nat.le_of_ble_eq_true rfl) rfl rfl) rfl fun fr w7 u8 r => ?_
 have z_w7 := u8.size
 have h_b1 := u8.keep h_b1 (by omega)
 have h_b4 := u8.at_
 obtain ⟨hB, zB⟩ := u8.on hB (by omega)
 refine wn ?_
 refine wp_ret ?_
 refine zz0a r rfl rfl h_b4 (k := 9) rfl ta158 ?_
 exact ⟨_, rfl, hB, Rep.done_of⟩

def D.prog_Do_Grant (a0 : Access) (a1 : (Int → T Grant)) : T Grant := (T.act a0.op a0.at_ a0.a a0.b a1)

theorem zz63 {n : Nat} {F : Nat → Prop} {w0 : World} (hF : ∀ b, F b → b < w0.heap.size)
    (a0 : Access) {a1_f : FuncId} {a1_1 a1_2 : List Value} {a1 : (Int → T Grant)} (a1_n : FnT Tryz.prog encGrant u64 (n) F w0 (.func (.func a1_f) a1_1.toArray a1_2.toArray) a1) :
    Calls Tryz.prog 286 #[.agg (accessC a0).toArray, .func (.func a1_f) a1_1.toArray a1_2.toArray] w0 (RepRes Tryz.prog encGrant n (D.prog_Do_Grant a0 a1) F w0) := by
 refine enter Tryz.func286 rfl 8 rfl rfl fun fr r => ?_
 have hB := Below.refl w0.heap.size w0
 refine wsr ?_
 refine seq_new (.cells ((accessC a0)).toArray 36 (0, 0)) r (fun R => y_box r (v := (.agg (accessC a0).toArray)) rfl) rfl fun fr b1 w2 n3 r => ?_
 obtain ⟨e_b1, z_w2, h_b1, hB, zB⟩ := n3.all hB
 refine seq_new (.cells (progCells false encGrant.zero 0 0 0 0 .nilFunc) 158 (0, 0)) r (fun R => y_alloc tz158) rfl fun fr b4 w5 n6 r => ?_
 have h_b1 := keep n6.below h_b1
 obtain ⟨e_b4, z_w5, h_b4, hB, zB⟩ := n6.all hB
 refine wn ?_
 refine wsr ?_
 refine seq_val (.agg (accessC a0).toArray) r (fun R => zz03 r (cs := (accessC a0)) (n := 4) rfl h_b1 ta36 rfl) rfl fun fr r => ?_
 refine seq_val (.func (.func a1_f) a1_1.toArray a1_2.toArray) r (fun R => y_move r rfl) rfl fun fr r => ?_
 refine seq_val (.agg (progCells false encGrant.zero a0.op a0.at_ a0.a a0.b (.func (.func a1_f) a1_1.toArray a1_2.toArray))) r (fun R => y_build r (by kernel_rfl)) rfl fun fr r => ?_
 refine seq_upd (.cells (progCells false encGrant.zero a0.op a0.at_ a0.a a0.b (.func (.func a1_f) a1_1.toArray a1_2.toArray)) 158 (0, 0)) r (fun R => y_store r (o := 0) (v := (.agg (progCells false encGrant.zero a0.op a0.at_ a0.a a0.b (.func (.func a1_f) a1_1.toArray a1_2.toArray)))) rfl rfl h_b4 ts158 (Nat.le_of_ble_eq_true rfl) rfl rfl) rfl fun fr w7 u8 r => ?_
 have z_w7 := u8.size
 have h_b1 := u8.keep h_b1 (by omega)
 have h_b4 := u8.at_
 obtain ⟨hB, zB⟩ := u8.on hB (by omega)
 refine wn ?_
 refine wp_ret ?_
 refine zz0a r rfl rfl h_b4 (k := 9) rfl ta158 ?_
 exact ⟨_, rfl, hB, Rep.act_of (a1_n.mono (Nat.le_refl _) (fun b hb => .inl hb) (Same.below hB hF) hB.size)⟩

def D.zz4a (a0 : Bool) : T Bool := (T.done a0)

theorem c_prog_Done_bool {n : Nat} {F : Nat → Prop} {w0 : World} (hF : ∀ b, F b → b < w0.heap.size)
    (a0 : Bool) :
    Calls Tryz.prog 413 #[.bool a0] w0 (RepRes Tryz.prog encBool n (D.zz4a a0) F w0) := by
 refine enter Tryz.func413 rfl 5 rfl rfl fun fr r => ?_
 have hB := Below.refl w0.heap.size w0
 refine wsr ?_
 refine seq_new (.cells (progCells false encBool.zero 0 0 0 0 .nilFunc) 324 (0, 0)) r (fun R => y_alloc tz324) rfl fun fr b1 w2 n3 r => ?_
 obtain ⟨e_b1, z_w2, h_b1, hB, zB⟩ := n3.all hB
 refine wn ?_
 refine wsr ?_
 refine seq_val (.bool a0) r (fun R => y_move r rfl) rfl fun fr r => ?_
 refine seq_val (.agg (progCells true (encBool.cells a0) 0 0 0 0 .nilFunc)) r (fun R => y_build r (by kernel_rfl)) rfl fun fr r => ?_
 refine seq_upd (.cells (progCells true (encBool.cells a0) 0 0 0 0 .nilFunc) 324 (0, 0)) r (fun R => y_store r (o := 0) (v := (.agg (progCells true (encBool.cells a0) 0 0 0 0 .nilFunc))) rfl rfl h_b1 ts324 (Nat.le_of_ble_eq_true rfl) rfl rfl) rfl fun fr w4 u5 r => ?_
 have z_w4 := u5.size
 have h_b1 := u5.at_
 obtain ⟨hB, zB⟩ := u5.on hB (by omega)
 refine wn ?_
 refine wp_ret ?_
 refine zz0a r rfl rfl h_b1 (k := 7) rfl ta324 ?_
 exact ⟨_, rfl, hB, Rep.done_of⟩

def D.prog_Do_bool (a0 : Access) (a1 : (Int → T Bool)) : T Bool := (T.act a0.op a0.at_ a0.a a0.b a1)

theorem c_prog_Do_bool {n : Nat} {F : Nat → Prop} {w0 : World} (hF : ∀ b, F b → b < w0.heap.size)
    (a0 : Access) {a1_f : FuncId} {a1_1 a1_2 : List Value} {a1 : (Int → T Bool)} (a1_n : FnT Tryz.prog encBool u64 (n) F w0 (.func (.func a1_f) a1_1.toArray a1_2.toArray) a1) :
    Calls Tryz.prog 423 #[.agg (accessC a0).toArray, .func (.func a1_f) a1_1.toArray a1_2.toArray] w0 (RepRes Tryz.prog encBool n (D.prog_Do_bool a0 a1) F w0) := by
 refine enter Tryz.func423 rfl 8 rfl rfl fun fr r => ?_
 have hB := Below.refl w0.heap.size w0
 refine wsr ?_
 refine seq_new (.cells ((accessC a0)).toArray 36 (0, 0)) r (fun R => y_box r (v := (.agg (accessC a0).toArray)) rfl) rfl fun fr b1 w2 n3 r => ?_
 obtain ⟨e_b1, z_w2, h_b1, hB, zB⟩ := n3.all hB
 refine seq_new (.cells (progCells false encBool.zero 0 0 0 0 .nilFunc) 324 (0, 0)) r (fun R => y_alloc tz324) rfl fun fr b4 w5 n6 r => ?_
 have h_b1 := keep n6.below h_b1
 obtain ⟨e_b4, z_w5, h_b4, hB, zB⟩ := n6.all hB
 refine wn ?_
 refine wsr ?_
 refine seq_val (.agg (accessC a0).toArray) r (fun R => zz03 r (cs := (accessC a0)) (n := 4) rfl h_b1 ta36 rfl) rfl fun fr r => ?_
 refine seq_val (.func (.func a1_f) a1_1.toArray a1_2.toArray) r (fun R => y_move r rfl) rfl fun fr r => ?_
 refine seq_val (.agg (progCells false encBool.zero a0.op a0.at_ a0.a a0.b (.func (.func a1_f) a1_1.toArray a1_2.toArray))) r (fun R => y_build r (by kernel_rfl)) rfl fun fr r => ?_
 refine seq_upd (.cells (progCells false encBool.zero a0.op a0.at_ a0.a a0.b (.func (.func a1_f) a1_1.toArray a1_2.toArray)) 324 (0, 0)) r (fun R => y_store r (o := 0) (v := (.agg (progCells false encBool.zero a0.op a0.at_ a0.a a0.b (.func (.func a1_f) a1_1.toArray a1_2.toArray)))) rfl rfl h_b4 ts324 (Nat.le_of_ble_eq_true rfl) rfl rfl) rfl fun fr w7 u8 r => ?_
 have z_w7 := u8.size
 have h_b1 := u8.keep h_b1 (by omega)
 have h_b4 := u8.at_
 obtain ⟨hB, zB⟩ := u8.on hB (by omega)
 refine wn ?_
 refine wp_ret ?_
 refine zz0a r rfl rfl h_b4 (k := 7) rfl ta324 ?_
 exact ⟨_, rfl, hB, Rep.act_of (a1_n.mono (Nat.le_refl _) (fun b hb => .inl hb) (Same.below hB hF) hB.size)⟩

def D.prog_Do_Res (a0 : Access) (a1 : (Int → T Res)) : T Res := (T.act a0.op a0.at_ a0.a a0.b a1)

theorem zz4z {n : Nat} {F : Nat → Prop} {w0 : World} (hF : ∀ b, F b → b < w0.heap.size)
    (a0 : Access) {a1_f : FuncId} {a1_1 a1_2 : List Value} {a1 : (Int → T Res)} (a1_n : FnT Tryz.prog encRes u64 (n) F w0 (.func (.func a1_f) a1_1.toArray a1_2.toArray) a1) :
    Calls Tryz.prog 212 #[.agg (accessC a0).toArray, .func (.func a1_f) a1_1.toArray a1_2.toArray] w0 (RepRes Tryz.prog encRes n (D.prog_Do_Res a0 a1) F w0) := by
 refine enter Tryz.func212 rfl 8 rfl rfl fun fr r => ?_
 have hB := Below.refl w0.heap.size w0
 refine wsr ?_
 refine seq_new (.cells ((accessC a0)).toArray 36 (0, 0)) r (fun R => y_box r (v := (.agg (accessC a0).toArray)) rfl) rfl fun fr b1 w2 n3 r => ?_
 obtain ⟨e_b1, z_w2, h_b1, hB, zB⟩ := n3.all hB
 refine seq_new (.cells (progCells false encRes.zero 0 0 0 0 .nilFunc) 39 (0, 0)) r (fun R => y_alloc tz39) rfl fun fr b4 w5 n6 r => ?_
 have h_b1 := keep n6.below h_b1
 obtain ⟨e_b4, z_w5, h_b4, hB, zB⟩ := n6.all hB
 refine wn ?_
 refine wsr ?_
 refine seq_val (.agg (accessC a0).toArray) r (fun R => zz03 r (cs := (accessC a0)) (n := 4) rfl h_b1 ta36 rfl) rfl fun fr r => ?_
 refine seq_val (.func (.func a1_f) a1_1.toArray a1_2.toArray) r (fun R => y_move r rfl) rfl fun fr r => ?_
 refine seq_val (.agg (progCells false encRes.zero a0.op a0.at_ a0.a a0.b (.func (.func a1_f) a1_1.toArray a1_2.toArray))) r (fun R => y_build r (by kernel_rfl)) rfl fun fr r => ?_
 refine seq_upd (.cells (progCells false encRes.zero a0.op a0.at_ a0.a a0.b (.func (.func a1_f) a1_1.toArray a1_2.toArray)) 39 (0, 0)) r (fun R => y_store r (o := 0) (v := (.agg (progCells false encRes.zero a0.op a0.at_ a0.a a0.b (.func (.func a1_f) a1_1.toArray a1_2.toArray)))) rfl rfl h_b4 ts39 (Nat.le_of_ble_eq_true rfl) rfl rfl) rfl fun fr w7 u8 r => ?_
 have z_w7 := u8.size
 have h_b1 := u8.keep h_b1 (by omega)
 have h_b4 := u8.at_
 obtain ⟨hB, zB⟩ := u8.on hB (by omega)
 refine wn ?_
 refine wp_ret ?_
 refine zz0a r rfl rfl h_b4 (k := 8) rfl ta39 ?_
 exact ⟨_, rfl, hB, Rep.act_of (a1_n.mono (Nat.le_refl _) (fun b hb => .inl hb) (Same.below hB hF) hB.size)⟩

def zz4g (n : Nat) : Prop := ∀ {F : Nat → Prop} {w0 : World}, (∀ b, F b → b < w0.heap.size) → ∀ {t : T (Bool)} {pv fv : Value} {g : Bool → T (Int)}, Rep Tryz.prog encBool n t F w0 pv → FnT Tryz.prog encInt boolE n F w0 fv g →
    (t.isDone = false ∨ FnT Tryz.prog encInt boolE (n + 1) F w0 fv g) → Calls Tryz.prog 357 #[pv, fv] w0 (RepRes Tryz.prog encInt n (t.bind g) F w0)

theorem k_prog_Then_bool_int {n : Nat} (ih : zz4g n) {F : Nat → Prop} {w0 : World} (hF : ∀ b, F b → b < w0.heap.size) {op at_ a b : Int} {nf : FuncId} {n1 n2 : List Value} {k : Int → T (Bool)} {ff : FuncId} {f1 f2 : List Value} {g : Bool → T (Int)}
    {b1 b2 : Nat} (F1 : F b1) (h1 : w0.heap[b1]? = some (.cells (progCells false encBool.zero op at_ a b (.func (.func nf) n1.toArray n2.toArray)) 324 (0, 0))) (F2 : F b2) (h2 : w0.heap[b2]? = some (.cells #[.func (.func ff) f1.toArray f2.toArray] 297 (0, 0)))
    (hk : FnT Tryz.prog encBool u64 (n + 1) F w0 (.func (.func nf) n1.toArray n2.toArray) k) (hg : FnT Tryz.prog encInt boolE (n + 1) F w0 (.func (.func ff) f1.toArray f2.toArray) g) (x : Int) :
    Calls Tryz.prog 388 #[.int .u64 x, .pointer (some ⟨b1, 0, none⟩), .pointer (some ⟨b2, 0, none⟩)] w0 (RepRes Tryz.prog encInt n ((k x).bind g) F w0) := by
 refine enter Tryz.func388 rfl 11 rfl rfl fun fr r => ?_
 have hB := Below.refl w0.heap.size w0
 refine wp_seq (wp_region_lit ?_)
 refine seq_new (.cells (progCells false encInt.zero 0 0 0 0 .nilFunc) 167 (0, 0)) r (fun R => y_alloc tz167) rfl fun fr b3 w1 q1 r => wn ?_
 have h1 := keep q1.below h1
 have h2 := keep q1.below h2
 have e3 := q1.eq
 have z1 := q1.size
 have h3 := q1.at_
 have hB := hB.trans (q1.below.mono hB.size)
 have zB := hB.size
 refine wp_seq ?_
 refine zz1c 5 [.val (.pointer (some ⟨b1, 6, none⟩)), .val (.func (.func nf) n1.toArray n2.toArray), .val (U x), .pred (RepAt Tryz.prog encBool n (k x) F w0.heap.size b3) RepAt.stable, .val (.func (.func ff) f1.toArray f2.toArray)] mixed r (by kernel_rfl) (zz00 trivial (zz00 trivial (zz00 trivial (zz00 trivial (zz00 trivial zz12))))) ?_ ?_
 ·
  refine ec r (fun _ u _ b d s => zz02 s (b := b1) (o := 0) rfl fo324_3 bz) ?_
  refine zz24 r rfl (fun fr1 u w' hb' hd r' => ?_) ?_
  ·
   obtain ⟨d0, _⟩ := hd
   exact zz01 r' (v := .func (.func nf) n1.toArray n2.toArray) d0 (keep hb' h1) to322 rfl ⟨Below.refl _ _, rfl⟩
  refine ec r (fun _ u _ b d s => y_move s rfl bz) ?_
  refine zz24 r rfl (fun fr1 u w' hb' hd r' => ?_) ?_
  ·
   obtain ⟨d0, d1, _⟩ := hd
   have zb := hb'.size
   have zb : w1.heap.size ≤ w'.heap.size := zb
   have hB' : Below w0.heap.size w0 w' := hB.trans (Below.mono (w := w1) ⟨hb'.os, hb'.tape, hb'.output, hb'.size, hb'.block⟩ hB.size)
   have d0 : u 1 = .func (.func nf) n1.toArray n2.toArray := d0
   have d1 : u 2 = .int .u64 x := d1
   refine zz3z r' (fs := n1) (cs := n2) d0 d1 hk.at_.1 ((hk.at_.2 n (Nat.lt_succ_self n) x w' (Same.below hB' hF) hB'.size).mono ?_)
   rintro _ w2 ⟨v, rfl, hb2, hr2⟩
   refine ⟨v, rfl, hb2, RepAt.of_res (fun b h => Nat.lt_of_lt_of_le (hF b h) hB'.size) (by omega) hB'.size hb2 (Rep.mono ?_ (Same.refl _ _) (Nat.le_refl _) n _ _ hr2)⟩
   rintro b (h | h)
   · exact .inl (.inl h)
   · exact .inr h
  refine ec r (fun _ u _ b d s => zz01 s rfl (keep b h2) to297 rfl bz) ?_
  exact zz1l
 intro fr u w2 hb hΦ _ r
 obtain ⟨_, hr3, _, hr⟩ : RepAt Tryz.prog encBool n (k x) F w0.heap.size b3 (u 3) w2 := hΦ 3 (by decide)
 have r := r.congr (sc (hΦ 4 (by decide)) rfl)
 have z2 := hb.size
 have h1 := keep hb h1
 have h2 := keep hb h2
 have h3 := keep hb h3
 have hB2 := hB.trans (hb.mono hB.size)
 have zB2 := hB2.size
 have hF1 : ∀ b, (fun b => F b ∨ (w0.heap.size ≤ b ∧ b < w2.heap.size ∧ b ≠ b3)) b → b < w2.heap.size := by rintro b (h | h); exact Nat.lt_of_lt_of_le (hF b h) hB2.size; exact h.2.1
 refine zz06 r (ih (F := fun b => F b ∨ (w0.heap.size ≤ b ∧ b < w2.heap.size ∧ b ≠ b3)) hF1 hr (hg.mono (by omega) (fun b h => .inl h) (Same.below hB2 hF) hB2.size)
  (.inr (hg.mono (Nat.le_refl _) (fun b h => .inl h) (Same.below hB2 hF) hB2.size))) (fun R hc => y_call r rfl cl357 hc) rfl ?_
 rintro _ w3 ⟨v2, rfl, hb2, hr2⟩
 refine ⟨_, rfl, fun fr r => ?_⟩
 have z3 := hb2.size
 have h3 := keep hb2 h3
 have hB3 := hB2.trans (hb2.mono hB2.size)
 refine seq_upd (.cells v2.cells 167 (0, 0)) r (fun R => zz0c r hr2.shape rfl rfl h3 ts167 rfl) rfl fun fr w4 u4 r => wn ?_
 have z4 := u4.size
 have h3 := u4.at_
 have hB4 := u4.below hB3 (by omega)
 refine wp_ret ?_
 have hs := hr2.shape.cells
 refine zz0a r rfl rfl h3 (k := 7) hs.1 ta167 ?_
 rw [← hs.2.2]
 exact RepRes.fin hB4 hr2 u4 (by rintro b (h | ⟨h1, h2, _⟩); exact .inl h; exact .inr ⟨h1, h2⟩) (by rintro (h | ⟨_, _, h⟩); (have := hF _ h; omega); exact h rfl) (by omega) (by omega) (by omega)

theorem s_prog_Then_bool_int (n : Nat) : zz4g n := by
  induction n using Nat.strongRecOn with
  | _ n ih =>
  intro F w0 hF t pv fv g hp hf hd
  obtain ⟨ff, f1, f2, hcf, rfl, hff⟩ := id hf
  cases t with
  | cut => unfold Rep at hp; exact hp.elim
  | done x0 =>
    have hf := hd.resolve_left (by intro h; cases h)
    unfold Rep at hp
    subst hp
    refine enter (l := [.agg (progCells true (encBool.cells x0) 0 0 0 0 .nilFunc), .func (.func ff) f1.toArray f2.toArray]) Tryz.func357 rfl 15 rfl rfl fun fr r => ?_
    have hB := Below.refl w0.heap.size w0
    refine wp_seq (wp_region_lit ?_)
    refine seq_new (.cells (progCells true (encBool.cells x0) 0 0 0 0 .nilFunc) 324 (0, 0)) r (fun R => y_box r (v := .agg (progCells true (encBool.cells x0) 0 0 0 0 .nilFunc)) rfl) rfl fun fr b1 w1 q1 r => ?_
    refine seq_new (.cells #[.func (.func ff) f1.toArray f2.toArray] 297 (0, 0)) r (fun R => y_box r (v := .func (.func ff) f1.toArray f2.toArray) rfl) rfl fun fr b2 w2 q2 r => ?_
    refine seq_new (.cells (progCells false encInt.zero 0 0 0 0 .nilFunc) 167 (0, 0)) r (fun R => y_alloc tz167) rfl fun fr b3 w3 q3 r => wpList_nil ?_
    have h1 := keep q3.below (keep q2.below q1.at_)
    have h2 := keep q3.below q2.at_
    have h3 := q3.at_
    have e1 := q1.eq; have e2 := q2.eq; have e3 := q3.eq; have z1 := q1.size; have z2 := q2.size; have z3 := q3.size
    have hB := ((hB.trans q1.below).trans (q2.below.mono (by omega))).trans (q3.below.mono (by omega))
    have zB := hB.size
    refine wp_seq (wp_seq (wp_region_lit ?_))
    refine seq_val (.pointer (some ⟨b1, 0, none⟩)) r (fun R => zz02 r (o := 0) rfl fo324_0) rfl fun fr r => ?_
    refine seq_val (.bool true) r (fun R => zz01 r (v := .bool true) rfl h1 to4 rfl) rfl fun fr r => wpList_nil ?_
    refine wp_cond_split (t := true) (r.ev rfl) (fun _ => ?_) (fun h => by cases h)
    refine wp_seq (wp_region_lit ?_)
    refine seq_val (.func (.func ff) f1.toArray f2.toArray) r (fun R => zz01 r (v := .func (.func ff) f1.toArray f2.toArray) rfl h2 to297 rfl) rfl fun fr r => ?_
    refine seq_val (.pointer (some ⟨b1, 1, none⟩)) r (fun R => zz02 r (o := 0) rfl fo324_1) rfl fun fr r => ?_
    refine seq_val (.bool x0) r (fun R => zz01 r (v := (.bool x0)) rfl h1 to4 rfl) rfl fun fr r => ?_
    refine zz06 r (hf.at_.2 n (Nat.lt_succ_self n) x0 w3 (Same.below hB hF) hB.size) (fun R hc => y_callv r rfl rfl hf.at_.1 hc) rfl ?_
    rintro _ w4 ⟨v, rfl, hb, hr⟩
    refine ⟨_, rfl, fun fr r => ?_⟩
    have z4 := hb.size
    have h3 := keep hb h3
    have hB := hB.trans (hb.mono hB.size)
    refine seq_upd (.cells v.cells 167 (0, 0)) r (fun R => zz0c r hr.shape rfl rfl h3 ts167 rfl) rfl fun fr w5 u5 r => wpList_nil ?_
    have z5 := u5.size
    have h3 := u5.at_
    have hB := u5.below hB (by omega)
    refine wp_ret ?_
    have hs := hr.shape.cells
    refine zz0a r rfl rfl h3 (k := 7) hs.1 ta167 ?_
    rw [← hs.2.2]
    exact RepRes.fin hB hr u5 (fun b hb => .inl hb) (fun h => by have := hF _ h; omega) (by omega) (by omega) (by omega)
  | act op at_ a b k =>
    obtain ⟨nf, n1, n2, hcn, rfl, hk⟩ : ∃ (nf : FuncId) (n1 n2 : List Value), callable Tryz.prog nf = true ∧ pv = .agg (progCells false encBool.zero op at_ a b (.func (.func nf) n1.toArray n2.toArray)) ∧ FnT Tryz.prog encBool u64 n F w0 (.func (.func nf) n1.toArray n2.toArray) k := by
      exact Rep.act_inv hp
    refine enter (l := [.agg (progCells false encBool.zero op at_ a b (.func (.func nf) n1.toArray n2.toArray)), .func (.func ff) f1.toArray f2.toArray]) Tryz.func357 rfl 15 rfl rfl fun fr r => ?_
    have hB := Below.refl w0.heap.size w0
    refine wp_seq (wp_region_lit ?_)
    refine seq_new (.cells (progCells false encBool.zero op at_ a b (.func (.func nf) n1.toArray n2.toArray)) 324 (0, 0)) r (fun R => y_box r (v := .agg (progCells false encBool.zero op at_ a b (.func (.func nf) n1.toArray n2.toArray))) rfl) rfl fun fr b1 w1 q1 r => ?_
    refine seq_new (.cells #[.func (.func ff) f1.toArray f2.toArray] 297 (0, 0)) r (fun R => y_box r (v := .func (.func ff) f1.toArray f2.toArray) rfl) rfl fun fr b2 w2 q2 r => ?_
    refine seq_new (.cells (progCells false encInt.zero 0 0 0 0 .nilFunc) 167 (0, 0)) r (fun R => y_alloc tz167) rfl fun fr b3 w3 q3 r => wpList_nil ?_
    have h1 := keep q3.below (keep q2.below q1.at_)
    have h2 := keep q3.below q2.at_
    have h3 := q3.at_
    have e1 := q1.eq; have e2 := q2.eq; have e3 := q3.eq; have z1 := q1.size; have z2 := q2.size; have z3 := q3.size
    have hB := ((hB.trans q1.below).trans (q2.below.mono (by omega))).trans (q3.below.mono (by omega))
    have zB := hB.size
    refine wp_seq (wp_seq (wp_region_lit ?_))
    refine seq_val (.pointer (some ⟨b1, 0, none⟩)) r (fun R => zz02 r (o := 0) rfl fo324_0) rfl fun fr r => ?_
    refine seq_val (.bool false) r (fun R => zz01 r (v := .bool false) rfl h1 to4 rfl) rfl fun fr r => wpList_nil ?_
    refine wp_cond_split (t := false) (r.ev rfl) (fun h => by cases h) (fun _ => ?_)
    refine wp_skip ?_
    refine wp_seq (wp_region_lit ?_)
    refine seq_val (.pointer (some ⟨b1, 2, none⟩)) r (fun R => zz02 r (o := 0) rfl fo324_2) rfl fun fr r => ?_
    refine seq_val (.agg (accessC (⟨op, at_, a, b⟩ : Access)).toArray) r (fun R => zz03 r (cs := (accessC (⟨op, at_, a, b⟩ : Access))) (n := 4) rfl h1 ta36 rfl) rfl fun fr r => ?_
    refine seq_val (.func (.func 388) #[] #[.pointer (some ⟨b1, 0, none⟩), .pointer (some ⟨b2, 0, none⟩)]) r (fun R => zz0o r rfl) rfl fun fr r => ?_
    have hF1 : ∀ b, (fun b => F b ∨ b = b1 ∨ b = b2) b → b < w3.heap.size := by rintro b (h | h | h); exact Nat.lt_of_lt_of_le (hF b h) hB.size; omega; omega
    refine zz06 r (zz51 (F := fun b => F b ∨ b = b1 ∨ b = b2) (n := n) hF1 ⟨op, at_, a, b⟩ (a1 := fun x => (k x).bind g) (show FnT Tryz.prog encInt u64 n (fun b => F b ∨ b = b1 ∨ b = b2) w3 (.func (.func 388) ([] : List Value).toArray [Value.pointer (some ⟨b1, 0, none⟩), .pointer (some ⟨b2, 0, none⟩)].toArray) (fun x => (k x).bind g) from
      ⟨388, [], [.pointer (some ⟨b1, 0, none⟩), .pointer (some ⟨b2, 0, none⟩)], cl388, rfl, fun m hm x w' hs hz => k_prog_Then_bool_int (ih m hm) (fun b hb => Nat.lt_of_lt_of_le (hF1 b hb) hz) (.inr (.inl rfl)) (hs.at_ (.inr (.inl rfl)) h1) (.inr (.inr rfl)) (hs.at_ (.inr (.inr rfl)) h2)
        (hk.mono (by omega) (fun b h => .inl h) ((Same.below hB hF).trans (hs.sub (fun b h => .inl h))) (Nat.le_trans hB.size hz)) (hf.mono (by omega) (fun b h => .inl h) ((Same.below hB hF).trans (hs.sub (fun b h => .inl h))) (Nat.le_trans hB.size hz)) x⟩)) (fun R hc => y_call r rfl cl297 hc) rfl ?_
    rintro _ w4 ⟨v, rfl, hb, hr⟩
    refine ⟨_, rfl, fun fr r => ?_⟩
    have z4 := hb.size
    have h3 := keep hb h3
    have hB := hB.trans (hb.mono hB.size)
    refine seq_upd (.cells v.cells 167 (0, 0)) r (fun R => zz0c r hr.shape rfl rfl h3 ts167 rfl) rfl fun fr w5 u5 r => wpList_nil ?_
    have z5 := u5.size
    have h3 := u5.at_
    have hB := u5.below hB (by omega)
    refine wp_ret ?_
    have hs := hr.shape.cells
    refine zz0a r rfl rfl h3 (k := 7) hs.1 ta167 ?_
    rw [← hs.2.2]
    exact RepRes.fin hB hr u5 (by rintro b (h | h | h); exact .inl h; exact .inr ⟨by omega, by omega⟩; exact .inr ⟨by omega, by omega⟩) (by rintro (h | h | h); (have := hF _ h; omega); omega; omega) (by omega) (by omega) (by omega)

theorem c_prog_Then_bool_int_le {n : Nat} {F : Nat → Prop} {w0 : World} (hF : ∀ b, F b → b < w0.heap.size) {t : T (Bool)} {pv fv : Value} {g : Bool → T (Int)} (hp : Rep Tryz.prog encBool n t F w0 pv) (hf : FnT Tryz.prog encInt boolE (n + 1) F w0 fv g) :
    Calls Tryz.prog 357 #[pv, fv] w0 (RepRes Tryz.prog encInt n (t.bind g) F w0) := s_prog_Then_bool_int n hF hp (hf.mono (by omega) (fun b h => h) (Same.refl _ _) (Nat.le_refl _)) (.inr hf)

def zz4d (n : Nat) : Prop := ∀ {F : Nat → Prop} {w0 : World}, (∀ b, F b → b < w0.heap.size) → ∀ {t : T (Grant)} {pv fv : Value} {g : Grant → T (Res)}, Rep Tryz.prog encGrant n t F w0 pv → FnT Tryz.prog encRes argGrant n F w0 fv g →
    (t.isDone = false ∨ FnT Tryz.prog encRes argGrant (n + 1) F w0 fv g) → Calls Tryz.prog 113 #[pv, fv] w0 (RepRes Tryz.prog encRes n (t.bind g) F w0)

theorem k_prog_Then_Grant_Res {n : Nat} (ih : zz4d n) {F : Nat → Prop} {w0 : World} (hF : ∀ b, F b → b < w0.heap.size) {op at_ a b : Int} {nf : FuncId} {n1 n2 : List Value} {k : Int → T (Grant)} {ff : FuncId} {f1 f2 : List Value} {g : Grant → T (Res)}
    {b1 b2 : Nat} (F1 : F b1) (h1 : w0.heap[b1]? = some (.cells (progCells false encGrant.zero op at_ a b (.func (.func nf) n1.toArray n2.toArray)) 158 (0, 0))) (F2 : F b2) (h2 : w0.heap[b2]? = some (.cells #[.func (.func ff) f1.toArray f2.toArray] 190 (0, 0)))
    (hk : FnT Tryz.prog encGrant u64 (n + 1) F w0 (.func (.func nf) n1.toArray n2.toArray) k) (hg : FnT Tryz.prog encRes argGrant (n + 1) F w0 (.func (.func ff) f1.toArray f2.toArray) g) (x : Int) :
    Calls Tryz.prog 213 #[.int .u64 x, .pointer (some ⟨b1, 0, none⟩), .pointer (some ⟨b2, 0, none⟩)] w0 (RepRes Tryz.prog encRes n ((k x).bind g) F w0) := by
 refine enter Tryz.func213 rfl 11 rfl rfl fun fr r => ?_
 have hB := Below.refl w0.heap.size w0
 refine wp_seq (wp_region_lit ?_)
 refine seq_new (.cells (progCells false encRes.zero 0 0 0 0 .nilFunc) 39 (0, 0)) r (fun R => y_alloc tz39) rfl fun fr b3 w1 q1 r => wn ?_
 have h1 := keep q1.below h1
 have h2 := keep q1.below h2
 have e3 := q1.eq
 have z1 := q1.size
 have h3 := q1.at_
 have hB := hB.trans (q1.below.mono hB.size)
 have zB := hB.size
 refine wp_seq ?_
 refine zz1c 5 [.val (.pointer (some ⟨b1, 8, none⟩)), .val (.func (.func nf) n1.toArray n2.toArray), .val (U x), .pred (RepAt Tryz.prog encGrant n (k x) F w0.heap.size b3) RepAt.stable, .val (.func (.func ff) f1.toArray f2.toArray)] mixed r (by kernel_rfl) (zz00 trivial (zz00 trivial (zz00 trivial (zz00 trivial (zz00 trivial zz12))))) ?_ ?_
 ·
  refine ec r (fun _ u _ b d s => zz02 s (b := b1) (o := 0) rfl fo158_3 bz) ?_
  refine zz24 r rfl (fun fr1 u w' hb' hd r' => ?_) ?_
  ·
   obtain ⟨d0, _⟩ := hd
   exact zz01 r' (v := .func (.func nf) n1.toArray n2.toArray) d0 (keep hb' h1) to156 rfl ⟨Below.refl _ _, rfl⟩
  refine ec r (fun _ u _ b d s => y_move s rfl bz) ?_
  refine zz24 r rfl (fun fr1 u w' hb' hd r' => ?_) ?_
  ·
   obtain ⟨d0, d1, _⟩ := hd
   have zb := hb'.size
   have zb : w1.heap.size ≤ w'.heap.size := zb
   have hB' : Below w0.heap.size w0 w' := hB.trans (Below.mono (w := w1) ⟨hb'.os, hb'.tape, hb'.output, hb'.size, hb'.block⟩ hB.size)
   have d0 : u 1 = .func (.func nf) n1.toArray n2.toArray := d0
   have d1 : u 2 = .int .u64 x := d1
   refine zz3z r' (fs := n1) (cs := n2) d0 d1 hk.at_.1 ((hk.at_.2 n (Nat.lt_succ_self n) x w' (Same.below hB' hF) hB'.size).mono ?_)
   rintro _ w2 ⟨v, rfl, hb2, hr2⟩
   refine ⟨v, rfl, hb2, RepAt.of_res (fun b h => Nat.lt_of_lt_of_le (hF b h) hB'.size) (by omega) hB'.size hb2 (Rep.mono ?_ (Same.refl _ _) (Nat.le_refl _) n _ _ hr2)⟩
   rintro b (h | h)
   · exact .inl (.inl h)
   · exact .inr h
  refine ec r (fun _ u _ b d s => zz01 s rfl (keep b h2) to190 rfl bz) ?_
  exact zz1l
 intro fr u w2 hb hΦ _ r
 obtain ⟨_, hr3, _, hr⟩ : RepAt Tryz.prog encGrant n (k x) F w0.heap.size b3 (u 3) w2 := hΦ 3 (by decide)
 have r := r.congr (sc (hΦ 4 (by decide)) rfl)
 have z2 := hb.size
 have h1 := keep hb h1
 have h2 := keep hb h2
 have h3 := keep hb h3
 have hB2 := hB.trans (hb.mono hB.size)
 have zB2 := hB2.size
 have hF1 : ∀ b, (fun b => F b ∨ (w0.heap.size ≤ b ∧ b < w2.heap.size ∧ b ≠ b3)) b → b < w2.heap.size := by rintro b (h | h); exact Nat.lt_of_lt_of_le (hF b h) hB2.size; exact h.2.1
 refine zz06 r (ih (F := fun b => F b ∨ (w0.heap.size ≤ b ∧ b < w2.heap.size ∧ b ≠ b3)) hF1 hr (hg.mono (by omega) (fun b h => .inl h) (Same.below hB2 hF) hB2.size)
  (.inr (hg.mono (Nat.le_refl _) (fun b h => .inl h) (Same.below hB2 hF) hB2.size))) (fun R hc => y_call r rfl cl113 hc) rfl ?_
 rintro _ w3 ⟨v2, rfl, hb2, hr2⟩
 refine ⟨_, rfl, fun fr r => ?_⟩
 have z3 := hb2.size
 have h3 := keep hb2 h3
 have hB3 := hB2.trans (hb2.mono hB2.size)
 refine seq_upd (.cells v2.cells 39 (0, 0)) r (fun R => zz0c r hr2.shape rfl rfl h3 ts39 rfl) rfl fun fr w4 u4 r => wn ?_
 have z4 := u4.size
 have h3 := u4.at_
 have hB4 := u4.below hB3 (by omega)
 refine wp_ret ?_
 have hs := hr2.shape.cells
 refine zz0a r rfl rfl h3 (k := 8) hs.1 ta39 ?_
 rw [← hs.2.2]
 exact RepRes.fin hB4 hr2 u4 (by rintro b (h | ⟨h1, h2, _⟩); exact .inl h; exact .inr ⟨h1, h2⟩) (by rintro (h | ⟨_, _, h⟩); (have := hF _ h; omega); exact h rfl) (by omega) (by omega) (by omega)

theorem s_prog_Then_Grant_Res (n : Nat) : zz4d n := by
  induction n using Nat.strongRecOn with
  | _ n ih =>
  intro F w0 hF t pv fv g hp hf hd
  obtain ⟨ff, f1, f2, hcf, rfl, hff⟩ := id hf
  cases t with
  | cut => unfold Rep at hp; exact hp.elim
  | done x0 =>
    have hf := hd.resolve_left (by intro h; cases h)
    unfold Rep at hp
    subst hp
    refine enter (l := [.agg (progCells true (encGrant.cells x0) 0 0 0 0 .nilFunc), .func (.func ff) f1.toArray f2.toArray]) Tryz.func113 rfl 15 rfl rfl fun fr r => ?_
    have hB := Below.refl w0.heap.size w0
    refine wp_seq (wp_region_lit ?_)
    refine seq_new (.cells (progCells true (encGrant.cells x0) 0 0 0 0 .nilFunc) 158 (0, 0)) r (fun R => y_box r (v := .agg (progCells true (encGrant.cells x0) 0 0 0 0 .nilFunc)) rfl) rfl fun fr b1 w1 q1 r => ?_
    refine seq_new (.cells #[.func (.func ff) f1.toArray f2.toArray] 190 (0, 0)) r (fun R => y_box r (v := .func (.func ff) f1.toArray f2.toArray) rfl) rfl fun fr b2 w2 q2 r => ?_
    refine seq_new (.cells (progCells false encRes.zero 0 0 0 0 .nilFunc) 39 (0, 0)) r (fun R => y_alloc tz39) rfl fun fr b3 w3 q3 r => wpList_nil ?_
    have h1 := keep q3.below (keep q2.below q1.at_)
    have h2 := keep q3.below q2.at_
    have h3 := q3.at_
    have e1 := q1.eq; have e2 := q2.eq; have e3 := q3.eq; have z1 := q1.size; have z2 := q2.size; have z3 := q3.size
    have hB := ((hB.trans q1.below).trans (q2.below.mono (by omega))).trans (q3.below.mono (by omega))
    have zB := hB.size
    refine wp_seq (wp_seq (wp_region_lit ?_))
    refine seq_val (.pointer (some ⟨b1, 0, none⟩)) r (fun R => zz02 r (o := 0) rfl fo158_0) rfl fun fr r => ?_
    refine seq_val (.bool true) r (fun R => zz01 r (v := .bool true) rfl h1 to4 rfl) rfl fun fr r => wpList_nil ?_
    refine wp_cond_split (t := true) (r.ev rfl) (fun _ => ?_) (fun h => by cases h)
    refine wp_seq (wp_region_lit ?_)
    refine seq_val (.func (.func ff) f1.toArray f2.toArray) r (fun R => zz01 r (v := .func (.func ff) f1.toArray f2.toArray) rfl h2 to190 rfl) rfl fun fr r => ?_
    refine seq_val (.pointer (some ⟨b1, 1, none⟩)) r (fun R => zz02 r (o := 0) rfl fo158_1) rfl fun fr r => ?_
    refine seq_val (.agg (grantC x0).toArray) r (fun R => zz03 r (cs := (grantC x0)) (n := 3) rfl h1 ta153 rfl) rfl fun fr r => ?_
    refine zz06 r (hf.at_.2 n (Nat.lt_succ_self n) x0 w3 (Same.below hB hF) hB.size) (fun R hc => y_callv r rfl rfl hf.at_.1 hc) rfl ?_
    rintro _ w4 ⟨v, rfl, hb, hr⟩
    refine ⟨_, rfl, fun fr r => ?_⟩
    have z4 := hb.size
    have h3 := keep hb h3
    have hB := hB.trans (hb.mono hB.size)
    refine seq_upd (.cells v.cells 39 (0, 0)) r (fun R => zz0c r hr.shape rfl rfl h3 ts39 rfl) rfl fun fr w5 u5 r => wpList_nil ?_
    have z5 := u5.size
    have h3 := u5.at_
    have hB := u5.below hB (by omega)
    refine wp_ret ?_
    have hs := hr.shape.cells
    refine zz0a r rfl rfl h3 (k := 8) hs.1 ta39 ?_
    rw [← hs.2.2]
    exact RepRes.fin hB hr u5 (fun b hb => .inl hb) (fun h => by have := hF _ h; omega) (by omega) (by omega) (by omega)
  | act op at_ a b k =>
    obtain ⟨nf, n1, n2, hcn, rfl, hk⟩ : ∃ (nf : FuncId) (n1 n2 : List Value), callable Tryz.prog nf = true ∧ pv = .agg (progCells false encGrant.zero op at_ a b (.func (.func nf) n1.toArray n2.toArray)) ∧ FnT Tryz.prog encGrant u64 n F w0 (.func (.func nf) n1.toArray n2.toArray) k := by
      exact Rep.act_inv hp
    refine enter (l := [.agg (progCells false encGrant.zero op at_ a b (.func (.func nf) n1.toArray n2.toArray)), .func (.func ff) f1.toArray f2.toArray]) Tryz.func113 rfl 15 rfl rfl fun fr r => ?_
    have hB := Below.refl w0.heap.size w0
    refine wp_seq (wp_region_lit ?_)
    refine seq_new (.cells (progCells false encGrant.zero op at_ a b (.func (.func nf) n1.toArray n2.toArray)) 158 (0, 0)) r (fun R => y_box r (v := .agg (progCells false encGrant.zero op at_ a b (.func (.func nf) n1.toArray n2.toArray))) rfl) rfl fun fr b1 w1 q1 r => ?_
    refine seq_new (.cells #[.func (.func ff) f1.toArray f2.toArray] 190 (0, 0)) r (fun R => y_box r (v := .func (.func ff) f1.toArray f2.toArray) rfl) rfl fun fr b2 w2 q2 r => ?_
    refine seq_new (.cells (progCells false encRes.zero 0 0 0 0 .nilFunc) 39 (0, 0)) r (fun R => y_alloc tz39) rfl fun fr b3 w3 q3 r => wpList_nil ?_
    have h1 := keep q3.below (keep q2.below q1.at_)
    have h2 := keep q3.below q2.at_
    have h3 := q3.at_
    have e1 := q1.eq; have e2 := q2.eq; have e3 := q3.eq; have z1 := q1.size; have z2 := q2.size; have z3 := q3.size
    have hB := ((hB.trans q1.below).trans (q2.below.mono (by omega))).trans (q3.below.mono (by omega))
    have zB := hB.size
    refine wp_seq (wp_seq (wp_region_lit ?_))
    refine seq_val (.pointer (some ⟨b1, 0, none⟩)) r (fun R => zz02 r (o := 0) rfl fo158_0) rfl fun fr r => ?_
    refine seq_val (.bool false) r (fun R => zz01 r (v := .bool false) rfl h1 to4 rfl) rfl fun fr r => wpList_nil ?_
    refine wp_cond_split (t := false) (r.ev rfl) (fun h => by cases h) (fun _ => ?_)
    refine wp_skip ?_
    refine wp_seq (wp_region_lit ?_)
    refine seq_val (.pointer (some ⟨b1, 4, none⟩)) r (fun R => zz02 r (o := 0) rfl fo158_2) rfl fun fr r => ?_
    refine seq_val (.agg (accessC (⟨op, at_, a, b⟩ : Access)).toArray) r (fun R => zz03 r (cs := (accessC (⟨op, at_, a, b⟩ : Access))) (n := 4) rfl h1 ta36 rfl) rfl fun fr r => ?_
    refine seq_val (.func (.func 213) #[] #[.pointer (some ⟨b1, 0, none⟩), .pointer (some ⟨b2, 0, none⟩)]) r (fun R => zz0o r rfl) rfl fun fr r => ?_
    have hF1 : ∀ b, (fun b => F b ∨ b = b1 ∨ b = b2) b → b < w3.heap.size := by rintro b (h | h | h); exact Nat.lt_of_lt_of_le (hF b h) hB.size; omega; omega
    refine zz06 r (zz4z (F := fun b => F b ∨ b = b1 ∨ b = b2) (n := n) hF1 ⟨op, at_, a, b⟩ (a1 := fun x => (k x).bind g) (show FnT Tryz.prog encRes u64 n (fun b => F b ∨ b = b1 ∨ b = b2) w3 (.func (.func 213) ([] : List Value).toArray [Value.pointer (some ⟨b1, 0, none⟩), .pointer (some ⟨b2, 0, none⟩)].toArray) (fun x => (k x).bind g) from
      ⟨213, [], [.pointer (some ⟨b1, 0, none⟩), .pointer (some ⟨b2, 0, none⟩)], cl213, rfl, fun m hm x w' hs hz => k_prog_Then_Grant_Res (ih m hm) (fun b hb => Nat.lt_of_lt_of_le (hF1 b hb) hz) (.inr (.inl rfl)) (hs.at_ (.inr (.inl rfl)) h1) (.inr (.inr rfl)) (hs.at_ (.inr (.inr rfl)) h2)
        (hk.mono (by omega) (fun b h => .inl h) ((Same.below hB hF).trans (hs.sub (fun b h => .inl h))) (Nat.le_trans hB.size hz)) (hf.mono (by omega) (fun b h => .inl h) ((Same.below hB hF).trans (hs.sub (fun b h => .inl h))) (Nat.le_trans hB.size hz)) x⟩)) (fun R hc => y_call r rfl cl212 hc) rfl ?_
    rintro _ w4 ⟨v, rfl, hb, hr⟩
    refine ⟨_, rfl, fun fr r => ?_⟩
    have z4 := hb.size
    have h3 := keep hb h3
    have hB := hB.trans (hb.mono hB.size)
    refine seq_upd (.cells v.cells 39 (0, 0)) r (fun R => zz0c r hr.shape rfl rfl h3 ts39 rfl) rfl fun fr w5 u5 r => wpList_nil ?_
    have z5 := u5.size
    have h3 := u5.at_
    have hB := u5.below hB (by omega)
    refine wp_ret ?_
    have hs := hr.shape.cells
    refine zz0a r rfl rfl h3 (k := 8) hs.1 ta39 ?_
    rw [← hs.2.2]
    exact RepRes.fin hB hr u5 (by rintro b (h | h | h); exact .inl h; exact .inr ⟨by omega, by omega⟩; exact .inr ⟨by omega, by omega⟩) (by rintro (h | h | h); (have := hF _ h; omega); omega; omega) (by omega) (by omega) (by omega)

theorem c_prog_Then_Grant_Res_le {n : Nat} {F : Nat → Prop} {w0 : World} (hF : ∀ b, F b → b < w0.heap.size) {t : T (Grant)} {pv fv : Value} {g : Grant → T (Res)} (hp : Rep Tryz.prog encGrant n t F w0 pv) (hf : FnT Tryz.prog encRes argGrant (n + 1) F w0 fv g) :
    Calls Tryz.prog 113 #[pv, fv] w0 (RepRes Tryz.prog encRes n (t.bind g) F w0) := s_prog_Then_Grant_Res n hF hp (hf.mono (by omega) (fun b h => h) (Same.refl _ _) (Nat.le_refl _)) (.inr hf)

def zz4e (n : Nat) : Prop := ∀ {F : Nat → Prop} {w0 : World}, (∀ b, F b → b < w0.heap.size) → ∀ {t : T (Unit)} {pv fv : Value} {g : Unit → T (Res)}, Rep Tryz.prog encNone n t F w0 pv → FnT Tryz.prog encRes noneE n F w0 fv g →
    (t.isDone = false ∨ FnT Tryz.prog encRes noneE (n + 1) F w0 fv g) → Calls Tryz.prog 217 #[pv, fv] w0 (RepRes Tryz.prog encRes n (t.bind g) F w0)

theorem k_prog_Then_None_Res {n : Nat} (ih : zz4e n) {F : Nat → Prop} {w0 : World} (hF : ∀ b, F b → b < w0.heap.size) {op at_ a b : Int} {nf : FuncId} {n1 n2 : List Value} {k : Int → T (Unit)} {ff : FuncId} {f1 f2 : List Value} {g : Unit → T (Res)}
    {b1 b2 : Nat} (F1 : F b1) (h1 : w0.heap[b1]? = some (.cells (progCells false encNone.zero op at_ a b (.func (.func nf) n1.toArray n2.toArray)) 186 (0, 0))) (F2 : F b2) (h2 : w0.heap[b2]? = some (.cells #[.func (.func ff) f1.toArray f2.toArray] 270 (0, 0)))
    (hk : FnT Tryz.prog encNone u64 (n + 1) F w0 (.func (.func nf) n1.toArray n2.toArray) k) (hg : FnT Tryz.prog encRes noneE (n + 1) F w0 (.func (.func ff) f1.toArray f2.toArray) g) (x : Int) :
    Calls Tryz.prog 319 #[.int .u64 x, .pointer (some ⟨b1, 0, none⟩), .pointer (some ⟨b2, 0, none⟩)] w0 (RepRes Tryz.prog encRes n ((k x).bind g) F w0) := by
 refine enter Tryz.func319 rfl 11 rfl rfl fun fr r => ?_
 have hB := Below.refl w0.heap.size w0
 refine wp_seq (wp_region_lit ?_)
 refine seq_new (.cells (progCells false encRes.zero 0 0 0 0 .nilFunc) 39 (0, 0)) r (fun R => y_alloc tz39) rfl fun fr b3 w1 q1 r => wn ?_
 have h1 := keep q1.below h1
 have h2 := keep q1.below h2
 have e3 := q1.eq
 have z1 := q1.size
 have h3 := q1.at_
 have hB := hB.trans (q1.below.mono hB.size)
 have zB := hB.size
 refine wp_seq ?_
 refine zz1c 5 [.val (.pointer (some ⟨b1, 5, none⟩)), .val (.func (.func nf) n1.toArray n2.toArray), .val (U x), .pred (RepAt Tryz.prog encNone n (k x) F w0.heap.size b3) RepAt.stable, .val (.func (.func ff) f1.toArray f2.toArray)] mixed r (by kernel_rfl) (zz00 trivial (zz00 trivial (zz00 trivial (zz00 trivial (zz00 trivial zz12))))) ?_ ?_
 ·
  refine ec r (fun _ u _ b d s => zz02 s (b := b1) (o := 0) rfl fo186_3 bz) ?_
  refine zz24 r rfl (fun fr1 u w' hb' hd r' => ?_) ?_
  ·
   obtain ⟨d0, _⟩ := hd
   exact zz01 r' (v := .func (.func nf) n1.toArray n2.toArray) d0 (keep hb' h1) to184 rfl ⟨Below.refl _ _, rfl⟩
  refine ec r (fun _ u _ b d s => y_move s rfl bz) ?_
  refine zz24 r rfl (fun fr1 u w' hb' hd r' => ?_) ?_
  ·
   obtain ⟨d0, d1, _⟩ := hd
   have zb := hb'.size
   have zb : w1.heap.size ≤ w'.heap.size := zb
   have hB' : Below w0.heap.size w0 w' := hB.trans (Below.mono (w := w1) ⟨hb'.os, hb'.tape, hb'.output, hb'.size, hb'.block⟩ hB.size)
   have d0 : u 1 = .func (.func nf) n1.toArray n2.toArray := d0
   have d1 : u 2 = .int .u64 x := d1
   refine zz3z r' (fs := n1) (cs := n2) d0 d1 hk.at_.1 ((hk.at_.2 n (Nat.lt_succ_self n) x w' (Same.below hB' hF) hB'.size).mono ?_)
   rintro _ w2 ⟨v, rfl, hb2, hr2⟩
   refine ⟨v, rfl, hb2, RepAt.of_res (fun b h => Nat.lt_of_lt_of_le (hF b h) hB'.size) (by omega) hB'.size hb2 (Rep.mono ?_ (Same.refl _ _) (Nat.le_refl _) n _ _ hr2)⟩
   rintro b (h | h)
   · exact .inl (.inl h)
   · exact .inr h
  refine ec r (fun _ u _ b d s => zz01 s rfl (keep b h2) to270 rfl bz) ?_
  exact zz1l
 intro fr u w2 hb hΦ _ r
 obtain ⟨_, hr3, _, hr⟩ : RepAt Tryz.prog encNone n (k x) F w0.heap.size b3 (u 3) w2 := hΦ 3 (by decide)
 have r := r.congr (sc (hΦ 4 (by decide)) rfl)
 have z2 := hb.size
 have h1 := keep hb h1
 have h2 := keep hb h2
 have h3 := keep hb h3
 have hB2 := hB.trans (hb.mono hB.size)
 have zB2 := hB2.size
 have hF1 : ∀ b, (fun b => F b ∨ (w0.heap.size ≤ b ∧ b < w2.heap.size ∧ b ≠ b3)) b → b < w2.heap.size := by rintro b (h | h); exact Nat.lt_of_lt_of_le (hF b h) hB2.size; exact h.2.1
 refine zz06 r (ih (F := fun b => F b ∨ (w0.heap.size ≤ b ∧ b < w2.heap.size ∧ b ≠ b3)) hF1 hr (hg.mono (by omega) (fun b h => .inl h) (Same.below hB2 hF) hB2.size)
  (.inr (hg.mono (Nat.le_refl _) (fun b h => .inl h) (Same.below hB2 hF) hB2.size))) (fun R hc => y_call r rfl cl217 hc) rfl ?_
 rintro _ w3 ⟨v2, rfl, hb2, hr2⟩
 refine ⟨_, rfl, fun fr r => ?_⟩
 have z3 := hb2.size
 have h3 := keep hb2 h3
 have hB3 := hB2.trans (hb2.mono hB2.size)
 refine seq_upd (.cells v2.cells 39 (0, 0)) r (fun R => zz0c r hr2.shape rfl rfl h3 ts39 rfl) rfl fun fr w4 u4 r => wn ?_
 have z4 := u4.size
 have h3 := u4.at_
 have hB4 := u4.below hB3 (by omega)
 refine wp_ret ?_
 have hs := hr2.shape.cells
 refine zz0a r rfl rfl h3 (k := 8) hs.1 ta39 ?_
 rw [← hs.2.2]
 exact RepRes.fin hB4 hr2 u4 (by rintro b (h | ⟨h1, h2, _⟩); exact .inl h; exact .inr ⟨h1, h2⟩) (by rintro (h | ⟨_, _, h⟩); (have := hF _ h; omega); exact h rfl) (by omega) (by omega) (by omega)

theorem s_prog_Then_None_Res (n : Nat) : zz4e n := by
  induction n using Nat.strongRecOn with
  | _ n ih =>
  intro F w0 hF t pv fv g hp hf hd
  obtain ⟨ff, f1, f2, hcf, rfl, hff⟩ := id hf
  cases t with
  | cut => unfold Rep at hp; exact hp.elim
  | done x0 =>
    have hf := hd.resolve_left (by intro h; cases h)
    unfold Rep at hp
    subst hp
    refine enter (l := [.agg (progCells true (encNone.cells x0) 0 0 0 0 .nilFunc), .func (.func ff) f1.toArray f2.toArray]) Tryz.func217 rfl 15 rfl rfl fun fr r => ?_
    have hB := Below.refl w0.heap.size w0
    refine wp_seq (wp_region_lit ?_)
    refine seq_new (.cells (progCells true (encNone.cells x0) 0 0 0 0 .nilFunc) 186 (0, 0)) r (fun R => y_box r (v := .agg (progCells true (encNone.cells x0) 0 0 0 0 .nilFunc)) rfl) rfl fun fr b1 w1 q1 r => ?_
    refine seq_new (.cells #[.func (.func ff) f1.toArray f2.toArray] 270 (0, 0)) r (fun R => y_box r (v := .func (.func ff) f1.toArray f2.toArray) rfl) rfl fun fr b2 w2 q2 r => ?_
    refine seq_new (.cells (progCells false encRes.zero 0 0 0 0 .nilFunc) 39 (0, 0)) r (fun R => y_alloc tz39) rfl fun fr b3 w3 q3 r => wpList_nil ?_
    have h1 := keep q3.below (keep q2.below q1.at_)
    have h2 := keep q3.below q2.at_
    have h3 := q3.at_
    have e1 := q1.eq; have e2 := q2.eq; have e3 := q3.eq; have z1 := q1.size; have z2 := q2.size; have z3 := q3.size
    have hB := ((hB.trans q1.below).trans (q2.below.mono (by omega))).trans (q3.below.mono (by omega))
    have zB := hB.size
    refine wp_seq (wp_seq (wp_region_lit ?_))
    refine seq_val (.pointer (some ⟨b1, 0, none⟩)) r (fun R => zz02 r (o := 0) rfl fo186_0) rfl fun fr r => ?_
    refine seq_val (.bool true) r (fun R => zz01 r (v := .bool true) rfl h1 to4 rfl) rfl fun fr r => wpList_nil ?_
    refine wp_cond_split (t := true) (r.ev rfl) (fun _ => ?_) (fun h => by cases h)
    refine wp_seq (wp_region_lit ?_)
    refine seq_val (.func (.func ff) f1.toArray f2.toArray) r (fun R => zz01 r (v := .func (.func ff) f1.toArray f2.toArray) rfl h2 to270 rfl) rfl fun fr r => ?_
    refine seq_valZ b1 1 r (fun R => y_fieldAddrZ r rfl fz186 h1) rfl fun fr sp r => ?_
    refine seq_val (.agg #[]) r (fun R => y_load_zero r rfl ta181) rfl fun fr r => ?_
    refine zz06 r (hf.at_.2 n (Nat.lt_succ_self n) x0 w3 (Same.below hB hF) hB.size) (fun R hc => y_callv r rfl rfl hf.at_.1 hc) rfl ?_
    rintro _ w4 ⟨v, rfl, hb, hr⟩
    refine ⟨_, rfl, fun fr r => ?_⟩
    have z4 := hb.size
    have h3 := keep hb h3
    have hB := hB.trans (hb.mono hB.size)
    refine seq_upd (.cells v.cells 39 (0, 0)) r (fun R => zz0c r hr.shape rfl rfl h3 ts39 rfl) rfl fun fr w5 u5 r => wpList_nil ?_
    have z5 := u5.size
    have h3 := u5.at_
    have hB := u5.below hB (by omega)
    refine wp_ret ?_
    have hs := hr.shape.cells
    refine zz0a r rfl rfl h3 (k := 8) hs.1 ta39 ?_
    rw [← hs.2.2]
    exact RepRes.fin hB hr u5 (fun b hb => .inl hb) (fun h => by have := hF _ h; omega) (by omega) (by omega) (by omega)
  | act op at_ a b k =>
    obtain ⟨nf, n1, n2, hcn, rfl, hk⟩ : ∃ (nf : FuncId) (n1 n2 : List Value), callable Tryz.prog nf = true ∧ pv = .agg (progCells false encNone.zero op at_ a b (.func (.func nf) n1.toArray n2.toArray)) ∧ FnT Tryz.prog encNone u64 n F w0 (.func (.func nf) n1.toArray n2.toArray) k := by
      exact Rep.act_inv hp
    refine enter (l := [.agg (progCells false encNone.zero op at_ a b (.func (.func nf) n1.toArray n2.toArray)), .func (.func ff) f1.toArray f2.toArray]) Tryz.func217 rfl 15 rfl rfl fun fr r => ?_
    have hB := Below.refl w0.heap.size w0
    refine wp_seq (wp_region_lit ?_)
    refine seq_new (.cells (progCells false encNone.zero op at_ a b (.func (.func nf) n1.toArray n2.toArray)) 186 (0, 0)) r (fun R => y_box r (v := .agg (progCells false encNone.zero op at_ a b (.func (.func nf) n1.toArray n2.toArray))) rfl) rfl fun fr b1 w1 q1 r => ?_
    refine seq_new (.cells #[.func (.func ff) f1.toArray f2.toArray] 270 (0, 0)) r (fun R => y_box r (v := .func (.func ff) f1.toArray f2.toArray) rfl) rfl fun fr b2 w2 q2 r => ?_
    refine seq_new (.cells (progCells false encRes.zero 0 0 0 0 .nilFunc) 39 (0, 0)) r (fun R => y_alloc tz39) rfl fun fr b3 w3 q3 r => wpList_nil ?_
    have h1 := keep q3.below (keep q2.below q1.at_)
    have h2 := keep q3.below q2.at_
    have h3 := q3.at_
    have e1 := q1.eq; have e2 := q2.eq; have e3 := q3.eq; have z1 := q1.size; have z2 := q2.size; have z3 := q3.size
    have hB := ((hB.trans q1.below).trans (q2.below.mono (by omega))).trans (q3.below.mono (by omega))
    have zB := hB.size
    refine wp_seq (wp_seq (wp_region_lit ?_))
    refine seq_val (.pointer (some ⟨b1, 0, none⟩)) r (fun R => zz02 r (o := 0) rfl fo186_0) rfl fun fr r => ?_
    refine seq_val (.bool false) r (fun R => zz01 r (v := .bool false) rfl h1 to4 rfl) rfl fun fr r => wpList_nil ?_
    refine wp_cond_split (t := false) (r.ev rfl) (fun h => by cases h) (fun _ => ?_)
    refine wp_skip ?_
    refine wp_seq (wp_region_lit ?_)
    refine seq_val (.pointer (some ⟨b1, 1, none⟩)) r (fun R => zz02 r (o := 0) rfl fo186_2) rfl fun fr r => ?_
    refine seq_val (.agg (accessC (⟨op, at_, a, b⟩ : Access)).toArray) r (fun R => zz03 r (cs := (accessC (⟨op, at_, a, b⟩ : Access))) (n := 4) rfl h1 ta36 rfl) rfl fun fr r => ?_
    refine seq_val (.func (.func 319) #[] #[.pointer (some ⟨b1, 0, none⟩), .pointer (some ⟨b2, 0, none⟩)]) r (fun R => zz0o r rfl) rfl fun fr r => ?_
    have hF1 : ∀ b, (fun b => F b ∨ b = b1 ∨ b = b2) b → b < w3.heap.size := by rintro b (h | h | h); exact Nat.lt_of_lt_of_le (hF b h) hB.size; omega; omega
    refine zz06 r (zz4z (F := fun b => F b ∨ b = b1 ∨ b = b2) (n := n) hF1 ⟨op, at_, a, b⟩ (a1 := fun x => (k x).bind g) (show FnT Tryz.prog encRes u64 n (fun b => F b ∨ b = b1 ∨ b = b2) w3 (.func (.func 319) ([] : List Value).toArray [Value.pointer (some ⟨b1, 0, none⟩), .pointer (some ⟨b2, 0, none⟩)].toArray) (fun x => (k x).bind g) from
      ⟨319, [], [.pointer (some ⟨b1, 0, none⟩), .pointer (some ⟨b2, 0, none⟩)], cl319, rfl, fun m hm x w' hs hz => k_prog_Then_None_Res (ih m hm) (fun b hb => Nat.lt_of_lt_of_le (hF1 b hb) hz) (.inr (.inl rfl)) (hs.at_ (.inr (.inl rfl)) h1) (.inr (.inr rfl)) (hs.at_ (.inr (.inr rfl)) h2)
        (hk.mono (by omega) (fun b h => .inl h) ((Same.below hB hF).trans (hs.sub (fun b h => .inl h))) (Nat.le_trans hB.size hz)) (hf.mono (by omega) (fun b h => .inl h) ((Same.below hB hF).trans (hs.sub (fun b h => .inl h))) (Nat.le_trans hB.size hz)) x⟩)) (fun R hc => y_call r rfl cl212 hc) rfl ?_
    rintro _ w4 ⟨v, rfl, hb, hr⟩
    refine ⟨_, rfl, fun fr r => ?_⟩
    have z4 := hb.size
    have h3 := keep hb h3
    have hB := hB.trans (hb.mono hB.size)
    refine seq_upd (.cells v.cells 39 (0, 0)) r (fun R => zz0c r hr.shape rfl rfl h3 ts39 rfl) rfl fun fr w5 u5 r => wpList_nil ?_
    have z5 := u5.size
    have h3 := u5.at_
    have hB := u5.below hB (by omega)
    refine wp_ret ?_
    have hs := hr.shape.cells
    refine zz0a r rfl rfl h3 (k := 8) hs.1 ta39 ?_
    rw [← hs.2.2]
    exact RepRes.fin hB hr u5 (by rintro b (h | h | h); exact .inl h; exact .inr ⟨by omega, by omega⟩; exact .inr ⟨by omega, by omega⟩) (by rintro (h | h | h); (have := hF _ h; omega); omega; omega) (by omega) (by omega) (by omega)

theorem zz4f {n : Nat} {F : Nat → Prop} {w0 : World} (hF : ∀ b, F b → b < w0.heap.size) {t : T (Unit)} {pv fv : Value} {g : Unit → T (Res)} (hp : Rep Tryz.prog encNone n t F w0 pv) (hf : FnT Tryz.prog encRes noneE (n + 1) F w0 fv g) :
    Calls Tryz.prog 217 #[pv, fv] w0 (RepRes Tryz.prog encRes n (t.bind g) F w0) := s_prog_Then_None_Res n hF hp (hf.mono (by omega) (fun b h => h) (Same.refl _ _) (Nat.le_refl _)) (.inr hf)

def zz48 (n : Nat) : Prop := ∀ {F : Nat → Prop} {w0 : World}, (∀ b, F b → b < w0.heap.size) → ∀ {t : T (Int)} {pv fv : Value} {g : Int → T (Grant)}, Rep Tryz.prog encInt n t F w0 pv → FnT Tryz.prog encGrant i64 n F w0 fv g →
    (t.isDone = false ∨ FnT Tryz.prog encGrant i64 (n + 1) F w0 fv g) → Calls Tryz.prog 190 #[pv, fv] w0 (RepRes Tryz.prog encGrant n (t.bind g) F w0)

theorem k_prog_Then_int_Grant {n : Nat} (ih : zz48 n) {F : Nat → Prop} {w0 : World} (hF : ∀ b, F b → b < w0.heap.size) {op at_ a b : Int} {nf : FuncId} {n1 n2 : List Value} {k : Int → T (Int)} {ff : FuncId} {f1 f2 : List Value} {g : Int → T (Grant)}
    {b1 b2 : Nat} (F1 : F b1) (h1 : w0.heap[b1]? = some (.cells (progCells false encInt.zero op at_ a b (.func (.func nf) n1.toArray n2.toArray)) 167 (0, 0))) (F2 : F b2) (h2 : w0.heap[b2]? = some (.cells #[.func (.func ff) f1.toArray f2.toArray] 246 (0, 0)))
    (hk : FnT Tryz.prog encInt u64 (n + 1) F w0 (.func (.func nf) n1.toArray n2.toArray) k) (hg : FnT Tryz.prog encGrant i64 (n + 1) F w0 (.func (.func ff) f1.toArray f2.toArray) g) (x : Int) :
    Calls Tryz.prog 287 #[.int .u64 x, .pointer (some ⟨b1, 0, none⟩), .pointer (some ⟨b2, 0, none⟩)] w0 (RepRes Tryz.prog encGrant n ((k x).bind g) F w0) := by
 refine enter Tryz.func287 rfl 11 rfl rfl fun fr r => ?_
 have hB := Below.refl w0.heap.size w0
 refine wp_seq (wp_region_lit ?_)
 refine seq_new (.cells (progCells false encGrant.zero 0 0 0 0 .nilFunc) 158 (0, 0)) r (fun R => y_alloc tz158) rfl fun fr b3 w1 q1 r => wn ?_
 have h1 := keep q1.below h1
 have h2 := keep q1.below h2
 have e3 := q1.eq
 have z1 := q1.size
 have h3 := q1.at_
 have hB := hB.trans (q1.below.mono hB.size)
 have zB := hB.size
 refine wp_seq ?_
 refine zz1c 5 [.val (.pointer (some ⟨b1, 6, none⟩)), .val (.func (.func nf) n1.toArray n2.toArray), .val (U x), .pred (RepAt Tryz.prog encInt n (k x) F w0.heap.size b3) RepAt.stable, .val (.func (.func ff) f1.toArray f2.toArray)] mixed r (by kernel_rfl) (zz00 trivial (zz00 trivial (zz00 trivial (zz00 trivial (zz00 trivial zz12))))) ?_ ?_
 ·
  refine ec r (fun _ u _ b d s => zz02 s (b := b1) (o := 0) rfl fo167_3 bz) ?_
  refine zz24 r rfl (fun fr1 u w' hb' hd r' => ?_) ?_
  ·
   obtain ⟨d0, _⟩ := hd
   exact zz01 r' (v := .func (.func nf) n1.toArray n2.toArray) d0 (keep hb' h1) to165 rfl ⟨Below.refl _ _, rfl⟩
  refine ec r (fun _ u _ b d s => y_move s rfl bz) ?_
  refine zz24 r rfl (fun fr1 u w' hb' hd r' => ?_) ?_
  ·
   obtain ⟨d0, d1, _⟩ := hd
   have zb := hb'.size
   have zb : w1.heap.size ≤ w'.heap.size := zb
   have hB' : Below w0.heap.size w0 w' := hB.trans (Below.mono (w := w1) ⟨hb'.os, hb'.tape, hb'.output, hb'.size, hb'.block⟩ hB.size)
   have d0 : u 1 = .func (.func nf) n1.toArray n2.toArray := d0
   have d1 : u 2 = .int .u64 x := d1
   refine zz3z r' (fs := n1) (cs := n2) d0 d1 hk.at_.1 ((hk.at_.2 n (Nat.lt_succ_self n) x w' (Same.below hB' hF) hB'.size).mono ?_)
   rintro _ w2 ⟨v, rfl, hb2, hr2⟩
   refine ⟨v, rfl, hb2, RepAt.of_res (fun b h => Nat.lt_of_lt_of_le (hF b h) hB'.size) (by omega) hB'.size hb2 (Rep.mono ?_ (Same.refl _ _) (Nat.le_refl _) n _ _ hr2)⟩
   rintro b (h | h)
   · exact .inl (.inl h)
   · exact .inr h
  refine ec r (fun _ u _ b d s => zz01 s rfl (keep b h2) to246 rfl bz) ?_
  exact zz1l
 intro fr u w2 hb hΦ _ r
 obtain ⟨_, hr3, _, hr⟩ : RepAt Tryz.prog encInt n (k x) F w0.heap.size b3 (u 3) w2 := hΦ 3 (by decide)
 have r := r.congr (sc (hΦ 4 (by decide)) rfl)
 have z2 := hb.size
 have h1 := keep hb h1
 have h2 := keep hb h2
 have h3 := keep hb h3
 have hB2 := hB.trans (hb.mono hB.size)
 have zB2 := hB2.size
 have hF1 : ∀ b, (fun b => F b ∨ (w0.heap.size ≤ b ∧ b < w2.heap.size ∧ b ≠ b3)) b → b < w2.heap.size := by rintro b (h | h); exact Nat.lt_of_lt_of_le (hF b h) hB2.size; exact h.2.1
 refine zz06 r (ih (F := fun b => F b ∨ (w0.heap.size ≤ b ∧ b < w2.heap.size ∧ b ≠ b3)) hF1 hr (hg.mono (by omega) (fun b h => .inl h) (Same.below hB2 hF) hB2.size)
  (.inr (hg.mono (Nat.le_refl _) (fun b h => .inl h) (Same.below hB2 hF) hB2.size))) (fun R hc => y_call r rfl cl190 hc) rfl ?_
 rintro _ w3 ⟨v2, rfl, hb2, hr2⟩
 refine ⟨_, rfl, fun fr r => ?_⟩
 have z3 := hb2.size
 have h3 := keep hb2 h3
 have hB3 := hB2.trans (hb2.mono hB2.size)
 refine seq_upd (.cells v2.cells 158 (0, 0)) r (fun R => zz0c r hr2.shape rfl rfl h3 ts158 rfl) rfl fun fr w4 u4 r => wn ?_
 have z4 := u4.size
 have h3 := u4.at_
 have hB4 := u4.below hB3 (by omega)
 refine wp_ret ?_
 have hs := hr2.shape.cells
 refine zz0a r rfl rfl h3 (k := 9) hs.1 ta158 ?_
 rw [← hs.2.2]
 exact RepRes.fin hB4 hr2 u4 (by rintro b (h | ⟨h1, h2, _⟩); exact .inl h; exact .inr ⟨h1, h2⟩) (by rintro (h | ⟨_, _, h⟩); (have := hF _ h; omega); exact h rfl) (by omega) (by omega) (by omega)

theorem s_prog_Then_int_Grant (n : Nat) : zz48 n := by
  induction n using Nat.strongRecOn with
  | _ n ih =>
  intro F w0 hF t pv fv g hp hf hd
  obtain ⟨ff, f1, f2, hcf, rfl, hff⟩ := id hf
  cases t with
  | cut => unfold Rep at hp; exact hp.elim
  | done x0 =>
    have hf := hd.resolve_left (by intro h; cases h)
    unfold Rep at hp
    subst hp
    refine enter (l := [.agg (progCells true (encInt.cells x0) 0 0 0 0 .nilFunc), .func (.func ff) f1.toArray f2.toArray]) Tryz.func190 rfl 15 rfl rfl fun fr r => ?_
    have hB := Below.refl w0.heap.size w0
    refine wp_seq (wp_region_lit ?_)
    refine seq_new (.cells (progCells true (encInt.cells x0) 0 0 0 0 .nilFunc) 167 (0, 0)) r (fun R => y_box r (v := .agg (progCells true (encInt.cells x0) 0 0 0 0 .nilFunc)) rfl) rfl fun fr b1 w1 q1 r => ?_
    refine seq_new (.cells #[.func (.func ff) f1.toArray f2.toArray] 246 (0, 0)) r (fun R => y_box r (v := .func (.func ff) f1.toArray f2.toArray) rfl) rfl fun fr b2 w2 q2 r => ?_
    refine seq_new (.cells (progCells false encGrant.zero 0 0 0 0 .nilFunc) 158 (0, 0)) r (fun R => y_alloc tz158) rfl fun fr b3 w3 q3 r => wpList_nil ?_
    have h1 := keep q3.below (keep q2.below q1.at_)
    have h2 := keep q3.below q2.at_
    have h3 := q3.at_
    have e1 := q1.eq; have e2 := q2.eq; have e3 := q3.eq; have z1 := q1.size; have z2 := q2.size; have z3 := q3.size
    have hB := ((hB.trans q1.below).trans (q2.below.mono (by omega))).trans (q3.below.mono (by omega))
    have zB := hB.size
    refine wp_seq (wp_seq (wp_region_lit ?_))
    refine seq_val (.pointer (some ⟨b1, 0, none⟩)) r (fun R => zz02 r (o := 0) rfl fo167_0) rfl fun fr r => ?_
    refine seq_val (.bool true) r (fun R => zz01 r (v := .bool true) rfl h1 to4 rfl) rfl fun fr r => wpList_nil ?_
    refine wp_cond_split (t := true) (r.ev rfl) (fun _ => ?_) (fun h => by cases h)
    refine wp_seq (wp_region_lit ?_)
    refine seq_val (.func (.func ff) f1.toArray f2.toArray) r (fun R => zz01 r (v := .func (.func ff) f1.toArray f2.toArray) rfl h2 to246 rfl) rfl fun fr r => ?_
    refine seq_val (.pointer (some ⟨b1, 1, none⟩)) r (fun R => zz02 r (o := 0) rfl fo167_1) rfl fun fr r => ?_
    refine seq_val (.int .i64 x0) r (fun R => zz01 r (v := (.int .i64 x0)) rfl h1 to3 rfl) rfl fun fr r => ?_
    refine zz06 r (hf.at_.2 n (Nat.lt_succ_self n) x0 w3 (Same.below hB hF) hB.size) (fun R hc => y_callv r rfl rfl hf.at_.1 hc) rfl ?_
    rintro _ w4 ⟨v, rfl, hb, hr⟩
    refine ⟨_, rfl, fun fr r => ?_⟩
    have z4 := hb.size
    have h3 := keep hb h3
    have hB := hB.trans (hb.mono hB.size)
    refine seq_upd (.cells v.cells 158 (0, 0)) r (fun R => zz0c r hr.shape rfl rfl h3 ts158 rfl) rfl fun fr w5 u5 r => wpList_nil ?_
    have z5 := u5.size
    have h3 := u5.at_
    have hB := u5.below hB (by omega)
    refine wp_ret ?_
    have hs := hr.shape.cells
    refine zz0a r rfl rfl h3 (k := 9) hs.1 ta158 ?_
    rw [← hs.2.2]
    exact RepRes.fin hB hr u5 (fun b hb => .inl hb) (fun h => by have := hF _ h; omega) (by omega) (by omega) (by omega)
  | act op at_ a b k =>
    obtain ⟨nf, n1, n2, hcn, rfl, hk⟩ : ∃ (nf : FuncId) (n1 n2 : List Value), callable Tryz.prog nf = true ∧ pv = .agg (progCells false encInt.zero op at_ a b (.func (.func nf) n1.toArray n2.toArray)) ∧ FnT Tryz.prog encInt u64 n F w0 (.func (.func nf) n1.toArray n2.toArray) k := by
      exact Rep.act_inv hp
    refine enter (l := [.agg (progCells false encInt.zero op at_ a b (.func (.func nf) n1.toArray n2.toArray)), .func (.func ff) f1.toArray f2.toArray]) Tryz.func190 rfl 15 rfl rfl fun fr r => ?_
    have hB := Below.refl w0.heap.size w0
    refine wp_seq (wp_region_lit ?_)
    refine seq_new (.cells (progCells false encInt.zero op at_ a b (.func (.func nf) n1.toArray n2.toArray)) 167 (0, 0)) r (fun R => y_box r (v := .agg (progCells false encInt.zero op at_ a b (.func (.func nf) n1.toArray n2.toArray))) rfl) rfl fun fr b1 w1 q1 r => ?_
    refine seq_new (.cells #[.func (.func ff) f1.toArray f2.toArray] 246 (0, 0)) r (fun R => y_box r (v := .func (.func ff) f1.toArray f2.toArray) rfl) rfl fun fr b2 w2 q2 r => ?_
    refine seq_new (.cells (progCells false encGrant.zero 0 0 0 0 .nilFunc) 158 (0, 0)) r (fun R => y_alloc tz158) rfl fun fr b3 w3 q3 r => wpList_nil ?_
    have h1 := keep q3.below (keep q2.below q1.at_)
    have h2 := keep q3.below q2.at_
    have h3 := q3.at_
    have e1 := q1.eq; have e2 := q2.eq; have e3 := q3.eq; have z1 := q1.size; have z2 := q2.size; have z3 := q3.size
    have hB := ((hB.trans q1.below).trans (q2.below.mono (by omega))).trans (q3.below.mono (by omega))
    have zB := hB.size
    refine wp_seq (wp_seq (wp_region_lit ?_))
    refine seq_val (.pointer (some ⟨b1, 0, none⟩)) r (fun R => zz02 r (o := 0) rfl fo167_0) rfl fun fr r => ?_
    refine seq_val (.bool false) r (fun R => zz01 r (v := .bool false) rfl h1 to4 rfl) rfl fun fr r => wpList_nil ?_
    refine wp_cond_split (t := false) (r.ev rfl) (fun h => by cases h) (fun _ => ?_)
    refine wp_skip ?_
    refine wp_seq (wp_region_lit ?_)
    refine seq_val (.pointer (some ⟨b1, 2, none⟩)) r (fun R => zz02 r (o := 0) rfl fo167_2) rfl fun fr r => ?_
    refine seq_val (.agg (accessC (⟨op, at_, a, b⟩ : Access)).toArray) r (fun R => zz03 r (cs := (accessC (⟨op, at_, a, b⟩ : Access))) (n := 4) rfl h1 ta36 rfl) rfl fun fr r => ?_
    refine seq_val (.func (.func 287) #[] #[.pointer (some ⟨b1, 0, none⟩), .pointer (some ⟨b2, 0, none⟩)]) r (fun R => zz0o r rfl) rfl fun fr r => ?_
    have hF1 : ∀ b, (fun b => F b ∨ b = b1 ∨ b = b2) b → b < w3.heap.size := by rintro b (h | h | h); exact Nat.lt_of_lt_of_le (hF b h) hB.size; omega; omega
    refine zz06 r (zz63 (F := fun b => F b ∨ b = b1 ∨ b = b2) (n := n) hF1 ⟨op, at_, a, b⟩ (a1 := fun x => (k x).bind g) (show FnT Tryz.prog encGrant u64 n (fun b => F b ∨ b = b1 ∨ b = b2) w3 (.func (.func 287) ([] : List Value).toArray [Value.pointer (some ⟨b1, 0, none⟩), .pointer (some ⟨b2, 0, none⟩)].toArray) (fun x => (k x).bind g) from
      ⟨287, [], [.pointer (some ⟨b1, 0, none⟩), .pointer (some ⟨b2, 0, none⟩)], cl287, rfl, fun m hm x w' hs hz => k_prog_Then_int_Grant (ih m hm) (fun b hb => Nat.lt_of_lt_of_le (hF1 b hb) hz) (.inr (.inl rfl)) (hs.at_ (.inr (.inl rfl)) h1) (.inr (.inr rfl)) (hs.at_ (.inr (.inr rfl)) h2)
        (hk.mono (by omega) (fun b h => .inl h) ((Same.below hB hF).trans (hs.sub (fun b h => .inl h))) (Nat.le_trans hB.size hz)) (hf.mono (by omega) (fun b h => .inl h) ((Same.below hB hF).trans (hs.sub (fun b h => .inl h))) (Nat.le_trans hB.size hz)) x⟩)) (fun R hc => y_call r rfl cl286 hc) rfl ?_
    rintro _ w4 ⟨v, rfl, hb, hr⟩
    refine ⟨_, rfl, fun fr r => ?_⟩
    have z4 := hb.size
    have h3 := keep hb h3
    have hB := hB.trans (hb.mono hB.size)
    refine seq_upd (.cells v.cells 158 (0, 0)) r (fun R => zz0c r hr.shape rfl rfl h3 ts158 rfl) rfl fun fr w5 u5 r => wpList_nil ?_
    have z5 := u5.size
    have h3 := u5.at_
    have hB := u5.below hB (by omega)
    refine wp_ret ?_
    have hs := hr.shape.cells
    refine zz0a r rfl rfl h3 (k := 9) hs.1 ta158 ?_
    rw [← hs.2.2]
    exact RepRes.fin hB hr u5 (by rintro b (h | h | h); exact .inl h; exact .inr ⟨by omega, by omega⟩; exact .inr ⟨by omega, by omega⟩) (by rintro (h | h | h); (have := hF _ h; omega); omega; omega) (by omega) (by omega) (by omega)

theorem zz2x {n : Nat} {F : Nat → Prop} {w0 : World} (hF : ∀ b, F b → b < w0.heap.size) {t : T (Int)} {pv fv : Value} {g : Int → T (Grant)} (hp : Rep Tryz.prog encInt n t F w0 pv) (hf : FnT Tryz.prog encGrant i64 (n + 1) F w0 fv g) :
    Calls Tryz.prog 190 #[pv, fv] w0 (RepRes Tryz.prog encGrant n (t.bind g) F w0) := s_prog_Then_int_Grant n hF hp (hf.mono (by omega) (fun b h => h) (Same.refl _ _) (Nat.le_refl _)) (.inr hf)

def zz50 (n : Nat) : Prop := ∀ {F : Nat → Prop} {w0 : World}, (∀ b, F b → b < w0.heap.size) → ∀ {t : T (Int)} {pv fv : Value} {g : Int → T (Res)}, Rep Tryz.prog encInt n t F w0 pv → FnT Tryz.prog encRes i64 n F w0 fv g →
    (t.isDone = false ∨ FnT Tryz.prog encRes i64 (n + 1) F w0 fv g) → Calls Tryz.prog 132 #[pv, fv] w0 (RepRes Tryz.prog encRes n (t.bind g) F w0)

theorem k_prog_Then_int_Res {n : Nat} (ih : zz50 n) {F : Nat → Prop} {w0 : World} (hF : ∀ b, F b → b < w0.heap.size) {op at_ a b : Int} {nf : FuncId} {n1 n2 : List Value} {k : Int → T (Int)} {ff : FuncId} {f1 f2 : List Value} {g : Int → T (Res)}
    {b1 b2 : Nat} (F1 : F b1) (h1 : w0.heap[b1]? = some (.cells (progCells false encInt.zero op at_ a b (.func (.func nf) n1.toArray n2.toArray)) 167 (0, 0))) (F2 : F b2) (h2 : w0.heap[b2]? = some (.cells #[.func (.func ff) f1.toArray f2.toArray] 204 (0, 0)))
    (hk : FnT Tryz.prog encInt u64 (n + 1) F w0 (.func (.func nf) n1.toArray n2.toArray) k) (hg : FnT Tryz.prog encRes i64 (n + 1) F w0 (.func (.func ff) f1.toArray f2.toArray) g) (x : Int) :
    Calls Tryz.prog 227 #[.int .u64 x, .pointer (some ⟨b1, 0, none⟩), .pointer (some ⟨b2, 0, none⟩)] w0 (RepRes Tryz.prog encRes n ((k x).bind g) F w0) := by
 refine enter Tryz.func227 rfl 11 rfl rfl fun fr r => ?_
 have hB := Below.refl w0.heap.size w0
 refine wp_seq (wp_region_lit ?_)
 refine seq_new (.cells (progCells false encRes.zero 0 0 0 0 .nilFunc) 39 (0, 0)) r (fun R => y_alloc tz39) rfl fun fr b3 w1 q1 r => wn ?_
 have h1 := keep q1.below h1
 have h2 := keep q1.below h2
 have e3 := q1.eq
 have z1 := q1.size
 have h3 := q1.at_
 have hB := hB.trans (q1.below.mono hB.size)
 have zB := hB.size
 refine wp_seq ?_
 refine zz1c 5 [.val (.pointer (some ⟨b1, 6, none⟩)), .val (.func (.func nf) n1.toArray n2.toArray), .val (U x), .pred (RepAt Tryz.prog encInt n (k x) F w0.heap.size b3) RepAt.stable, .val (.func (.func ff) f1.toArray f2.toArray)] mixed r (by kernel_rfl) (zz00 trivial (zz00 trivial (zz00 trivial (zz00 trivial (zz00 trivial zz12))))) ?_ ?_
 ·
  refine ec r (fun _ u _ b d s => zz02 s (b := b1) (o := 0) rfl fo167_3 bz) ?_
  refine zz24 r rfl (fun fr1 u w' hb' hd r' => ?_) ?_
  ·
   obtain ⟨d0, _⟩ := hd
   exact zz01 r' (v := .func (.func nf) n1.toArray n2.toArray) d0 (keep hb' h1) to165 rfl ⟨Below.refl _ _, rfl⟩
  refine ec r (fun _ u _ b d s => y_move s rfl bz) ?_
  refine zz24 r rfl (fun fr1 u w' hb' hd r' => ?_) ?_
  ·
   obtain ⟨d0, d1, _⟩ := hd
   have zb := hb'.size
   have zb : w1.heap.size ≤ w'.heap.size := zb
   have hB' : Below w0.heap.size w0 w' := hB.trans (Below.mono (w := w1) ⟨hb'.os, hb'.tape, hb'.output, hb'.size, hb'.block⟩ hB.size)
   have d0 : u 1 = .func (.func nf) n1.toArray n2.toArray := d0
   have d1 : u 2 = .int .u64 x := d1
   refine zz3z r' (fs := n1) (cs := n2) d0 d1 hk.at_.1 ((hk.at_.2 n (Nat.lt_succ_self n) x w' (Same.below hB' hF) hB'.size).mono ?_)
   rintro _ w2 ⟨v, rfl, hb2, hr2⟩
   refine ⟨v, rfl, hb2, RepAt.of_res (fun b h => Nat.lt_of_lt_of_le (hF b h) hB'.size) (by omega) hB'.size hb2 (Rep.mono ?_ (Same.refl _ _) (Nat.le_refl _) n _ _ hr2)⟩
   rintro b (h | h)
   · exact .inl (.inl h)
   · exact .inr h
  refine ec r (fun _ u _ b d s => zz01 s rfl (keep b h2) to204 rfl bz) ?_
  exact zz1l
 intro fr u w2 hb hΦ _ r
 obtain ⟨_, hr3, _, hr⟩ : RepAt Tryz.prog encInt n (k x) F w0.heap.size b3 (u 3) w2 := hΦ 3 (by decide)
 have r := r.congr (sc (hΦ 4 (by decide)) rfl)
 have z2 := hb.size
 have h1 := keep hb h1
 have h2 := keep hb h2
 have h3 := keep hb h3
 have hB2 := hB.trans (hb.mono hB.size)
 have zB2 := hB2.size
 have hF1 : ∀ b, (fun b => F b ∨ (w0.heap.size ≤ b ∧ b < w2.heap.size ∧ b ≠ b3)) b → b < w2.heap.size := by rintro b (h | h); exact Nat.lt_of_lt_of_le (hF b h) hB2.size; exact h.2.1
 refine zz06 r (ih (F := fun b => F b ∨ (w0.heap.size ≤ b ∧ b < w2.heap.size ∧ b ≠ b3)) hF1 hr (hg.mono (by omega) (fun b h => .inl h) (Same.below hB2 hF) hB2.size)
  (.inr (hg.mono (Nat.le_refl _) (fun b h => .inl h) (Same.below hB2 hF) hB2.size))) (fun R hc => y_call r rfl cl132 hc) rfl ?_
 rintro _ w3 ⟨v2, rfl, hb2, hr2⟩
 refine ⟨_, rfl, fun fr r => ?_⟩
 have z3 := hb2.size
 have h3 := keep hb2 h3
 have hB3 := hB2.trans (hb2.mono hB2.size)
 refine seq_upd (.cells v2.cells 39 (0, 0)) r (fun R => zz0c r hr2.shape rfl rfl h3 ts39 rfl) rfl fun fr w4 u4 r => wn ?_
 have z4 := u4.size
 have h3 := u4.at_
 have hB4 := u4.below hB3 (by omega)
 refine wp_ret ?_
 have hs := hr2.shape.cells
 refine zz0a r rfl rfl h3 (k := 8) hs.1 ta39 ?_
 rw [← hs.2.2]
 exact RepRes.fin hB4 hr2 u4 (by rintro b (h | ⟨h1, h2, _⟩); exact .inl h; exact .inr ⟨h1, h2⟩) (by rintro (h | ⟨_, _, h⟩); (have := hF _ h; omega); exact h rfl) (by omega) (by omega) (by omega)

theorem s_prog_Then_int_Res (n : Nat) : zz50 n := by
  induction n using Nat.strongRecOn with
  | _ n ih =>
  intro F w0 hF t pv fv g hp hf hd
  obtain ⟨ff, f1, f2, hcf, rfl, hff⟩ := id hf
  cases t with
  | cut => unfold Rep at hp; exact hp.elim
  | done x0 =>
    have hf := hd.resolve_left (by intro h; cases h)
    unfold Rep at hp
    subst hp
    refine enter (l := [.agg (progCells true (encInt.cells x0) 0 0 0 0 .nilFunc), .func (.func ff) f1.toArray f2.toArray]) Tryz.func132 rfl 15 rfl rfl fun fr r => ?_
    have hB := Below.refl w0.heap.size w0
    refine wp_seq (wp_region_lit ?_)
    refine seq_new (.cells (progCells true (encInt.cells x0) 0 0 0 0 .nilFunc) 167 (0, 0)) r (fun R => y_box r (v := .agg (progCells true (encInt.cells x0) 0 0 0 0 .nilFunc)) rfl) rfl fun fr b1 w1 q1 r => ?_
    refine seq_new (.cells #[.func (.func ff) f1.toArray f2.toArray] 204 (0, 0)) r (fun R => y_box r (v := .func (.func ff) f1.toArray f2.toArray) rfl) rfl fun fr b2 w2 q2 r => ?_
    refine seq_new (.cells (progCells false encRes.zero 0 0 0 0 .nilFunc) 39 (0, 0)) r (fun R => y_alloc tz39) rfl fun fr b3 w3 q3 r => wpList_nil ?_
    have h1 := keep q3.below (keep q2.below q1.at_)
    have h2 := keep q3.below q2.at_
    have h3 := q3.at_
    have e1 := q1.eq; have e2 := q2.eq; have e3 := q3.eq; have z1 := q1.size; have z2 := q2.size; have z3 := q3.size
    have hB := ((hB.trans q1.below).trans (q2.below.mono (by omega))).trans (q3.below.mono (by omega))
    have zB := hB.size
    refine wp_seq (wp_seq (wp_region_lit ?_))
    refine seq_val (.pointer (some ⟨b1, 0, none⟩)) r (fun R => zz02 r (o := 0) rfl fo167_0) rfl fun fr r => ?_
    refine seq_val (.bool true) r (fun R => zz01 r (v := .bool true) rfl h1 to4 rfl) rfl fun fr r => wpList_nil ?_
    refine wp_cond_split (t := true) (r.ev rfl) (fun _ => ?_) (fun h => by cases h)
    refine wp_seq (wp_region_lit ?_)
    refine seq_val (.func (.func ff) f1.toArray f2.toArray) r (fun R => zz01 r (v := .func (.func ff) f1.toArray f2.toArray) rfl h2 to204 rfl) rfl fun fr r => ?_
    refine seq_val (.pointer (some ⟨b1, 1, none⟩)) r (fun R => zz02 r (o := 0) rfl fo167_1) rfl fun fr r => ?_
    refine seq_val (.int .i64 x0) r (fun R => zz01 r (v := (.int .i64 x0)) rfl h1 to3 rfl) rfl fun fr r => ?_
    refine zz06 r (hf.at_.2 n (Nat.lt_succ_self n) x0 w3 (Same.below hB hF) hB.size) (fun R hc => y_callv r rfl rfl hf.at_.1 hc) rfl ?_
    rintro _ w4 ⟨v, rfl, hb, hr⟩
    refine ⟨_, rfl, fun fr r => ?_⟩
    have z4 := hb.size
    have h3 := keep hb h3
    have hB := hB.trans (hb.mono hB.size)
    refine seq_upd (.cells v.cells 39 (0, 0)) r (fun R => zz0c r hr.shape rfl rfl h3 ts39 rfl) rfl fun fr w5 u5 r => wpList_nil ?_
    have z5 := u5.size
    have h3 := u5.at_
    have hB := u5.below hB (by omega)
    refine wp_ret ?_
    have hs := hr.shape.cells
    refine zz0a r rfl rfl h3 (k := 8) hs.1 ta39 ?_
    rw [← hs.2.2]
    exact RepRes.fin hB hr u5 (fun b hb => .inl hb) (fun h => by have := hF _ h; omega) (by omega) (by omega) (by omega)
  | act op at_ a b k =>
    obtain ⟨nf, n1, n2, hcn, rfl, hk⟩ : ∃ (nf : FuncId) (n1 n2 : List Value), callable Tryz.prog nf = true ∧ pv = .agg (progCells false encInt.zero op at_ a b (.func (.func nf) n1.toArray n2.toArray)) ∧ FnT Tryz.prog encInt u64 n F w0 (.func (.func nf) n1.toArray n2.toArray) k := by
      exact Rep.act_inv hp
    refine enter (l := [.agg (progCells false encInt.zero op at_ a b (.func (.func nf) n1.toArray n2.toArray)), .func (.func ff) f1.toArray f2.toArray]) Tryz.func132 rfl 15 rfl rfl fun fr r => ?_
    have hB := Below.refl w0.heap.size w0
    refine wp_seq (wp_region_lit ?_)
    refine seq_new (.cells (progCells false encInt.zero op at_ a b (.func (.func nf) n1.toArray n2.toArray)) 167 (0, 0)) r (fun R => y_box r (v := .agg (progCells false encInt.zero op at_ a b (.func (.func nf) n1.toArray n2.toArray))) rfl) rfl fun fr b1 w1 q1 r => ?_
    refine seq_new (.cells #[.func (.func ff) f1.toArray f2.toArray] 204 (0, 0)) r (fun R => y_box r (v := .func (.func ff) f1.toArray f2.toArray) rfl) rfl fun fr b2 w2 q2 r => ?_
    refine seq_new (.cells (progCells false encRes.zero 0 0 0 0 .nilFunc) 39 (0, 0)) r (fun R => y_alloc tz39) rfl fun fr b3 w3 q3 r => wpList_nil ?_
    have h1 := keep q3.below (keep q2.below q1.at_)
    have h2 := keep q3.below q2.at_
    have h3 := q3.at_
    have e1 := q1.eq; have e2 := q2.eq; have e3 := q3.eq; have z1 := q1.size; have z2 := q2.size; have z3 := q3.size
    have hB := ((hB.trans q1.below).trans (q2.below.mono (by omega))).trans (q3.below.mono (by omega))
    have zB := hB.size
    refine wp_seq (wp_seq (wp_region_lit ?_))
    refine seq_val (.pointer (some ⟨b1, 0, none⟩)) r (fun R => zz02 r (o := 0) rfl fo167_0) rfl fun fr r => ?_
    refine seq_val (.bool false) r (fun R => zz01 r (v := .bool false) rfl h1 to4 rfl) rfl fun fr r => wpList_nil ?_
    refine wp_cond_split (t := false) (r.ev rfl) (fun h => by cases h) (fun _ => ?_)
    refine wp_skip ?_
    refine wp_seq (wp_region_lit ?_)
    refine seq_val (.pointer (some ⟨b1, 2, none⟩)) r (fun R => zz02 r (o := 0) rfl fo167_2) rfl fun fr r => ?_
    refine seq_val (.agg (accessC (⟨op, at_, a, b⟩ : Access)).toArray) r (fun R => zz03 r (cs := (accessC (⟨op, at_, a, b⟩ : Access))) (n := 4) rfl h1 ta36 rfl) rfl fun fr r => ?_
    refine seq_val (.func (.func 227) #[] #[.pointer (some ⟨b1, 0, none⟩), .pointer (some ⟨b2, 0, none⟩)]) r (fun R => zz0o r rfl) rfl fun fr r => ?_
    have hF1 : ∀ b, (fun b => F b ∨ b = b1 ∨ b = b2) b → b < w3.heap.size := by rintro b (h | h | h); exact Nat.lt_of_lt_of_le (hF b h) hB.size; omega; omega
    refine zz06 r (zz4z (F := fun b => F b ∨ b = b1 ∨ b = b2) (n := n) hF1 ⟨op, at_, a, b⟩ (a1 := fun x => (k x).bind g) (show FnT Tryz.prog encRes u64 n (fun b => F b ∨ b = b1 ∨ b = b2) w3 (.func (.func 227) ([] : List Value).toArray [Value.pointer (some ⟨b1, 0, none⟩), .pointer (some ⟨b2, 0, none⟩)].toArray) (fun x => (k x).bind g) from
      ⟨227, [], [.pointer (some ⟨b1, 0, none⟩), .pointer (some ⟨b2, 0, none⟩)], cl227, rfl, fun m hm x w' hs hz => k_prog_Then_int_Res (ih m hm) (fun b hb => Nat.lt_of_lt_of_le (hF1 b hb) hz) (.inr (.inl rfl)) (hs.at_ (.inr (.inl rfl)) h1) (.inr (.inr rfl)) (hs.at_ (.inr (.inr rfl)) h2)
        (hk.mono (by omega) (fun b h => .inl h) ((Same.below hB hF).trans (hs.sub (fun b h => .inl h))) (Nat.le_trans hB.size hz)) (hf.mono (by omega) (fun b h => .inl h) ((Same.below hB hF).trans (hs.sub (fun b h => .inl h))) (Nat.le_trans hB.size hz)) x⟩)) (fun R hc => y_call r rfl cl212 hc) rfl ?_
    rintro _ w4 ⟨v, rfl, hb, hr⟩
    refine ⟨_, rfl, fun fr r => ?_⟩
    have z4 := hb.size
    have h3 := keep hb h3
    have hB := hB.trans (hb.mono hB.size)
    refine seq_upd (.cells v.cells 39 (0, 0)) r (fun R => zz0c r hr.shape rfl rfl h3 ts39 rfl) rfl fun fr w5 u5 r => wpList_nil ?_
    have z5 := u5.size
    have h3 := u5.at_
    have hB := u5.below hB (by omega)
    refine wp_ret ?_
    have hs := hr.shape.cells
    refine zz0a r rfl rfl h3 (k := 8) hs.1 ta39 ?_
    rw [← hs.2.2]
    exact RepRes.fin hB hr u5 (by rintro b (h | h | h); exact .inl h; exact .inr ⟨by omega, by omega⟩; exact .inr ⟨by omega, by omega⟩) (by rintro (h | h | h); (have := hF _ h; omega); omega; omega) (by omega) (by omega) (by omega)

theorem c_prog_Then_int_Res_le {n : Nat} {F : Nat → Prop} {w0 : World} (hF : ∀ b, F b → b < w0.heap.size) {t : T (Int)} {pv fv : Value} {g : Int → T (Res)} (hp : Rep Tryz.prog encInt n t F w0 pv) (hf : FnT Tryz.prog encRes i64 (n + 1) F w0 fv g) :
    Calls Tryz.prog 132 #[pv, fv] w0 (RepRes Tryz.prog encRes n (t.bind g) F w0) := s_prog_Then_int_Res n hF hp (hf.mono (by omega) (fun b h => h) (Same.refl _ _) (Nat.le_refl _)) (.inr hf)

def zz4x (n : Nat) : Prop := ∀ {F : Nat → Prop} {w0 : World}, (∀ b, F b → b < w0.heap.size) → ∀ {t : T (Int)} {pv fv : Value} {g : Int → T (Int)}, Rep Tryz.prog encInt n t F w0 pv → FnT Tryz.prog encInt i64 n F w0 fv g →
    (t.isDone = false ∨ FnT Tryz.prog encInt i64 (n + 1) F w0 fv g) → Calls Tryz.prog 230 #[pv, fv] w0 (RepRes Tryz.prog encInt n (t.bind g) F w0)

theorem k_prog_Then_int_int {n : Nat} (ih : zz4x n) {F : Nat → Prop} {w0 : World} (hF : ∀ b, F b → b < w0.heap.size) {op at_ a b : Int} {nf : FuncId} {n1 n2 : List Value} {k : Int → T (Int)} {ff : FuncId} {f1 f2 : List Value} {g : Int → T (Int)}
    {b1 b2 : Nat} (F1 : F b1) (h1 : w0.heap[b1]? = some (.cells (progCells false encInt.zero op at_ a b (.func (.func nf) n1.toArray n2.toArray)) 167 (0, 0))) (F2 : F b2) (h2 : w0.heap[b2]? = some (.cells #[.func (.func ff) f1.toArray f2.toArray] 271 (0, 0)))
    (hk : FnT Tryz.prog encInt u64 (n + 1) F w0 (.func (.func nf) n1.toArray n2.toArray) k) (hg : FnT Tryz.prog encInt i64 (n + 1) F w0 (.func (.func ff) f1.toArray f2.toArray) g) (x : Int) :
    Calls Tryz.prog 321 #[.int .u64 x, .pointer (some ⟨b1, 0, none⟩), .pointer (some ⟨b2, 0, none⟩)] w0 (RepRes Tryz.prog encInt n ((k x).bind g) F w0) := by
 refine enter Tryz.func321 rfl 11 rfl rfl fun fr r => ?_
 have hB := Below.refl w0.heap.size w0
 refine wp_seq (wp_region_lit ?_)
 refine seq_new (.cells (progCells false encInt.zero 0 0 0 0 .nilFunc) 167 (0, 0)) r (fun R => y_alloc tz167) rfl fun fr b3 w1 q1 r => wn ?_
 have h1 := keep q1.below h1
 have h2 := keep q1.below h2
 have e3 := q1.eq
 have z1 := q1.size
 have h3 := q1.at_
 have hB := hB.trans (q1.below.mono hB.size)
 have zB := hB.size
 refine wp_seq ?_
 refine zz1c 5 [.val (.pointer (some ⟨b1, 6, none⟩)), .val (.func (.func nf) n1.toArray n2.toArray), .val (U x), .pred (RepAt Tryz.prog encInt n (k x) F w0.heap.size b3) RepAt.stable, .val (.func (.func ff) f1.toArray f2.toArray)] mixed r (by kernel_rfl) (zz00 trivial (zz00 trivial (zz00 trivial (zz00 trivial (zz00 trivial zz12))))) ?_ ?_
 ·
  refine ec r (fun _ u _ b d s => zz02 s (b := b1) (o := 0) rfl fo167_3 bz) ?_
  refine zz24 r rfl (fun fr1 u w' hb' hd r' => ?_) ?_
  ·
   obtain ⟨d0, _⟩ := hd
   exact zz01 r' (v := .func (.func nf) n1.toArray n2.toArray) d0 (keep hb' h1) to165 rfl ⟨Below.refl _ _, rfl⟩
  refine ec r (fun _ u _ b d s => y_move s rfl bz) ?_
  refine zz24 r rfl (fun fr1 u w' hb' hd r' => ?_) ?_
  ·
   obtain ⟨d0, d1, _⟩ := hd
   have zb := hb'.size
   have zb : w1.heap.size ≤ w'.heap.size := zb
   have hB' : Below w0.heap.size w0 w' := hB.trans (Below.mono (w := w1) ⟨hb'.os, hb'.tape, hb'.output, hb'.size, hb'.block⟩ hB.size)
   have d0 : u 1 = .func (.func nf) n1.toArray n2.toArray := d0
   have d1 : u 2 = .int .u64 x := d1
   refine zz3z r' (fs := n1) (cs := n2) d0 d1 hk.at_.1 ((hk.at_.2 n (Nat.lt_succ_self n) x w' (Same.below hB' hF) hB'.size).mono ?_)
   rintro _ w2 ⟨v, rfl, hb2, hr2⟩
   refine ⟨v, rfl, hb2, RepAt.of_res (fun b h => Nat.lt_of_lt_of_le (hF b h) hB'.size) (by omega) hB'.size hb2 (Rep.mono ?_ (Same.refl _ _) (Nat.le_refl _) n _ _ hr2)⟩
   rintro b (h | h)
   · exact .inl (.inl h)
   · exact .inr h
  refine ec r (fun _ u _ b d s => zz01 s rfl (keep b h2) to271 rfl bz) ?_
  exact zz1l
 intro fr u w2 hb hΦ _ r
 obtain ⟨_, hr3, _, hr⟩ : RepAt Tryz.prog encInt n (k x) F w0.heap.size b3 (u 3) w2 := hΦ 3 (by decide)
 have r := r.congr (sc (hΦ 4 (by decide)) rfl)
 have z2 := hb.size
 have h1 := keep hb h1
 have h2 := keep hb h2
 have h3 := keep hb h3
 have hB2 := hB.trans (hb.mono hB.size)
 have zB2 := hB2.size
 have hF1 : ∀ b, (fun b => F b ∨ (w0.heap.size ≤ b ∧ b < w2.heap.size ∧ b ≠ b3)) b → b < w2.heap.size := by rintro b (h | h); exact Nat.lt_of_lt_of_le (hF b h) hB2.size; exact h.2.1
 refine zz06 r (ih (F := fun b => F b ∨ (w0.heap.size ≤ b ∧ b < w2.heap.size ∧ b ≠ b3)) hF1 hr (hg.mono (by omega) (fun b h => .inl h) (Same.below hB2 hF) hB2.size)
  (.inr (hg.mono (Nat.le_refl _) (fun b h => .inl h) (Same.below hB2 hF) hB2.size))) (fun R hc => y_call r rfl cl230 hc) rfl ?_
 rintro _ w3 ⟨v2, rfl, hb2, hr2⟩
 refine ⟨_, rfl, fun fr r => ?_⟩
 have z3 := hb2.size
 have h3 := keep hb2 h3
 have hB3 := hB2.trans (hb2.mono hB2.size)
 refine seq_upd (.cells v2.cells 167 (0, 0)) r (fun R => zz0c r hr2.shape rfl rfl h3 ts167 rfl) rfl fun fr w4 u4 r => wn ?_
 have z4 := u4.size
 have h3 := u4.at_
 have hB4 := u4.below hB3 (by omega)
 refine wp_ret ?_
 have hs := hr2.shape.cells
 refine zz0a r rfl rfl h3 (k := 7) hs.1 ta167 ?_
 rw [← hs.2.2]
 exact RepRes.fin hB4 hr2 u4 (by rintro b (h | ⟨h1, h2, _⟩); exact .inl h; exact .inr ⟨h1, h2⟩) (by rintro (h | ⟨_, _, h⟩); (have := hF _ h; omega); exact h rfl) (by omega) (by omega) (by omega)

theorem zz60 (n : Nat) : zz4x n := by
  induction n using Nat.strongRecOn with
  | _ n ih =>
  intro F w0 hF t pv fv g hp hf hd
  obtain ⟨ff, f1, f2, hcf, rfl, hff⟩ := id hf
  cases t with
  | cut => unfold Rep at hp; exact hp.elim
  | done x0 =>
    have hf := hd.resolve_left (by intro h; cases h)
    unfold Rep at hp
    subst hp
    refine enter (l := [.agg (progCells true (encInt.cells x0) 0 0 0 0 .nilFunc), .func (.func ff) f1.toArray f2.toArray]) Tryz.func230 rfl 15 rfl rfl fun fr r => ?_
    have hB := Below.refl w0.heap.size w0
    refine wp_seq (wp_region_lit ?_)
    refine seq_new (.cells (progCells true (encInt.cells x0) 0 0 0 0 .nilFunc) 167 (0, 0)) r (fun R => y_box r (v := .agg (progCells true (encInt.cells x0) 0 0 0 0 .nilFunc)) rfl) rfl fun fr b1 w1 q1 r => ?_
    refine seq_new (.cells #[.func (.func ff) f1.toArray f2.toArray] 271 (0, 0)) r (fun R => y_box r (v := .func (.func ff) f1.toArray f2.toArray) rfl) rfl fun fr b2 w2 q2 r => ?_
    refine seq_new (.cells (progCells false encInt.zero 0 0 0 0 .nilFunc) 167 (0, 0)) r (fun R => y_alloc tz167) rfl fun fr b3 w3 q3 r => wpList_nil ?_
    have h1 := keep q3.below (keep q2.below q1.at_)
    have h2 := keep q3.below q2.at_
    have h3 := q3.at_
    have e1 := q1.eq; have e2 := q2.eq; have e3 := q3.eq; have z1 := q1.size; have z2 := q2.size; have z3 := q3.size
    have hB := ((hB.trans q1.below).trans (q2.below.mono (by omega))).trans (q3.below.mono (by omega))
    have zB := hB.size
    refine wp_seq (wp_seq (wp_region_lit ?_))
    refine seq_val (.pointer (some ⟨b1, 0, none⟩)) r (fun R => zz02 r (o := 0) rfl fo167_0) rfl fun fr r => ?_
    refine seq_val (.bool true) r (fun R => zz01 r (v := .bool true) rfl h1 to4 rfl) rfl fun fr r => wpList_nil ?_
    refine wp_cond_split (t := true) (r.ev rfl) (fun _ => ?_) (fun h => by cases h)
    refine wp_seq (wp_region_lit ?_)
    refine seq_val (.func (.func ff) f1.toArray f2.toArray) r (fun R => zz01 r (v := .func (.func ff) f1.toArray f2.toArray) rfl h2 to271 rfl) rfl fun fr r => ?_
    refine seq_val (.pointer (some ⟨b1, 1, none⟩)) r (fun R => zz02 r (o := 0) rfl fo167_1) rfl fun fr r => ?_
    refine seq_val (.int .i64 x0) r (fun R => zz01 r (v := (.int .i64 x0)) rfl h1 to3 rfl) rfl fun fr r => ?_
    refine zz06 r (hf.at_.2 n (Nat.lt_succ_self n) x0 w3 (Same.below hB hF) hB.size) (fun R hc => y_callv r rfl rfl hf.at_.1 hc) rfl ?_
    rintro _ w4 ⟨v, rfl, hb, hr⟩
    refine ⟨_, rfl, fun fr r => ?_⟩
    have z4 := hb.size
    have h3 := keep hb h3
    have hB := hB.trans (hb.mono hB.size)
    refine seq_upd (.cells v.cells 167 (0, 0)) r (fun R => zz0c r hr.shape rfl rfl h3 ts167 rfl) rfl fun fr w5 u5 r => wpList_nil ?_
    have z5 := u5.size
    have h3 := u5.at_
    have hB := u5.below hB (by omega)
    refine wp_ret ?_
    have hs := hr.shape.cells
    refine zz0a r rfl rfl h3 (k := 7) hs.1 ta167 ?_
    rw [← hs.2.2]
    exact RepRes.fin hB hr u5 (fun b hb => .inl hb) (fun h => by have := hF _ h; omega) (by omega) (by omega) (by omega)
  | act op at_ a b k =>
    obtain ⟨nf, n1, n2, hcn, rfl, hk⟩ : ∃ (nf : FuncId) (n1 n2 : List Value), callable Tryz.prog nf = true ∧ pv = .agg (progCells false encInt.zero op at_ a b (.func (.func nf) n1.toArray n2.toArray)) ∧ FnT Tryz.prog encInt u64 n F w0 (.func (.func nf) n1.toArray n2.toArray) k := by
      exact Rep.act_inv hp
    refine enter (l := [.agg (progCells false encInt.zero op at_ a b (.func (.func nf) n1.toArray n2.toArray)), .func (.func ff) f1.toArray f2.toArray]) Tryz.func230 rfl 15 rfl rfl fun fr r => ?_
    have hB := Below.refl w0.heap.size w0
    refine wp_seq (wp_region_lit ?_)
    refine seq_new (.cells (progCells false encInt.zero op at_ a b (.func (.func nf) n1.toArray n2.toArray)) 167 (0, 0)) r (fun R => y_box r (v := .agg (progCells false encInt.zero op at_ a b (.func (.func nf) n1.toArray n2.toArray))) rfl) rfl fun fr b1 w1 q1 r => ?_
    refine seq_new (.cells #[.func (.func ff) f1.toArray f2.toArray] 271 (0, 0)) r (fun R => y_box r (v := .func (.func ff) f1.toArray f2.toArray) rfl) rfl fun fr b2 w2 q2 r => ?_
    refine seq_new (.cells (progCells false encInt.zero 0 0 0 0 .nilFunc) 167 (0, 0)) r (fun R => y_alloc tz167) rfl fun fr b3 w3 q3 r => wpList_nil ?_
    have h1 := keep q3.below (keep q2.below q1.at_)
    have h2 := keep q3.below q2.at_
    have h3 := q3.at_
    have e1 := q1.eq; have e2 := q2.eq; have e3 := q3.eq; have z1 := q1.size; have z2 := q2.size; have z3 := q3.size
    have hB := ((hB.trans q1.below).trans (q2.below.mono (by omega))).trans (q3.below.mono (by omega))
    have zB := hB.size
    refine wp_seq (wp_seq (wp_region_lit ?_))
    refine seq_val (.pointer (some ⟨b1, 0, none⟩)) r (fun R => zz02 r (o := 0) rfl fo167_0) rfl fun fr r => ?_
    refine seq_val (.bool false) r (fun R => zz01 r (v := .bool false) rfl h1 to4 rfl) rfl fun fr r => wpList_nil ?_
    refine wp_cond_split (t := false) (r.ev rfl) (fun h => by cases h) (fun _ => ?_)
    refine wp_skip ?_
    refine wp_seq (wp_region_lit ?_)
    refine seq_val (.pointer (some ⟨b1, 2, none⟩)) r (fun R => zz02 r (o := 0) rfl fo167_2) rfl fun fr r => ?_
    refine seq_val (.agg (accessC (⟨op, at_, a, b⟩ : Access)).toArray) r (fun R => zz03 r (cs := (accessC (⟨op, at_, a, b⟩ : Access))) (n := 4) rfl h1 ta36 rfl) rfl fun fr r => ?_
    refine seq_val (.func (.func 321) #[] #[.pointer (some ⟨b1, 0, none⟩), .pointer (some ⟨b2, 0, none⟩)]) r (fun R => zz0o r rfl) rfl fun fr r => ?_
    have hF1 : ∀ b, (fun b => F b ∨ b = b1 ∨ b = b2) b → b < w3.heap.size := by rintro b (h | h | h); exact Nat.lt_of_lt_of_le (hF b h) hB.size; omega; omega
    refine zz06 r (zz51 (F := fun b => F b ∨ b = b1 ∨ b = b2) (n := n) hF1 ⟨op, at_, a, b⟩ (a1 := fun x => (k x).bind g) (show FnT Tryz.prog encInt u64 n (fun b => F b ∨ b = b1 ∨ b = b2) w3 (.func (.func 321) ([] : List Value).toArray [Value.pointer (some ⟨b1, 0, none⟩), .pointer (some ⟨b2, 0, none⟩)].toArray) (fun x => (k x).bind g) from
      ⟨321, [], [.pointer (some ⟨b1, 0, none⟩), .pointer (some ⟨b2, 0, none⟩)], cl321, rfl, fun m hm x w' hs hz => k_prog_Then_int_int (ih m hm) (fun b hb => Nat.lt_of_lt_of_le (hF1 b hb) hz) (.inr (.inl rfl)) (hs.at_ (.inr (.inl rfl)) h1) (.inr (.inr rfl)) (hs.at_ (.inr (.inr rfl)) h2)
        (hk.mono (by omega) (fun b h => .inl h) ((Same.below hB hF).trans (hs.sub (fun b h => .inl h))) (Nat.le_trans hB.size hz)) (hf.mono (by omega) (fun b h => .inl h) ((Same.below hB hF).trans (hs.sub (fun b h => .inl h))) (Nat.le_trans hB.size hz)) x⟩)) (fun R hc => y_call r rfl cl297 hc) rfl ?_
    rintro _ w4 ⟨v, rfl, hb, hr⟩
    refine ⟨_, rfl, fun fr r => ?_⟩
    have z4 := hb.size
    have h3 := keep hb h3
    have hB := hB.trans (hb.mono hB.size)
    refine seq_upd (.cells v.cells 167 (0, 0)) r (fun R => zz0c r hr.shape rfl rfl h3 ts167 rfl) rfl fun fr w5 u5 r => wpList_nil ?_
    have z5 := u5.size
    have h3 := u5.at_
    have hB := u5.below hB (by omega)
    refine wp_ret ?_
    have hs := hr.shape.cells
    refine zz0a r rfl rfl h3 (k := 7) hs.1 ta167 ?_
    rw [← hs.2.2]
    exact RepRes.fin hB hr u5 (by rintro b (h | h | h); exact .inl h; exact .inr ⟨by omega, by omega⟩; exact .inr ⟨by omega, by omega⟩) (by rintro (h | h | h); (have := hF _ h; omega); omega; omega) (by omega) (by omega) (by omega)

theorem c_prog_Then_int_int_lt {n : Nat} {F : Nat → Prop} {w0 : World} (hF : ∀ b, F b → b < w0.heap.size) {t : T (Int)} {pv fv : Value} {g : Int → T (Int)} (hp : Rep Tryz.prog encInt n t F w0 pv) (hf : FnT Tryz.prog encInt i64 n F w0 fv g) (hd : t.isDone = false) :
    Calls Tryz.prog 230 #[pv, fv] w0 (RepRes Tryz.prog encInt n (t.bind g) F w0) := zz60 n hF hp hf (.inl hd)

theorem zz3e {n : Nat} {F : Nat → Prop} {w0 : World} (hF : ∀ b, F b → b < w0.heap.size) {t : T (Int)} {pv fv : Value} {g : Int → T (Int)} (hp : Rep Tryz.prog encInt n t F w0 pv) (hf : FnT Tryz.prog encInt i64 (n + 1) F w0 fv g) :
    Calls Tryz.prog 230 #[pv, fv] w0 (RepRes Tryz.prog encInt n (t.bind g) F w0) := zz60 n hF hp (hf.mono (by omega) (fun b h => h) (Same.refl _ _) (Nat.le_refl _)) (.inr hf)

end Go.Proofs.YtjkinpbfmihhdaaGreat
