/- Written by a program of ours (wip/gen.py): programs made, and one behind the other -/
import Derived.Test.YtjkinpbfmihhdaaGreatQoM2
import Derived.Test.YtjkinpbfmihhdaaGreatQoMems
set_option linter.all false
set_option linter.unusedVariables false
set_option maxRecDepth 20000
set_option maxHeartbeats 2000000
namespace Go.Proofs.YtjkinpbfmihhdaaGreat
open Go.RowKit
theorem cl113 : znb Tryz.prog 113 = true := by kernel_rfl

theorem cl132 : znb Tryz.prog 132 = true := by kernel_rfl

theorem cl190 : znb Tryz.prog 190 = true := by kernel_rfl

theorem cl212 : znb Tryz.prog 212 = true := by kernel_rfl

theorem cl213 : znb Tryz.prog 213 = true := by kernel_rfl

theorem cl217 : znb Tryz.prog 217 = true := by kernel_rfl

theorem cl227 : znb Tryz.prog 227 = true := by kernel_rfl

theorem cl230 : znb Tryz.prog 230 = true := by kernel_rfl

theorem cl242 : znb Tryz.prog 242 = true := by kernel_rfl

theorem cl286 : znb Tryz.prog 286 = true := by kernel_rfl

theorem cl287 : znb Tryz.prog 287 = true := by kernel_rfl

theorem cl297 : znb Tryz.prog 297 = true := by kernel_rfl

theorem cl319 : znb Tryz.prog 319 = true := by kernel_rfl

theorem cl321 : znb Tryz.prog 321 = true := by kernel_rfl

theorem cl325 : znb Tryz.prog 325 = true := by kernel_rfl

theorem cl357 : znb Tryz.prog 357 = true := by kernel_rfl

theorem cl368 : znb Tryz.prog 368 = true := by kernel_rfl

theorem cl370 : znb Tryz.prog 370 = true := by kernel_rfl

theorem cl372 : znb Tryz.prog 372 = true := by kernel_rfl

theorem cl388 : znb Tryz.prog 388 = true := by kernel_rfl

theorem cl404 : znb Tryz.prog 404 = true := by kernel_rfl

theorem zly : zno Tryz.prog 158 0 0 = true := by kernel_rfl

theorem zmW : zno Tryz.prog 158 1 1 = true := by kernel_rfl

theorem zmK : zno Tryz.prog 158 2 4 = true := by kernel_rfl

theorem zmu : zno Tryz.prog 158 3 8 = true := by kernel_rfl

theorem zhF : zno Tryz.prog 167 0 0 = true := by kernel_rfl

theorem zkr : zno Tryz.prog 167 1 1 = true := by kernel_rfl

theorem zkn : zno Tryz.prog 167 2 2 = true := by kernel_rfl

theorem zkm : zno Tryz.prog 167 3 6 = true := by kernel_rfl

theorem zh1 : zno Tryz.prog 186 0 0 = true := by kernel_rfl

theorem zkw : zno Tryz.prog 186 2 1 = true := by kernel_rfl

theorem zkG : zno Tryz.prog 186 3 5 = true := by kernel_rfl

theorem zlT : zno Tryz.prog 283 0 0 = true := by kernel_rfl

theorem zmB : zno Tryz.prog 283 1 1 = true := by kernel_rfl

theorem zmQ : zno Tryz.prog 283 2 2 = true := by kernel_rfl

theorem zmz : zno Tryz.prog 283 3 6 = true := by kernel_rfl

theorem zlv : zno Tryz.prog 324 0 0 = true := by kernel_rfl

theorem zmS : zno Tryz.prog 324 1 1 = true := by kernel_rfl

theorem zmU : zno Tryz.prog 324 2 2 = true := by kernel_rfl

theorem zmY : zno Tryz.prog 324 3 6 = true := by kernel_rfl

theorem zlM : zno Tryz.prog 39 0 0 = true := by kernel_rfl

theorem zn4 : zno Tryz.prog 39 1 1 = true := by kernel_rfl

theorem zn7 : zno Tryz.prog 39 2 3 = true := by kernel_rfl

theorem zn6 : zno Tryz.prog 39 3 7 = true := by kernel_rfl

theorem fz186 : fieldZ Tryz.prog 186 1 1 = true := by kernel_rfl

theorem ta153 : tyA Tryz.prog 153 3 = true := by kernel_rfl

theorem ta158 : tyA Tryz.prog 158 9 = true := by kernel_rfl

theorem ta167 : tyA Tryz.prog 167 7 = true := by kernel_rfl

theorem ta181 : tyA Tryz.prog 181 0 = true := by kernel_rfl

theorem ta186 : tyA Tryz.prog 186 6 = true := by kernel_rfl

theorem ta283 : tyA Tryz.prog 283 7 = true := by kernel_rfl

theorem ta32 : tyA Tryz.prog 32 2 = true := by kernel_rfl

theorem ta324 : tyA Tryz.prog 324 7 = true := by kernel_rfl

theorem ta36 : tyA Tryz.prog 36 4 = true := by kernel_rfl

theorem ta39 : tyA Tryz.prog 39 8 = true := by kernel_rfl

theorem to156 : tyO Tryz.prog 156 = true := by kernel_rfl

theorem to165 : tyO Tryz.prog 165 = true := by kernel_rfl

theorem to184 : tyO Tryz.prog 184 = true := by kernel_rfl

theorem to190 : tyO Tryz.prog 190 = true := by kernel_rfl

theorem to204 : tyO Tryz.prog 204 = true := by kernel_rfl

theorem to246 : tyO Tryz.prog 246 = true := by kernel_rfl

theorem to270 : tyO Tryz.prog 270 = true := by kernel_rfl

theorem to271 : tyO Tryz.prog 271 = true := by kernel_rfl

theorem to281 : tyO Tryz.prog 281 = true := by kernel_rfl

theorem to297 : tyO Tryz.prog 297 = true := by kernel_rfl

theorem to322 : tyO Tryz.prog 322 = true := by kernel_rfl

theorem to333 : tyO Tryz.prog 333 = true := by kernel_rfl

theorem to37 : tyO Tryz.prog 37 = true := by kernel_rfl

theorem to4 : tyO Tryz.prog 4 = true := by kernel_rfl

theorem ts158 : sized Tryz.prog 158 9 = true := by kernel_rfl

theorem ts167 : sized Tryz.prog 167 7 = true := by kernel_rfl

theorem ts186 : sized Tryz.prog 186 6 = true := by kernel_rfl

theorem ts283 : sized Tryz.prog 283 7 = true := by kernel_rfl

theorem ts324 : sized Tryz.prog 324 7 = true := by kernel_rfl

theorem ts39 : sized Tryz.prog 39 8 = true := by kernel_rfl

theorem tz158 : zeroOf Tryz.prog 158 = some (.agg (zna false znn.zero 0 0 0 0 .nilFunc)) := by kernel_rfl

theorem tz167 : zeroOf Tryz.prog 167 = some (.agg (zna false zng.zero 0 0 0 0 .nilFunc)) := by kernel_rfl

theorem tz186 : zeroOf Tryz.prog 186 = some (.agg (zna false znj.zero 0 0 0 0 .nilFunc)) := by kernel_rfl

theorem tz283 : zeroOf Tryz.prog 283 = some (.agg (zna false encWord.zero 0 0 0 0 .nilFunc)) := by kernel_rfl

theorem tz324 : zeroOf Tryz.prog 324 = some (.agg (zna false encBool.zero 0 0 0 0 .nilFunc)) := by kernel_rfl

theorem tz39 : zeroOf Tryz.prog 39 = some (.agg (zna false zne.zero 0 0 0 0 .nilFunc)) := by kernel_rfl

def D.zi9 (a0 : Access) (a1 : (Int → T Unit)) : T Unit := (T.act a0.op a0.at_ a0.a a0.b a1)

theorem ziZ {n : Nat} {F : Nat → Prop} {w0 : World} (hF : ∀ b, F b → b < w0.heap.size)
    (a0 : Access) {a1_f : FuncId} {a1_1 a1_2 : List Value} {a1 : (Int → T Unit)} (a1_n : FnT Tryz.prog znj u64 (n) F w0 (.func (.func a1_f) a1_1.toArray a1_2.toArray) a1) :
    Calls Tryz.prog 368 #[.agg (znk a0).toArray, .func (.func a1_f) a1_1.toArray a1_2.toArray] w0 (znf Tryz.prog znj n (D.zi9 a0 a1) F w0) := by
 refine enter Tryz.func368 rfl 8 rfl rfl fun fr r => ?_
 have hB := Below.refl w0.heap.size w0
 refine wsr ?_
 refine za5 (.cells ((znk a0)).toArray 36 (0, 0)) r (fun R => znm r (v := (.agg (znk a0).toArray)) rfl) rfl fun fr b1 w2 n3 r => ?_
 obtain ⟨e_b1, z_w2, h_b1, hB, zB⟩ := n3.all hB
 refine za5 (.cells (zna false znj.zero 0 0 0 0 .nilFunc) 186 (0, 0)) r (fun R => zag tz186) rfl fun fr b4 w5 n6 r => ?_
 have h_b1 := keep n6.below h_b1
 obtain ⟨e_b4, z_w5, h_b4, hB, zB⟩ := n6.all hB
 refine wn (wsr (za0 (.agg (znk a0).toArray) r (fun R => za6 r (cs := (znk a0)) (n := 4) rfl h_b1 ta36 rfl) rfl fun fr r => za0 (.func (.func a1_f) a1_1.toArray a1_2.toArray) r (fun R => zaa r rfl) rfl fun fr r => za0 (.agg (zna false znj.zero a0.op a0.at_ a0.a a0.b (.func (.func a1_f) a1_1.toArray a1_2.toArray))) r (fun R => zaM r (by kernel_rfl)) rfl fun fr r => ?_))
 refine zae (.cells (zna false znj.zero a0.op a0.at_ a0.a a0.b (.func (.func a1_f) a1_1.toArray a1_2.toArray)) 186 (0, 0)) r (fun R => zaN r (o := 0) (v := (.agg (zna false znj.zero a0.op a0.at_ a0.a a0.b (.func (.func a1_f) a1_1.toArray a1_2.toArray)))) rfl rfl h_b4 ts186 (Nat.le_of_ble_eq_true rfl) rfl rfl) rfl fun fr w7 u8 r => ?_
 have z_w7 := u8.size
 have h_b1 := u8.keep h_b1 (by omega)
 have h_b4 := u8.at_
 obtain ⟨hB, zB⟩ := u8.on hB (by omega)
 refine wn (wp_ret ?_)
 refine zad r rfl rfl h_b4 (k := 6) rfl ta186 ?_
 exact ⟨_, rfl, hB, Rep.zjg (a1_n.mono (Nat.le_refl _) (fun b hb => .inl hb) (Same.below hB hF) hB.size)⟩

def D.zgL  : T Unit := (T.done ())

theorem zil {n : Nat} {F : Nat → Prop} {w0 : World} (hF : ∀ b, F b → b < w0.heap.size)
     :
    Calls Tryz.prog 367 #[.agg #[]] w0 (znf Tryz.prog znj n D.zgL F w0) := by
 refine enter Tryz.func367 rfl 5 rfl rfl fun fr r => ?_
 have hB := Below.refl w0.heap.size w0
 refine wsr ?_
 refine za5 (.cells #[] 181 (0, 0)) r (fun R => znm r (v := (.agg #[])) rfl) rfl fun fr b1 w2 n3 r => ?_
 obtain ⟨e_b1, z_w2, h_b1, hB, zB⟩ := n3.all hB
 refine za5 (.cells (zna false znj.zero 0 0 0 0 .nilFunc) 186 (0, 0)) r (fun R => zag tz186) rfl fun fr b4 w5 n6 r => ?_
 have h_b1 := keep n6.below h_b1
 obtain ⟨e_b4, z_w5, h_b4, hB, zB⟩ := n6.all hB
 refine wn (wsr (za0 (.agg #[]) r (fun R => za6 r (cs := []) (n := 0) rfl h_b1 ta181 rfl) rfl fun fr r => za0 (.agg (zna true (znj.cells ()) 0 0 0 0 .nilFunc)) r (fun R => zaM r (by kernel_rfl)) rfl fun fr r => ?_))
 refine zae (.cells (zna true (znj.cells ()) 0 0 0 0 .nilFunc) 186 (0, 0)) r (fun R => zaN r (o := 0) (v := (.agg (zna true (znj.cells ()) 0 0 0 0 .nilFunc))) rfl rfl h_b4 ts186 (Nat.le_of_ble_eq_true rfl) rfl rfl) rfl fun fr w7 u8 r => ?_
 have z_w7 := u8.size
 have h_b1 := u8.keep h_b1 (by omega)
 have h_b4 := u8.at_
 obtain ⟨hB, zB⟩ := u8.on hB (by omega)
 refine wn (wp_ret ?_)
 refine zad r rfl rfl h_b4 (k := 6) rfl ta186 ?_
 exact ⟨_, rfl, hB, Rep.zhN⟩

def D.zfM (a0 : Res) : T Res := (T.done a0)

theorem zg0 {n : Nat} {F : Nat → Prop} {w0 : World} (hF : ∀ b, F b → b < w0.heap.size)
    (a0 : Res) :
    Calls Tryz.prog 211 #[.agg (resC a0).toArray] w0 (znf Tryz.prog zne n (D.zfM a0) F w0) := by
 refine enter Tryz.func211 rfl 5 rfl rfl fun fr r => ?_
 have hB := Below.refl w0.heap.size w0
 refine wsr ?_
 refine za5 (.cells ((resC a0)).toArray 32 (0, 0)) r (fun R => znm r (v := (.agg (resC a0).toArray)) rfl) rfl fun fr b1 w2 n3 r => ?_
 obtain ⟨e_b1, z_w2, h_b1, hB, zB⟩ := n3.all hB
 refine za5 (.cells (zna false zne.zero 0 0 0 0 .nilFunc) 39 (0, 0)) r (fun R => zag tz39) rfl fun fr b4 w5 n6 r => ?_
 have h_b1 := keep n6.below h_b1
 obtain ⟨e_b4, z_w5, h_b4, hB, zB⟩ := n6.all hB
 refine wn (wsr (za0 (.agg (resC a0).toArray) r (fun R => za6 r (cs := (resC a0)) (n := 2) rfl h_b1 ta32 rfl) rfl fun fr r => za0 (.agg (zna true (zne.cells a0) 0 0 0 0 .nilFunc)) r (fun R => zaM r (by kernel_rfl)) rfl fun fr r => ?_))
 refine zae (.cells (zna true (zne.cells a0) 0 0 0 0 .nilFunc) 39 (0, 0)) r (fun R => zaN r (o := 0) (v := (.agg (zna true (zne.cells a0) 0 0 0 0 .nilFunc))) rfl rfl h_b4 ts39 (Nat.le_of_ble_eq_true rfl) rfl rfl) rfl fun fr w7 u8 r => ?_
 have z_w7 := u8.size
 have h_b1 := u8.keep h_b1 (by omega)
 have h_b4 := u8.at_
 obtain ⟨hB, zB⟩ := u8.on hB (by omega)
 refine wn (wp_ret ?_)
 refine zad r rfl rfl h_b4 (k := 8) rfl ta39 ?_
 exact ⟨_, rfl, hB, Rep.zhN⟩

def D.zfB (a0 : Access) (a1 : (Int → T Int)) : T Int := (T.act a0.op a0.at_ a0.a a0.b a1)

theorem zdT {n : Nat} {F : Nat → Prop} {w0 : World} (hF : ∀ b, F b → b < w0.heap.size)
    (a0 : Access) {a1_f : FuncId} {a1_1 a1_2 : List Value} {a1 : (Int → T Int)} (a1_n : FnT Tryz.prog zng u64 (n) F w0 (.func (.func a1_f) a1_1.toArray a1_2.toArray) a1) :
    Calls Tryz.prog 297 #[.agg (znk a0).toArray, .func (.func a1_f) a1_1.toArray a1_2.toArray] w0 (znf Tryz.prog zng n (D.zfB a0 a1) F w0) := by
 refine enter Tryz.func297 rfl 8 rfl rfl fun fr r => ?_
 have hB := Below.refl w0.heap.size w0
 refine wsr ?_
 refine za5 (.cells ((znk a0)).toArray 36 (0, 0)) r (fun R => znm r (v := (.agg (znk a0).toArray)) rfl) rfl fun fr b1 w2 n3 r => ?_
 obtain ⟨e_b1, z_w2, h_b1, hB, zB⟩ := n3.all hB
 refine za5 (.cells (zna false zng.zero 0 0 0 0 .nilFunc) 167 (0, 0)) r (fun R => zag tz167) rfl fun fr b4 w5 n6 r => ?_
 have h_b1 := keep n6.below h_b1
 obtain ⟨e_b4, z_w5, h_b4, hB, zB⟩ := n6.all hB
 refine wn (wsr (za0 (.agg (znk a0).toArray) r (fun R => za6 r (cs := (znk a0)) (n := 4) rfl h_b1 ta36 rfl) rfl fun fr r => za0 (.func (.func a1_f) a1_1.toArray a1_2.toArray) r (fun R => zaa r rfl) rfl fun fr r => za0 (.agg (zna false zng.zero a0.op a0.at_ a0.a a0.b (.func (.func a1_f) a1_1.toArray a1_2.toArray))) r (fun R => zaM r (by kernel_rfl)) rfl fun fr r => ?_))
 refine zae (.cells (zna false zng.zero a0.op a0.at_ a0.a a0.b (.func (.func a1_f) a1_1.toArray a1_2.toArray)) 167 (0, 0)) r (fun R => zaN r (o := 0) (v := (.agg (zna false zng.zero a0.op a0.at_ a0.a a0.b (.func (.func a1_f) a1_1.toArray a1_2.toArray)))) rfl rfl h_b4 ts167 (Nat.le_of_ble_eq_true rfl) rfl rfl) rfl fun fr w7 u8 r => ?_
 have z_w7 := u8.size
 have h_b1 := u8.keep h_b1 (by omega)
 have h_b4 := u8.at_
 obtain ⟨hB, zB⟩ := u8.on hB (by omega)
 refine wn (wp_ret ?_)
 refine zad r rfl rfl h_b4 (k := 7) rfl ta167 ?_
 exact ⟨_, rfl, hB, Rep.zjg (a1_n.mono (Nat.le_refl _) (fun b hb => .inl hb) (Same.below hB hF) hB.size)⟩

def D.zaW (a0 : Int) : T Int := (T.done a0)

theorem zbi {n : Nat} {F : Nat → Prop} {w0 : World} (hF : ∀ b, F b → b < w0.heap.size)
    (a0 : Int) :
    Calls Tryz.prog 229 #[.int .i64 a0] w0 (znf Tryz.prog zng n (D.zaW a0) F w0) := by
 refine enter Tryz.func229 rfl 5 rfl rfl fun fr r => ?_
 have hB := Below.refl w0.heap.size w0
 refine wsr ?_
 refine za5 (.cells (zna false zng.zero 0 0 0 0 .nilFunc) 167 (0, 0)) r (fun R => zag tz167) rfl fun fr b1 w2 n3 r => ?_
 obtain ⟨e_b1, z_w2, h_b1, hB, zB⟩ := n3.all hB
 refine wn (wsr (za0 (I a0) r (fun R => zaa r rfl) rfl fun fr r => za0 (.agg (zna true (zng.cells a0) 0 0 0 0 .nilFunc)) r (fun R => zaM r (by kernel_rfl)) rfl fun fr r => ?_))
 refine zae (.cells (zna true (zng.cells a0) 0 0 0 0 .nilFunc) 167 (0, 0)) r (fun R => zaN r (o := 0) (v := (.agg (zna true (zng.cells a0) 0 0 0 0 .nilFunc))) rfl rfl h_b1 ts167 (Nat.le_of_ble_eq_true rfl) rfl rfl) rfl fun fr w4 u5 r => ?_
 have z_w4 := u5.size
 have h_b1 := u5.at_
 obtain ⟨hB, zB⟩ := u5.on hB (by omega)
 refine wn (wp_ret ?_)
 refine zad r rfl rfl h_b1 (k := 7) rfl ta167 ?_
 exact ⟨_, rfl, hB, Rep.zhN⟩

def D.zdO (a0 : Grant) : T Grant := (T.done a0)

theorem zfs {n : Nat} {F : Nat → Prop} {w0 : World} (hF : ∀ b, F b → b < w0.heap.size)
    (a0 : Grant) :
    Calls Tryz.prog 188 #[.agg (grantC a0).toArray] w0 (znf Tryz.prog znn n (D.zdO a0) F w0) := by
 refine enter Tryz.func188 rfl 5 rfl rfl fun fr r => ?_
 have hB := Below.refl w0.heap.size w0
 refine wsr ?_
 refine za5 (.cells ((grantC a0)).toArray 153 (0, 0)) r (fun R => znm r (v := (.agg (grantC a0).toArray)) rfl) rfl fun fr b1 w2 n3 r => ?_
 obtain ⟨e_b1, z_w2, h_b1, hB, zB⟩ := n3.all hB
 refine za5 (.cells (zna false znn.zero 0 0 0 0 .nilFunc) 158 (0, 0)) r (fun R => zag tz158) rfl fun fr b4 w5 n6 r => ?_
 have h_b1 := keep n6.below h_b1
 obtain ⟨e_b4, z_w5, h_b4, hB, zB⟩ := n6.all hB
 refine wn (wsr (za0 (.agg (grantC a0).toArray) r (fun R => za6 r (cs := (grantC a0)) (n := 3) rfl h_b1 ta153 rfl) rfl fun fr r => za0 (.agg (zna true (znn.cells a0) 0 0 0 0 .nilFunc)) r (fun R => zaM r (by kernel_rfl)) rfl fun fr r => ?_))
 refine zae (.cells (zna true (znn.cells a0) 0 0 0 0 .nilFunc) 158 (0, 0)) r (fun R => zaN r (o := 0) (v := (.agg (zna true (znn.cells a0) 0 0 0 0 .nilFunc))) rfl rfl h_b4 ts158 (Nat.le_of_ble_eq_true rfl) rfl rfl) rfl fun fr w7 u8 r => ?_
 have z_w7 := u8.size
 have h_b1 := u8.keep h_b1 (by omega)
 have h_b4 := u8.at_
 obtain ⟨hB, zB⟩ := u8.on hB (by omega)
 refine wn (wp_ret ?_)
 refine zad r rfl rfl h_b4 (k := 9) rfl ta158 ?_
 exact ⟨_, rfl, hB, Rep.zhN⟩

def D.zfA (a0 : Access) (a1 : (Int → T Grant)) : T Grant := (T.act a0.op a0.at_ a0.a a0.b a1)

theorem zeM {n : Nat} {F : Nat → Prop} {w0 : World} (hF : ∀ b, F b → b < w0.heap.size)
    (a0 : Access) {a1_f : FuncId} {a1_1 a1_2 : List Value} {a1 : (Int → T Grant)} (a1_n : FnT Tryz.prog znn u64 (n) F w0 (.func (.func a1_f) a1_1.toArray a1_2.toArray) a1) :
    Calls Tryz.prog 286 #[.agg (znk a0).toArray, .func (.func a1_f) a1_1.toArray a1_2.toArray] w0 (znf Tryz.prog znn n (D.zfA a0 a1) F w0) := by
 refine enter Tryz.func286 rfl 8 rfl rfl fun fr r => ?_
 have hB := Below.refl w0.heap.size w0
 refine wsr ?_
 refine za5 (.cells ((znk a0)).toArray 36 (0, 0)) r (fun R => znm r (v := (.agg (znk a0).toArray)) rfl) rfl fun fr b1 w2 n3 r => ?_
 obtain ⟨e_b1, z_w2, h_b1, hB, zB⟩ := n3.all hB
 refine za5 (.cells (zna false znn.zero 0 0 0 0 .nilFunc) 158 (0, 0)) r (fun R => zag tz158) rfl fun fr b4 w5 n6 r => ?_
 have h_b1 := keep n6.below h_b1
 obtain ⟨e_b4, z_w5, h_b4, hB, zB⟩ := n6.all hB
 refine wn (wsr (za0 (.agg (znk a0).toArray) r (fun R => za6 r (cs := (znk a0)) (n := 4) rfl h_b1 ta36 rfl) rfl fun fr r => za0 (.func (.func a1_f) a1_1.toArray a1_2.toArray) r (fun R => zaa r rfl) rfl fun fr r => za0 (.agg (zna false znn.zero a0.op a0.at_ a0.a a0.b (.func (.func a1_f) a1_1.toArray a1_2.toArray))) r (fun R => zaM r (by kernel_rfl)) rfl fun fr r => ?_))
 refine zae (.cells (zna false znn.zero a0.op a0.at_ a0.a a0.b (.func (.func a1_f) a1_1.toArray a1_2.toArray)) 158 (0, 0)) r (fun R => zaN r (o := 0) (v := (.agg (zna false znn.zero a0.op a0.at_ a0.a a0.b (.func (.func a1_f) a1_1.toArray a1_2.toArray)))) rfl rfl h_b4 ts158 (Nat.le_of_ble_eq_true rfl) rfl rfl) rfl fun fr w7 u8 r => ?_
 have z_w7 := u8.size
 have h_b1 := u8.keep h_b1 (by omega)
 have h_b4 := u8.at_
 obtain ⟨hB, zB⟩ := u8.on hB (by omega)
 refine wn (wp_ret ?_)
 refine zad r rfl rfl h_b4 (k := 9) rfl ta158 ?_
 exact ⟨_, rfl, hB, Rep.zjg (a1_n.mono (Nat.le_refl _) (fun b hb => .inl hb) (Same.below hB hF) hB.size)⟩

def D.zdl (a0 : Bool) : T Bool := (T.done a0)

theorem zfR {n : Nat} {F : Nat → Prop} {w0 : World} (hF : ∀ b, F b → b < w0.heap.size)
    (a0 : Bool) :
    Calls Tryz.prog 413 #[.bool a0] w0 (znf Tryz.prog encBool n (D.zdl a0) F w0) := by
 refine enter Tryz.func413 rfl 5 rfl rfl fun fr r => ?_
 have hB := Below.refl w0.heap.size w0
 refine wsr ?_
 refine za5 (.cells (zna false encBool.zero 0 0 0 0 .nilFunc) 324 (0, 0)) r (fun R => zag tz324) rfl fun fr b1 w2 n3 r => ?_
 obtain ⟨e_b1, z_w2, h_b1, hB, zB⟩ := n3.all hB
 refine wn (wsr (za0 (.bool a0) r (fun R => zaa r rfl) rfl fun fr r => za0 (.agg (zna true (encBool.cells a0) 0 0 0 0 .nilFunc)) r (fun R => zaM r (by kernel_rfl)) rfl fun fr r => ?_))
 refine zae (.cells (zna true (encBool.cells a0) 0 0 0 0 .nilFunc) 324 (0, 0)) r (fun R => zaN r (o := 0) (v := (.agg (zna true (encBool.cells a0) 0 0 0 0 .nilFunc))) rfl rfl h_b1 ts324 (Nat.le_of_ble_eq_true rfl) rfl rfl) rfl fun fr w4 u5 r => ?_
 have z_w4 := u5.size
 have h_b1 := u5.at_
 obtain ⟨hB, zB⟩ := u5.on hB (by omega)
 refine wn (wp_ret ?_)
 refine zad r rfl rfl h_b1 (k := 7) rfl ta324 ?_
 exact ⟨_, rfl, hB, Rep.zhN⟩

def D.zi8 (a0 : Access) (a1 : (Int → T Bool)) : T Bool := (T.act a0.op a0.at_ a0.a a0.b a1)

theorem ziX {n : Nat} {F : Nat → Prop} {w0 : World} (hF : ∀ b, F b → b < w0.heap.size)
    (a0 : Access) {a1_f : FuncId} {a1_1 a1_2 : List Value} {a1 : (Int → T Bool)} (a1_n : FnT Tryz.prog encBool u64 (n) F w0 (.func (.func a1_f) a1_1.toArray a1_2.toArray) a1) :
    Calls Tryz.prog 423 #[.agg (znk a0).toArray, .func (.func a1_f) a1_1.toArray a1_2.toArray] w0 (znf Tryz.prog encBool n (D.zi8 a0 a1) F w0) := by
 refine enter Tryz.func423 rfl 8 rfl rfl fun fr r => ?_
 have hB := Below.refl w0.heap.size w0
 refine wsr ?_
 refine za5 (.cells ((znk a0)).toArray 36 (0, 0)) r (fun R => znm r (v := (.agg (znk a0).toArray)) rfl) rfl fun fr b1 w2 n3 r => ?_
 obtain ⟨e_b1, z_w2, h_b1, hB, zB⟩ := n3.all hB
 refine za5 (.cells (zna false encBool.zero 0 0 0 0 .nilFunc) 324 (0, 0)) r (fun R => zag tz324) rfl fun fr b4 w5 n6 r => ?_
 have h_b1 := keep n6.below h_b1
 obtain ⟨e_b4, z_w5, h_b4, hB, zB⟩ := n6.all hB
 refine wn (wsr (za0 (.agg (znk a0).toArray) r (fun R => za6 r (cs := (znk a0)) (n := 4) rfl h_b1 ta36 rfl) rfl fun fr r => za0 (.func (.func a1_f) a1_1.toArray a1_2.toArray) r (fun R => zaa r rfl) rfl fun fr r => za0 (.agg (zna false encBool.zero a0.op a0.at_ a0.a a0.b (.func (.func a1_f) a1_1.toArray a1_2.toArray))) r (fun R => zaM r (by kernel_rfl)) rfl fun fr r => ?_))
 refine zae (.cells (zna false encBool.zero a0.op a0.at_ a0.a a0.b (.func (.func a1_f) a1_1.toArray a1_2.toArray)) 324 (0, 0)) r (fun R => zaN r (o := 0) (v := (.agg (zna false encBool.zero a0.op a0.at_ a0.a a0.b (.func (.func a1_f) a1_1.toArray a1_2.toArray)))) rfl rfl h_b4 ts324 (Nat.le_of_ble_eq_true rfl) rfl rfl) rfl fun fr w7 u8 r => ?_
 have z_w7 := u8.size
 have h_b1 := u8.keep h_b1 (by omega)
 have h_b4 := u8.at_
 obtain ⟨hB, zB⟩ := u8.on hB (by omega)
 refine wn (wp_ret ?_)
 refine zad r rfl rfl h_b4 (k := 7) rfl ta324 ?_
 exact ⟨_, rfl, hB, Rep.zjg (a1_n.mono (Nat.le_refl _) (fun b hb => .inl hb) (Same.below hB hF) hB.size)⟩

def D.zfO (a0 : Access) (a1 : (Int → T Res)) : T Res := (T.act a0.op a0.at_ a0.a a0.b a1)

theorem zcC {n : Nat} {F : Nat → Prop} {w0 : World} (hF : ∀ b, F b → b < w0.heap.size)
    (a0 : Access) {a1_f : FuncId} {a1_1 a1_2 : List Value} {a1 : (Int → T Res)} (a1_n : FnT Tryz.prog zne u64 (n) F w0 (.func (.func a1_f) a1_1.toArray a1_2.toArray) a1) :
    Calls Tryz.prog 212 #[.agg (znk a0).toArray, .func (.func a1_f) a1_1.toArray a1_2.toArray] w0 (znf Tryz.prog zne n (D.zfO a0 a1) F w0) := by
 refine enter Tryz.func212 rfl 8 rfl rfl fun fr r => ?_
 have hB := Below.refl w0.heap.size w0
 refine wsr ?_
 refine za5 (.cells ((znk a0)).toArray 36 (0, 0)) r (fun R => znm r (v := (.agg (znk a0).toArray)) rfl) rfl fun fr b1 w2 n3 r => ?_
 obtain ⟨e_b1, z_w2, h_b1, hB, zB⟩ := n3.all hB
 refine za5 (.cells (zna false zne.zero 0 0 0 0 .nilFunc) 39 (0, 0)) r (fun R => zag tz39) rfl fun fr b4 w5 n6 r => ?_
 have h_b1 := keep n6.below h_b1
 obtain ⟨e_b4, z_w5, h_b4, hB, zB⟩ := n6.all hB
 refine wn (wsr (za0 (.agg (znk a0).toArray) r (fun R => za6 r (cs := (znk a0)) (n := 4) rfl h_b1 ta36 rfl) rfl fun fr r => za0 (.func (.func a1_f) a1_1.toArray a1_2.toArray) r (fun R => zaa r rfl) rfl fun fr r => za0 (.agg (zna false zne.zero a0.op a0.at_ a0.a a0.b (.func (.func a1_f) a1_1.toArray a1_2.toArray))) r (fun R => zaM r (by kernel_rfl)) rfl fun fr r => ?_))
 refine zae (.cells (zna false zne.zero a0.op a0.at_ a0.a a0.b (.func (.func a1_f) a1_1.toArray a1_2.toArray)) 39 (0, 0)) r (fun R => zaN r (o := 0) (v := (.agg (zna false zne.zero a0.op a0.at_ a0.a a0.b (.func (.func a1_f) a1_1.toArray a1_2.toArray)))) rfl rfl h_b4 ts39 (Nat.le_of_ble_eq_true rfl) rfl rfl) rfl fun fr w7 u8 r => ?_
 have z_w7 := u8.size
 have h_b1 := u8.keep h_b1 (by omega)
 have h_b4 := u8.at_
 obtain ⟨hB, zB⟩ := u8.on hB (by omega)
 refine wn (wp_ret ?_)
 refine zad r rfl rfl h_b4 (k := 8) rfl ta39 ?_
 exact ⟨_, rfl, hB, Rep.zjg (a1_n.mono (Nat.le_refl _) (fun b hb => .inl hb) (Same.below hB hF) hB.size)⟩

def D.zgM (a0 : Access) (a1 : (Int → T Int)) : T Int := (T.act a0.op a0.at_ a0.a a0.b a1)

theorem zfS {n : Nat} {F : Nat → Prop} {w0 : World} (hF : ∀ b, F b → b < w0.heap.size)
    (a0 : Access) {a1_f : FuncId} {a1_1 a1_2 : List Value} {a1 : (Int → T Int)} (a1_n : FnT Tryz.prog encWord u64 (n) F w0 (.func (.func a1_f) a1_1.toArray a1_2.toArray) a1) :
    Calls Tryz.prog 370 #[.agg (znk a0).toArray, .func (.func a1_f) a1_1.toArray a1_2.toArray] w0 (znf Tryz.prog encWord n (D.zgM a0 a1) F w0) := by
 refine enter Tryz.func370 rfl 8 rfl rfl fun fr r => ?_
 have hB := Below.refl w0.heap.size w0
 refine wsr ?_
 refine za5 (.cells ((znk a0)).toArray 36 (0, 0)) r (fun R => znm r (v := (.agg (znk a0).toArray)) rfl) rfl fun fr b1 w2 n3 r => ?_
 obtain ⟨e_b1, z_w2, h_b1, hB, zB⟩ := n3.all hB
 refine za5 (.cells (zna false encWord.zero 0 0 0 0 .nilFunc) 283 (0, 0)) r (fun R => zag tz283) rfl fun fr b4 w5 n6 r => ?_
 have h_b1 := keep n6.below h_b1
 obtain ⟨e_b4, z_w5, h_b4, hB, zB⟩ := n6.all hB
 refine wn (wsr (za0 (.agg (znk a0).toArray) r (fun R => za6 r (cs := (znk a0)) (n := 4) rfl h_b1 ta36 rfl) rfl fun fr r => za0 (.func (.func a1_f) a1_1.toArray a1_2.toArray) r (fun R => zaa r rfl) rfl fun fr r => za0 (.agg (zna false encWord.zero a0.op a0.at_ a0.a a0.b (.func (.func a1_f) a1_1.toArray a1_2.toArray))) r (fun R => zaM r (by kernel_rfl)) rfl fun fr r => ?_))
 refine zae (.cells (zna false encWord.zero a0.op a0.at_ a0.a a0.b (.func (.func a1_f) a1_1.toArray a1_2.toArray)) 283 (0, 0)) r (fun R => zaN r (o := 0) (v := (.agg (zna false encWord.zero a0.op a0.at_ a0.a a0.b (.func (.func a1_f) a1_1.toArray a1_2.toArray)))) rfl rfl h_b4 ts283 (Nat.le_of_ble_eq_true rfl) rfl rfl) rfl fun fr w7 u8 r => ?_
 have z_w7 := u8.size
 have h_b1 := u8.keep h_b1 (by omega)
 have h_b4 := u8.at_
 obtain ⟨hB, zB⟩ := u8.on hB (by omega)
 refine wn (wp_ret ?_)
 refine zad r rfl rfl h_b4 (k := 7) rfl ta283 ?_
 exact ⟨_, rfl, hB, Rep.zjg (a1_n.mono (Nat.le_refl _) (fun b hb => .inl hb) (Same.below hB hF) hB.size)⟩

def D.zcG (a0 : Int) : T Int := (T.done a0)

theorem zf2 {n : Nat} {F : Nat → Prop} {w0 : World} (hF : ∀ b, F b → b < w0.heap.size)
    (a0 : Int) :
    Calls Tryz.prog 371 #[.int .u64 a0] w0 (znf Tryz.prog encWord n (D.zcG a0) F w0) := by
 refine enter Tryz.func371 rfl 5 rfl rfl fun fr r => ?_
 have hB := Below.refl w0.heap.size w0
 refine wsr ?_
 refine za5 (.cells (zna false encWord.zero 0 0 0 0 .nilFunc) 283 (0, 0)) r (fun R => zag tz283) rfl fun fr b1 w2 n3 r => ?_
 obtain ⟨e_b1, z_w2, h_b1, hB, zB⟩ := n3.all hB
 refine wn (wsr (za0 (U a0) r (fun R => zaa r rfl) rfl fun fr r => za0 (.agg (zna true (encWord.cells a0) 0 0 0 0 .nilFunc)) r (fun R => zaM r (by kernel_rfl)) rfl fun fr r => ?_))
 refine zae (.cells (zna true (encWord.cells a0) 0 0 0 0 .nilFunc) 283 (0, 0)) r (fun R => zaN r (o := 0) (v := (.agg (zna true (encWord.cells a0) 0 0 0 0 .nilFunc))) rfl rfl h_b1 ts283 (Nat.le_of_ble_eq_true rfl) rfl rfl) rfl fun fr w4 u5 r => ?_
 have z_w4 := u5.size
 have h_b1 := u5.at_
 obtain ⟨hB, zB⟩ := u5.on hB (by omega)
 refine wn (wp_ret ?_)
 refine zad r rfl rfl h_b1 (k := 7) rfl ta283 ?_
 exact ⟨_, rfl, hB, Rep.zhN⟩

def zdR (n : Nat) : Prop := ∀ {F : Nat → Prop} {w0 : World}, (∀ b, F b → b < w0.heap.size) → ∀ {t : T (Bool)} {pv fv : Value} {g : Bool → T (Int)}, Rep Tryz.prog encBool n t F w0 pv → FnT Tryz.prog zng boolE n F w0 fv g →
    (t.isDone = false ∨ FnT Tryz.prog zng boolE (n + 1) F w0 fv g) → Calls Tryz.prog 357 #[pv, fv] w0 (znf Tryz.prog zng n (t.bind g) F w0)

theorem zgB {n : Nat} (ih : zdR n) {F : Nat → Prop} {w0 : World} (hF : ∀ b, F b → b < w0.heap.size) {op at_ a b : Int} {nf : FuncId} {n1 n2 : List Value} {k : Int → T (Bool)} {ff : FuncId} {f1 f2 : List Value} {g : Bool → T (Int)}
    {b1 b2 : Nat} (F1 : F b1) (h1 : w0.heap[b1]? = some (.cells (zna false encBool.zero op at_ a b (.func (.func nf) n1.toArray n2.toArray)) 324 (0, 0))) (F2 : F b2) (h2 : w0.heap[b2]? = some (.cells #[.func (.func ff) f1.toArray f2.toArray] 297 (0, 0)))
    (hk : FnT Tryz.prog encBool u64 (n + 1) F w0 (.func (.func nf) n1.toArray n2.toArray) k) (hg : FnT Tryz.prog zng boolE (n + 1) F w0 (.func (.func ff) f1.toArray f2.toArray) g) (x : Int) :
    Calls Tryz.prog 388 #[.int .u64 x, .pointer (some ⟨b1, 0, none⟩), .pointer (some ⟨b2, 0, none⟩)] w0 (znf Tryz.prog zng n ((k x).bind g) F w0) := by
 refine enter Tryz.func388 rfl 11 rfl rfl fun fr r => ?_
 have hB := Below.refl w0.heap.size w0
 refine wp_seq (wp_region_lit ?_)
 refine za5 (.cells (zna false zng.zero 0 0 0 0 .nilFunc) 167 (0, 0)) r (fun R => zag tz167) rfl fun fr b3 w1 q1 r => wn ?_
 have h1 := keep q1.below h1
 have h2 := keep q1.below h2
 have e3 := q1.eq
 have z1 := q1.size
 have h3 := q1.at_
 have hB := hB.trans (q1.below.mono hB.size)
 have zB := hB.size
 refine wp_seq ?_
 refine zaG 5 [.val (.pointer (some ⟨b1, 6, none⟩)), .val (.func (.func nf) n1.toArray n2.toArray), .val (U x), .pred (RepAt Tryz.prog encBool n (k x) F w0.heap.size b3) RepAt.stable, .val (.func (.func ff) f1.toArray f2.toArray)] mixed r (by kernel_rfl) (za1 trivial (za1 trivial (za1 trivial (za1 trivial (za1 trivial zaz))))) ?_ ?_
 ·
  refine ec r (fun _ u _ b d s => za4 s (b := b1) (o := 0) rfl zmY bz) ?_
  refine zb8 r rfl (fun fr1 u w' hb' hd r' => ?_) ?_
  ·
   obtain ⟨d0, _⟩ := hd
   exact za3 r' (v := .func (.func nf) n1.toArray n2.toArray) d0 (keep hb' h1) to322 rfl ⟨Below.refl _ _, rfl⟩
  refine ec r (fun _ u _ b d s => zaa s rfl bz) ?_
  refine zb8 r rfl (fun fr1 u w' hb' hd r' => ?_) ?_
  ·
   obtain ⟨d0, d1, _⟩ := hd
   have zb := hb'.size
   have zb : w1.heap.size ≤ w'.heap.size := zb
   have hB' : Below w0.heap.size w0 w' := hB.trans (Below.mono (w := w1) ⟨hb'.os, hb'.tape, hb'.output, hb'.size, hb'.block⟩ hB.size)
   have d0 : u 1 = .func (.func nf) n1.toArray n2.toArray := d0
   have d1 : u 2 = .int .u64 x := d1
   refine zde r' (fs := n1) (cs := n2) d0 d1 hk.at_.1 ((hk.at_.2 n (Nat.lt_succ_self n) x w' (Same.below hB' hF) hB'.size).mono ?_)
   rintro _ w2 ⟨v, rfl, hb2, hr2⟩
   refine ⟨v, rfl, hb2, RepAt.zi6 (fun b h => Nat.lt_of_lt_of_le (hF b h) hB'.size) (by omega) hB'.size hb2 (Rep.mono ?_ (Same.refl _ _) (Nat.le_refl _) n _ _ hr2)⟩
   rintro b (h | h)
   · exact .inl (.inl h)
   · exact .inr h
  refine ec r (fun _ u _ b d s => za3 s rfl (keep b h2) to297 rfl bz) ?_
  exact zaR
 intro fr u w2 hb hΦ _ r
 obtain ⟨_, hr3, _, hr⟩ : RepAt Tryz.prog encBool n (k x) F w0.heap.size b3 (u 3) w2 := hΦ 3 (by decide)
 have r := r.congr (sc (hΦ 4 (by decide)) rfl)
 have z2 := hb.size
 have h1 := keep hb h1
 have h2 := keep hb h2
 have h3 := keep hb h3
 have hB2 := hB.trans (hb.mono hB.size)
 have zB2 := hB2.size
 have hF1 : ∀ b, (fun b => F b ∨ (w0.heap.size ≤ b ∧ b < w2.heap.size ∧ b ≠ b3)) b → b < w2.heap.size := by rintro b (h | h); exact Nat.lt_of_lt_of_le (hF b h) hB2.size; exact h.2.1
 refine za7 r (ih (F := fun b => F b ∨ (w0.heap.size ≤ b ∧ b < w2.heap.size ∧ b ≠ b3)) hF1 hr (hg.mono (by omega) (fun b h => .inl h) (Same.below hB2 hF) hB2.size)
  (.inr (hg.mono (Nat.le_refl _) (fun b h => .inl h) (Same.below hB2 hF) hB2.size))) (fun R hc => zac r rfl cl357 hc) rfl ?_
 rintro _ w3 ⟨v2, rfl, hb2, hr2⟩
 refine ⟨_, rfl, fun fr r => ?_⟩
 have z3 := hb2.size
 have h3 := keep hb2 h3
 have hB3 := hB2.trans (hb2.mono hB2.size)
 refine zae (.cells v2.cells 167 (0, 0)) r (fun R => zaf r hr2.shape rfl rfl h3 ts167 rfl) rfl fun fr w4 u4 r => wn ?_
 have z4 := u4.size
 have h3 := u4.at_
 have hB4 := u4.below hB3 (by omega)
 refine wp_ret ?_
 have hs := hr2.shape.cells
 refine zad r rfl rfl h3 (k := 7) hs.1 ta167 ?_
 rw [← hs.2.2]
 exact znf.fin hB4 hr2 u4 (by rintro b (h | ⟨h1, h2, _⟩); exact .inl h; exact .inr ⟨h1, h2⟩) (by rintro (h | ⟨_, _, h⟩); (have := hF _ h; omega); exact h rfl) (by omega) (by omega) (by omega)

theorem zgy (n : Nat) : zdR n := by
  induction n using Nat.strongRecOn with
  | _ n ih =>
  intro F w0 hF t pv fv g hp hf hd
  obtain ⟨ff, f1, f2, hcf, rfl, hff⟩ := id hf
  cases t with
  | cut => unfold Rep at hp; exact hp.elim
  | done x0 =>
    have hf := hd.resolve_left (by intro h; cases h)
    unfold Rep at hp
    subst hp
    refine enter (l := [.agg (zna true (encBool.cells x0) 0 0 0 0 .nilFunc), .func (.func ff) f1.toArray f2.toArray]) Tryz.func357 rfl 15 rfl rfl fun fr r => ?_
    have hB := Below.refl w0.heap.size w0
    refine wp_seq (wp_region_lit ?_)
    refine za5 (.cells (zna true (encBool.cells x0) 0 0 0 0 .nilFunc) 324 (0, 0)) r (fun R => znm r (v := .agg (zna true (encBool.cells x0) 0 0 0 0 .nilFunc)) rfl) rfl fun fr b1 w1 q1 r => ?_
    refine za5 (.cells #[.func (.func ff) f1.toArray f2.toArray] 297 (0, 0)) r (fun R => znm r (v := .func (.func ff) f1.toArray f2.toArray) rfl) rfl fun fr b2 w2 q2 r => ?_
    refine za5 (.cells (zna false zng.zero 0 0 0 0 .nilFunc) 167 (0, 0)) r (fun R => zag tz167) rfl fun fr b3 w3 q3 r => wpList_nil ?_
    have h1 := keep q3.below (keep q2.below q1.at_)
    have h2 := keep q3.below q2.at_
    have h3 := q3.at_
    have e1 := q1.eq; have e2 := q2.eq; have e3 := q3.eq; have z1 := q1.size; have z2 := q2.size; have z3 := q3.size
    have hB := ((hB.trans q1.below).trans (q2.below.mono (by omega))).trans (q3.below.mono (by omega))
    have zB := hB.size
    refine wp_seq (wp_seq (wp_region_lit (za0 (.pointer (some ⟨b1, 0, none⟩)) r (fun R => za4 r (o := 0) rfl zlv) rfl fun fr r => ?_)))
    refine za0 (.bool true) r (fun R => za3 r (v := .bool true) rfl h1 to4 rfl) rfl fun fr r => wpList_nil ?_
    refine wp_cond_split (t := true) (r.ev rfl) (fun _ => ?_) (fun h => by cases h)
    refine wp_seq (wp_region_lit (za0 (.func (.func ff) f1.toArray f2.toArray) r (fun R => za3 r (v := .func (.func ff) f1.toArray f2.toArray) rfl h2 to297 rfl) rfl fun fr r => za0 (.pointer (some ⟨b1, 1, none⟩)) r (fun R => za4 r (o := 0) rfl zmS) rfl fun fr r => za0 (.bool x0) r (fun R => za3 r (v := (.bool x0)) rfl h1 to4 rfl) rfl fun fr r => ?_))
    refine za7 r (hf.at_.2 n (Nat.lt_succ_self n) x0 w3 (Same.below hB hF) hB.size) (fun R hc => zfc r rfl rfl hf.at_.1 hc) rfl ?_
    rintro _ w4 ⟨v, rfl, hb, hr⟩
    refine ⟨_, rfl, fun fr r => ?_⟩
    have z4 := hb.size
    have h3 := keep hb h3
    have hB := hB.trans (hb.mono hB.size)
    refine zae (.cells v.cells 167 (0, 0)) r (fun R => zaf r hr.shape rfl rfl h3 ts167 rfl) rfl fun fr w5 u5 r => wpList_nil ?_
    have z5 := u5.size
    have h3 := u5.at_
    have hB := u5.below hB (by omega)
    refine wp_ret ?_
    have hs := hr.shape.cells
    refine zad r rfl rfl h3 (k := 7) hs.1 ta167 ?_
    rw [← hs.2.2]
    exact znf.fin hB hr u5 (fun b hb => .inl hb) (fun h => by have := hF _ h; omega) (by omega) (by omega) (by omega)
  | act op at_ a b k =>
    obtain ⟨nf, n1, n2, hcn, rfl, hk⟩ : ∃ (nf : FuncId) (n1 n2 : List Value), znb Tryz.prog nf = true ∧ pv = .agg (zna false encBool.zero op at_ a b (.func (.func nf) n1.toArray n2.toArray)) ∧ FnT Tryz.prog encBool u64 n F w0 (.func (.func nf) n1.toArray n2.toArray) k := by
      exact Rep.zes hp
    refine enter (l := [.agg (zna false encBool.zero op at_ a b (.func (.func nf) n1.toArray n2.toArray)), .func (.func ff) f1.toArray f2.toArray]) Tryz.func357 rfl 15 rfl rfl fun fr r => ?_
    have hB := Below.refl w0.heap.size w0
    refine wp_seq (wp_region_lit ?_)
    refine za5 (.cells (zna false encBool.zero op at_ a b (.func (.func nf) n1.toArray n2.toArray)) 324 (0, 0)) r (fun R => znm r (v := .agg (zna false encBool.zero op at_ a b (.func (.func nf) n1.toArray n2.toArray))) rfl) rfl fun fr b1 w1 q1 r => ?_
    refine za5 (.cells #[.func (.func ff) f1.toArray f2.toArray] 297 (0, 0)) r (fun R => znm r (v := .func (.func ff) f1.toArray f2.toArray) rfl) rfl fun fr b2 w2 q2 r => ?_
    refine za5 (.cells (zna false zng.zero 0 0 0 0 .nilFunc) 167 (0, 0)) r (fun R => zag tz167) rfl fun fr b3 w3 q3 r => wpList_nil ?_
    have h1 := keep q3.below (keep q2.below q1.at_)
    have h2 := keep q3.below q2.at_
    have h3 := q3.at_
    have e1 := q1.eq; have e2 := q2.eq; have e3 := q3.eq; have z1 := q1.size; have z2 := q2.size; have z3 := q3.size
    have hB := ((hB.trans q1.below).trans (q2.below.mono (by omega))).trans (q3.below.mono (by omega))
    have zB := hB.size
    refine wp_seq (wp_seq (wp_region_lit (za0 (.pointer (some ⟨b1, 0, none⟩)) r (fun R => za4 r (o := 0) rfl zlv) rfl fun fr r => ?_)))
    refine za0 (.bool false) r (fun R => za3 r (v := .bool false) rfl h1 to4 rfl) rfl fun fr r => wpList_nil ?_
    refine wp_cond_split (t := false) (r.ev rfl) (fun h => by cases h) (fun _ => wp_skip ?_)
    refine wp_seq (wp_region_lit (za0 (.pointer (some ⟨b1, 2, none⟩)) r (fun R => za4 r (o := 0) rfl zmU) rfl fun fr r => za0 (.agg (znk (⟨op, at_, a, b⟩ : Access)).toArray) r (fun R => za6 r (cs := (znk (⟨op, at_, a, b⟩ : Access))) (n := 4) rfl h1 ta36 rfl) rfl fun fr r => za0 (.func (.func 388) #[] #[.pointer (some ⟨b1, 0, none⟩), .pointer (some ⟨b2, 0, none⟩)]) r (fun R => zan r rfl) rfl fun fr r => ?_))
    have hF1 : ∀ b, (fun b => F b ∨ b = b1 ∨ b = b2) b → b < w3.heap.size := by rintro b (h | h | h); exact Nat.lt_of_lt_of_le (hF b h) hB.size; omega; omega
    refine za7 r (zdT (F := fun b => F b ∨ b = b1 ∨ b = b2) (n := n) hF1 ⟨op, at_, a, b⟩ (a1 := fun x => (k x).bind g) (show FnT Tryz.prog zng u64 n (fun b => F b ∨ b = b1 ∨ b = b2) w3 (.func (.func 388) ([] : List Value).toArray [Value.pointer (some ⟨b1, 0, none⟩), .pointer (some ⟨b2, 0, none⟩)].toArray) (fun x => (k x).bind g) from
      ⟨388, [], [.pointer (some ⟨b1, 0, none⟩), .pointer (some ⟨b2, 0, none⟩)], cl388, rfl, fun m hm x w' hs hz => zgB (ih m hm) (fun b hb => Nat.lt_of_lt_of_le (hF1 b hb) hz) (.inr (.inl rfl)) (hs.at_ (.inr (.inl rfl)) h1) (.inr (.inr rfl)) (hs.at_ (.inr (.inr rfl)) h2)
        (hk.mono (by omega) (fun b h => .inl h) ((Same.below hB hF).trans (hs.sub (fun b h => .inl h))) (Nat.le_trans hB.size hz)) (hf.mono (by omega) (fun b h => .inl h) ((Same.below hB hF).trans (hs.sub (fun b h => .inl h))) (Nat.le_trans hB.size hz)) x⟩)) (fun R hc => zac r rfl cl297 hc) rfl ?_
    rintro _ w4 ⟨v, rfl, hb, hr⟩
    refine ⟨_, rfl, fun fr r => ?_⟩
    have z4 := hb.size
    have h3 := keep hb h3
    have hB := hB.trans (hb.mono hB.size)
    refine zae (.cells v.cells 167 (0, 0)) r (fun R => zaf r hr.shape rfl rfl h3 ts167 rfl) rfl fun fr w5 u5 r => wpList_nil ?_
    have z5 := u5.size
    have h3 := u5.at_
    have hB := u5.below hB (by omega)
    refine wp_ret ?_
    have hs := hr.shape.cells
    refine zad r rfl rfl h3 (k := 7) hs.1 ta167 ?_
    rw [← hs.2.2]
    exact znf.fin hB hr u5 (by rintro b (h | h | h); exact .inl h; exact .inr ⟨by omega, by omega⟩; exact .inr ⟨by omega, by omega⟩) (by rintro (h | h | h); (have := hF _ h; omega); omega; omega) (by omega) (by omega) (by omega)

theorem zfH {n : Nat} {F : Nat → Prop} {w0 : World} (hF : ∀ b, F b → b < w0.heap.size) {t : T (Bool)} {pv fv : Value} {g : Bool → T (Int)} (hp : Rep Tryz.prog encBool n t F w0 pv) (hf : FnT Tryz.prog zng boolE (n + 1) F w0 fv g) :
    Calls Tryz.prog 357 #[pv, fv] w0 (znf Tryz.prog zng n (t.bind g) F w0) := zgy n hF hp (hf.mono (by omega) (fun b h => h) (Same.refl _ _) (Nat.le_refl _)) (.inr hf)

def zdC (n : Nat) : Prop := ∀ {F : Nat → Prop} {w0 : World}, (∀ b, F b → b < w0.heap.size) → ∀ {t : T (Grant)} {pv fv : Value} {g : Grant → T (Res)}, Rep Tryz.prog znn n t F w0 pv → FnT Tryz.prog zne argGrant n F w0 fv g →
    (t.isDone = false ∨ FnT Tryz.prog zne argGrant (n + 1) F w0 fv g) → Calls Tryz.prog 113 #[pv, fv] w0 (znf Tryz.prog zne n (t.bind g) F w0)

theorem zg7 {n : Nat} (ih : zdC n) {F : Nat → Prop} {w0 : World} (hF : ∀ b, F b → b < w0.heap.size) {op at_ a b : Int} {nf : FuncId} {n1 n2 : List Value} {k : Int → T (Grant)} {ff : FuncId} {f1 f2 : List Value} {g : Grant → T (Res)}
    {b1 b2 : Nat} (F1 : F b1) (h1 : w0.heap[b1]? = some (.cells (zna false znn.zero op at_ a b (.func (.func nf) n1.toArray n2.toArray)) 158 (0, 0))) (F2 : F b2) (h2 : w0.heap[b2]? = some (.cells #[.func (.func ff) f1.toArray f2.toArray] 190 (0, 0)))
    (hk : FnT Tryz.prog znn u64 (n + 1) F w0 (.func (.func nf) n1.toArray n2.toArray) k) (hg : FnT Tryz.prog zne argGrant (n + 1) F w0 (.func (.func ff) f1.toArray f2.toArray) g) (x : Int) :
    Calls Tryz.prog 213 #[.int .u64 x, .pointer (some ⟨b1, 0, none⟩), .pointer (some ⟨b2, 0, none⟩)] w0 (znf Tryz.prog zne n ((k x).bind g) F w0) := by
 refine enter Tryz.func213 rfl 11 rfl rfl fun fr r => ?_
 have hB := Below.refl w0.heap.size w0
 refine wp_seq (wp_region_lit ?_)
 refine za5 (.cells (zna false zne.zero 0 0 0 0 .nilFunc) 39 (0, 0)) r (fun R => zag tz39) rfl fun fr b3 w1 q1 r => wn ?_
 have h1 := keep q1.below h1
 have h2 := keep q1.below h2
 have e3 := q1.eq
 have z1 := q1.size
 have h3 := q1.at_
 have hB := hB.trans (q1.below.mono hB.size)
 have zB := hB.size
 refine wp_seq ?_
 refine zaG 5 [.val (.pointer (some ⟨b1, 8, none⟩)), .val (.func (.func nf) n1.toArray n2.toArray), .val (U x), .pred (RepAt Tryz.prog znn n (k x) F w0.heap.size b3) RepAt.stable, .val (.func (.func ff) f1.toArray f2.toArray)] mixed r (by kernel_rfl) (za1 trivial (za1 trivial (za1 trivial (za1 trivial (za1 trivial zaz))))) ?_ ?_
 ·
  refine ec r (fun _ u _ b d s => za4 s (b := b1) (o := 0) rfl zmu bz) ?_
  refine zb8 r rfl (fun fr1 u w' hb' hd r' => ?_) ?_
  ·
   obtain ⟨d0, _⟩ := hd
   exact za3 r' (v := .func (.func nf) n1.toArray n2.toArray) d0 (keep hb' h1) to156 rfl ⟨Below.refl _ _, rfl⟩
  refine ec r (fun _ u _ b d s => zaa s rfl bz) ?_
  refine zb8 r rfl (fun fr1 u w' hb' hd r' => ?_) ?_
  ·
   obtain ⟨d0, d1, _⟩ := hd
   have zb := hb'.size
   have zb : w1.heap.size ≤ w'.heap.size := zb
   have hB' : Below w0.heap.size w0 w' := hB.trans (Below.mono (w := w1) ⟨hb'.os, hb'.tape, hb'.output, hb'.size, hb'.block⟩ hB.size)
   have d0 : u 1 = .func (.func nf) n1.toArray n2.toArray := d0
   have d1 : u 2 = .int .u64 x := d1
   refine zde r' (fs := n1) (cs := n2) d0 d1 hk.at_.1 ((hk.at_.2 n (Nat.lt_succ_self n) x w' (Same.below hB' hF) hB'.size).mono ?_)
   rintro _ w2 ⟨v, rfl, hb2, hr2⟩
   refine ⟨v, rfl, hb2, RepAt.zi6 (fun b h => Nat.lt_of_lt_of_le (hF b h) hB'.size) (by omega) hB'.size hb2 (Rep.mono ?_ (Same.refl _ _) (Nat.le_refl _) n _ _ hr2)⟩
   rintro b (h | h)
   · exact .inl (.inl h)
   · exact .inr h
  refine ec r (fun _ u _ b d s => za3 s rfl (keep b h2) to190 rfl bz) ?_
  exact zaR
 intro fr u w2 hb hΦ _ r
 obtain ⟨_, hr3, _, hr⟩ : RepAt Tryz.prog znn n (k x) F w0.heap.size b3 (u 3) w2 := hΦ 3 (by decide)
 have r := r.congr (sc (hΦ 4 (by decide)) rfl)
 have z2 := hb.size
 have h1 := keep hb h1
 have h2 := keep hb h2
 have h3 := keep hb h3
 have hB2 := hB.trans (hb.mono hB.size)
 have zB2 := hB2.size
 have hF1 : ∀ b, (fun b => F b ∨ (w0.heap.size ≤ b ∧ b < w2.heap.size ∧ b ≠ b3)) b → b < w2.heap.size := by rintro b (h | h); exact Nat.lt_of_lt_of_le (hF b h) hB2.size; exact h.2.1
 refine za7 r (ih (F := fun b => F b ∨ (w0.heap.size ≤ b ∧ b < w2.heap.size ∧ b ≠ b3)) hF1 hr (hg.mono (by omega) (fun b h => .inl h) (Same.below hB2 hF) hB2.size)
  (.inr (hg.mono (Nat.le_refl _) (fun b h => .inl h) (Same.below hB2 hF) hB2.size))) (fun R hc => zac r rfl cl113 hc) rfl ?_
 rintro _ w3 ⟨v2, rfl, hb2, hr2⟩
 refine ⟨_, rfl, fun fr r => ?_⟩
 have z3 := hb2.size
 have h3 := keep hb2 h3
 have hB3 := hB2.trans (hb2.mono hB2.size)
 refine zae (.cells v2.cells 39 (0, 0)) r (fun R => zaf r hr2.shape rfl rfl h3 ts39 rfl) rfl fun fr w4 u4 r => wn ?_
 have z4 := u4.size
 have h3 := u4.at_
 have hB4 := u4.below hB3 (by omega)
 refine wp_ret ?_
 have hs := hr2.shape.cells
 refine zad r rfl rfl h3 (k := 8) hs.1 ta39 ?_
 rw [← hs.2.2]
 exact znf.fin hB4 hr2 u4 (by rintro b (h | ⟨h1, h2, _⟩); exact .inl h; exact .inr ⟨h1, h2⟩) (by rintro (h | ⟨_, _, h⟩); (have := hF _ h; omega); exact h rfl) (by omega) (by omega) (by omega)

theorem zg3 (n : Nat) : zdC n := by
  induction n using Nat.strongRecOn with
  | _ n ih =>
  intro F w0 hF t pv fv g hp hf hd
  obtain ⟨ff, f1, f2, hcf, rfl, hff⟩ := id hf
  cases t with
  | cut => unfold Rep at hp; exact hp.elim
  | done x0 =>
    have hf := hd.resolve_left (by intro h; cases h)
    unfold Rep at hp
    subst hp
    refine enter (l := [.agg (zna true (znn.cells x0) 0 0 0 0 .nilFunc), .func (.func ff) f1.toArray f2.toArray]) Tryz.func113 rfl 15 rfl rfl fun fr r => ?_
    have hB := Below.refl w0.heap.size w0
    refine wp_seq (wp_region_lit ?_)
    refine za5 (.cells (zna true (znn.cells x0) 0 0 0 0 .nilFunc) 158 (0, 0)) r (fun R => znm r (v := .agg (zna true (znn.cells x0) 0 0 0 0 .nilFunc)) rfl) rfl fun fr b1 w1 q1 r => ?_
    refine za5 (.cells #[.func (.func ff) f1.toArray f2.toArray] 190 (0, 0)) r (fun R => znm r (v := .func (.func ff) f1.toArray f2.toArray) rfl) rfl fun fr b2 w2 q2 r => ?_
    refine za5 (.cells (zna false zne.zero 0 0 0 0 .nilFunc) 39 (0, 0)) r (fun R => zag tz39) rfl fun fr b3 w3 q3 r => wpList_nil ?_
    have h1 := keep q3.below (keep q2.below q1.at_)
    have h2 := keep q3.below q2.at_
    have h3 := q3.at_
    have e1 := q1.eq; have e2 := q2.eq; have e3 := q3.eq; have z1 := q1.size; have z2 := q2.size; have z3 := q3.size
    have hB := ((hB.trans q1.below).trans (q2.below.mono (by omega))).trans (q3.below.mono (by omega))
    have zB := hB.size
    refine wp_seq (wp_seq (wp_region_lit (za0 (.pointer (some ⟨b1, 0, none⟩)) r (fun R => za4 r (o := 0) rfl zly) rfl fun fr r => ?_)))
    refine za0 (.bool true) r (fun R => za3 r (v := .bool true) rfl h1 to4 rfl) rfl fun fr r => wpList_nil ?_
    refine wp_cond_split (t := true) (r.ev rfl) (fun _ => ?_) (fun h => by cases h)
    refine wp_seq (wp_region_lit (za0 (.func (.func ff) f1.toArray f2.toArray) r (fun R => za3 r (v := .func (.func ff) f1.toArray f2.toArray) rfl h2 to190 rfl) rfl fun fr r => za0 (.pointer (some ⟨b1, 1, none⟩)) r (fun R => za4 r (o := 0) rfl zmW) rfl fun fr r => za0 (.agg (grantC x0).toArray) r (fun R => za6 r (cs := (grantC x0)) (n := 3) rfl h1 ta153 rfl) rfl fun fr r => ?_))
    refine za7 r (hf.at_.2 n (Nat.lt_succ_self n) x0 w3 (Same.below hB hF) hB.size) (fun R hc => zfc r rfl rfl hf.at_.1 hc) rfl ?_
    rintro _ w4 ⟨v, rfl, hb, hr⟩
    refine ⟨_, rfl, fun fr r => ?_⟩
    have z4 := hb.size
    have h3 := keep hb h3
    have hB := hB.trans (hb.mono hB.size)
    refine zae (.cells v.cells 39 (0, 0)) r (fun R => zaf r hr.shape rfl rfl h3 ts39 rfl) rfl fun fr w5 u5 r => wpList_nil ?_
    have z5 := u5.size
    have h3 := u5.at_
    have hB := u5.below hB (by omega)
    refine wp_ret ?_
    have hs := hr.shape.cells
    refine zad r rfl rfl h3 (k := 8) hs.1 ta39 ?_
    rw [← hs.2.2]
    exact znf.fin hB hr u5 (fun b hb => .inl hb) (fun h => by have := hF _ h; omega) (by omega) (by omega) (by omega)
  | act op at_ a b k =>
    obtain ⟨nf, n1, n2, hcn, rfl, hk⟩ : ∃ (nf : FuncId) (n1 n2 : List Value), znb Tryz.prog nf = true ∧ pv = .agg (zna false znn.zero op at_ a b (.func (.func nf) n1.toArray n2.toArray)) ∧ FnT Tryz.prog znn u64 n F w0 (.func (.func nf) n1.toArray n2.toArray) k := by
      exact Rep.zes hp
    refine enter (l := [.agg (zna false znn.zero op at_ a b (.func (.func nf) n1.toArray n2.toArray)), .func (.func ff) f1.toArray f2.toArray]) Tryz.func113 rfl 15 rfl rfl fun fr r => ?_
    have hB := Below.refl w0.heap.size w0
    refine wp_seq (wp_region_lit ?_)
    refine za5 (.cells (zna false znn.zero op at_ a b (.func (.func nf) n1.toArray n2.toArray)) 158 (0, 0)) r (fun R => znm r (v := .agg (zna false znn.zero op at_ a b (.func (.func nf) n1.toArray n2.toArray))) rfl) rfl fun fr b1 w1 q1 r => ?_
    refine za5 (.cells #[.func (.func ff) f1.toArray f2.toArray] 190 (0, 0)) r (fun R => znm r (v := .func (.func ff) f1.toArray f2.toArray) rfl) rfl fun fr b2 w2 q2 r => ?_
    refine za5 (.cells (zna false zne.zero 0 0 0 0 .nilFunc) 39 (0, 0)) r (fun R => zag tz39) rfl fun fr b3 w3 q3 r => wpList_nil ?_
    have h1 := keep q3.below (keep q2.below q1.at_)
    have h2 := keep q3.below q2.at_
    have h3 := q3.at_
    have e1 := q1.eq; have e2 := q2.eq; have e3 := q3.eq; have z1 := q1.size; have z2 := q2.size; have z3 := q3.size
    have hB := ((hB.trans q1.below).trans (q2.below.mono (by omega))).trans (q3.below.mono (by omega))
    have zB := hB.size
    refine wp_seq (wp_seq (wp_region_lit (za0 (.pointer (some ⟨b1, 0, none⟩)) r (fun R => za4 r (o := 0) rfl zly) rfl fun fr r => ?_)))
    refine za0 (.bool false) r (fun R => za3 r (v := .bool false) rfl h1 to4 rfl) rfl fun fr r => wpList_nil ?_
    refine wp_cond_split (t := false) (r.ev rfl) (fun h => by cases h) (fun _ => wp_skip ?_)
    refine wp_seq (wp_region_lit (za0 (.pointer (some ⟨b1, 4, none⟩)) r (fun R => za4 r (o := 0) rfl zmK) rfl fun fr r => za0 (.agg (znk (⟨op, at_, a, b⟩ : Access)).toArray) r (fun R => za6 r (cs := (znk (⟨op, at_, a, b⟩ : Access))) (n := 4) rfl h1 ta36 rfl) rfl fun fr r => za0 (.func (.func 213) #[] #[.pointer (some ⟨b1, 0, none⟩), .pointer (some ⟨b2, 0, none⟩)]) r (fun R => zan r rfl) rfl fun fr r => ?_))
    have hF1 : ∀ b, (fun b => F b ∨ b = b1 ∨ b = b2) b → b < w3.heap.size := by rintro b (h | h | h); exact Nat.lt_of_lt_of_le (hF b h) hB.size; omega; omega
    refine za7 r (zcC (F := fun b => F b ∨ b = b1 ∨ b = b2) (n := n) hF1 ⟨op, at_, a, b⟩ (a1 := fun x => (k x).bind g) (show FnT Tryz.prog zne u64 n (fun b => F b ∨ b = b1 ∨ b = b2) w3 (.func (.func 213) ([] : List Value).toArray [Value.pointer (some ⟨b1, 0, none⟩), .pointer (some ⟨b2, 0, none⟩)].toArray) (fun x => (k x).bind g) from
      ⟨213, [], [.pointer (some ⟨b1, 0, none⟩), .pointer (some ⟨b2, 0, none⟩)], cl213, rfl, fun m hm x w' hs hz => zg7 (ih m hm) (fun b hb => Nat.lt_of_lt_of_le (hF1 b hb) hz) (.inr (.inl rfl)) (hs.at_ (.inr (.inl rfl)) h1) (.inr (.inr rfl)) (hs.at_ (.inr (.inr rfl)) h2)
        (hk.mono (by omega) (fun b h => .inl h) ((Same.below hB hF).trans (hs.sub (fun b h => .inl h))) (Nat.le_trans hB.size hz)) (hf.mono (by omega) (fun b h => .inl h) ((Same.below hB hF).trans (hs.sub (fun b h => .inl h))) (Nat.le_trans hB.size hz)) x⟩)) (fun R hc => zac r rfl cl212 hc) rfl ?_
    rintro _ w4 ⟨v, rfl, hb, hr⟩
    refine ⟨_, rfl, fun fr r => ?_⟩
    have z4 := hb.size
    have h3 := keep hb h3
    have hB := hB.trans (hb.mono hB.size)
    refine zae (.cells v.cells 39 (0, 0)) r (fun R => zaf r hr.shape rfl rfl h3 ts39 rfl) rfl fun fr w5 u5 r => wpList_nil ?_
    have z5 := u5.size
    have h3 := u5.at_
    have hB := u5.below hB (by omega)
    refine wp_ret ?_
    have hs := hr.shape.cells
    refine zad r rfl rfl h3 (k := 8) hs.1 ta39 ?_
    rw [← hs.2.2]
    exact znf.fin hB hr u5 (by rintro b (h | h | h); exact .inl h; exact .inr ⟨by omega, by omega⟩; exact .inr ⟨by omega, by omega⟩) (by rintro (h | h | h); (have := hF _ h; omega); omega; omega) (by omega) (by omega) (by omega)

theorem zfn {n : Nat} {F : Nat → Prop} {w0 : World} (hF : ∀ b, F b → b < w0.heap.size) {t : T (Grant)} {pv fv : Value} {g : Grant → T (Res)} (hp : Rep Tryz.prog znn n t F w0 pv) (hf : FnT Tryz.prog zne argGrant (n + 1) F w0 fv g) :
    Calls Tryz.prog 113 #[pv, fv] w0 (znf Tryz.prog zne n (t.bind g) F w0) := zg3 n hF hp (hf.mono (by omega) (fun b h => h) (Same.refl _ _) (Nat.le_refl _)) (.inr hf)

def zdL (n : Nat) : Prop := ∀ {F : Nat → Prop} {w0 : World}, (∀ b, F b → b < w0.heap.size) → ∀ {t : T (Unit)} {pv fv : Value} {g : Unit → T (Res)}, Rep Tryz.prog znj n t F w0 pv → FnT Tryz.prog zne noneE n F w0 fv g →
    (t.isDone = false ∨ FnT Tryz.prog zne noneE (n + 1) F w0 fv g) → Calls Tryz.prog 217 #[pv, fv] w0 (znf Tryz.prog zne n (t.bind g) F w0)

theorem zgv {n : Nat} (ih : zdL n) {F : Nat → Prop} {w0 : World} (hF : ∀ b, F b → b < w0.heap.size) {op at_ a b : Int} {nf : FuncId} {n1 n2 : List Value} {k : Int → T (Unit)} {ff : FuncId} {f1 f2 : List Value} {g : Unit → T (Res)}
    {b1 b2 : Nat} (F1 : F b1) (h1 : w0.heap[b1]? = some (.cells (zna false znj.zero op at_ a b (.func (.func nf) n1.toArray n2.toArray)) 186 (0, 0))) (F2 : F b2) (h2 : w0.heap[b2]? = some (.cells #[.func (.func ff) f1.toArray f2.toArray] 270 (0, 0)))
    (hk : FnT Tryz.prog znj u64 (n + 1) F w0 (.func (.func nf) n1.toArray n2.toArray) k) (hg : FnT Tryz.prog zne noneE (n + 1) F w0 (.func (.func ff) f1.toArray f2.toArray) g) (x : Int) :
    Calls Tryz.prog 319 #[.int .u64 x, .pointer (some ⟨b1, 0, none⟩), .pointer (some ⟨b2, 0, none⟩)] w0 (znf Tryz.prog zne n ((k x).bind g) F w0) := by
 refine enter Tryz.func319 rfl 11 rfl rfl fun fr r => ?_
 have hB := Below.refl w0.heap.size w0
 refine wp_seq (wp_region_lit ?_)
 refine za5 (.cells (zna false zne.zero 0 0 0 0 .nilFunc) 39 (0, 0)) r (fun R => zag tz39) rfl fun fr b3 w1 q1 r => wn ?_
 have h1 := keep q1.below h1
 have h2 := keep q1.below h2
 have e3 := q1.eq
 have z1 := q1.size
 have h3 := q1.at_
 have hB := hB.trans (q1.below.mono hB.size)
 have zB := hB.size
 refine wp_seq ?_
 refine zaG 5 [.val (.pointer (some ⟨b1, 5, none⟩)), .val (.func (.func nf) n1.toArray n2.toArray), .val (U x), .pred (RepAt Tryz.prog znj n (k x) F w0.heap.size b3) RepAt.stable, .val (.func (.func ff) f1.toArray f2.toArray)] mixed r (by kernel_rfl) (za1 trivial (za1 trivial (za1 trivial (za1 trivial (za1 trivial zaz))))) ?_ ?_
 ·
  refine ec r (fun _ u _ b d s => za4 s (b := b1) (o := 0) rfl zkG bz) ?_
  refine zb8 r rfl (fun fr1 u w' hb' hd r' => ?_) ?_
  ·
   obtain ⟨d0, _⟩ := hd
   exact za3 r' (v := .func (.func nf) n1.toArray n2.toArray) d0 (keep hb' h1) to184 rfl ⟨Below.refl _ _, rfl⟩
  refine ec r (fun _ u _ b d s => zaa s rfl bz) ?_
  refine zb8 r rfl (fun fr1 u w' hb' hd r' => ?_) ?_
  ·
   obtain ⟨d0, d1, _⟩ := hd
   have zb := hb'.size
   have zb : w1.heap.size ≤ w'.heap.size := zb
   have hB' : Below w0.heap.size w0 w' := hB.trans (Below.mono (w := w1) ⟨hb'.os, hb'.tape, hb'.output, hb'.size, hb'.block⟩ hB.size)
   have d0 : u 1 = .func (.func nf) n1.toArray n2.toArray := d0
   have d1 : u 2 = .int .u64 x := d1
   refine zde r' (fs := n1) (cs := n2) d0 d1 hk.at_.1 ((hk.at_.2 n (Nat.lt_succ_self n) x w' (Same.below hB' hF) hB'.size).mono ?_)
   rintro _ w2 ⟨v, rfl, hb2, hr2⟩
   refine ⟨v, rfl, hb2, RepAt.zi6 (fun b h => Nat.lt_of_lt_of_le (hF b h) hB'.size) (by omega) hB'.size hb2 (Rep.mono ?_ (Same.refl _ _) (Nat.le_refl _) n _ _ hr2)⟩
   rintro b (h | h)
   · exact .inl (.inl h)
   · exact .inr h
  refine ec r (fun _ u _ b d s => za3 s rfl (keep b h2) to270 rfl bz) ?_
  exact zaR
 intro fr u w2 hb hΦ _ r
 obtain ⟨_, hr3, _, hr⟩ : RepAt Tryz.prog znj n (k x) F w0.heap.size b3 (u 3) w2 := hΦ 3 (by decide)
 have r := r.congr (sc (hΦ 4 (by decide)) rfl)
 have z2 := hb.size
 have h1 := keep hb h1
 have h2 := keep hb h2
 have h3 := keep hb h3
 have hB2 := hB.trans (hb.mono hB.size)
 have zB2 := hB2.size
 have hF1 : ∀ b, (fun b => F b ∨ (w0.heap.size ≤ b ∧ b < w2.heap.size ∧ b ≠ b3)) b → b < w2.heap.size := by rintro b (h | h); exact Nat.lt_of_lt_of_le (hF b h) hB2.size; exact h.2.1
 refine za7 r (ih (F := fun b => F b ∨ (w0.heap.size ≤ b ∧ b < w2.heap.size ∧ b ≠ b3)) hF1 hr (hg.mono (by omega) (fun b h => .inl h) (Same.below hB2 hF) hB2.size)
  (.inr (hg.mono (Nat.le_refl _) (fun b h => .inl h) (Same.below hB2 hF) hB2.size))) (fun R hc => zac r rfl cl217 hc) rfl ?_
 rintro _ w3 ⟨v2, rfl, hb2, hr2⟩
 refine ⟨_, rfl, fun fr r => ?_⟩
 have z3 := hb2.size
 have h3 := keep hb2 h3
 have hB3 := hB2.trans (hb2.mono hB2.size)
 refine zae (.cells v2.cells 39 (0, 0)) r (fun R => zaf r hr2.shape rfl rfl h3 ts39 rfl) rfl fun fr w4 u4 r => wn ?_
 have z4 := u4.size
 have h3 := u4.at_
 have hB4 := u4.below hB3 (by omega)
 refine wp_ret ?_
 have hs := hr2.shape.cells
 refine zad r rfl rfl h3 (k := 8) hs.1 ta39 ?_
 rw [← hs.2.2]
 exact znf.fin hB4 hr2 u4 (by rintro b (h | ⟨h1, h2, _⟩); exact .inl h; exact .inr ⟨h1, h2⟩) (by rintro (h | ⟨_, _, h⟩); (have := hF _ h; omega); exact h rfl) (by omega) (by omega) (by omega)

theorem zgx (n : Nat) : zdL n := by
  induction n using Nat.strongRecOn with
  | _ n ih =>
  intro F w0 hF t pv fv g hp hf hd
  obtain ⟨ff, f1, f2, hcf, rfl, hff⟩ := id hf
  cases t with
  | cut => unfold Rep at hp; exact hp.elim
  | done x0 =>
    have hf := hd.resolve_left (by intro h; cases h)
    unfold Rep at hp
    subst hp
    refine enter (l := [.agg (zna true (znj.cells x0) 0 0 0 0 .nilFunc), .func (.func ff) f1.toArray f2.toArray]) Tryz.func217 rfl 15 rfl rfl fun fr r => ?_
    have hB := Below.refl w0.heap.size w0
    refine wp_seq (wp_region_lit ?_)
    refine za5 (.cells (zna true (znj.cells x0) 0 0 0 0 .nilFunc) 186 (0, 0)) r (fun R => znm r (v := .agg (zna true (znj.cells x0) 0 0 0 0 .nilFunc)) rfl) rfl fun fr b1 w1 q1 r => ?_
    refine za5 (.cells #[.func (.func ff) f1.toArray f2.toArray] 270 (0, 0)) r (fun R => znm r (v := .func (.func ff) f1.toArray f2.toArray) rfl) rfl fun fr b2 w2 q2 r => ?_
    refine za5 (.cells (zna false zne.zero 0 0 0 0 .nilFunc) 39 (0, 0)) r (fun R => zag tz39) rfl fun fr b3 w3 q3 r => wpList_nil ?_
    have h1 := keep q3.below (keep q2.below q1.at_)
    have h2 := keep q3.below q2.at_
    have h3 := q3.at_
    have e1 := q1.eq; have e2 := q2.eq; have e3 := q3.eq; have z1 := q1.size; have z2 := q2.size; have z3 := q3.size
    have hB := ((hB.trans q1.below).trans (q2.below.mono (by omega))).trans (q3.below.mono (by omega))
    have zB := hB.size
    refine wp_seq (wp_seq (wp_region_lit (za0 (.pointer (some ⟨b1, 0, none⟩)) r (fun R => za4 r (o := 0) rfl zh1) rfl fun fr r => ?_)))
    refine za0 (.bool true) r (fun R => za3 r (v := .bool true) rfl h1 to4 rfl) rfl fun fr r => wpList_nil ?_
    refine wp_cond_split (t := true) (r.ev rfl) (fun _ => ?_) (fun h => by cases h)
    refine wp_seq (wp_region_lit (za0 (.func (.func ff) f1.toArray f2.toArray) r (fun R => za3 r (v := .func (.func ff) f1.toArray f2.toArray) rfl h2 to270 rfl) rfl fun fr r => ?_))
    refine zkZ b1 1 r (fun R => zgd r rfl fz186 h1) rfl fun fr sp r => za0 (.agg #[]) r (fun R => zgY r rfl ta181) rfl fun fr r => ?_
    refine za7 r (hf.at_.2 n (Nat.lt_succ_self n) x0 w3 (Same.below hB hF) hB.size) (fun R hc => zfc r rfl rfl hf.at_.1 hc) rfl ?_
    rintro _ w4 ⟨v, rfl, hb, hr⟩
    refine ⟨_, rfl, fun fr r => ?_⟩
    have z4 := hb.size
    have h3 := keep hb h3
    have hB := hB.trans (hb.mono hB.size)
    refine zae (.cells v.cells 39 (0, 0)) r (fun R => zaf r hr.shape rfl rfl h3 ts39 rfl) rfl fun fr w5 u5 r => wpList_nil ?_
    have z5 := u5.size
    have h3 := u5.at_
    have hB := u5.below hB (by omega)
    refine wp_ret ?_
    have hs := hr.shape.cells
    refine zad r rfl rfl h3 (k := 8) hs.1 ta39 ?_
    rw [← hs.2.2]
    exact znf.fin hB hr u5 (fun b hb => .inl hb) (fun h => by have := hF _ h; omega) (by omega) (by omega) (by omega)
  | act op at_ a b k =>
    obtain ⟨nf, n1, n2, hcn, rfl, hk⟩ : ∃ (nf : FuncId) (n1 n2 : List Value), znb Tryz.prog nf = true ∧ pv = .agg (zna false znj.zero op at_ a b (.func (.func nf) n1.toArray n2.toArray)) ∧ FnT Tryz.prog znj u64 n F w0 (.func (.func nf) n1.toArray n2.toArray) k := by
      exact Rep.zes hp
    refine enter (l := [.agg (zna false znj.zero op at_ a b (.func (.func nf) n1.toArray n2.toArray)), .func (.func ff) f1.toArray f2.toArray]) Tryz.func217 rfl 15 rfl rfl fun fr r => ?_
    have hB := Below.refl w0.heap.size w0
    refine wp_seq (wp_region_lit ?_)
    refine za5 (.cells (zna false znj.zero op at_ a b (.func (.func nf) n1.toArray n2.toArray)) 186 (0, 0)) r (fun R => znm r (v := .agg (zna false znj.zero op at_ a b (.func (.func nf) n1.toArray n2.toArray))) rfl) rfl fun fr b1 w1 q1 r => ?_
    refine za5 (.cells #[.func (.func ff) f1.toArray f2.toArray] 270 (0, 0)) r (fun R => znm r (v := .func (.func ff) f1.toArray f2.toArray) rfl) rfl fun fr b2 w2 q2 r => ?_
    refine za5 (.cells (zna false zne.zero 0 0 0 0 .nilFunc) 39 (0, 0)) r (fun R => zag tz39) rfl fun fr b3 w3 q3 r => wpList_nil ?_
    have h1 := keep q3.below (keep q2.below q1.at_)
    have h2 := keep q3.below q2.at_
    have h3 := q3.at_
    have e1 := q1.eq; have e2 := q2.eq; have e3 := q3.eq; have z1 := q1.size; have z2 := q2.size; have z3 := q3.size
    have hB := ((hB.trans q1.below).trans (q2.below.mono (by omega))).trans (q3.below.mono (by omega))
    have zB := hB.size
    refine wp_seq (wp_seq (wp_region_lit (za0 (.pointer (some ⟨b1, 0, none⟩)) r (fun R => za4 r (o := 0) rfl zh1) rfl fun fr r => ?_)))
    refine za0 (.bool false) r (fun R => za3 r (v := .bool false) rfl h1 to4 rfl) rfl fun fr r => wpList_nil ?_
    refine wp_cond_split (t := false) (r.ev rfl) (fun h => by cases h) (fun _ => wp_skip ?_)
    refine wp_seq (wp_region_lit (za0 (.pointer (some ⟨b1, 1, none⟩)) r (fun R => za4 r (o := 0) rfl zkw) rfl fun fr r => za0 (.agg (znk (⟨op, at_, a, b⟩ : Access)).toArray) r (fun R => za6 r (cs := (znk (⟨op, at_, a, b⟩ : Access))) (n := 4) rfl h1 ta36 rfl) rfl fun fr r => za0 (.func (.func 319) #[] #[.pointer (some ⟨b1, 0, none⟩), .pointer (some ⟨b2, 0, none⟩)]) r (fun R => zan r rfl) rfl fun fr r => ?_))
    have hF1 : ∀ b, (fun b => F b ∨ b = b1 ∨ b = b2) b → b < w3.heap.size := by rintro b (h | h | h); exact Nat.lt_of_lt_of_le (hF b h) hB.size; omega; omega
    refine za7 r (zcC (F := fun b => F b ∨ b = b1 ∨ b = b2) (n := n) hF1 ⟨op, at_, a, b⟩ (a1 := fun x => (k x).bind g) (show FnT Tryz.prog zne u64 n (fun b => F b ∨ b = b1 ∨ b = b2) w3 (.func (.func 319) ([] : List Value).toArray [Value.pointer (some ⟨b1, 0, none⟩), .pointer (some ⟨b2, 0, none⟩)].toArray) (fun x => (k x).bind g) from
      ⟨319, [], [.pointer (some ⟨b1, 0, none⟩), .pointer (some ⟨b2, 0, none⟩)], cl319, rfl, fun m hm x w' hs hz => zgv (ih m hm) (fun b hb => Nat.lt_of_lt_of_le (hF1 b hb) hz) (.inr (.inl rfl)) (hs.at_ (.inr (.inl rfl)) h1) (.inr (.inr rfl)) (hs.at_ (.inr (.inr rfl)) h2)
        (hk.mono (by omega) (fun b h => .inl h) ((Same.below hB hF).trans (hs.sub (fun b h => .inl h))) (Nat.le_trans hB.size hz)) (hf.mono (by omega) (fun b h => .inl h) ((Same.below hB hF).trans (hs.sub (fun b h => .inl h))) (Nat.le_trans hB.size hz)) x⟩)) (fun R hc => zac r rfl cl212 hc) rfl ?_
    rintro _ w4 ⟨v, rfl, hb, hr⟩
    refine ⟨_, rfl, fun fr r => ?_⟩
    have z4 := hb.size
    have h3 := keep hb h3
    have hB := hB.trans (hb.mono hB.size)
    refine zae (.cells v.cells 39 (0, 0)) r (fun R => zaf r hr.shape rfl rfl h3 ts39 rfl) rfl fun fr w5 u5 r => wpList_nil ?_
    have z5 := u5.size
    have h3 := u5.at_
    have hB := u5.below hB (by omega)
    refine wp_ret ?_
    have hs := hr.shape.cells
    refine zad r rfl rfl h3 (k := 8) hs.1 ta39 ?_
    rw [← hs.2.2]
    exact znf.fin hB hr u5 (by rintro b (h | h | h); exact .inl h; exact .inr ⟨by omega, by omega⟩; exact .inr ⟨by omega, by omega⟩) (by rintro (h | h | h); (have := hF _ h; omega); omega; omega) (by omega) (by omega) (by omega)

theorem zfw {n : Nat} {F : Nat → Prop} {w0 : World} (hF : ∀ b, F b → b < w0.heap.size) {t : T (Unit)} {pv fv : Value} {g : Unit → T (Res)} (hp : Rep Tryz.prog znj n t F w0 pv) (hf : FnT Tryz.prog zne noneE (n + 1) F w0 fv g) :
    Calls Tryz.prog 217 #[pv, fv] w0 (znf Tryz.prog zne n (t.bind g) F w0) := zgx n hF hp (hf.mono (by omega) (fun b h => h) (Same.refl _ _) (Nat.le_refl _)) (.inr hf)

def zdg (n : Nat) : Prop := ∀ {F : Nat → Prop} {w0 : World}, (∀ b, F b → b < w0.heap.size) → ∀ {t : T (Unit)} {pv fv : Value} {g : Unit → T (Int)}, Rep Tryz.prog znj n t F w0 pv → FnT Tryz.prog encWord noneE n F w0 fv g →
    (t.isDone = false ∨ FnT Tryz.prog encWord noneE (n + 1) F w0 fv g) → Calls Tryz.prog 372 #[pv, fv] w0 (znf Tryz.prog encWord n (t.bind g) F w0)

theorem zfC {n : Nat} (ih : zdg n) {F : Nat → Prop} {w0 : World} (hF : ∀ b, F b → b < w0.heap.size) {op at_ a b : Int} {nf : FuncId} {n1 n2 : List Value} {k : Int → T (Unit)} {ff : FuncId} {f1 f2 : List Value} {g : Unit → T (Int)}
    {b1 b2 : Nat} (F1 : F b1) (h1 : w0.heap[b1]? = some (.cells (zna false znj.zero op at_ a b (.func (.func nf) n1.toArray n2.toArray)) 186 (0, 0))) (F2 : F b2) (h2 : w0.heap[b2]? = some (.cells #[.func (.func ff) f1.toArray f2.toArray] 333 (0, 0)))
    (hk : FnT Tryz.prog znj u64 (n + 1) F w0 (.func (.func nf) n1.toArray n2.toArray) k) (hg : FnT Tryz.prog encWord noneE (n + 1) F w0 (.func (.func ff) f1.toArray f2.toArray) g) (x : Int) :
    Calls Tryz.prog 404 #[.int .u64 x, .pointer (some ⟨b1, 0, none⟩), .pointer (some ⟨b2, 0, none⟩)] w0 (znf Tryz.prog encWord n ((k x).bind g) F w0) := by
 refine enter Tryz.func404 rfl 11 rfl rfl fun fr r => ?_
 have hB := Below.refl w0.heap.size w0
 refine wp_seq (wp_region_lit ?_)
 refine za5 (.cells (zna false encWord.zero 0 0 0 0 .nilFunc) 283 (0, 0)) r (fun R => zag tz283) rfl fun fr b3 w1 q1 r => wn ?_
 have h1 := keep q1.below h1
 have h2 := keep q1.below h2
 have e3 := q1.eq
 have z1 := q1.size
 have h3 := q1.at_
 have hB := hB.trans (q1.below.mono hB.size)
 have zB := hB.size
 refine wp_seq ?_
 refine zaG 5 [.val (.pointer (some ⟨b1, 5, none⟩)), .val (.func (.func nf) n1.toArray n2.toArray), .val (U x), .pred (RepAt Tryz.prog znj n (k x) F w0.heap.size b3) RepAt.stable, .val (.func (.func ff) f1.toArray f2.toArray)] mixed r (by kernel_rfl) (za1 trivial (za1 trivial (za1 trivial (za1 trivial (za1 trivial zaz))))) ?_ ?_
 ·
  refine ec r (fun _ u _ b d s => za4 s (b := b1) (o := 0) rfl zkG bz) ?_
  refine zb8 r rfl (fun fr1 u w' hb' hd r' => ?_) ?_
  ·
   obtain ⟨d0, _⟩ := hd
   exact za3 r' (v := .func (.func nf) n1.toArray n2.toArray) d0 (keep hb' h1) to184 rfl ⟨Below.refl _ _, rfl⟩
  refine ec r (fun _ u _ b d s => zaa s rfl bz) ?_
  refine zb8 r rfl (fun fr1 u w' hb' hd r' => ?_) ?_
  ·
   obtain ⟨d0, d1, _⟩ := hd
   have zb := hb'.size
   have zb : w1.heap.size ≤ w'.heap.size := zb
   have hB' : Below w0.heap.size w0 w' := hB.trans (Below.mono (w := w1) ⟨hb'.os, hb'.tape, hb'.output, hb'.size, hb'.block⟩ hB.size)
   have d0 : u 1 = .func (.func nf) n1.toArray n2.toArray := d0
   have d1 : u 2 = .int .u64 x := d1
   refine zde r' (fs := n1) (cs := n2) d0 d1 hk.at_.1 ((hk.at_.2 n (Nat.lt_succ_self n) x w' (Same.below hB' hF) hB'.size).mono ?_)
   rintro _ w2 ⟨v, rfl, hb2, hr2⟩
   refine ⟨v, rfl, hb2, RepAt.zi6 (fun b h => Nat.lt_of_lt_of_le (hF b h) hB'.size) (by omega) hB'.size hb2 (Rep.mono ?_ (Same.refl _ _) (Nat.le_refl _) n _ _ hr2)⟩
   rintro b (h | h)
   · exact .inl (.inl h)
   · exact .inr h
  refine ec r (fun _ u _ b d s => za3 s rfl (keep b h2) to333 rfl bz) ?_
  exact zaR
 intro fr u w2 hb hΦ _ r
 obtain ⟨_, hr3, _, hr⟩ : RepAt Tryz.prog znj n (k x) F w0.heap.size b3 (u 3) w2 := hΦ 3 (by decide)
 have r := r.congr (sc (hΦ 4 (by decide)) rfl)
 have z2 := hb.size
 have h1 := keep hb h1
 have h2 := keep hb h2
 have h3 := keep hb h3
 have hB2 := hB.trans (hb.mono hB.size)
 have zB2 := hB2.size
 have hF1 : ∀ b, (fun b => F b ∨ (w0.heap.size ≤ b ∧ b < w2.heap.size ∧ b ≠ b3)) b → b < w2.heap.size := by rintro b (h | h); exact Nat.lt_of_lt_of_le (hF b h) hB2.size; exact h.2.1
 refine za7 r (ih (F := fun b => F b ∨ (w0.heap.size ≤ b ∧ b < w2.heap.size ∧ b ≠ b3)) hF1 hr (hg.mono (by omega) (fun b h => .inl h) (Same.below hB2 hF) hB2.size)
  (.inr (hg.mono (Nat.le_refl _) (fun b h => .inl h) (Same.below hB2 hF) hB2.size))) (fun R hc => zac r rfl cl372 hc) rfl ?_
 rintro _ w3 ⟨v2, rfl, hb2, hr2⟩
 refine ⟨_, rfl, fun fr r => ?_⟩
 have z3 := hb2.size
 have h3 := keep hb2 h3
 have hB3 := hB2.trans (hb2.mono hB2.size)
 refine zae (.cells v2.cells 283 (0, 0)) r (fun R => zaf r hr2.shape rfl rfl h3 ts283 rfl) rfl fun fr w4 u4 r => wn ?_
 have z4 := u4.size
 have h3 := u4.at_
 have hB4 := u4.below hB3 (by omega)
 refine wp_ret ?_
 have hs := hr2.shape.cells
 refine zad r rfl rfl h3 (k := 7) hs.1 ta283 ?_
 rw [← hs.2.2]
 exact znf.fin hB4 hr2 u4 (by rintro b (h | ⟨h1, h2, _⟩); exact .inl h; exact .inr ⟨h1, h2⟩) (by rintro (h | ⟨_, _, h⟩); (have := hF _ h; omega); exact h rfl) (by omega) (by omega) (by omega)

theorem zfN (n : Nat) : zdg n := by
  induction n using Nat.strongRecOn with
  | _ n ih =>
  intro F w0 hF t pv fv g hp hf hd
  obtain ⟨ff, f1, f2, hcf, rfl, hff⟩ := id hf
  cases t with
  | cut => unfold Rep at hp; exact hp.elim
  | done x0 =>
    have hf := hd.resolve_left (by intro h; cases h)
    unfold Rep at hp
    subst hp
    refine enter (l := [.agg (zna true (znj.cells x0) 0 0 0 0 .nilFunc), .func (.func ff) f1.toArray f2.toArray]) Tryz.func372 rfl 15 rfl rfl fun fr r => ?_
    have hB := Below.refl w0.heap.size w0
    refine wp_seq (wp_region_lit ?_)
    refine za5 (.cells (zna true (znj.cells x0) 0 0 0 0 .nilFunc) 186 (0, 0)) r (fun R => znm r (v := .agg (zna true (znj.cells x0) 0 0 0 0 .nilFunc)) rfl) rfl fun fr b1 w1 q1 r => ?_
    refine za5 (.cells #[.func (.func ff) f1.toArray f2.toArray] 333 (0, 0)) r (fun R => znm r (v := .func (.func ff) f1.toArray f2.toArray) rfl) rfl fun fr b2 w2 q2 r => ?_
    refine za5 (.cells (zna false encWord.zero 0 0 0 0 .nilFunc) 283 (0, 0)) r (fun R => zag tz283) rfl fun fr b3 w3 q3 r => wpList_nil ?_
    have h1 := keep q3.below (keep q2.below q1.at_)
    have h2 := keep q3.below q2.at_
    have h3 := q3.at_
    have e1 := q1.eq; have e2 := q2.eq; have e3 := q3.eq; have z1 := q1.size; have z2 := q2.size; have z3 := q3.size
    have hB := ((hB.trans q1.below).trans (q2.below.mono (by omega))).trans (q3.below.mono (by omega))
    have zB := hB.size
    refine wp_seq (wp_seq (wp_region_lit (za0 (.pointer (some ⟨b1, 0, none⟩)) r (fun R => za4 r (o := 0) rfl zh1) rfl fun fr r => ?_)))
    refine za0 (.bool true) r (fun R => za3 r (v := .bool true) rfl h1 to4 rfl) rfl fun fr r => wpList_nil ?_
    refine wp_cond_split (t := true) (r.ev rfl) (fun _ => ?_) (fun h => by cases h)
    refine wp_seq (wp_region_lit (za0 (.func (.func ff) f1.toArray f2.toArray) r (fun R => za3 r (v := .func (.func ff) f1.toArray f2.toArray) rfl h2 to333 rfl) rfl fun fr r => ?_))
    refine zkZ b1 1 r (fun R => zgd r rfl fz186 h1) rfl fun fr sp r => za0 (.agg #[]) r (fun R => zgY r rfl ta181) rfl fun fr r => ?_
    refine za7 r (hf.at_.2 n (Nat.lt_succ_self n) x0 w3 (Same.below hB hF) hB.size) (fun R hc => zfc r rfl rfl hf.at_.1 hc) rfl ?_
    rintro _ w4 ⟨v, rfl, hb, hr⟩
    refine ⟨_, rfl, fun fr r => ?_⟩
    have z4 := hb.size
    have h3 := keep hb h3
    have hB := hB.trans (hb.mono hB.size)
    refine zae (.cells v.cells 283 (0, 0)) r (fun R => zaf r hr.shape rfl rfl h3 ts283 rfl) rfl fun fr w5 u5 r => wpList_nil ?_
    have z5 := u5.size
    have h3 := u5.at_
    have hB := u5.below hB (by omega)
    refine wp_ret ?_
    have hs := hr.shape.cells
    refine zad r rfl rfl h3 (k := 7) hs.1 ta283 ?_
    rw [← hs.2.2]
    exact znf.fin hB hr u5 (fun b hb => .inl hb) (fun h => by have := hF _ h; omega) (by omega) (by omega) (by omega)
  | act op at_ a b k =>
    obtain ⟨nf, n1, n2, hcn, rfl, hk⟩ : ∃ (nf : FuncId) (n1 n2 : List Value), znb Tryz.prog nf = true ∧ pv = .agg (zna false znj.zero op at_ a b (.func (.func nf) n1.toArray n2.toArray)) ∧ FnT Tryz.prog znj u64 n F w0 (.func (.func nf) n1.toArray n2.toArray) k := by
      exact Rep.zes hp
    refine enter (l := [.agg (zna false znj.zero op at_ a b (.func (.func nf) n1.toArray n2.toArray)), .func (.func ff) f1.toArray f2.toArray]) Tryz.func372 rfl 15 rfl rfl fun fr r => ?_
    have hB := Below.refl w0.heap.size w0
    refine wp_seq (wp_region_lit ?_)
    refine za5 (.cells (zna false znj.zero op at_ a b (.func (.func nf) n1.toArray n2.toArray)) 186 (0, 0)) r (fun R => znm r (v := .agg (zna false znj.zero op at_ a b (.func (.func nf) n1.toArray n2.toArray))) rfl) rfl fun fr b1 w1 q1 r => ?_
    refine za5 (.cells #[.func (.func ff) f1.toArray f2.toArray] 333 (0, 0)) r (fun R => znm r (v := .func (.func ff) f1.toArray f2.toArray) rfl) rfl fun fr b2 w2 q2 r => ?_
    refine za5 (.cells (zna false encWord.zero 0 0 0 0 .nilFunc) 283 (0, 0)) r (fun R => zag tz283) rfl fun fr b3 w3 q3 r => wpList_nil ?_
    have h1 := keep q3.below (keep q2.below q1.at_)
    have h2 := keep q3.below q2.at_
    have h3 := q3.at_
    have e1 := q1.eq; have e2 := q2.eq; have e3 := q3.eq; have z1 := q1.size; have z2 := q2.size; have z3 := q3.size
    have hB := ((hB.trans q1.below).trans (q2.below.mono (by omega))).trans (q3.below.mono (by omega))
    have zB := hB.size
    refine wp_seq (wp_seq (wp_region_lit (za0 (.pointer (some ⟨b1, 0, none⟩)) r (fun R => za4 r (o := 0) rfl zh1) rfl fun fr r => ?_)))
    refine za0 (.bool false) r (fun R => za3 r (v := .bool false) rfl h1 to4 rfl) rfl fun fr r => wpList_nil ?_
    refine wp_cond_split (t := false) (r.ev rfl) (fun h => by cases h) (fun _ => wp_skip ?_)
    refine wp_seq (wp_region_lit (za0 (.pointer (some ⟨b1, 1, none⟩)) r (fun R => za4 r (o := 0) rfl zkw) rfl fun fr r => za0 (.agg (znk (⟨op, at_, a, b⟩ : Access)).toArray) r (fun R => za6 r (cs := (znk (⟨op, at_, a, b⟩ : Access))) (n := 4) rfl h1 ta36 rfl) rfl fun fr r => za0 (.func (.func 404) #[] #[.pointer (some ⟨b1, 0, none⟩), .pointer (some ⟨b2, 0, none⟩)]) r (fun R => zan r rfl) rfl fun fr r => ?_))
    have hF1 : ∀ b, (fun b => F b ∨ b = b1 ∨ b = b2) b → b < w3.heap.size := by rintro b (h | h | h); exact Nat.lt_of_lt_of_le (hF b h) hB.size; omega; omega
    refine za7 r (zfS (F := fun b => F b ∨ b = b1 ∨ b = b2) (n := n) hF1 ⟨op, at_, a, b⟩ (a1 := fun x => (k x).bind g) (show FnT Tryz.prog encWord u64 n (fun b => F b ∨ b = b1 ∨ b = b2) w3 (.func (.func 404) ([] : List Value).toArray [Value.pointer (some ⟨b1, 0, none⟩), .pointer (some ⟨b2, 0, none⟩)].toArray) (fun x => (k x).bind g) from
      ⟨404, [], [.pointer (some ⟨b1, 0, none⟩), .pointer (some ⟨b2, 0, none⟩)], cl404, rfl, fun m hm x w' hs hz => zfC (ih m hm) (fun b hb => Nat.lt_of_lt_of_le (hF1 b hb) hz) (.inr (.inl rfl)) (hs.at_ (.inr (.inl rfl)) h1) (.inr (.inr rfl)) (hs.at_ (.inr (.inr rfl)) h2)
        (hk.mono (by omega) (fun b h => .inl h) ((Same.below hB hF).trans (hs.sub (fun b h => .inl h))) (Nat.le_trans hB.size hz)) (hf.mono (by omega) (fun b h => .inl h) ((Same.below hB hF).trans (hs.sub (fun b h => .inl h))) (Nat.le_trans hB.size hz)) x⟩)) (fun R hc => zac r rfl cl370 hc) rfl ?_
    rintro _ w4 ⟨v, rfl, hb, hr⟩
    refine ⟨_, rfl, fun fr r => ?_⟩
    have z4 := hb.size
    have h3 := keep hb h3
    have hB := hB.trans (hb.mono hB.size)
    refine zae (.cells v.cells 283 (0, 0)) r (fun R => zaf r hr.shape rfl rfl h3 ts283 rfl) rfl fun fr w5 u5 r => wpList_nil ?_
    have z5 := u5.size
    have h3 := u5.at_
    have hB := u5.below hB (by omega)
    refine wp_ret ?_
    have hs := hr.shape.cells
    refine zad r rfl rfl h3 (k := 7) hs.1 ta283 ?_
    rw [← hs.2.2]
    exact znf.fin hB hr u5 (by rintro b (h | h | h); exact .inl h; exact .inr ⟨by omega, by omega⟩; exact .inr ⟨by omega, by omega⟩) (by rintro (h | h | h); (have := hF _ h; omega); omega; omega) (by omega) (by omega) (by omega)

theorem zeU {n : Nat} {F : Nat → Prop} {w0 : World} (hF : ∀ b, F b → b < w0.heap.size) {t : T (Unit)} {pv fv : Value} {g : Unit → T (Int)} (hp : Rep Tryz.prog znj n t F w0 pv) (hf : FnT Tryz.prog encWord noneE (n + 1) F w0 fv g) :
    Calls Tryz.prog 372 #[pv, fv] w0 (znf Tryz.prog encWord n (t.bind g) F w0) := zfN n hF hp (hf.mono (by omega) (fun b h => h) (Same.refl _ _) (Nat.le_refl _)) (.inr hf)

def zdH (n : Nat) : Prop := ∀ {F : Nat → Prop} {w0 : World}, (∀ b, F b → b < w0.heap.size) → ∀ {t : T (Int)} {pv fv : Value} {g : Int → T (Grant)}, Rep Tryz.prog zng n t F w0 pv → FnT Tryz.prog znn i64 n F w0 fv g →
    (t.isDone = false ∨ FnT Tryz.prog znn i64 (n + 1) F w0 fv g) → Calls Tryz.prog 190 #[pv, fv] w0 (znf Tryz.prog znn n (t.bind g) F w0)

theorem zg1 {n : Nat} (ih : zdH n) {F : Nat → Prop} {w0 : World} (hF : ∀ b, F b → b < w0.heap.size) {op at_ a b : Int} {nf : FuncId} {n1 n2 : List Value} {k : Int → T (Int)} {ff : FuncId} {f1 f2 : List Value} {g : Int → T (Grant)}
    {b1 b2 : Nat} (F1 : F b1) (h1 : w0.heap[b1]? = some (.cells (zna false zng.zero op at_ a b (.func (.func nf) n1.toArray n2.toArray)) 167 (0, 0))) (F2 : F b2) (h2 : w0.heap[b2]? = some (.cells #[.func (.func ff) f1.toArray f2.toArray] 246 (0, 0)))
    (hk : FnT Tryz.prog zng u64 (n + 1) F w0 (.func (.func nf) n1.toArray n2.toArray) k) (hg : FnT Tryz.prog znn i64 (n + 1) F w0 (.func (.func ff) f1.toArray f2.toArray) g) (x : Int) :
    Calls Tryz.prog 287 #[.int .u64 x, .pointer (some ⟨b1, 0, none⟩), .pointer (some ⟨b2, 0, none⟩)] w0 (znf Tryz.prog znn n ((k x).bind g) F w0) := by
 refine enter Tryz.func287 rfl 11 rfl rfl fun fr r => ?_
 have hB := Below.refl w0.heap.size w0
 refine wp_seq (wp_region_lit ?_)
 refine za5 (.cells (zna false znn.zero 0 0 0 0 .nilFunc) 158 (0, 0)) r (fun R => zag tz158) rfl fun fr b3 w1 q1 r => wn ?_
 have h1 := keep q1.below h1
 have h2 := keep q1.below h2
 have e3 := q1.eq
 have z1 := q1.size
 have h3 := q1.at_
 have hB := hB.trans (q1.below.mono hB.size)
 have zB := hB.size
 refine wp_seq ?_
 refine zaG 5 [.val (.pointer (some ⟨b1, 6, none⟩)), .val (.func (.func nf) n1.toArray n2.toArray), .val (U x), .pred (RepAt Tryz.prog zng n (k x) F w0.heap.size b3) RepAt.stable, .val (.func (.func ff) f1.toArray f2.toArray)] mixed r (by kernel_rfl) (za1 trivial (za1 trivial (za1 trivial (za1 trivial (za1 trivial zaz))))) ?_ ?_
 ·
  refine ec r (fun _ u _ b d s => za4 s (b := b1) (o := 0) rfl zkm bz) ?_
  refine zb8 r rfl (fun fr1 u w' hb' hd r' => ?_) ?_
  ·
   obtain ⟨d0, _⟩ := hd
   exact za3 r' (v := .func (.func nf) n1.toArray n2.toArray) d0 (keep hb' h1) to165 rfl ⟨Below.refl _ _, rfl⟩
  refine ec r (fun _ u _ b d s => zaa s rfl bz) ?_
  refine zb8 r rfl (fun fr1 u w' hb' hd r' => ?_) ?_
  ·
   obtain ⟨d0, d1, _⟩ := hd
   have zb := hb'.size
   have zb : w1.heap.size ≤ w'.heap.size := zb
   have hB' : Below w0.heap.size w0 w' := hB.trans (Below.mono (w := w1) ⟨hb'.os, hb'.tape, hb'.output, hb'.size, hb'.block⟩ hB.size)
   have d0 : u 1 = .func (.func nf) n1.toArray n2.toArray := d0
   have d1 : u 2 = .int .u64 x := d1
   refine zde r' (fs := n1) (cs := n2) d0 d1 hk.at_.1 ((hk.at_.2 n (Nat.lt_succ_self n) x w' (Same.below hB' hF) hB'.size).mono ?_)
   rintro _ w2 ⟨v, rfl, hb2, hr2⟩
   refine ⟨v, rfl, hb2, RepAt.zi6 (fun b h => Nat.lt_of_lt_of_le (hF b h) hB'.size) (by omega) hB'.size hb2 (Rep.mono ?_ (Same.refl _ _) (Nat.le_refl _) n _ _ hr2)⟩
   rintro b (h | h)
   · exact .inl (.inl h)
   · exact .inr h
  refine ec r (fun _ u _ b d s => za3 s rfl (keep b h2) to246 rfl bz) ?_
  exact zaR
 intro fr u w2 hb hΦ _ r
 obtain ⟨_, hr3, _, hr⟩ : RepAt Tryz.prog zng n (k x) F w0.heap.size b3 (u 3) w2 := hΦ 3 (by decide)
 have r := r.congr (sc (hΦ 4 (by decide)) rfl)
 have z2 := hb.size
 have h1 := keep hb h1
 have h2 := keep hb h2
 have h3 := keep hb h3
 have hB2 := hB.trans (hb.mono hB.size)
 have zB2 := hB2.size
 have hF1 : ∀ b, (fun b => F b ∨ (w0.heap.size ≤ b ∧ b < w2.heap.size ∧ b ≠ b3)) b → b < w2.heap.size := by rintro b (h | h); exact Nat.lt_of_lt_of_le (hF b h) hB2.size; exact h.2.1
 refine za7 r (ih (F := fun b => F b ∨ (w0.heap.size ≤ b ∧ b < w2.heap.size ∧ b ≠ b3)) hF1 hr (hg.mono (by omega) (fun b h => .inl h) (Same.below hB2 hF) hB2.size)
  (.inr (hg.mono (Nat.le_refl _) (fun b h => .inl h) (Same.below hB2 hF) hB2.size))) (fun R hc => zac r rfl cl190 hc) rfl ?_
 rintro _ w3 ⟨v2, rfl, hb2, hr2⟩
 refine ⟨_, rfl, fun fr r => ?_⟩
 have z3 := hb2.size
 have h3 := keep hb2 h3
 have hB3 := hB2.trans (hb2.mono hB2.size)
 refine zae (.cells v2.cells 158 (0, 0)) r (fun R => zaf r hr2.shape rfl rfl h3 ts158 rfl) rfl fun fr w4 u4 r => wn ?_
 have z4 := u4.size
 have h3 := u4.at_
 have hB4 := u4.below hB3 (by omega)
 refine wp_ret ?_
 have hs := hr2.shape.cells
 refine zad r rfl rfl h3 (k := 9) hs.1 ta158 ?_
 rw [← hs.2.2]
 exact znf.fin hB4 hr2 u4 (by rintro b (h | ⟨h1, h2, _⟩); exact .inl h; exact .inr ⟨h1, h2⟩) (by rintro (h | ⟨_, _, h⟩); (have := hF _ h; omega); exact h rfl) (by omega) (by omega) (by omega)

theorem zgl (n : Nat) : zdH n := by
  induction n using Nat.strongRecOn with
  | _ n ih =>
  intro F w0 hF t pv fv g hp hf hd
  obtain ⟨ff, f1, f2, hcf, rfl, hff⟩ := id hf
  cases t with
  | cut => unfold Rep at hp; exact hp.elim
  | done x0 =>
    have hf := hd.resolve_left (by intro h; cases h)
    unfold Rep at hp
    subst hp
    refine enter (l := [.agg (zna true (zng.cells x0) 0 0 0 0 .nilFunc), .func (.func ff) f1.toArray f2.toArray]) Tryz.func190 rfl 15 rfl rfl fun fr r => ?_
    have hB := Below.refl w0.heap.size w0
    refine wp_seq (wp_region_lit ?_)
    refine za5 (.cells (zna true (zng.cells x0) 0 0 0 0 .nilFunc) 167 (0, 0)) r (fun R => znm r (v := .agg (zna true (zng.cells x0) 0 0 0 0 .nilFunc)) rfl) rfl fun fr b1 w1 q1 r => ?_
    refine za5 (.cells #[.func (.func ff) f1.toArray f2.toArray] 246 (0, 0)) r (fun R => znm r (v := .func (.func ff) f1.toArray f2.toArray) rfl) rfl fun fr b2 w2 q2 r => ?_
    refine za5 (.cells (zna false znn.zero 0 0 0 0 .nilFunc) 158 (0, 0)) r (fun R => zag tz158) rfl fun fr b3 w3 q3 r => wpList_nil ?_
    have h1 := keep q3.below (keep q2.below q1.at_)
    have h2 := keep q3.below q2.at_
    have h3 := q3.at_
    have e1 := q1.eq; have e2 := q2.eq; have e3 := q3.eq; have z1 := q1.size; have z2 := q2.size; have z3 := q3.size
    have hB := ((hB.trans q1.below).trans (q2.below.mono (by omega))).trans (q3.below.mono (by omega))
    have zB := hB.size
    refine wp_seq (wp_seq (wp_region_lit (za0 (.pointer (some ⟨b1, 0, none⟩)) r (fun R => za4 r (o := 0) rfl zhF) rfl fun fr r => ?_)))
    refine za0 (.bool true) r (fun R => za3 r (v := .bool true) rfl h1 to4 rfl) rfl fun fr r => wpList_nil ?_
    refine wp_cond_split (t := true) (r.ev rfl) (fun _ => ?_) (fun h => by cases h)
    refine wp_seq (wp_region_lit (za0 (.func (.func ff) f1.toArray f2.toArray) r (fun R => za3 r (v := .func (.func ff) f1.toArray f2.toArray) rfl h2 to246 rfl) rfl fun fr r => za0 (.pointer (some ⟨b1, 1, none⟩)) r (fun R => za4 r (o := 0) rfl zkr) rfl fun fr r => za0 (.int .i64 x0) r (fun R => za3 r (v := (.int .i64 x0)) rfl h1 to3 rfl) rfl fun fr r => ?_))
    refine za7 r (hf.at_.2 n (Nat.lt_succ_self n) x0 w3 (Same.below hB hF) hB.size) (fun R hc => zfc r rfl rfl hf.at_.1 hc) rfl ?_
    rintro _ w4 ⟨v, rfl, hb, hr⟩
    refine ⟨_, rfl, fun fr r => ?_⟩
    have z4 := hb.size
    have h3 := keep hb h3
    have hB := hB.trans (hb.mono hB.size)
    refine zae (.cells v.cells 158 (0, 0)) r (fun R => zaf r hr.shape rfl rfl h3 ts158 rfl) rfl fun fr w5 u5 r => wpList_nil ?_
    have z5 := u5.size
    have h3 := u5.at_
    have hB := u5.below hB (by omega)
    refine wp_ret ?_
    have hs := hr.shape.cells
    refine zad r rfl rfl h3 (k := 9) hs.1 ta158 ?_
    rw [← hs.2.2]
    exact znf.fin hB hr u5 (fun b hb => .inl hb) (fun h => by have := hF _ h; omega) (by omega) (by omega) (by omega)
  | act op at_ a b k =>
    obtain ⟨nf, n1, n2, hcn, rfl, hk⟩ : ∃ (nf : FuncId) (n1 n2 : List Value), znb Tryz.prog nf = true ∧ pv = .agg (zna false zng.zero op at_ a b (.func (.func nf) n1.toArray n2.toArray)) ∧ FnT Tryz.prog zng u64 n F w0 (.func (.func nf) n1.toArray n2.toArray) k := by
      exact Rep.zes hp
    refine enter (l := [.agg (zna false zng.zero op at_ a b (.func (.func nf) n1.toArray n2.toArray)), .func (.func ff) f1.toArray f2.toArray]) Tryz.func190 rfl 15 rfl rfl fun fr r => ?_
    have hB := Below.refl w0.heap.size w0
    refine wp_seq (wp_region_lit ?_)
    refine za5 (.cells (zna false zng.zero op at_ a b (.func (.func nf) n1.toArray n2.toArray)) 167 (0, 0)) r (fun R => znm r (v := .agg (zna false zng.zero op at_ a b (.func (.func nf) n1.toArray n2.toArray))) rfl) rfl fun fr b1 w1 q1 r => ?_
    refine za5 (.cells #[.func (.func ff) f1.toArray f2.toArray] 246 (0, 0)) r (fun R => znm r (v := .func (.func ff) f1.toArray f2.toArray) rfl) rfl fun fr b2 w2 q2 r => ?_
    refine za5 (.cells (zna false znn.zero 0 0 0 0 .nilFunc) 158 (0, 0)) r (fun R => zag tz158) rfl fun fr b3 w3 q3 r => wpList_nil ?_
    have h1 := keep q3.below (keep q2.below q1.at_)
    have h2 := keep q3.below q2.at_
    have h3 := q3.at_
    have e1 := q1.eq; have e2 := q2.eq; have e3 := q3.eq; have z1 := q1.size; have z2 := q2.size; have z3 := q3.size
    have hB := ((hB.trans q1.below).trans (q2.below.mono (by omega))).trans (q3.below.mono (by omega))
    have zB := hB.size
    refine wp_seq (wp_seq (wp_region_lit (za0 (.pointer (some ⟨b1, 0, none⟩)) r (fun R => za4 r (o := 0) rfl zhF) rfl fun fr r => ?_)))
    refine za0 (.bool false) r (fun R => za3 r (v := .bool false) rfl h1 to4 rfl) rfl fun fr r => wpList_nil ?_
    refine wp_cond_split (t := false) (r.ev rfl) (fun h => by cases h) (fun _ => wp_skip ?_)
    refine wp_seq (wp_region_lit (za0 (.pointer (some ⟨b1, 2, none⟩)) r (fun R => za4 r (o := 0) rfl zkn) rfl fun fr r => za0 (.agg (znk (⟨op, at_, a, b⟩ : Access)).toArray) r (fun R => za6 r (cs := (znk (⟨op, at_, a, b⟩ : Access))) (n := 4) rfl h1 ta36 rfl) rfl fun fr r => za0 (.func (.func 287) #[] #[.pointer (some ⟨b1, 0, none⟩), .pointer (some ⟨b2, 0, none⟩)]) r (fun R => zan r rfl) rfl fun fr r => ?_))
    have hF1 : ∀ b, (fun b => F b ∨ b = b1 ∨ b = b2) b → b < w3.heap.size := by rintro b (h | h | h); exact Nat.lt_of_lt_of_le (hF b h) hB.size; omega; omega
    refine za7 r (zeM (F := fun b => F b ∨ b = b1 ∨ b = b2) (n := n) hF1 ⟨op, at_, a, b⟩ (a1 := fun x => (k x).bind g) (show FnT Tryz.prog znn u64 n (fun b => F b ∨ b = b1 ∨ b = b2) w3 (.func (.func 287) ([] : List Value).toArray [Value.pointer (some ⟨b1, 0, none⟩), .pointer (some ⟨b2, 0, none⟩)].toArray) (fun x => (k x).bind g) from
      ⟨287, [], [.pointer (some ⟨b1, 0, none⟩), .pointer (some ⟨b2, 0, none⟩)], cl287, rfl, fun m hm x w' hs hz => zg1 (ih m hm) (fun b hb => Nat.lt_of_lt_of_le (hF1 b hb) hz) (.inr (.inl rfl)) (hs.at_ (.inr (.inl rfl)) h1) (.inr (.inr rfl)) (hs.at_ (.inr (.inr rfl)) h2)
        (hk.mono (by omega) (fun b h => .inl h) ((Same.below hB hF).trans (hs.sub (fun b h => .inl h))) (Nat.le_trans hB.size hz)) (hf.mono (by omega) (fun b h => .inl h) ((Same.below hB hF).trans (hs.sub (fun b h => .inl h))) (Nat.le_trans hB.size hz)) x⟩)) (fun R hc => zac r rfl cl286 hc) rfl ?_
    rintro _ w4 ⟨v, rfl, hb, hr⟩
    refine ⟨_, rfl, fun fr r => ?_⟩
    have z4 := hb.size
    have h3 := keep hb h3
    have hB := hB.trans (hb.mono hB.size)
    refine zae (.cells v.cells 158 (0, 0)) r (fun R => zaf r hr.shape rfl rfl h3 ts158 rfl) rfl fun fr w5 u5 r => wpList_nil ?_
    have z5 := u5.size
    have h3 := u5.at_
    have hB := u5.below hB (by omega)
    refine wp_ret ?_
    have hs := hr.shape.cells
    refine zad r rfl rfl h3 (k := 9) hs.1 ta158 ?_
    rw [← hs.2.2]
    exact znf.fin hB hr u5 (by rintro b (h | h | h); exact .inl h; exact .inr ⟨by omega, by omega⟩; exact .inr ⟨by omega, by omega⟩) (by rintro (h | h | h); (have := hF _ h; omega); omega; omega) (by omega) (by omega) (by omega)

theorem zcq {n : Nat} {F : Nat → Prop} {w0 : World} (hF : ∀ b, F b → b < w0.heap.size) {t : T (Int)} {pv fv : Value} {g : Int → T (Grant)} (hp : Rep Tryz.prog zng n t F w0 pv) (hf : FnT Tryz.prog znn i64 (n + 1) F w0 fv g) :
    Calls Tryz.prog 190 #[pv, fv] w0 (znf Tryz.prog znn n (t.bind g) F w0) := zgl n hF hp (hf.mono (by omega) (fun b h => h) (Same.refl _ _) (Nat.le_refl _)) (.inr hf)

def zdZ (n : Nat) : Prop := ∀ {F : Nat → Prop} {w0 : World}, (∀ b, F b → b < w0.heap.size) → ∀ {t : T (Int)} {pv fv : Value} {g : Int → T (Res)}, Rep Tryz.prog zng n t F w0 pv → FnT Tryz.prog zne i64 n F w0 fv g →
    (t.isDone = false ∨ FnT Tryz.prog zne i64 (n + 1) F w0 fv g) → Calls Tryz.prog 132 #[pv, fv] w0 (znf Tryz.prog zne n (t.bind g) F w0)

theorem zh5 {n : Nat} (ih : zdZ n) {F : Nat → Prop} {w0 : World} (hF : ∀ b, F b → b < w0.heap.size) {op at_ a b : Int} {nf : FuncId} {n1 n2 : List Value} {k : Int → T (Int)} {ff : FuncId} {f1 f2 : List Value} {g : Int → T (Res)}
    {b1 b2 : Nat} (F1 : F b1) (h1 : w0.heap[b1]? = some (.cells (zna false zng.zero op at_ a b (.func (.func nf) n1.toArray n2.toArray)) 167 (0, 0))) (F2 : F b2) (h2 : w0.heap[b2]? = some (.cells #[.func (.func ff) f1.toArray f2.toArray] 204 (0, 0)))
    (hk : FnT Tryz.prog zng u64 (n + 1) F w0 (.func (.func nf) n1.toArray n2.toArray) k) (hg : FnT Tryz.prog zne i64 (n + 1) F w0 (.func (.func ff) f1.toArray f2.toArray) g) (x : Int) :
    Calls Tryz.prog 227 #[.int .u64 x, .pointer (some ⟨b1, 0, none⟩), .pointer (some ⟨b2, 0, none⟩)] w0 (znf Tryz.prog zne n ((k x).bind g) F w0) := by
 refine enter Tryz.func227 rfl 11 rfl rfl fun fr r => ?_
 have hB := Below.refl w0.heap.size w0
 refine wp_seq (wp_region_lit ?_)
 refine za5 (.cells (zna false zne.zero 0 0 0 0 .nilFunc) 39 (0, 0)) r (fun R => zag tz39) rfl fun fr b3 w1 q1 r => wn ?_
 have h1 := keep q1.below h1
 have h2 := keep q1.below h2
 have e3 := q1.eq
 have z1 := q1.size
 have h3 := q1.at_
 have hB := hB.trans (q1.below.mono hB.size)
 have zB := hB.size
 refine wp_seq ?_
 refine zaG 5 [.val (.pointer (some ⟨b1, 6, none⟩)), .val (.func (.func nf) n1.toArray n2.toArray), .val (U x), .pred (RepAt Tryz.prog zng n (k x) F w0.heap.size b3) RepAt.stable, .val (.func (.func ff) f1.toArray f2.toArray)] mixed r (by kernel_rfl) (za1 trivial (za1 trivial (za1 trivial (za1 trivial (za1 trivial zaz))))) ?_ ?_
 ·
  refine ec r (fun _ u _ b d s => za4 s (b := b1) (o := 0) rfl zkm bz) ?_
  refine zb8 r rfl (fun fr1 u w' hb' hd r' => ?_) ?_
  ·
   obtain ⟨d0, _⟩ := hd
   exact za3 r' (v := .func (.func nf) n1.toArray n2.toArray) d0 (keep hb' h1) to165 rfl ⟨Below.refl _ _, rfl⟩
  refine ec r (fun _ u _ b d s => zaa s rfl bz) ?_
  refine zb8 r rfl (fun fr1 u w' hb' hd r' => ?_) ?_
  ·
   obtain ⟨d0, d1, _⟩ := hd
   have zb := hb'.size
   have zb : w1.heap.size ≤ w'.heap.size := zb
   have hB' : Below w0.heap.size w0 w' := hB.trans (Below.mono (w := w1) ⟨hb'.os, hb'.tape, hb'.output, hb'.size, hb'.block⟩ hB.size)
   have d0 : u 1 = .func (.func nf) n1.toArray n2.toArray := d0
   have d1 : u 2 = .int .u64 x := d1
   refine zde r' (fs := n1) (cs := n2) d0 d1 hk.at_.1 ((hk.at_.2 n (Nat.lt_succ_self n) x w' (Same.below hB' hF) hB'.size).mono ?_)
   rintro _ w2 ⟨v, rfl, hb2, hr2⟩
   refine ⟨v, rfl, hb2, RepAt.zi6 (fun b h => Nat.lt_of_lt_of_le (hF b h) hB'.size) (by omega) hB'.size hb2 (Rep.mono ?_ (Same.refl _ _) (Nat.le_refl _) n _ _ hr2)⟩
   rintro b (h | h)
   · exact .inl (.inl h)
   · exact .inr h
  refine ec r (fun _ u _ b d s => za3 s rfl (keep b h2) to204 rfl bz) ?_
  exact zaR
 intro fr u w2 hb hΦ _ r
 obtain ⟨_, hr3, _, hr⟩ : RepAt Tryz.prog zng n (k x) F w0.heap.size b3 (u 3) w2 := hΦ 3 (by decide)
 have r := r.congr (sc (hΦ 4 (by decide)) rfl)
 have z2 := hb.size
 have h1 := keep hb h1
 have h2 := keep hb h2
 have h3 := keep hb h3
 have hB2 := hB.trans (hb.mono hB.size)
 have zB2 := hB2.size
 have hF1 : ∀ b, (fun b => F b ∨ (w0.heap.size ≤ b ∧ b < w2.heap.size ∧ b ≠ b3)) b → b < w2.heap.size := by rintro b (h | h); exact Nat.lt_of_lt_of_le (hF b h) hB2.size; exact h.2.1
 refine za7 r (ih (F := fun b => F b ∨ (w0.heap.size ≤ b ∧ b < w2.heap.size ∧ b ≠ b3)) hF1 hr (hg.mono (by omega) (fun b h => .inl h) (Same.below hB2 hF) hB2.size)
  (.inr (hg.mono (Nat.le_refl _) (fun b h => .inl h) (Same.below hB2 hF) hB2.size))) (fun R hc => zac r rfl cl132 hc) rfl ?_
 rintro _ w3 ⟨v2, rfl, hb2, hr2⟩
 refine ⟨_, rfl, fun fr r => ?_⟩
 have z3 := hb2.size
 have h3 := keep hb2 h3
 have hB3 := hB2.trans (hb2.mono hB2.size)
 refine zae (.cells v2.cells 39 (0, 0)) r (fun R => zaf r hr2.shape rfl rfl h3 ts39 rfl) rfl fun fr w4 u4 r => wn ?_
 have z4 := u4.size
 have h3 := u4.at_
 have hB4 := u4.below hB3 (by omega)
 refine wp_ret ?_
 have hs := hr2.shape.cells
 refine zad r rfl rfl h3 (k := 8) hs.1 ta39 ?_
 rw [← hs.2.2]
 exact znf.fin hB4 hr2 u4 (by rintro b (h | ⟨h1, h2, _⟩); exact .inl h; exact .inr ⟨h1, h2⟩) (by rintro (h | ⟨_, _, h⟩); (have := hF _ h; omega); exact h rfl) (by omega) (by omega) (by omega)

theorem zgW (n : Nat) : zdZ n := by
  induction n using Nat.strongRecOn with
  | _ n ih =>
  intro F w0 hF t pv fv g hp hf hd
  obtain ⟨ff, f1, f2, hcf, rfl, hff⟩ := id hf
  cases t with
  | cut => unfold Rep at hp; exact hp.elim
  | done x0 =>
    have hf := hd.resolve_left (by intro h; cases h)
    unfold Rep at hp
    subst hp
    refine enter (l := [.agg (zna true (zng.cells x0) 0 0 0 0 .nilFunc), .func (.func ff) f1.toArray f2.toArray]) Tryz.func132 rfl 15 rfl rfl fun fr r => ?_
    have hB := Below.refl w0.heap.size w0
    refine wp_seq (wp_region_lit ?_)
    refine za5 (.cells (zna true (zng.cells x0) 0 0 0 0 .nilFunc) 167 (0, 0)) r (fun R => znm r (v := .agg (zna true (zng.cells x0) 0 0 0 0 .nilFunc)) rfl) rfl fun fr b1 w1 q1 r => ?_
    refine za5 (.cells #[.func (.func ff) f1.toArray f2.toArray] 204 (0, 0)) r (fun R => znm r (v := .func (.func ff) f1.toArray f2.toArray) rfl) rfl fun fr b2 w2 q2 r => ?_
    refine za5 (.cells (zna false zne.zero 0 0 0 0 .nilFunc) 39 (0, 0)) r (fun R => zag tz39) rfl fun fr b3 w3 q3 r => wpList_nil ?_
    have h1 := keep q3.below (keep q2.below q1.at_)
    have h2 := keep q3.below q2.at_
    have h3 := q3.at_
    have e1 := q1.eq; have e2 := q2.eq; have e3 := q3.eq; have z1 := q1.size; have z2 := q2.size; have z3 := q3.size
    have hB := ((hB.trans q1.below).trans (q2.below.mono (by omega))).trans (q3.below.mono (by omega))
    have zB := hB.size
    refine wp_seq (wp_seq (wp_region_lit (za0 (.pointer (some ⟨b1, 0, none⟩)) r (fun R => za4 r (o := 0) rfl zhF) rfl fun fr r => ?_)))
    refine za0 (.bool true) r (fun R => za3 r (v := .bool true) rfl h1 to4 rfl) rfl fun fr r => wpList_nil ?_
    refine wp_cond_split (t := true) (r.ev rfl) (fun _ => ?_) (fun h => by cases h)
    refine wp_seq (wp_region_lit (za0 (.func (.func ff) f1.toArray f2.toArray) r (fun R => za3 r (v := .func (.func ff) f1.toArray f2.toArray) rfl h2 to204 rfl) rfl fun fr r => za0 (.pointer (some ⟨b1, 1, none⟩)) r (fun R => za4 r (o := 0) rfl zkr) rfl fun fr r => za0 (.int .i64 x0) r (fun R => za3 r (v := (.int .i64 x0)) rfl h1 to3 rfl) rfl fun fr r => ?_))
    refine za7 r (hf.at_.2 n (Nat.lt_succ_self n) x0 w3 (Same.below hB hF) hB.size) (fun R hc => zfc r rfl rfl hf.at_.1 hc) rfl ?_
    rintro _ w4 ⟨v, rfl, hb, hr⟩
    refine ⟨_, rfl, fun fr r => ?_⟩
    have z4 := hb.size
    have h3 := keep hb h3
    have hB := hB.trans (hb.mono hB.size)
    refine zae (.cells v.cells 39 (0, 0)) r (fun R => zaf r hr.shape rfl rfl h3 ts39 rfl) rfl fun fr w5 u5 r => wpList_nil ?_
    have z5 := u5.size
    have h3 := u5.at_
    have hB := u5.below hB (by omega)
    refine wp_ret ?_
    have hs := hr.shape.cells
    refine zad r rfl rfl h3 (k := 8) hs.1 ta39 ?_
    rw [← hs.2.2]
    exact znf.fin hB hr u5 (fun b hb => .inl hb) (fun h => by have := hF _ h; omega) (by omega) (by omega) (by omega)
  | act op at_ a b k =>
    obtain ⟨nf, n1, n2, hcn, rfl, hk⟩ : ∃ (nf : FuncId) (n1 n2 : List Value), znb Tryz.prog nf = true ∧ pv = .agg (zna false zng.zero op at_ a b (.func (.func nf) n1.toArray n2.toArray)) ∧ FnT Tryz.prog zng u64 n F w0 (.func (.func nf) n1.toArray n2.toArray) k := by
      exact Rep.zes hp
    refine enter (l := [.agg (zna false zng.zero op at_ a b (.func (.func nf) n1.toArray n2.toArray)), .func (.func ff) f1.toArray f2.toArray]) Tryz.func132 rfl 15 rfl rfl fun fr r => ?_
    have hB := Below.refl w0.heap.size w0
    refine wp_seq (wp_region_lit ?_)
    refine za5 (.cells (zna false zng.zero op at_ a b (.func (.func nf) n1.toArray n2.toArray)) 167 (0, 0)) r (fun R => znm r (v := .agg (zna false zng.zero op at_ a b (.func (.func nf) n1.toArray n2.toArray))) rfl) rfl fun fr b1 w1 q1 r => ?_
    refine za5 (.cells #[.func (.func ff) f1.toArray f2.toArray] 204 (0, 0)) r (fun R => znm r (v := .func (.func ff) f1.toArray f2.toArray) rfl) rfl fun fr b2 w2 q2 r => ?_
    refine za5 (.cells (zna false zne.zero 0 0 0 0 .nilFunc) 39 (0, 0)) r (fun R => zag tz39) rfl fun fr b3 w3 q3 r => wpList_nil ?_
    have h1 := keep q3.below (keep q2.below q1.at_)
    have h2 := keep q3.below q2.at_
    have h3 := q3.at_
    have e1 := q1.eq; have e2 := q2.eq; have e3 := q3.eq; have z1 := q1.size; have z2 := q2.size; have z3 := q3.size
    have hB := ((hB.trans q1.below).trans (q2.below.mono (by omega))).trans (q3.below.mono (by omega))
    have zB := hB.size
    refine wp_seq (wp_seq (wp_region_lit (za0 (.pointer (some ⟨b1, 0, none⟩)) r (fun R => za4 r (o := 0) rfl zhF) rfl fun fr r => ?_)))
    refine za0 (.bool false) r (fun R => za3 r (v := .bool false) rfl h1 to4 rfl) rfl fun fr r => wpList_nil ?_
    refine wp_cond_split (t := false) (r.ev rfl) (fun h => by cases h) (fun _ => wp_skip ?_)
    refine wp_seq (wp_region_lit (za0 (.pointer (some ⟨b1, 2, none⟩)) r (fun R => za4 r (o := 0) rfl zkn) rfl fun fr r => za0 (.agg (znk (⟨op, at_, a, b⟩ : Access)).toArray) r (fun R => za6 r (cs := (znk (⟨op, at_, a, b⟩ : Access))) (n := 4) rfl h1 ta36 rfl) rfl fun fr r => za0 (.func (.func 227) #[] #[.pointer (some ⟨b1, 0, none⟩), .pointer (some ⟨b2, 0, none⟩)]) r (fun R => zan r rfl) rfl fun fr r => ?_))
    have hF1 : ∀ b, (fun b => F b ∨ b = b1 ∨ b = b2) b → b < w3.heap.size := by rintro b (h | h | h); exact Nat.lt_of_lt_of_le (hF b h) hB.size; omega; omega
    refine za7 r (zcC (F := fun b => F b ∨ b = b1 ∨ b = b2) (n := n) hF1 ⟨op, at_, a, b⟩ (a1 := fun x => (k x).bind g) (show FnT Tryz.prog zne u64 n (fun b => F b ∨ b = b1 ∨ b = b2) w3 (.func (.func 227) ([] : List Value).toArray [Value.pointer (some ⟨b1, 0, none⟩), .pointer (some ⟨b2, 0, none⟩)].toArray) (fun x => (k x).bind g) from
      ⟨227, [], [.pointer (some ⟨b1, 0, none⟩), .pointer (some ⟨b2, 0, none⟩)], cl227, rfl, fun m hm x w' hs hz => zh5 (ih m hm) (fun b hb => Nat.lt_of_lt_of_le (hF1 b hb) hz) (.inr (.inl rfl)) (hs.at_ (.inr (.inl rfl)) h1) (.inr (.inr rfl)) (hs.at_ (.inr (.inr rfl)) h2)
        (hk.mono (by omega) (fun b h => .inl h) ((Same.below hB hF).trans (hs.sub (fun b h => .inl h))) (Nat.le_trans hB.size hz)) (hf.mono (by omega) (fun b h => .inl h) ((Same.below hB hF).trans (hs.sub (fun b h => .inl h))) (Nat.le_trans hB.size hz)) x⟩)) (fun R hc => zac r rfl cl212 hc) rfl ?_
    rintro _ w4 ⟨v, rfl, hb, hr⟩
    refine ⟨_, rfl, fun fr r => ?_⟩
    have z4 := hb.size
    have h3 := keep hb h3
    have hB := hB.trans (hb.mono hB.size)
    refine zae (.cells v.cells 39 (0, 0)) r (fun R => zaf r hr.shape rfl rfl h3 ts39 rfl) rfl fun fr w5 u5 r => wpList_nil ?_
    have z5 := u5.size
    have h3 := u5.at_
    have hB := u5.below hB (by omega)
    refine wp_ret ?_
    have hs := hr.shape.cells
    refine zad r rfl rfl h3 (k := 8) hs.1 ta39 ?_
    rw [← hs.2.2]
    exact znf.fin hB hr u5 (by rintro b (h | h | h); exact .inl h; exact .inr ⟨by omega, by omega⟩; exact .inr ⟨by omega, by omega⟩) (by rintro (h | h | h); (have := hF _ h; omega); omega; omega) (by omega) (by omega) (by omega)

theorem zfU {n : Nat} {F : Nat → Prop} {w0 : World} (hF : ∀ b, F b → b < w0.heap.size) {t : T (Int)} {pv fv : Value} {g : Int → T (Res)} (hp : Rep Tryz.prog zng n t F w0 pv) (hf : FnT Tryz.prog zne i64 (n + 1) F w0 fv g) :
    Calls Tryz.prog 132 #[pv, fv] w0 (znf Tryz.prog zne n (t.bind g) F w0) := zgW n hF hp (hf.mono (by omega) (fun b h => h) (Same.refl _ _) (Nat.le_refl _)) (.inr hf)

def zdY (n : Nat) : Prop := ∀ {F : Nat → Prop} {w0 : World}, (∀ b, F b → b < w0.heap.size) → ∀ {t : T (Int)} {pv fv : Value} {g : Int → T (Int)}, Rep Tryz.prog zng n t F w0 pv → FnT Tryz.prog zng i64 n F w0 fv g →
    (t.isDone = false ∨ FnT Tryz.prog zng i64 (n + 1) F w0 fv g) → Calls Tryz.prog 230 #[pv, fv] w0 (znf Tryz.prog zng n (t.bind g) F w0)

theorem zh2 {n : Nat} (ih : zdY n) {F : Nat → Prop} {w0 : World} (hF : ∀ b, F b → b < w0.heap.size) {op at_ a b : Int} {nf : FuncId} {n1 n2 : List Value} {k : Int → T (Int)} {ff : FuncId} {f1 f2 : List Value} {g : Int → T (Int)}
    {b1 b2 : Nat} (F1 : F b1) (h1 : w0.heap[b1]? = some (.cells (zna false zng.zero op at_ a b (.func (.func nf) n1.toArray n2.toArray)) 167 (0, 0))) (F2 : F b2) (h2 : w0.heap[b2]? = some (.cells #[.func (.func ff) f1.toArray f2.toArray] 271 (0, 0)))
    (hk : FnT Tryz.prog zng u64 (n + 1) F w0 (.func (.func nf) n1.toArray n2.toArray) k) (hg : FnT Tryz.prog zng i64 (n + 1) F w0 (.func (.func ff) f1.toArray f2.toArray) g) (x : Int) :
    Calls Tryz.prog 321 #[.int .u64 x, .pointer (some ⟨b1, 0, none⟩), .pointer (some ⟨b2, 0, none⟩)] w0 (znf Tryz.prog zng n ((k x).bind g) F w0) := by
 refine enter Tryz.func321 rfl 11 rfl rfl fun fr r => ?_
 have hB := Below.refl w0.heap.size w0
 refine wp_seq (wp_region_lit ?_)
 refine za5 (.cells (zna false zng.zero 0 0 0 0 .nilFunc) 167 (0, 0)) r (fun R => zag tz167) rfl fun fr b3 w1 q1 r => wn ?_
 have h1 := keep q1.below h1
 have h2 := keep q1.below h2
 have e3 := q1.eq
 have z1 := q1.size
 have h3 := q1.at_
 have hB := hB.trans (q1.below.mono hB.size)
 have zB := hB.size
 refine wp_seq ?_
 refine zaG 5 [.val (.pointer (some ⟨b1, 6, none⟩)), .val (.func (.func nf) n1.toArray n2.toArray), .val (U x), .pred (RepAt Tryz.prog zng n (k x) F w0.heap.size b3) RepAt.stable, .val (.func (.func ff) f1.toArray f2.toArray)] mixed r (by kernel_rfl) (za1 trivial (za1 trivial (za1 trivial (za1 trivial (za1 trivial zaz))))) ?_ ?_
 ·
  refine ec r (fun _ u _ b d s => za4 s (b := b1) (o := 0) rfl zkm bz) ?_
  refine zb8 r rfl (fun fr1 u w' hb' hd r' => ?_) ?_
  ·
   obtain ⟨d0, _⟩ := hd
   exact za3 r' (v := .func (.func nf) n1.toArray n2.toArray) d0 (keep hb' h1) to165 rfl ⟨Below.refl _ _, rfl⟩
  refine ec r (fun _ u _ b d s => zaa s rfl bz) ?_
  refine zb8 r rfl (fun fr1 u w' hb' hd r' => ?_) ?_
  ·
   obtain ⟨d0, d1, _⟩ := hd
   have zb := hb'.size
   have zb : w1.heap.size ≤ w'.heap.size := zb
   have hB' : Below w0.heap.size w0 w' := hB.trans (Below.mono (w := w1) ⟨hb'.os, hb'.tape, hb'.output, hb'.size, hb'.block⟩ hB.size)
   have d0 : u 1 = .func (.func nf) n1.toArray n2.toArray := d0
   have d1 : u 2 = .int .u64 x := d1
   refine zde r' (fs := n1) (cs := n2) d0 d1 hk.at_.1 ((hk.at_.2 n (Nat.lt_succ_self n) x w' (Same.below hB' hF) hB'.size).mono ?_)
   rintro _ w2 ⟨v, rfl, hb2, hr2⟩
   refine ⟨v, rfl, hb2, RepAt.zi6 (fun b h => Nat.lt_of_lt_of_le (hF b h) hB'.size) (by omega) hB'.size hb2 (Rep.mono ?_ (Same.refl _ _) (Nat.le_refl _) n _ _ hr2)⟩
   rintro b (h | h)
   · exact .inl (.inl h)
   · exact .inr h
  refine ec r (fun _ u _ b d s => za3 s rfl (keep b h2) to271 rfl bz) ?_
  exact zaR
 intro fr u w2 hb hΦ _ r
 obtain ⟨_, hr3, _, hr⟩ : RepAt Tryz.prog zng n (k x) F w0.heap.size b3 (u 3) w2 := hΦ 3 (by decide)
 have r := r.congr (sc (hΦ 4 (by decide)) rfl)
 have z2 := hb.size
 have h1 := keep hb h1
 have h2 := keep hb h2
 have h3 := keep hb h3
 have hB2 := hB.trans (hb.mono hB.size)
 have zB2 := hB2.size
 have hF1 : ∀ b, (fun b => F b ∨ (w0.heap.size ≤ b ∧ b < w2.heap.size ∧ b ≠ b3)) b → b < w2.heap.size := by rintro b (h | h); exact Nat.lt_of_lt_of_le (hF b h) hB2.size; exact h.2.1
 refine za7 r (ih (F := fun b => F b ∨ (w0.heap.size ≤ b ∧ b < w2.heap.size ∧ b ≠ b3)) hF1 hr (hg.mono (by omega) (fun b h => .inl h) (Same.below hB2 hF) hB2.size)
  (.inr (hg.mono (Nat.le_refl _) (fun b h => .inl h) (Same.below hB2 hF) hB2.size))) (fun R hc => zac r rfl cl230 hc) rfl ?_
 rintro _ w3 ⟨v2, rfl, hb2, hr2⟩
 refine ⟨_, rfl, fun fr r => ?_⟩
 have z3 := hb2.size
 have h3 := keep hb2 h3
 have hB3 := hB2.trans (hb2.mono hB2.size)
 refine zae (.cells v2.cells 167 (0, 0)) r (fun R => zaf r hr2.shape rfl rfl h3 ts167 rfl) rfl fun fr w4 u4 r => wn ?_
 have z4 := u4.size
 have h3 := u4.at_
 have hB4 := u4.below hB3 (by omega)
 refine wp_ret ?_
 have hs := hr2.shape.cells
 refine zad r rfl rfl h3 (k := 7) hs.1 ta167 ?_
 rw [← hs.2.2]
 exact znf.fin hB4 hr2 u4 (by rintro b (h | ⟨h1, h2, _⟩); exact .inl h; exact .inr ⟨h1, h2⟩) (by rintro (h | ⟨_, _, h⟩); (have := hF _ h; omega); exact h rfl) (by omega) (by omega) (by omega)

theorem zeJ (n : Nat) : zdY n := by
  induction n using Nat.strongRecOn with
  | _ n ih =>
  intro F w0 hF t pv fv g hp hf hd
  obtain ⟨ff, f1, f2, hcf, rfl, hff⟩ := id hf
  cases t with
  | cut => unfold Rep at hp; exact hp.elim
  | done x0 =>
    have hf := hd.resolve_left (by intro h; cases h)
    unfold Rep at hp
    subst hp
    refine enter (l := [.agg (zna true (zng.cells x0) 0 0 0 0 .nilFunc), .func (.func ff) f1.toArray f2.toArray]) Tryz.func230 rfl 15 rfl rfl fun fr r => ?_
    have hB := Below.refl w0.heap.size w0
    refine wp_seq (wp_region_lit ?_)
    refine za5 (.cells (zna true (zng.cells x0) 0 0 0 0 .nilFunc) 167 (0, 0)) r (fun R => znm r (v := .agg (zna true (zng.cells x0) 0 0 0 0 .nilFunc)) rfl) rfl fun fr b1 w1 q1 r => ?_
    refine za5 (.cells #[.func (.func ff) f1.toArray f2.toArray] 271 (0, 0)) r (fun R => znm r (v := .func (.func ff) f1.toArray f2.toArray) rfl) rfl fun fr b2 w2 q2 r => ?_
    refine za5 (.cells (zna false zng.zero 0 0 0 0 .nilFunc) 167 (0, 0)) r (fun R => zag tz167) rfl fun fr b3 w3 q3 r => wpList_nil ?_
    have h1 := keep q3.below (keep q2.below q1.at_)
    have h2 := keep q3.below q2.at_
    have h3 := q3.at_
    have e1 := q1.eq; have e2 := q2.eq; have e3 := q3.eq; have z1 := q1.size; have z2 := q2.size; have z3 := q3.size
    have hB := ((hB.trans q1.below).trans (q2.below.mono (by omega))).trans (q3.below.mono (by omega))
    have zB := hB.size
    refine wp_seq (wp_seq (wp_region_lit (za0 (.pointer (some ⟨b1, 0, none⟩)) r (fun R => za4 r (o := 0) rfl zhF) rfl fun fr r => ?_)))
    refine za0 (.bool true) r (fun R => za3 r (v := .bool true) rfl h1 to4 rfl) rfl fun fr r => wpList_nil ?_
    refine wp_cond_split (t := true) (r.ev rfl) (fun _ => ?_) (fun h => by cases h)
    refine wp_seq (wp_region_lit (za0 (.func (.func ff) f1.toArray f2.toArray) r (fun R => za3 r (v := .func (.func ff) f1.toArray f2.toArray) rfl h2 to271 rfl) rfl fun fr r => za0 (.pointer (some ⟨b1, 1, none⟩)) r (fun R => za4 r (o := 0) rfl zkr) rfl fun fr r => za0 (.int .i64 x0) r (fun R => za3 r (v := (.int .i64 x0)) rfl h1 to3 rfl) rfl fun fr r => ?_))
    refine za7 r (hf.at_.2 n (Nat.lt_succ_self n) x0 w3 (Same.below hB hF) hB.size) (fun R hc => zfc r rfl rfl hf.at_.1 hc) rfl ?_
    rintro _ w4 ⟨v, rfl, hb, hr⟩
    refine ⟨_, rfl, fun fr r => ?_⟩
    have z4 := hb.size
    have h3 := keep hb h3
    have hB := hB.trans (hb.mono hB.size)
    refine zae (.cells v.cells 167 (0, 0)) r (fun R => zaf r hr.shape rfl rfl h3 ts167 rfl) rfl fun fr w5 u5 r => wpList_nil ?_
    have z5 := u5.size
    have h3 := u5.at_
    have hB := u5.below hB (by omega)
    refine wp_ret ?_
    have hs := hr.shape.cells
    refine zad r rfl rfl h3 (k := 7) hs.1 ta167 ?_
    rw [← hs.2.2]
    exact znf.fin hB hr u5 (fun b hb => .inl hb) (fun h => by have := hF _ h; omega) (by omega) (by omega) (by omega)
  | act op at_ a b k =>
    obtain ⟨nf, n1, n2, hcn, rfl, hk⟩ : ∃ (nf : FuncId) (n1 n2 : List Value), znb Tryz.prog nf = true ∧ pv = .agg (zna false zng.zero op at_ a b (.func (.func nf) n1.toArray n2.toArray)) ∧ FnT Tryz.prog zng u64 n F w0 (.func (.func nf) n1.toArray n2.toArray) k := by
      exact Rep.zes hp
    refine enter (l := [.agg (zna false zng.zero op at_ a b (.func (.func nf) n1.toArray n2.toArray)), .func (.func ff) f1.toArray f2.toArray]) Tryz.func230 rfl 15 rfl rfl fun fr r => ?_
    have hB := Below.refl w0.heap.size w0
    refine wp_seq (wp_region_lit ?_)
    refine za5 (.cells (zna false zng.zero op at_ a b (.func (.func nf) n1.toArray n2.toArray)) 167 (0, 0)) r (fun R => znm r (v := .agg (zna false zng.zero op at_ a b (.func (.func nf) n1.toArray n2.toArray))) rfl) rfl fun fr b1 w1 q1 r => ?_
    refine za5 (.cells #[.func (.func ff) f1.toArray f2.toArray] 271 (0, 0)) r (fun R => znm r (v := .func (.func ff) f1.toArray f2.toArray) rfl) rfl fun fr b2 w2 q2 r => ?_
    refine za5 (.cells (zna false zng.zero 0 0 0 0 .nilFunc) 167 (0, 0)) r (fun R => zag tz167) rfl fun fr b3 w3 q3 r => wpList_nil ?_
    have h1 := keep q3.below (keep q2.below q1.at_)
    have h2 := keep q3.below q2.at_
    have h3 := q3.at_
    have e1 := q1.eq; have e2 := q2.eq; have e3 := q3.eq; have z1 := q1.size; have z2 := q2.size; have z3 := q3.size
    have hB := ((hB.trans q1.below).trans (q2.below.mono (by omega))).trans (q3.below.mono (by omega))
    have zB := hB.size
    refine wp_seq (wp_seq (wp_region_lit (za0 (.pointer (some ⟨b1, 0, none⟩)) r (fun R => za4 r (o := 0) rfl zhF) rfl fun fr r => ?_)))
    refine za0 (.bool false) r (fun R => za3 r (v := .bool false) rfl h1 to4 rfl) rfl fun fr r => wpList_nil ?_
    refine wp_cond_split (t := false) (r.ev rfl) (fun h => by cases h) (fun _ => wp_skip ?_)
    refine wp_seq (wp_region_lit (za0 (.pointer (some ⟨b1, 2, none⟩)) r (fun R => za4 r (o := 0) rfl zkn) rfl fun fr r => za0 (.agg (znk (⟨op, at_, a, b⟩ : Access)).toArray) r (fun R => za6 r (cs := (znk (⟨op, at_, a, b⟩ : Access))) (n := 4) rfl h1 ta36 rfl) rfl fun fr r => za0 (.func (.func 321) #[] #[.pointer (some ⟨b1, 0, none⟩), .pointer (some ⟨b2, 0, none⟩)]) r (fun R => zan r rfl) rfl fun fr r => ?_))
    have hF1 : ∀ b, (fun b => F b ∨ b = b1 ∨ b = b2) b → b < w3.heap.size := by rintro b (h | h | h); exact Nat.lt_of_lt_of_le (hF b h) hB.size; omega; omega
    refine za7 r (zdT (F := fun b => F b ∨ b = b1 ∨ b = b2) (n := n) hF1 ⟨op, at_, a, b⟩ (a1 := fun x => (k x).bind g) (show FnT Tryz.prog zng u64 n (fun b => F b ∨ b = b1 ∨ b = b2) w3 (.func (.func 321) ([] : List Value).toArray [Value.pointer (some ⟨b1, 0, none⟩), .pointer (some ⟨b2, 0, none⟩)].toArray) (fun x => (k x).bind g) from
      ⟨321, [], [.pointer (some ⟨b1, 0, none⟩), .pointer (some ⟨b2, 0, none⟩)], cl321, rfl, fun m hm x w' hs hz => zh2 (ih m hm) (fun b hb => Nat.lt_of_lt_of_le (hF1 b hb) hz) (.inr (.inl rfl)) (hs.at_ (.inr (.inl rfl)) h1) (.inr (.inr rfl)) (hs.at_ (.inr (.inr rfl)) h2)
        (hk.mono (by omega) (fun b h => .inl h) ((Same.below hB hF).trans (hs.sub (fun b h => .inl h))) (Nat.le_trans hB.size hz)) (hf.mono (by omega) (fun b h => .inl h) ((Same.below hB hF).trans (hs.sub (fun b h => .inl h))) (Nat.le_trans hB.size hz)) x⟩)) (fun R hc => zac r rfl cl297 hc) rfl ?_
    rintro _ w4 ⟨v, rfl, hb, hr⟩
    refine ⟨_, rfl, fun fr r => ?_⟩
    have z4 := hb.size
    have h3 := keep hb h3
    have hB := hB.trans (hb.mono hB.size)
    refine zae (.cells v.cells 167 (0, 0)) r (fun R => zaf r hr.shape rfl rfl h3 ts167 rfl) rfl fun fr w5 u5 r => wpList_nil ?_
    have z5 := u5.size
    have h3 := u5.at_
    have hB := u5.below hB (by omega)
    refine wp_ret ?_
    have hs := hr.shape.cells
    refine zad r rfl rfl h3 (k := 7) hs.1 ta167 ?_
    rw [← hs.2.2]
    exact znf.fin hB hr u5 (by rintro b (h | h | h); exact .inl h; exact .inr ⟨by omega, by omega⟩; exact .inr ⟨by omega, by omega⟩) (by rintro (h | h | h); (have := hF _ h; omega); omega; omega) (by omega) (by omega) (by omega)

theorem zfZ {n : Nat} {F : Nat → Prop} {w0 : World} (hF : ∀ b, F b → b < w0.heap.size) {t : T (Int)} {pv fv : Value} {g : Int → T (Int)} (hp : Rep Tryz.prog zng n t F w0 pv) (hf : FnT Tryz.prog zng i64 n F w0 fv g) (hd : t.isDone = false) :
    Calls Tryz.prog 230 #[pv, fv] w0 (znf Tryz.prog zng n (t.bind g) F w0) := zeJ n hF hp hf (.inl hd)

theorem zcP {n : Nat} {F : Nat → Prop} {w0 : World} (hF : ∀ b, F b → b < w0.heap.size) {t : T (Int)} {pv fv : Value} {g : Int → T (Int)} (hp : Rep Tryz.prog zng n t F w0 pv) (hf : FnT Tryz.prog zng i64 (n + 1) F w0 fv g) :
    Calls Tryz.prog 230 #[pv, fv] w0 (znf Tryz.prog zng n (t.bind g) F w0) := zeJ n hF hp (hf.mono (by omega) (fun b h => h) (Same.refl _ _) (Nat.le_refl _)) (.inr hf)

def zdn (n : Nat) : Prop := ∀ {F : Nat → Prop} {w0 : World}, (∀ b, F b → b < w0.heap.size) → ∀ {t : T (Int)} {pv fv : Value} {g : Int → T (Res)}, Rep Tryz.prog encWord n t F w0 pv → FnT Tryz.prog zne u64 n F w0 fv g →
    (t.isDone = false ∨ FnT Tryz.prog zne u64 (n + 1) F w0 fv g) → Calls Tryz.prog 242 #[pv, fv] w0 (znf Tryz.prog zne n (t.bind g) F w0)

theorem zfT {n : Nat} (ih : zdn n) {F : Nat → Prop} {w0 : World} (hF : ∀ b, F b → b < w0.heap.size) {op at_ a b : Int} {nf : FuncId} {n1 n2 : List Value} {k : Int → T (Int)} {ff : FuncId} {f1 f2 : List Value} {g : Int → T (Res)}
    {b1 b2 : Nat} (F1 : F b1) (h1 : w0.heap[b1]? = some (.cells (zna false encWord.zero op at_ a b (.func (.func nf) n1.toArray n2.toArray)) 283 (0, 0))) (F2 : F b2) (h2 : w0.heap[b2]? = some (.cells #[.func (.func ff) f1.toArray f2.toArray] 37 (0, 0)))
    (hk : FnT Tryz.prog encWord u64 (n + 1) F w0 (.func (.func nf) n1.toArray n2.toArray) k) (hg : FnT Tryz.prog zne u64 (n + 1) F w0 (.func (.func ff) f1.toArray f2.toArray) g) (x : Int) :
    Calls Tryz.prog 325 #[.int .u64 x, .pointer (some ⟨b1, 0, none⟩), .pointer (some ⟨b2, 0, none⟩)] w0 (znf Tryz.prog zne n ((k x).bind g) F w0) := by
 refine enter Tryz.func325 rfl 11 rfl rfl fun fr r => ?_
 have hB := Below.refl w0.heap.size w0
 refine wp_seq (wp_region_lit ?_)
 refine za5 (.cells (zna false zne.zero 0 0 0 0 .nilFunc) 39 (0, 0)) r (fun R => zag tz39) rfl fun fr b3 w1 q1 r => wn ?_
 have h1 := keep q1.below h1
 have h2 := keep q1.below h2
 have e3 := q1.eq
 have z1 := q1.size
 have h3 := q1.at_
 have hB := hB.trans (q1.below.mono hB.size)
 have zB := hB.size
 refine wp_seq ?_
 refine zaG 5 [.val (.pointer (some ⟨b1, 6, none⟩)), .val (.func (.func nf) n1.toArray n2.toArray), .val (U x), .pred (RepAt Tryz.prog encWord n (k x) F w0.heap.size b3) RepAt.stable, .val (.func (.func ff) f1.toArray f2.toArray)] mixed r (by kernel_rfl) (za1 trivial (za1 trivial (za1 trivial (za1 trivial (za1 trivial zaz))))) ?_ ?_
 ·
  refine ec r (fun _ u _ b d s => za4 s (b := b1) (o := 0) rfl zmz bz) ?_
  refine zb8 r rfl (fun fr1 u w' hb' hd r' => ?_) ?_
  ·
   obtain ⟨d0, _⟩ := hd
   exact za3 r' (v := .func (.func nf) n1.toArray n2.toArray) d0 (keep hb' h1) to281 rfl ⟨Below.refl _ _, rfl⟩
  refine ec r (fun _ u _ b d s => zaa s rfl bz) ?_
  refine zb8 r rfl (fun fr1 u w' hb' hd r' => ?_) ?_
  ·
   obtain ⟨d0, d1, _⟩ := hd
   have zb := hb'.size
   have zb : w1.heap.size ≤ w'.heap.size := zb
   have hB' : Below w0.heap.size w0 w' := hB.trans (Below.mono (w := w1) ⟨hb'.os, hb'.tape, hb'.output, hb'.size, hb'.block⟩ hB.size)
   have d0 : u 1 = .func (.func nf) n1.toArray n2.toArray := d0
   have d1 : u 2 = .int .u64 x := d1
   refine zde r' (fs := n1) (cs := n2) d0 d1 hk.at_.1 ((hk.at_.2 n (Nat.lt_succ_self n) x w' (Same.below hB' hF) hB'.size).mono ?_)
   rintro _ w2 ⟨v, rfl, hb2, hr2⟩
   refine ⟨v, rfl, hb2, RepAt.zi6 (fun b h => Nat.lt_of_lt_of_le (hF b h) hB'.size) (by omega) hB'.size hb2 (Rep.mono ?_ (Same.refl _ _) (Nat.le_refl _) n _ _ hr2)⟩
   rintro b (h | h)
   · exact .inl (.inl h)
   · exact .inr h
  refine ec r (fun _ u _ b d s => za3 s rfl (keep b h2) to37 rfl bz) ?_
  exact zaR
 intro fr u w2 hb hΦ _ r
 obtain ⟨_, hr3, _, hr⟩ : RepAt Tryz.prog encWord n (k x) F w0.heap.size b3 (u 3) w2 := hΦ 3 (by decide)
 have r := r.congr (sc (hΦ 4 (by decide)) rfl)
 have z2 := hb.size
 have h1 := keep hb h1
 have h2 := keep hb h2
 have h3 := keep hb h3
 have hB2 := hB.trans (hb.mono hB.size)
 have zB2 := hB2.size
 have hF1 : ∀ b, (fun b => F b ∨ (w0.heap.size ≤ b ∧ b < w2.heap.size ∧ b ≠ b3)) b → b < w2.heap.size := by rintro b (h | h); exact Nat.lt_of_lt_of_le (hF b h) hB2.size; exact h.2.1
 refine za7 r (ih (F := fun b => F b ∨ (w0.heap.size ≤ b ∧ b < w2.heap.size ∧ b ≠ b3)) hF1 hr (hg.mono (by omega) (fun b h => .inl h) (Same.below hB2 hF) hB2.size)
  (.inr (hg.mono (Nat.le_refl _) (fun b h => .inl h) (Same.below hB2 hF) hB2.size))) (fun R hc => zac r rfl cl242 hc) rfl ?_
 rintro _ w3 ⟨v2, rfl, hb2, hr2⟩
 refine ⟨_, rfl, fun fr r => ?_⟩
 have z3 := hb2.size
 have h3 := keep hb2 h3
 have hB3 := hB2.trans (hb2.mono hB2.size)
 refine zae (.cells v2.cells 39 (0, 0)) r (fun R => zaf r hr2.shape rfl rfl h3 ts39 rfl) rfl fun fr w4 u4 r => wn ?_
 have z4 := u4.size
 have h3 := u4.at_
 have hB4 := u4.below hB3 (by omega)
 refine wp_ret ?_
 have hs := hr2.shape.cells
 refine zad r rfl rfl h3 (k := 8) hs.1 ta39 ?_
 rw [← hs.2.2]
 exact znf.fin hB4 hr2 u4 (by rintro b (h | ⟨h1, h2, _⟩); exact .inl h; exact .inr ⟨h1, h2⟩) (by rintro (h | ⟨_, _, h⟩); (have := hF _ h; omega); exact h rfl) (by omega) (by omega) (by omega)

theorem zfY (n : Nat) : zdn n := by
  induction n using Nat.strongRecOn with
  | _ n ih =>
  intro F w0 hF t pv fv g hp hf hd
  obtain ⟨ff, f1, f2, hcf, rfl, hff⟩ := id hf
  cases t with
  | cut => unfold Rep at hp; exact hp.elim
  | done x0 =>
    have hf := hd.resolve_left (by intro h; cases h)
    unfold Rep at hp
    subst hp
    refine enter (l := [.agg (zna true (encWord.cells x0) 0 0 0 0 .nilFunc), .func (.func ff) f1.toArray f2.toArray]) Tryz.func242 rfl 15 rfl rfl fun fr r => ?_
    have hB := Below.refl w0.heap.size w0
    refine wp_seq (wp_region_lit ?_)
    refine za5 (.cells (zna true (encWord.cells x0) 0 0 0 0 .nilFunc) 283 (0, 0)) r (fun R => znm r (v := .agg (zna true (encWord.cells x0) 0 0 0 0 .nilFunc)) rfl) rfl fun fr b1 w1 q1 r => ?_
    refine za5 (.cells #[.func (.func ff) f1.toArray f2.toArray] 37 (0, 0)) r (fun R => znm r (v := .func (.func ff) f1.toArray f2.toArray) rfl) rfl fun fr b2 w2 q2 r => ?_
    refine za5 (.cells (zna false zne.zero 0 0 0 0 .nilFunc) 39 (0, 0)) r (fun R => zag tz39) rfl fun fr b3 w3 q3 r => wpList_nil ?_
    have h1 := keep q3.below (keep q2.below q1.at_)
    have h2 := keep q3.below q2.at_
    have h3 := q3.at_
    have e1 := q1.eq; have e2 := q2.eq; have e3 := q3.eq; have z1 := q1.size; have z2 := q2.size; have z3 := q3.size
    have hB := ((hB.trans q1.below).trans (q2.below.mono (by omega))).trans (q3.below.mono (by omega))
    have zB := hB.size
    refine wp_seq (wp_seq (wp_region_lit (za0 (.pointer (some ⟨b1, 0, none⟩)) r (fun R => za4 r (o := 0) rfl zlT) rfl fun fr r => ?_)))
    refine za0 (.bool true) r (fun R => za3 r (v := .bool true) rfl h1 to4 rfl) rfl fun fr r => wpList_nil ?_
    refine wp_cond_split (t := true) (r.ev rfl) (fun _ => ?_) (fun h => by cases h)
    refine wp_seq (wp_region_lit (za0 (.func (.func ff) f1.toArray f2.toArray) r (fun R => za3 r (v := .func (.func ff) f1.toArray f2.toArray) rfl h2 to37 rfl) rfl fun fr r => za0 (.pointer (some ⟨b1, 1, none⟩)) r (fun R => za4 r (o := 0) rfl zmB) rfl fun fr r => za0 (.int .u64 x0) r (fun R => za3 r (v := (.int .u64 x0)) rfl h1 to22 rfl) rfl fun fr r => ?_))
    refine za7 r (hf.at_.2 n (Nat.lt_succ_self n) x0 w3 (Same.below hB hF) hB.size) (fun R hc => zfc r rfl rfl hf.at_.1 hc) rfl ?_
    rintro _ w4 ⟨v, rfl, hb, hr⟩
    refine ⟨_, rfl, fun fr r => ?_⟩
    have z4 := hb.size
    have h3 := keep hb h3
    have hB := hB.trans (hb.mono hB.size)
    refine zae (.cells v.cells 39 (0, 0)) r (fun R => zaf r hr.shape rfl rfl h3 ts39 rfl) rfl fun fr w5 u5 r => wpList_nil ?_
    have z5 := u5.size
    have h3 := u5.at_
    have hB := u5.below hB (by omega)
    refine wp_ret ?_
    have hs := hr.shape.cells
    refine zad r rfl rfl h3 (k := 8) hs.1 ta39 ?_
    rw [← hs.2.2]
    exact znf.fin hB hr u5 (fun b hb => .inl hb) (fun h => by have := hF _ h; omega) (by omega) (by omega) (by omega)
  | act op at_ a b k =>
    obtain ⟨nf, n1, n2, hcn, rfl, hk⟩ : ∃ (nf : FuncId) (n1 n2 : List Value), znb Tryz.prog nf = true ∧ pv = .agg (zna false encWord.zero op at_ a b (.func (.func nf) n1.toArray n2.toArray)) ∧ FnT Tryz.prog encWord u64 n F w0 (.func (.func nf) n1.toArray n2.toArray) k := by
      exact Rep.zes hp
    refine enter (l := [.agg (zna false encWord.zero op at_ a b (.func (.func nf) n1.toArray n2.toArray)), .func (.func ff) f1.toArray f2.toArray]) Tryz.func242 rfl 15 rfl rfl fun fr r => ?_
    have hB := Below.refl w0.heap.size w0
    refine wp_seq (wp_region_lit ?_)
    refine za5 (.cells (zna false encWord.zero op at_ a b (.func (.func nf) n1.toArray n2.toArray)) 283 (0, 0)) r (fun R => znm r (v := .agg (zna false encWord.zero op at_ a b (.func (.func nf) n1.toArray n2.toArray))) rfl) rfl fun fr b1 w1 q1 r => ?_
    refine za5 (.cells #[.func (.func ff) f1.toArray f2.toArray] 37 (0, 0)) r (fun R => znm r (v := .func (.func ff) f1.toArray f2.toArray) rfl) rfl fun fr b2 w2 q2 r => ?_
    refine za5 (.cells (zna false zne.zero 0 0 0 0 .nilFunc) 39 (0, 0)) r (fun R => zag tz39) rfl fun fr b3 w3 q3 r => wpList_nil ?_
    have h1 := keep q3.below (keep q2.below q1.at_)
    have h2 := keep q3.below q2.at_
    have h3 := q3.at_
    have e1 := q1.eq; have e2 := q2.eq; have e3 := q3.eq; have z1 := q1.size; have z2 := q2.size; have z3 := q3.size
    have hB := ((hB.trans q1.below).trans (q2.below.mono (by omega))).trans (q3.below.mono (by omega))
    have zB := hB.size
    refine wp_seq (wp_seq (wp_region_lit (za0 (.pointer (some ⟨b1, 0, none⟩)) r (fun R => za4 r (o := 0) rfl zlT) rfl fun fr r => ?_)))
    refine za0 (.bool false) r (fun R => za3 r (v := .bool false) rfl h1 to4 rfl) rfl fun fr r => wpList_nil ?_
    refine wp_cond_split (t := false) (r.ev rfl) (fun h => by cases h) (fun _ => wp_skip ?_)
    refine wp_seq (wp_region_lit (za0 (.pointer (some ⟨b1, 2, none⟩)) r (fun R => za4 r (o := 0) rfl zmQ) rfl fun fr r => za0 (.agg (znk (⟨op, at_, a, b⟩ : Access)).toArray) r (fun R => za6 r (cs := (znk (⟨op, at_, a, b⟩ : Access))) (n := 4) rfl h1 ta36 rfl) rfl fun fr r => za0 (.func (.func 325) #[] #[.pointer (some ⟨b1, 0, none⟩), .pointer (some ⟨b2, 0, none⟩)]) r (fun R => zan r rfl) rfl fun fr r => ?_))
    have hF1 : ∀ b, (fun b => F b ∨ b = b1 ∨ b = b2) b → b < w3.heap.size := by rintro b (h | h | h); exact Nat.lt_of_lt_of_le (hF b h) hB.size; omega; omega
    refine za7 r (zcC (F := fun b => F b ∨ b = b1 ∨ b = b2) (n := n) hF1 ⟨op, at_, a, b⟩ (a1 := fun x => (k x).bind g) (show FnT Tryz.prog zne u64 n (fun b => F b ∨ b = b1 ∨ b = b2) w3 (.func (.func 325) ([] : List Value).toArray [Value.pointer (some ⟨b1, 0, none⟩), .pointer (some ⟨b2, 0, none⟩)].toArray) (fun x => (k x).bind g) from
      ⟨325, [], [.pointer (some ⟨b1, 0, none⟩), .pointer (some ⟨b2, 0, none⟩)], cl325, rfl, fun m hm x w' hs hz => zfT (ih m hm) (fun b hb => Nat.lt_of_lt_of_le (hF1 b hb) hz) (.inr (.inl rfl)) (hs.at_ (.inr (.inl rfl)) h1) (.inr (.inr rfl)) (hs.at_ (.inr (.inr rfl)) h2)
        (hk.mono (by omega) (fun b h => .inl h) ((Same.below hB hF).trans (hs.sub (fun b h => .inl h))) (Nat.le_trans hB.size hz)) (hf.mono (by omega) (fun b h => .inl h) ((Same.below hB hF).trans (hs.sub (fun b h => .inl h))) (Nat.le_trans hB.size hz)) x⟩)) (fun R hc => zac r rfl cl212 hc) rfl ?_
    rintro _ w4 ⟨v, rfl, hb, hr⟩
    refine ⟨_, rfl, fun fr r => ?_⟩
    have z4 := hb.size
    have h3 := keep hb h3
    have hB := hB.trans (hb.mono hB.size)
    refine zae (.cells v.cells 39 (0, 0)) r (fun R => zaf r hr.shape rfl rfl h3 ts39 rfl) rfl fun fr w5 u5 r => wpList_nil ?_
    have z5 := u5.size
    have h3 := u5.at_
    have hB := u5.below hB (by omega)
    refine wp_ret ?_
    have hs := hr.shape.cells
    refine zad r rfl rfl h3 (k := 8) hs.1 ta39 ?_
    rw [← hs.2.2]
    exact znf.fin hB hr u5 (by rintro b (h | h | h); exact .inl h; exact .inr ⟨by omega, by omega⟩; exact .inr ⟨by omega, by omega⟩) (by rintro (h | h | h); (have := hF _ h; omega); omega; omega) (by omega) (by omega) (by omega)

theorem zdk {n : Nat} {F : Nat → Prop} {w0 : World} (hF : ∀ b, F b → b < w0.heap.size) {t : T (Int)} {pv fv : Value} {g : Int → T (Res)} (hp : Rep Tryz.prog encWord n t F w0 pv) (hf : FnT Tryz.prog zne u64 (n + 1) F w0 fv g) :
    Calls Tryz.prog 242 #[pv, fv] w0 (znf Tryz.prog zne n (t.bind g) F w0) := zfY n hF hp (hf.mono (by omega) (fun b h => h) (Same.refl _ _) (Nat.le_refl _)) (.inr hf)

end Go.Proofs.YtjkinpbfmihhdaaGreat
