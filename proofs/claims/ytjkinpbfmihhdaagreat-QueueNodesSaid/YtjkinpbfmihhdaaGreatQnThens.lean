/- Ours. -/
import Derived.Test.YtjkinpbfmihhdaaGreatQnM2
import Derived.Test.YtjkinpbfmihhdaaGreatQnMems
set_option linter.all false
set_option maxRecDepth 20000
set_option maxHeartbeats 2000000
namespace Go.Proofs.YtjkinpbfmihhdaaGreat
open Go.RowKit
theorem zqf : znv Tryz.prog 113 = true := by kernel_rfl
theorem zqg : znv Tryz.prog 132 = true := by kernel_rfl
theorem zoV : znv Tryz.prog 190 = true := by kernel_rfl
theorem zoo : znv Tryz.prog 212 = true := by kernel_rfl
theorem zqM : znv Tryz.prog 213 = true := by kernel_rfl
theorem zpC : znv Tryz.prog 217 = true := by kernel_rfl
theorem zrA : znv Tryz.prog 227 = true := by kernel_rfl
theorem zoK : znv Tryz.prog 230 = true := by kernel_rfl
theorem zpf : znv Tryz.prog 242 = true := by kernel_rfl
theorem zpl : znv Tryz.prog 286 = true := by kernel_rfl
theorem zrs : znv Tryz.prog 287 = true := by kernel_rfl
theorem zoG : znv Tryz.prog 297 = true := by kernel_rfl
theorem zsa : znv Tryz.prog 319 = true := by kernel_rfl
theorem zqu : znv Tryz.prog 321 = true := by kernel_rfl
theorem zqL : znv Tryz.prog 325 = true := by kernel_rfl
theorem zpF : znv Tryz.prog 357 = true := by kernel_rfl
theorem zqs : znv Tryz.prog 368 = true := by kernel_rfl
theorem zq8 : znv Tryz.prog 370 = true := by kernel_rfl
theorem zq0 : znv Tryz.prog 372 = true := by kernel_rfl
theorem zs2 : znv Tryz.prog 388 = true := by kernel_rfl
theorem zrc : znv Tryz.prog 404 = true := by kernel_rfl
theorem zlM : znH Tryz.prog 158 0 0 = true := by kernel_rfl
theorem zmM : znH Tryz.prog 158 1 1 = true := by kernel_rfl
theorem zmS : znH Tryz.prog 158 2 4 = true := by kernel_rfl
theorem zmT : znH Tryz.prog 158 3 8 = true := by kernel_rfl
theorem zhM : znH Tryz.prog 167 0 0 = true := by kernel_rfl
theorem zkP : znH Tryz.prog 167 1 1 = true := by kernel_rfl
theorem zkB : znH Tryz.prog 167 2 2 = true := by kernel_rfl
theorem zkR : znH Tryz.prog 167 3 6 = true := by kernel_rfl
theorem zh8 : znH Tryz.prog 186 0 0 = true := by kernel_rfl
theorem zkS : znH Tryz.prog 186 2 1 = true := by kernel_rfl
theorem zkT : znH Tryz.prog 186 3 5 = true := by kernel_rfl
theorem zlQ : znH Tryz.prog 283 0 0 = true := by kernel_rfl
theorem zmX : znH Tryz.prog 283 1 1 = true := by kernel_rfl
theorem zn6 : znH Tryz.prog 283 2 2 = true := by kernel_rfl
theorem zmR : znH Tryz.prog 283 3 6 = true := by kernel_rfl
theorem zlW : znH Tryz.prog 324 0 0 = true := by kernel_rfl
theorem zmQ : znH Tryz.prog 324 1 1 = true := by kernel_rfl
theorem zn8 : znH Tryz.prog 324 2 2 = true := by kernel_rfl
theorem zmP : znH Tryz.prog 324 3 6 = true := by kernel_rfl
theorem zma : znH Tryz.prog 39 0 0 = true := by kernel_rfl
theorem znq : znH Tryz.prog 39 1 1 = true := by kernel_rfl
theorem znj : znH Tryz.prog 39 2 3 = true := by kernel_rfl
theorem znk : znH Tryz.prog 39 3 7 = true := by kernel_rfl
theorem zpg : fieldZ Tryz.prog 186 1 1 = true := by kernel_rfl
theorem zq3 : tyA Tryz.prog 153 3 = true := by kernel_rfl
theorem zo4 : tyA Tryz.prog 158 9 = true := by kernel_rfl
theorem znS : tyA Tryz.prog 167 7 = true := by kernel_rfl
theorem zoF : tyA Tryz.prog 181 0 = true := by kernel_rfl
theorem zo2 : tyA Tryz.prog 186 6 = true := by kernel_rfl
theorem zob : tyA Tryz.prog 283 7 = true := by kernel_rfl
theorem ta32 : tyA Tryz.prog 32 2 = true := by kernel_rfl
theorem zom : tyA Tryz.prog 324 7 = true := by kernel_rfl
theorem ta36 : tyA Tryz.prog 36 4 = true := by kernel_rfl
theorem ta39 : tyA Tryz.prog 39 8 = true := by kernel_rfl
theorem zsb : tyO Tryz.prog 156 = true := by kernel_rfl
theorem zpi : tyO Tryz.prog 165 = true := by kernel_rfl
theorem zpd : tyO Tryz.prog 184 = true := by kernel_rfl
theorem zq9 : tyO Tryz.prog 190 = true := by kernel_rfl
theorem zpm : tyO Tryz.prog 204 = true := by kernel_rfl
theorem zps : tyO Tryz.prog 246 = true := by kernel_rfl
theorem zpQ : tyO Tryz.prog 270 = true := by kernel_rfl
theorem zpa : tyO Tryz.prog 271 = true := by kernel_rfl
theorem zsk : tyO Tryz.prog 281 = true := by kernel_rfl
theorem zpv : tyO Tryz.prog 297 = true := by kernel_rfl
theorem zrt : tyO Tryz.prog 322 = true := by kernel_rfl
theorem zq6 : tyO Tryz.prog 333 = true := by kernel_rfl
theorem to37 : tyO Tryz.prog 37 = true := by kernel_rfl
theorem to4 : tyO Tryz.prog 4 = true := by kernel_rfl
theorem zo3 : sized Tryz.prog 158 9 = true := by kernel_rfl
theorem znT : sized Tryz.prog 167 7 = true := by kernel_rfl
theorem zo6 : sized Tryz.prog 186 6 = true := by kernel_rfl
theorem zoc : sized Tryz.prog 283 7 = true := by kernel_rfl
theorem zol : sized Tryz.prog 324 7 = true := by kernel_rfl
theorem ts39 : sized Tryz.prog 39 8 = true := by kernel_rfl
theorem zo7 : zeroOf Tryz.prog 158 = some (.agg (znt false znG.zero 0 0 0 0 .nilFunc)) := by kernel_rfl
theorem znV : zeroOf Tryz.prog 167 = some (.agg (znt false znz.zero 0 0 0 0 .nilFunc)) := by kernel_rfl
theorem zod : zeroOf Tryz.prog 186 = some (.agg (znt false znC.zero 0 0 0 0 .nilFunc)) := by kernel_rfl
theorem zof : zeroOf Tryz.prog 283 = some (.agg (znt false znM.zero 0 0 0 0 .nilFunc)) := by kernel_rfl
theorem zox : zeroOf Tryz.prog 324 = some (.agg (znt false znP.zero 0 0 0 0 .nilFunc)) := by kernel_rfl
theorem tz39 : zeroOf Tryz.prog 39 = some (.agg (znt false znx.zero 0 0 0 0 .nilFunc)) := by kernel_rfl
def D.zik (a0 : Access) (a1 : (Int → T Unit)) : T Unit := (T.act a0.op a0.at_ a0.a a0.b a1)
theorem zjh {n : Nat} {F : Nat → Prop} {w0 : World} (hF : ∀ b, F b → b < w0.heap.size)
    (a0 : Access) {a1f : FuncId} {a1_1 a1_2 : List Value} {a1 : (Int → T Unit)} (a1n : FnT Tryz.prog znC u64 (n) F w0 (.func (.func a1f) a1_1.toArray a1_2.toArray) a1) :
    Calls Tryz.prog 368 #[.agg (znE a0).toArray, .func (.func a1f) a1_1.toArray a1_2.toArray] w0 (zny Tryz.prog znC n (D.zik a0 a1) F w0) := by
 refine enter Tryz.func368 rfl 8 rfl rfl fun fr r => ?_
 have hB := Below.refl w0.heap.size w0
 refine wsr ?_
 refine za5 (.cells ((znE a0)).toArray 36 (0, 0)) r (fun R => znF r (v := (.agg (znE a0).toArray)) rfl) rfl fun fr b1 w2 n3 r => ?_
 obtain ⟨e_b1, z_w2, h_b1, hB, zB⟩ := n3.all hB
 refine za5 (.cells (znt false znC.zero 0 0 0 0 .nilFunc) 186 (0, 0)) r (fun R => zag zod) rfl fun fr b4 w5 n6 r => ?_
 have h_b1 := keep n6.below h_b1
 obtain ⟨e_b4, z_w5, h_b4, hB, zB⟩ := n6.all hB
 refine wn (wsr (za0 (.agg (znE a0).toArray) r (fun R => za6 r (cs := (znE a0)) (n := 4) rfl h_b1 ta36 rfl) rfl fun fr r => za0 (.func (.func a1f) a1_1.toArray a1_2.toArray) r (fun R => za9 r rfl) rfl fun fr r => za0 (.agg (znt false znC.zero a0.op a0.at_ a0.a a0.b (.func (.func a1f) a1_1.toArray a1_2.toArray))) r (fun R => zaQ r (by kernel_rfl)) rfl fun fr r => ?_))
 refine zae (.cells (znt false znC.zero a0.op a0.at_ a0.a a0.b (.func (.func a1f) a1_1.toArray a1_2.toArray)) 186 (0, 0)) r (fun R => zaS r (o := 0) (v := (.agg (znt false znC.zero a0.op a0.at_ a0.a a0.b (.func (.func a1f) a1_1.toArray a1_2.toArray)))) rfl rfl h_b4 zo6 (Nat.le_of_ble_eq_true rfl) rfl rfl) rfl fun fr w7 u8 r => ?_
 have z_w7 := u8.size
 have h_b1 := u8.keep h_b1 (by omega)
 have h_b4 := u8.at_
 obtain ⟨hB, zB⟩ := u8.on hB (by omega)
 refine wn (wp_ret ?_)
 refine zad r rfl rfl h_b4 (k := 6) rfl zo2 ?_
 exact ⟨_, rfl, hB, Rep.zjv (a1n.mono (Nat.le_refl _) (fun b hb => .inl hb) (Same.below hB hF) hB.size)⟩
def D.zgW  : T Unit := (T.done ())
theorem zis {n : Nat} {F : Nat → Prop} {w0 : World} (hF : ∀ b, F b → b < w0.heap.size)
     :
    Calls Tryz.prog 367 #[.agg #[]] w0 (zny Tryz.prog znC n D.zgW F w0) := by
 refine enter Tryz.func367 rfl 5 rfl rfl fun fr r => ?_
 have hB := Below.refl w0.heap.size w0
 refine wsr ?_
 refine za5 (.cells #[] 181 (0, 0)) r (fun R => znF r (v := (.agg #[])) rfl) rfl fun fr b1 w2 n3 r => ?_
 obtain ⟨e_b1, z_w2, h_b1, hB, zB⟩ := n3.all hB
 refine za5 (.cells (znt false znC.zero 0 0 0 0 .nilFunc) 186 (0, 0)) r (fun R => zag zod) rfl fun fr b4 w5 n6 r => ?_
 have h_b1 := keep n6.below h_b1
 obtain ⟨e_b4, z_w5, h_b4, hB, zB⟩ := n6.all hB
 refine wn (wsr (za0 (.agg #[]) r (fun R => za6 r (cs := []) (n := 0) rfl h_b1 zoF rfl) rfl fun fr r => za0 (.agg (znt true (znC.cells ()) 0 0 0 0 .nilFunc)) r (fun R => zaQ r (by kernel_rfl)) rfl fun fr r => ?_))
 refine zae (.cells (znt true (znC.cells ()) 0 0 0 0 .nilFunc) 186 (0, 0)) r (fun R => zaS r (o := 0) (v := (.agg (znt true (znC.cells ()) 0 0 0 0 .nilFunc))) rfl rfl h_b4 zo6 (Nat.le_of_ble_eq_true rfl) rfl rfl) rfl fun fr w7 u8 r => ?_
 have z_w7 := u8.size
 have h_b1 := u8.keep h_b1 (by omega)
 have h_b4 := u8.at_
 obtain ⟨hB, zB⟩ := u8.on hB (by omega)
 refine wn (wp_ret ?_)
 refine zad r rfl rfl h_b4 (k := 6) rfl zo2 ?_
 exact ⟨_, rfl, hB, Rep.zhP⟩
def D.zfQ (a0 : Res) : T Res := (T.done a0)
theorem zgw {n : Nat} {F : Nat → Prop} {w0 : World} (hF : ∀ b, F b → b < w0.heap.size)
    (a0 : Res) :
    Calls Tryz.prog 211 #[.agg (resC a0).toArray] w0 (zny Tryz.prog znx n (D.zfQ a0) F w0) := by
 refine enter Tryz.func211 rfl 5 rfl rfl fun fr r => ?_
 have hB := Below.refl w0.heap.size w0
 refine wsr ?_
 refine za5 (.cells ((resC a0)).toArray 32 (0, 0)) r (fun R => znF r (v := (.agg (resC a0).toArray)) rfl) rfl fun fr b1 w2 n3 r => ?_
 obtain ⟨e_b1, z_w2, h_b1, hB, zB⟩ := n3.all hB
 refine za5 (.cells (znt false znx.zero 0 0 0 0 .nilFunc) 39 (0, 0)) r (fun R => zag tz39) rfl fun fr b4 w5 n6 r => ?_
 have h_b1 := keep n6.below h_b1
 obtain ⟨e_b4, z_w5, h_b4, hB, zB⟩ := n6.all hB
 refine wn (wsr (za0 (.agg (resC a0).toArray) r (fun R => za6 r (cs := (resC a0)) (n := 2) rfl h_b1 ta32 rfl) rfl fun fr r => za0 (.agg (znt true (znx.cells a0) 0 0 0 0 .nilFunc)) r (fun R => zaQ r (by kernel_rfl)) rfl fun fr r => ?_))
 refine zae (.cells (znt true (znx.cells a0) 0 0 0 0 .nilFunc) 39 (0, 0)) r (fun R => zaS r (o := 0) (v := (.agg (znt true (znx.cells a0) 0 0 0 0 .nilFunc))) rfl rfl h_b4 ts39 (Nat.le_of_ble_eq_true rfl) rfl rfl) rfl fun fr w7 u8 r => ?_
 have z_w7 := u8.size
 have h_b1 := u8.keep h_b1 (by omega)
 have h_b4 := u8.at_
 obtain ⟨hB, zB⟩ := u8.on hB (by omega)
 refine wn (wp_ret ?_)
 refine zad r rfl rfl h_b4 (k := 8) rfl ta39 ?_
 exact ⟨_, rfl, hB, Rep.zhP⟩
def D.zfK (a0 : Access) (a1 : (Int → T Int)) : T Int := (T.act a0.op a0.at_ a0.a a0.b a1)
theorem zdX {n : Nat} {F : Nat → Prop} {w0 : World} (hF : ∀ b, F b → b < w0.heap.size)
    (a0 : Access) {a1f : FuncId} {a1_1 a1_2 : List Value} {a1 : (Int → T Int)} (a1n : FnT Tryz.prog znz u64 (n) F w0 (.func (.func a1f) a1_1.toArray a1_2.toArray) a1) :
    Calls Tryz.prog 297 #[.agg (znE a0).toArray, .func (.func a1f) a1_1.toArray a1_2.toArray] w0 (zny Tryz.prog znz n (D.zfK a0 a1) F w0) := by
 refine enter Tryz.func297 rfl 8 rfl rfl fun fr r => ?_
 have hB := Below.refl w0.heap.size w0
 refine wsr ?_
 refine za5 (.cells ((znE a0)).toArray 36 (0, 0)) r (fun R => znF r (v := (.agg (znE a0).toArray)) rfl) rfl fun fr b1 w2 n3 r => ?_
 obtain ⟨e_b1, z_w2, h_b1, hB, zB⟩ := n3.all hB
 refine za5 (.cells (znt false znz.zero 0 0 0 0 .nilFunc) 167 (0, 0)) r (fun R => zag znV) rfl fun fr b4 w5 n6 r => ?_
 have h_b1 := keep n6.below h_b1
 obtain ⟨e_b4, z_w5, h_b4, hB, zB⟩ := n6.all hB
 refine wn (wsr (za0 (.agg (znE a0).toArray) r (fun R => za6 r (cs := (znE a0)) (n := 4) rfl h_b1 ta36 rfl) rfl fun fr r => za0 (.func (.func a1f) a1_1.toArray a1_2.toArray) r (fun R => za9 r rfl) rfl fun fr r => za0 (.agg (znt false znz.zero a0.op a0.at_ a0.a a0.b (.func (.func a1f) a1_1.toArray a1_2.toArray))) r (fun R => zaQ r (by kernel_rfl)) rfl fun fr r => ?_))
 refine zae (.cells (znt false znz.zero a0.op a0.at_ a0.a a0.b (.func (.func a1f) a1_1.toArray a1_2.toArray)) 167 (0, 0)) r (fun R => zaS r (o := 0) (v := (.agg (znt false znz.zero a0.op a0.at_ a0.a a0.b (.func (.func a1f) a1_1.toArray a1_2.toArray)))) rfl rfl h_b4 znT (Nat.le_of_ble_eq_true rfl) rfl rfl) rfl fun fr w7 u8 r => ?_
 have z_w7 := u8.size
 have h_b1 := u8.keep h_b1 (by omega)
 have h_b4 := u8.at_
 obtain ⟨hB, zB⟩ := u8.on hB (by omega)
 refine wn (wp_ret ?_)
 refine zad r rfl rfl h_b4 (k := 7) rfl znS ?_
 exact ⟨_, rfl, hB, Rep.zjv (a1n.mono (Nat.le_refl _) (fun b hb => .inl hb) (Same.below hB hF) hB.size)⟩
def D.zaY (a0 : Int) : T Int := (T.done a0)
theorem zbm {n : Nat} {F : Nat → Prop} {w0 : World} (hF : ∀ b, F b → b < w0.heap.size)
    (a0 : Int) :
    Calls Tryz.prog 229 #[.int .i64 a0] w0 (zny Tryz.prog znz n (D.zaY a0) F w0) := by
 refine enter Tryz.func229 rfl 5 rfl rfl fun fr r => ?_
 have hB := Below.refl w0.heap.size w0
 refine wsr ?_
 refine za5 (.cells (znt false znz.zero 0 0 0 0 .nilFunc) 167 (0, 0)) r (fun R => zag znV) rfl fun fr b1 w2 n3 r => ?_
 obtain ⟨e_b1, z_w2, h_b1, hB, zB⟩ := n3.all hB
 refine wn (wsr (za0 (I a0) r (fun R => za9 r rfl) rfl fun fr r => za0 (.agg (znt true (znz.cells a0) 0 0 0 0 .nilFunc)) r (fun R => zaQ r (by kernel_rfl)) rfl fun fr r => ?_))
 refine zae (.cells (znt true (znz.cells a0) 0 0 0 0 .nilFunc) 167 (0, 0)) r (fun R => zaS r (o := 0) (v := (.agg (znt true (znz.cells a0) 0 0 0 0 .nilFunc))) rfl rfl h_b1 znT (Nat.le_of_ble_eq_true rfl) rfl rfl) rfl fun fr w4 u5 r => ?_
 have z_w4 := u5.size
 have h_b1 := u5.at_
 obtain ⟨hB, zB⟩ := u5.on hB (by omega)
 refine wn (wp_ret ?_)
 refine zad r rfl rfl h_b1 (k := 7) rfl znS ?_
 exact ⟨_, rfl, hB, Rep.zhP⟩
def D.zdW (a0 : Grant) : T Grant := (T.done a0)
theorem zfy {n : Nat} {F : Nat → Prop} {w0 : World} (hF : ∀ b, F b → b < w0.heap.size)
    (a0 : Grant) :
    Calls Tryz.prog 188 #[.agg (grantC a0).toArray] w0 (zny Tryz.prog znG n (D.zdW a0) F w0) := by
 refine enter Tryz.func188 rfl 5 rfl rfl fun fr r => ?_
 have hB := Below.refl w0.heap.size w0
 refine wsr ?_
 refine za5 (.cells ((grantC a0)).toArray 153 (0, 0)) r (fun R => znF r (v := (.agg (grantC a0).toArray)) rfl) rfl fun fr b1 w2 n3 r => ?_
 obtain ⟨e_b1, z_w2, h_b1, hB, zB⟩ := n3.all hB
 refine za5 (.cells (znt false znG.zero 0 0 0 0 .nilFunc) 158 (0, 0)) r (fun R => zag zo7) rfl fun fr b4 w5 n6 r => ?_
 have h_b1 := keep n6.below h_b1
 obtain ⟨e_b4, z_w5, h_b4, hB, zB⟩ := n6.all hB
 refine wn (wsr (za0 (.agg (grantC a0).toArray) r (fun R => za6 r (cs := (grantC a0)) (n := 3) rfl h_b1 zq3 rfl) rfl fun fr r => za0 (.agg (znt true (znG.cells a0) 0 0 0 0 .nilFunc)) r (fun R => zaQ r (by kernel_rfl)) rfl fun fr r => ?_))
 refine zae (.cells (znt true (znG.cells a0) 0 0 0 0 .nilFunc) 158 (0, 0)) r (fun R => zaS r (o := 0) (v := (.agg (znt true (znG.cells a0) 0 0 0 0 .nilFunc))) rfl rfl h_b4 zo3 (Nat.le_of_ble_eq_true rfl) rfl rfl) rfl fun fr w7 u8 r => ?_
 have z_w7 := u8.size
 have h_b1 := u8.keep h_b1 (by omega)
 have h_b4 := u8.at_
 obtain ⟨hB, zB⟩ := u8.on hB (by omega)
 refine wn (wp_ret ?_)
 refine zad r rfl rfl h_b4 (k := 9) rfl zo4 ?_
 exact ⟨_, rfl, hB, Rep.zhP⟩
def D.zfE (a0 : Access) (a1 : (Int → T Grant)) : T Grant := (T.act a0.op a0.at_ a0.a a0.b a1)
theorem zf0 {n : Nat} {F : Nat → Prop} {w0 : World} (hF : ∀ b, F b → b < w0.heap.size)
    (a0 : Access) {a1f : FuncId} {a1_1 a1_2 : List Value} {a1 : (Int → T Grant)} (a1n : FnT Tryz.prog znG u64 (n) F w0 (.func (.func a1f) a1_1.toArray a1_2.toArray) a1) :
    Calls Tryz.prog 286 #[.agg (znE a0).toArray, .func (.func a1f) a1_1.toArray a1_2.toArray] w0 (zny Tryz.prog znG n (D.zfE a0 a1) F w0) := by
 refine enter Tryz.func286 rfl 8 rfl rfl fun fr r => ?_
 have hB := Below.refl w0.heap.size w0
 refine wsr ?_
 refine za5 (.cells ((znE a0)).toArray 36 (0, 0)) r (fun R => znF r (v := (.agg (znE a0).toArray)) rfl) rfl fun fr b1 w2 n3 r => ?_
 obtain ⟨e_b1, z_w2, h_b1, hB, zB⟩ := n3.all hB
 refine za5 (.cells (znt false znG.zero 0 0 0 0 .nilFunc) 158 (0, 0)) r (fun R => zag zo7) rfl fun fr b4 w5 n6 r => ?_
 have h_b1 := keep n6.below h_b1
 obtain ⟨e_b4, z_w5, h_b4, hB, zB⟩ := n6.all hB
 refine wn (wsr (za0 (.agg (znE a0).toArray) r (fun R => za6 r (cs := (znE a0)) (n := 4) rfl h_b1 ta36 rfl) rfl fun fr r => za0 (.func (.func a1f) a1_1.toArray a1_2.toArray) r (fun R => za9 r rfl) rfl fun fr r => za0 (.agg (znt false znG.zero a0.op a0.at_ a0.a a0.b (.func (.func a1f) a1_1.toArray a1_2.toArray))) r (fun R => zaQ r (by kernel_rfl)) rfl fun fr r => ?_))
 refine zae (.cells (znt false znG.zero a0.op a0.at_ a0.a a0.b (.func (.func a1f) a1_1.toArray a1_2.toArray)) 158 (0, 0)) r (fun R => zaS r (o := 0) (v := (.agg (znt false znG.zero a0.op a0.at_ a0.a a0.b (.func (.func a1f) a1_1.toArray a1_2.toArray)))) rfl rfl h_b4 zo3 (Nat.le_of_ble_eq_true rfl) rfl rfl) rfl fun fr w7 u8 r => ?_
 have z_w7 := u8.size
 have h_b1 := u8.keep h_b1 (by omega)
 have h_b4 := u8.at_
 obtain ⟨hB, zB⟩ := u8.on hB (by omega)
 refine wn (wp_ret ?_)
 refine zad r rfl rfl h_b4 (k := 9) rfl zo4 ?_
 exact ⟨_, rfl, hB, Rep.zjv (a1n.mono (Nat.le_refl _) (fun b hb => .inl hb) (Same.below hB hF) hB.size)⟩
def D.zdq (a0 : Bool) : T Bool := (T.done a0)
theorem zg0 {n : Nat} {F : Nat → Prop} {w0 : World} (hF : ∀ b, F b → b < w0.heap.size)
    (a0 : Bool) :
    Calls Tryz.prog 413 #[.bool a0] w0 (zny Tryz.prog znP n (D.zdq a0) F w0) := by
 refine enter Tryz.func413 rfl 5 rfl rfl fun fr r => ?_
 have hB := Below.refl w0.heap.size w0
 refine wsr ?_
 refine za5 (.cells (znt false znP.zero 0 0 0 0 .nilFunc) 324 (0, 0)) r (fun R => zag zox) rfl fun fr b1 w2 n3 r => ?_
 obtain ⟨e_b1, z_w2, h_b1, hB, zB⟩ := n3.all hB
 refine wn (wsr (za0 (.bool a0) r (fun R => za9 r rfl) rfl fun fr r => za0 (.agg (znt true (znP.cells a0) 0 0 0 0 .nilFunc)) r (fun R => zaQ r (by kernel_rfl)) rfl fun fr r => ?_))
 refine zae (.cells (znt true (znP.cells a0) 0 0 0 0 .nilFunc) 324 (0, 0)) r (fun R => zaS r (o := 0) (v := (.agg (znt true (znP.cells a0) 0 0 0 0 .nilFunc))) rfl rfl h_b1 zol (Nat.le_of_ble_eq_true rfl) rfl rfl) rfl fun fr w4 u5 r => ?_
 have z_w4 := u5.size
 have h_b1 := u5.at_
 obtain ⟨hB, zB⟩ := u5.on hB (by omega)
 refine wn (wp_ret ?_)
 refine zad r rfl rfl h_b1 (k := 7) rfl zom ?_
 exact ⟨_, rfl, hB, Rep.zhP⟩
def D.zig (a0 : Access) (a1 : (Int → T Bool)) : T Bool := (T.act a0.op a0.at_ a0.a a0.b a1)
theorem zja {n : Nat} {F : Nat → Prop} {w0 : World} (hF : ∀ b, F b → b < w0.heap.size)
    (a0 : Access) {a1f : FuncId} {a1_1 a1_2 : List Value} {a1 : (Int → T Bool)} (a1n : FnT Tryz.prog znP u64 (n) F w0 (.func (.func a1f) a1_1.toArray a1_2.toArray) a1) :
    Calls Tryz.prog 423 #[.agg (znE a0).toArray, .func (.func a1f) a1_1.toArray a1_2.toArray] w0 (zny Tryz.prog znP n (D.zig a0 a1) F w0) := by
 refine enter Tryz.func423 rfl 8 rfl rfl fun fr r => ?_
 have hB := Below.refl w0.heap.size w0
 refine wsr ?_
 refine za5 (.cells ((znE a0)).toArray 36 (0, 0)) r (fun R => znF r (v := (.agg (znE a0).toArray)) rfl) rfl fun fr b1 w2 n3 r => ?_
 obtain ⟨e_b1, z_w2, h_b1, hB, zB⟩ := n3.all hB
 refine za5 (.cells (znt false znP.zero 0 0 0 0 .nilFunc) 324 (0, 0)) r (fun R => zag zox) rfl fun fr b4 w5 n6 r => ?_
 have h_b1 := keep n6.below h_b1
 obtain ⟨e_b4, z_w5, h_b4, hB, zB⟩ := n6.all hB
 refine wn (wsr (za0 (.agg (znE a0).toArray) r (fun R => za6 r (cs := (znE a0)) (n := 4) rfl h_b1 ta36 rfl) rfl fun fr r => za0 (.func (.func a1f) a1_1.toArray a1_2.toArray) r (fun R => za9 r rfl) rfl fun fr r => za0 (.agg (znt false znP.zero a0.op a0.at_ a0.a a0.b (.func (.func a1f) a1_1.toArray a1_2.toArray))) r (fun R => zaQ r (by kernel_rfl)) rfl fun fr r => ?_))
 refine zae (.cells (znt false znP.zero a0.op a0.at_ a0.a a0.b (.func (.func a1f) a1_1.toArray a1_2.toArray)) 324 (0, 0)) r (fun R => zaS r (o := 0) (v := (.agg (znt false znP.zero a0.op a0.at_ a0.a a0.b (.func (.func a1f) a1_1.toArray a1_2.toArray)))) rfl rfl h_b4 zol (Nat.le_of_ble_eq_true rfl) rfl rfl) rfl fun fr w7 u8 r => ?_
 have z_w7 := u8.size
 have h_b1 := u8.keep h_b1 (by omega)
 have h_b4 := u8.at_
 obtain ⟨hB, zB⟩ := u8.on hB (by omega)
 refine wn (wp_ret ?_)
 refine zad r rfl rfl h_b4 (k := 7) rfl zom ?_
 exact ⟨_, rfl, hB, Rep.zjv (a1n.mono (Nat.le_refl _) (fun b hb => .inl hb) (Same.below hB hF) hB.size)⟩
def D.zfT (a0 : Access) (a1 : (Int → T Res)) : T Res := (T.act a0.op a0.at_ a0.a a0.b a1)
theorem zcM {n : Nat} {F : Nat → Prop} {w0 : World} (hF : ∀ b, F b → b < w0.heap.size)
    (a0 : Access) {a1f : FuncId} {a1_1 a1_2 : List Value} {a1 : (Int → T Res)} (a1n : FnT Tryz.prog znx u64 (n) F w0 (.func (.func a1f) a1_1.toArray a1_2.toArray) a1) :
    Calls Tryz.prog 212 #[.agg (znE a0).toArray, .func (.func a1f) a1_1.toArray a1_2.toArray] w0 (zny Tryz.prog znx n (D.zfT a0 a1) F w0) := by
 refine enter Tryz.func212 rfl 8 rfl rfl fun fr r => ?_
 have hB := Below.refl w0.heap.size w0
 refine wsr ?_
 refine za5 (.cells ((znE a0)).toArray 36 (0, 0)) r (fun R => znF r (v := (.agg (znE a0).toArray)) rfl) rfl fun fr b1 w2 n3 r => ?_
 obtain ⟨e_b1, z_w2, h_b1, hB, zB⟩ := n3.all hB
 refine za5 (.cells (znt false znx.zero 0 0 0 0 .nilFunc) 39 (0, 0)) r (fun R => zag tz39) rfl fun fr b4 w5 n6 r => ?_
 have h_b1 := keep n6.below h_b1
 obtain ⟨e_b4, z_w5, h_b4, hB, zB⟩ := n6.all hB
 refine wn (wsr (za0 (.agg (znE a0).toArray) r (fun R => za6 r (cs := (znE a0)) (n := 4) rfl h_b1 ta36 rfl) rfl fun fr r => za0 (.func (.func a1f) a1_1.toArray a1_2.toArray) r (fun R => za9 r rfl) rfl fun fr r => za0 (.agg (znt false znx.zero a0.op a0.at_ a0.a a0.b (.func (.func a1f) a1_1.toArray a1_2.toArray))) r (fun R => zaQ r (by kernel_rfl)) rfl fun fr r => ?_))
 refine zae (.cells (znt false znx.zero a0.op a0.at_ a0.a a0.b (.func (.func a1f) a1_1.toArray a1_2.toArray)) 39 (0, 0)) r (fun R => zaS r (o := 0) (v := (.agg (znt false znx.zero a0.op a0.at_ a0.a a0.b (.func (.func a1f) a1_1.toArray a1_2.toArray)))) rfl rfl h_b4 ts39 (Nat.le_of_ble_eq_true rfl) rfl rfl) rfl fun fr w7 u8 r => ?_
 have z_w7 := u8.size
 have h_b1 := u8.keep h_b1 (by omega)
 have h_b4 := u8.at_
 obtain ⟨hB, zB⟩ := u8.on hB (by omega)
 refine wn (wp_ret ?_)
 refine zad r rfl rfl h_b4 (k := 8) rfl ta39 ?_
 exact ⟨_, rfl, hB, Rep.zjv (a1n.mono (Nat.le_refl _) (fun b hb => .inl hb) (Same.below hB hF) hB.size)⟩
def D.zgU (a0 : Access) (a1 : (Int → T Int)) : T Int := (T.act a0.op a0.at_ a0.a a0.b a1)
theorem zfY {n : Nat} {F : Nat → Prop} {w0 : World} (hF : ∀ b, F b → b < w0.heap.size)
    (a0 : Access) {a1f : FuncId} {a1_1 a1_2 : List Value} {a1 : (Int → T Int)} (a1n : FnT Tryz.prog znM u64 (n) F w0 (.func (.func a1f) a1_1.toArray a1_2.toArray) a1) :
    Calls Tryz.prog 370 #[.agg (znE a0).toArray, .func (.func a1f) a1_1.toArray a1_2.toArray] w0 (zny Tryz.prog znM n (D.zgU a0 a1) F w0) := by
 refine enter Tryz.func370 rfl 8 rfl rfl fun fr r => ?_
 have hB := Below.refl w0.heap.size w0
 refine wsr ?_
 refine za5 (.cells ((znE a0)).toArray 36 (0, 0)) r (fun R => znF r (v := (.agg (znE a0).toArray)) rfl) rfl fun fr b1 w2 n3 r => ?_
 obtain ⟨e_b1, z_w2, h_b1, hB, zB⟩ := n3.all hB
 refine za5 (.cells (znt false znM.zero 0 0 0 0 .nilFunc) 283 (0, 0)) r (fun R => zag zof) rfl fun fr b4 w5 n6 r => ?_
 have h_b1 := keep n6.below h_b1
 obtain ⟨e_b4, z_w5, h_b4, hB, zB⟩ := n6.all hB
 refine wn (wsr (za0 (.agg (znE a0).toArray) r (fun R => za6 r (cs := (znE a0)) (n := 4) rfl h_b1 ta36 rfl) rfl fun fr r => za0 (.func (.func a1f) a1_1.toArray a1_2.toArray) r (fun R => za9 r rfl) rfl fun fr r => za0 (.agg (znt false znM.zero a0.op a0.at_ a0.a a0.b (.func (.func a1f) a1_1.toArray a1_2.toArray))) r (fun R => zaQ r (by kernel_rfl)) rfl fun fr r => ?_))
 refine zae (.cells (znt false znM.zero a0.op a0.at_ a0.a a0.b (.func (.func a1f) a1_1.toArray a1_2.toArray)) 283 (0, 0)) r (fun R => zaS r (o := 0) (v := (.agg (znt false znM.zero a0.op a0.at_ a0.a a0.b (.func (.func a1f) a1_1.toArray a1_2.toArray)))) rfl rfl h_b4 zoc (Nat.le_of_ble_eq_true rfl) rfl rfl) rfl fun fr w7 u8 r => ?_
 have z_w7 := u8.size
 have h_b1 := u8.keep h_b1 (by omega)
 have h_b4 := u8.at_
 obtain ⟨hB, zB⟩ := u8.on hB (by omega)
 refine wn (wp_ret ?_)
 refine zad r rfl rfl h_b4 (k := 7) rfl zob ?_
 exact ⟨_, rfl, hB, Rep.zjv (a1n.mono (Nat.le_refl _) (fun b hb => .inl hb) (Same.below hB hF) hB.size)⟩
def D.zcS (a0 : Int) : T Int := (T.done a0)
theorem zf5 {n : Nat} {F : Nat → Prop} {w0 : World} (hF : ∀ b, F b → b < w0.heap.size)
    (a0 : Int) :
    Calls Tryz.prog 371 #[.int .u64 a0] w0 (zny Tryz.prog znM n (D.zcS a0) F w0) := by
 refine enter Tryz.func371 rfl 5 rfl rfl fun fr r => ?_
 have hB := Below.refl w0.heap.size w0
 refine wsr ?_
 refine za5 (.cells (znt false znM.zero 0 0 0 0 .nilFunc) 283 (0, 0)) r (fun R => zag zof) rfl fun fr b1 w2 n3 r => ?_
 obtain ⟨e_b1, z_w2, h_b1, hB, zB⟩ := n3.all hB
 refine wn (wsr (za0 (U a0) r (fun R => za9 r rfl) rfl fun fr r => za0 (.agg (znt true (znM.cells a0) 0 0 0 0 .nilFunc)) r (fun R => zaQ r (by kernel_rfl)) rfl fun fr r => ?_))
 refine zae (.cells (znt true (znM.cells a0) 0 0 0 0 .nilFunc) 283 (0, 0)) r (fun R => zaS r (o := 0) (v := (.agg (znt true (znM.cells a0) 0 0 0 0 .nilFunc))) rfl rfl h_b1 zoc (Nat.le_of_ble_eq_true rfl) rfl rfl) rfl fun fr w4 u5 r => ?_
 have z_w4 := u5.size
 have h_b1 := u5.at_
 obtain ⟨hB, zB⟩ := u5.on hB (by omega)
 refine wn (wp_ret ?_)
 refine zad r rfl rfl h_b1 (k := 7) rfl zob ?_
 exact ⟨_, rfl, hB, Rep.zhP⟩
def zdZ (n : Nat) : Prop := ∀ {F : Nat → Prop} {w0 : World}, (∀ b, F b → b < w0.heap.size) → ∀ {t : T (Bool)} {pv fv : Value} {g : Bool → T (Int)}, Rep Tryz.prog znP n t F w0 pv → FnT Tryz.prog znz boolE n F w0 fv g →
    (t.znO = false ∨ FnT Tryz.prog znz boolE (n + 1) F w0 fv g) → Calls Tryz.prog 357 #[pv, fv] w0 (zny Tryz.prog znz n (t.bind g) F w0)
theorem zgN {n : Nat} (ih : zdZ n) {F : Nat → Prop} {w0 : World} (hF : ∀ b, F b → b < w0.heap.size) {op at_ a b : Int} {nf : FuncId} {n1 n2 : List Value} {k : Int → T (Bool)} {ff : FuncId} {f1 f2 : List Value} {g : Bool → T (Int)}
    {b1 b2 : Nat} (F1 : F b1) (h1 : w0.heap[b1]? = some (.cells (znt false znP.zero op at_ a b (.func (.func nf) n1.toArray n2.toArray)) 324 (0, 0))) (F2 : F b2) (h2 : w0.heap[b2]? = some (.cells #[.func (.func ff) f1.toArray f2.toArray] 297 (0, 0)))
    (hk : FnT Tryz.prog znP u64 (n + 1) F w0 (.func (.func nf) n1.toArray n2.toArray) k) (hg : FnT Tryz.prog znz boolE (n + 1) F w0 (.func (.func ff) f1.toArray f2.toArray) g) (x : Int) :
    Calls Tryz.prog 388 #[.int .u64 x, zp b1, zp b2] w0 (zny Tryz.prog znz n ((k x).bind g) F w0) := by
 refine enter Tryz.func388 rfl 11 rfl rfl fun fr r => ?_
 have hB := Below.refl w0.heap.size w0
 refine wp_seq (wp_region_lit ?_)
 refine za5 (.cells (znt false znz.zero 0 0 0 0 .nilFunc) 167 (0, 0)) r (fun R => zag znV) rfl fun fr b3 w1 q1 r => wn ?_
 have h1 := keep q1.below h1
 have h2 := keep q1.below h2
 have e3 := q1.eq
 have z1 := q1.size
 have h3 := q1.at_
 have hB := hB.trans (q1.below.mono hB.size)
 have zB := hB.size
 refine wp_seq ?_
 refine zaI 5 [.val (.pointer (some ⟨b1, 6, none⟩)), .val (.func (.func nf) n1.toArray n2.toArray), .val (U x), .pred (znW Tryz.prog znP n (k x) F w0.heap.size b3) znW.stable, .val (.func (.func ff) f1.toArray f2.toArray)] mixed r (by kernel_rfl) (za2 trivial (za2 trivial (za2 trivial (za2 trivial (za2 trivial zaC))))) ?_ ?_
 ·
  refine ec r (fun _ u _ b d s => za4 s (b := b1) (o := 0) rfl zmP bz) ?_
  refine zba r rfl (fun fr1 u w' hb' hd r' => ?_) ?_
  ·
   obtain ⟨d0, _⟩ := hd
   exact za3 r' (v := .func (.func nf) n1.toArray n2.toArray) d0 (keep hb' h1) zrt rfl ⟨Below.refl _ _, rfl⟩
  refine ec r (fun _ u _ b d s => za9 s rfl bz) ?_
  refine zba r rfl (fun fr1 u w' hb' hd r' => ?_) ?_
  ·
   obtain ⟨d0, d1, _⟩ := hd
   have zb := hb'.size
   have zb : w1.heap.size ≤ w'.heap.size := zb
   have hB' : Below w0.heap.size w0 w' := hB.trans (Below.mono (w := w1) ⟨hb'.os, hb'.tape, hb'.output, hb'.size, hb'.block⟩ hB.size)
   have d0 : u 1 = .func (.func nf) n1.toArray n2.toArray := d0
   have d1 : u 2 = .int .u64 x := d1
   refine zdi r' (fs := n1) (cs := n2) d0 d1 hk.at_.1 ((hk.at_.2 n (Nat.lt_succ_self n) x w' (Same.below hB' hF) hB'.size).mono ?_)
   rintro _ w2 ⟨v, rfl, hb2, hr2⟩
   refine ⟨v, rfl, hb2, znW.zib (fun b h => Nat.lt_of_lt_of_le (hF b h) hB'.size) (by omega) hB'.size hb2 (Rep.mono ?_ (Same.refl _ _) (Nat.le_refl _) n _ _ hr2)⟩
   rintro b (h | h)
   · exact .inl (.inl h)
   · exact .inr h
  refine ec r (fun _ u _ b d s => za3 s rfl (keep b h2) zpv rfl bz) ?_
  exact zaV
 intro fr u w2 hb hΦ _ r
 obtain ⟨_, hr3, _, hr⟩ : znW Tryz.prog znP n (k x) F w0.heap.size b3 (u 3) w2 := hΦ 3 (by decide)
 have r := r.congr (sc (hΦ 4 (by decide)) rfl)
 have z2 := hb.size
 have h1 := keep hb h1
 have h2 := keep hb h2
 have h3 := keep hb h3
 have hB2 := hB.trans (hb.mono hB.size)
 have zB2 := hB2.size
 have hF1 : ∀ b, (fun b => F b ∨ (w0.heap.size ≤ b ∧ b < w2.heap.size ∧ b ≠ b3)) b → b < w2.heap.size := by rintro b (h | h); exact Nat.lt_of_lt_of_le (hF b h) hB2.size; exact h.2.1
 refine za8 r (ih (F := fun b => F b ∨ (w0.heap.size ≤ b ∧ b < w2.heap.size ∧ b ≠ b3)) hF1 hr (hg.mono (by omega) (fun b h => .inl h) (Same.below hB2 hF) hB2.size)
  (.inr (hg.mono (Nat.le_refl _) (fun b h => .inl h) (Same.below hB2 hF) hB2.size))) (fun R hc => zac r rfl zpF hc) rfl ?_
 rintro _ w3 ⟨v2, rfl, hb2, hr2⟩
 refine ⟨_, rfl, fun fr r => ?_⟩
 have z3 := hb2.size
 have h3 := keep hb2 h3
 have hB3 := hB2.trans (hb2.mono hB2.size)
 refine zae (.cells v2.cells 167 (0, 0)) r (fun R => zaf r hr2.shape rfl rfl h3 znT rfl) rfl fun fr w4 u4 r => wn ?_
 have z4 := u4.size
 have h3 := u4.at_
 have hB4 := u4.below hB3 (by omega)
 refine wp_ret ?_
 have hs := hr2.shape.cells
 refine zad r rfl rfl h3 (k := 7) hs.1 znS ?_
 rw [← hs.2.2]
 exact zny.fin hB4 hr2 u4 (by rintro b (h | ⟨h1, h2, _⟩); exact .inl h; exact .inr ⟨h1, h2⟩) (by rintro (h | ⟨_, _, h⟩); (have := hF _ h; omega); exact h rfl) (by omega) (by omega) (by omega)
theorem zgO (n : Nat) : zdZ n := by
  induction n using Nat.strongRecOn with
  | _ n ih =>
  intro F w0 hF t pv fv g hp hf hd
  obtain ⟨ff, f1, f2, hcf, rfl, hff⟩ := id hf
  cases t with
  | cut => unfold Rep at hp; exact hp.elim
  | done x0 =>
    have hf := hd.resolve_left (by intro h; cases h)
    unfold Rep at hp
    subst hp
    refine enter (l := [.agg (znt true (znP.cells x0) 0 0 0 0 .nilFunc), .func (.func ff) f1.toArray f2.toArray]) Tryz.func357 rfl 15 rfl rfl fun fr r => ?_
    have hB := Below.refl w0.heap.size w0
    refine wp_seq (wp_region_lit ?_)
    refine za5 (.cells (znt true (znP.cells x0) 0 0 0 0 .nilFunc) 324 (0, 0)) r (fun R => znF r (v := .agg (znt true (znP.cells x0) 0 0 0 0 .nilFunc)) rfl) rfl fun fr b1 w1 q1 r => ?_
    refine za5 (.cells #[.func (.func ff) f1.toArray f2.toArray] 297 (0, 0)) r (fun R => znF r (v := .func (.func ff) f1.toArray f2.toArray) rfl) rfl fun fr b2 w2 q2 r => ?_
    refine za5 (.cells (znt false znz.zero 0 0 0 0 .nilFunc) 167 (0, 0)) r (fun R => zag znV) rfl fun fr b3 w3 q3 r => wpList_nil ?_
    have h1 := keep q3.below (keep q2.below q1.at_)
    have h2 := keep q3.below q2.at_
    have h3 := q3.at_
    have e1 := q1.eq; have e2 := q2.eq; have e3 := q3.eq; have z1 := q1.size; have z2 := q2.size; have z3 := q3.size
    have hB := ((hB.trans q1.below).trans (q2.below.mono (by omega))).trans (q3.below.mono (by omega))
    have zB := hB.size
    refine wp_seq (wp_seq (wp_region_lit (za0 (zp b1) r (fun R => za4 r (o := 0) rfl zlW) rfl fun fr r => ?_)))
    refine za0 (.bool true) r (fun R => za3 r (v := .bool true) rfl h1 to4 rfl) rfl fun fr r => wpList_nil ?_
    refine wp_cond_split (t := true) (r.ev rfl) (fun _ => ?_) (fun h => by cases h)
    refine wp_seq (wp_region_lit (za0 (.func (.func ff) f1.toArray f2.toArray) r (fun R => za3 r (v := .func (.func ff) f1.toArray f2.toArray) rfl h2 zpv rfl) rfl fun fr r => za0 (.pointer (some ⟨b1, 1, none⟩)) r (fun R => za4 r (o := 0) rfl zmQ) rfl fun fr r => za0 (.bool x0) r (fun R => za3 r (v := (.bool x0)) rfl h1 to4 rfl) rfl fun fr r => ?_))
    refine za8 r (hf.at_.2 n (Nat.lt_succ_self n) x0 w3 (Same.below hB hF) hB.size) (fun R hc => zfk r rfl rfl hf.at_.1 hc) rfl ?_
    rintro _ w4 ⟨v, rfl, hb, hr⟩
    refine ⟨_, rfl, fun fr r => ?_⟩
    have z4 := hb.size
    have h3 := keep hb h3
    have hB := hB.trans (hb.mono hB.size)
    refine zae (.cells v.cells 167 (0, 0)) r (fun R => zaf r hr.shape rfl rfl h3 znT rfl) rfl fun fr w5 u5 r => wpList_nil ?_
    have z5 := u5.size
    have h3 := u5.at_
    have hB := u5.below hB (by omega)
    refine wp_ret ?_
    have hs := hr.shape.cells
    refine zad r rfl rfl h3 (k := 7) hs.1 znS ?_
    rw [← hs.2.2]
    exact zny.fin hB hr u5 (fun b hb => .inl hb) (fun h => by have := hF _ h; omega) (by omega) (by omega) (by omega)
  | act op at_ a b k =>
    obtain ⟨nf, n1, n2, hcn, rfl, hk⟩ : ∃ (nf : FuncId) (n1 n2 : List Value), znv Tryz.prog nf = true ∧ pv = .agg (znt false znP.zero op at_ a b (.func (.func nf) n1.toArray n2.toArray)) ∧ FnT Tryz.prog znP u64 n F w0 (.func (.func nf) n1.toArray n2.toArray) k := by
      exact Rep.zeq hp
    refine enter (l := [.agg (znt false znP.zero op at_ a b (.func (.func nf) n1.toArray n2.toArray)), .func (.func ff) f1.toArray f2.toArray]) Tryz.func357 rfl 15 rfl rfl fun fr r => ?_
    have hB := Below.refl w0.heap.size w0
    refine wp_seq (wp_region_lit ?_)
    refine za5 (.cells (znt false znP.zero op at_ a b (.func (.func nf) n1.toArray n2.toArray)) 324 (0, 0)) r (fun R => znF r (v := .agg (znt false znP.zero op at_ a b (.func (.func nf) n1.toArray n2.toArray))) rfl) rfl fun fr b1 w1 q1 r => ?_
    refine za5 (.cells #[.func (.func ff) f1.toArray f2.toArray] 297 (0, 0)) r (fun R => znF r (v := .func (.func ff) f1.toArray f2.toArray) rfl) rfl fun fr b2 w2 q2 r => ?_
    refine za5 (.cells (znt false znz.zero 0 0 0 0 .nilFunc) 167 (0, 0)) r (fun R => zag znV) rfl fun fr b3 w3 q3 r => wpList_nil ?_
    have h1 := keep q3.below (keep q2.below q1.at_)
    have h2 := keep q3.below q2.at_
    have h3 := q3.at_
    have e1 := q1.eq; have e2 := q2.eq; have e3 := q3.eq; have z1 := q1.size; have z2 := q2.size; have z3 := q3.size
    have hB := ((hB.trans q1.below).trans (q2.below.mono (by omega))).trans (q3.below.mono (by omega))
    have zB := hB.size
    refine wp_seq (wp_seq (wp_region_lit (za0 (zp b1) r (fun R => za4 r (o := 0) rfl zlW) rfl fun fr r => ?_)))
    refine za0 (.bool false) r (fun R => za3 r (v := .bool false) rfl h1 to4 rfl) rfl fun fr r => wpList_nil ?_
    refine wp_cond_split (t := false) (r.ev rfl) (fun h => by cases h) (fun _ => wp_skip ?_)
    refine wp_seq (wp_region_lit (za0 (.pointer (some ⟨b1, 2, none⟩)) r (fun R => za4 r (o := 0) rfl zn8) rfl fun fr r => za0 (.agg (znE (⟨op, at_, a, b⟩ : Access)).toArray) r (fun R => za6 r (cs := (znE (⟨op, at_, a, b⟩ : Access))) (n := 4) rfl h1 ta36 rfl) rfl fun fr r => za0 (.func (.func 388) #[] #[zp b1, zp b2]) r (fun R => zao r rfl) rfl fun fr r => ?_))
    have hF1 : ∀ b, (fun b => F b ∨ b = b1 ∨ b = b2) b → b < w3.heap.size := by rintro b (h | h | h); exact Nat.lt_of_lt_of_le (hF b h) hB.size; omega; omega
    refine za8 r (zdX (F := fun b => F b ∨ b = b1 ∨ b = b2) (n := n) hF1 ⟨op, at_, a, b⟩ (a1 := fun x => (k x).bind g) (show FnT Tryz.prog znz u64 n (fun b => F b ∨ b = b1 ∨ b = b2) w3 (.func (.func 388) ([] : List Value).toArray [zp b1, zp b2].toArray) (fun x => (k x).bind g) from
      ⟨388, [], [zp b1, zp b2], zs2, rfl, fun m hm x w' hs hz => zgN (ih m hm) (fun b hb => Nat.lt_of_lt_of_le (hF1 b hb) hz) (.inr (.inl rfl)) (hs.at_ (.inr (.inl rfl)) h1) (.inr (.inr rfl)) (hs.at_ (.inr (.inr rfl)) h2)
        (hk.mono (by omega) (fun b h => .inl h) ((Same.below hB hF).trans (hs.sub (fun b h => .inl h))) (Nat.le_trans hB.size hz)) (hf.mono (by omega) (fun b h => .inl h) ((Same.below hB hF).trans (hs.sub (fun b h => .inl h))) (Nat.le_trans hB.size hz)) x⟩)) (fun R hc => zac r rfl zoG hc) rfl ?_
    rintro _ w4 ⟨v, rfl, hb, hr⟩
    refine ⟨_, rfl, fun fr r => ?_⟩
    have z4 := hb.size
    have h3 := keep hb h3
    have hB := hB.trans (hb.mono hB.size)
    refine zae (.cells v.cells 167 (0, 0)) r (fun R => zaf r hr.shape rfl rfl h3 znT rfl) rfl fun fr w5 u5 r => wpList_nil ?_
    have z5 := u5.size
    have h3 := u5.at_
    have hB := u5.below hB (by omega)
    refine wp_ret ?_
    have hs := hr.shape.cells
    refine zad r rfl rfl h3 (k := 7) hs.1 znS ?_
    rw [← hs.2.2]
    exact zny.fin hB hr u5 (by rintro b (h | h | h); exact .inl h; exact .inr ⟨by omega, by omega⟩; exact .inr ⟨by omega, by omega⟩) (by rintro (h | h | h); (have := hF _ h; omega); omega; omega) (by omega) (by omega) (by omega)
theorem zfH {n : Nat} {F : Nat → Prop} {w0 : World} (hF : ∀ b, F b → b < w0.heap.size) {t : T (Bool)} {pv fv : Value} {g : Bool → T (Int)} (hp : Rep Tryz.prog znP n t F w0 pv) (hf : FnT Tryz.prog znz boolE (n + 1) F w0 fv g) :
    Calls Tryz.prog 357 #[pv, fv] w0 (zny Tryz.prog znz n (t.bind g) F w0) := zgO n hF hp (hf.mono (by omega) (fun b h => h) (Same.refl _ _) (Nat.le_refl _)) (.inr hf)
def zdL (n : Nat) : Prop := ∀ {F : Nat → Prop} {w0 : World}, (∀ b, F b → b < w0.heap.size) → ∀ {t : T (Grant)} {pv fv : Value} {g : Grant → T (Res)}, Rep Tryz.prog znG n t F w0 pv → FnT Tryz.prog znx argGrant n F w0 fv g →
    (t.znO = false ∨ FnT Tryz.prog znx argGrant (n + 1) F w0 fv g) → Calls Tryz.prog 113 #[pv, fv] w0 (zny Tryz.prog znx n (t.bind g) F w0)
theorem zgi {n : Nat} (ih : zdL n) {F : Nat → Prop} {w0 : World} (hF : ∀ b, F b → b < w0.heap.size) {op at_ a b : Int} {nf : FuncId} {n1 n2 : List Value} {k : Int → T (Grant)} {ff : FuncId} {f1 f2 : List Value} {g : Grant → T (Res)}
    {b1 b2 : Nat} (F1 : F b1) (h1 : w0.heap[b1]? = some (.cells (znt false znG.zero op at_ a b (.func (.func nf) n1.toArray n2.toArray)) 158 (0, 0))) (F2 : F b2) (h2 : w0.heap[b2]? = some (.cells #[.func (.func ff) f1.toArray f2.toArray] 190 (0, 0)))
    (hk : FnT Tryz.prog znG u64 (n + 1) F w0 (.func (.func nf) n1.toArray n2.toArray) k) (hg : FnT Tryz.prog znx argGrant (n + 1) F w0 (.func (.func ff) f1.toArray f2.toArray) g) (x : Int) :
    Calls Tryz.prog 213 #[.int .u64 x, zp b1, zp b2] w0 (zny Tryz.prog znx n ((k x).bind g) F w0) := by
 refine enter Tryz.func213 rfl 11 rfl rfl fun fr r => ?_
 have hB := Below.refl w0.heap.size w0
 refine wp_seq (wp_region_lit ?_)
 refine za5 (.cells (znt false znx.zero 0 0 0 0 .nilFunc) 39 (0, 0)) r (fun R => zag tz39) rfl fun fr b3 w1 q1 r => wn ?_
 have h1 := keep q1.below h1
 have h2 := keep q1.below h2
 have e3 := q1.eq
 have z1 := q1.size
 have h3 := q1.at_
 have hB := hB.trans (q1.below.mono hB.size)
 have zB := hB.size
 refine wp_seq ?_
 refine zaI 5 [.val (.pointer (some ⟨b1, 8, none⟩)), .val (.func (.func nf) n1.toArray n2.toArray), .val (U x), .pred (znW Tryz.prog znG n (k x) F w0.heap.size b3) znW.stable, .val (.func (.func ff) f1.toArray f2.toArray)] mixed r (by kernel_rfl) (za2 trivial (za2 trivial (za2 trivial (za2 trivial (za2 trivial zaC))))) ?_ ?_
 ·
  refine ec r (fun _ u _ b d s => za4 s (b := b1) (o := 0) rfl zmT bz) ?_
  refine zba r rfl (fun fr1 u w' hb' hd r' => ?_) ?_
  ·
   obtain ⟨d0, _⟩ := hd
   exact za3 r' (v := .func (.func nf) n1.toArray n2.toArray) d0 (keep hb' h1) zsb rfl ⟨Below.refl _ _, rfl⟩
  refine ec r (fun _ u _ b d s => za9 s rfl bz) ?_
  refine zba r rfl (fun fr1 u w' hb' hd r' => ?_) ?_
  ·
   obtain ⟨d0, d1, _⟩ := hd
   have zb := hb'.size
   have zb : w1.heap.size ≤ w'.heap.size := zb
   have hB' : Below w0.heap.size w0 w' := hB.trans (Below.mono (w := w1) ⟨hb'.os, hb'.tape, hb'.output, hb'.size, hb'.block⟩ hB.size)
   have d0 : u 1 = .func (.func nf) n1.toArray n2.toArray := d0
   have d1 : u 2 = .int .u64 x := d1
   refine zdi r' (fs := n1) (cs := n2) d0 d1 hk.at_.1 ((hk.at_.2 n (Nat.lt_succ_self n) x w' (Same.below hB' hF) hB'.size).mono ?_)
   rintro _ w2 ⟨v, rfl, hb2, hr2⟩
   refine ⟨v, rfl, hb2, znW.zib (fun b h => Nat.lt_of_lt_of_le (hF b h) hB'.size) (by omega) hB'.size hb2 (Rep.mono ?_ (Same.refl _ _) (Nat.le_refl _) n _ _ hr2)⟩
   rintro b (h | h)
   · exact .inl (.inl h)
   · exact .inr h
  refine ec r (fun _ u _ b d s => za3 s rfl (keep b h2) zq9 rfl bz) ?_
  exact zaV
 intro fr u w2 hb hΦ _ r
 obtain ⟨_, hr3, _, hr⟩ : znW Tryz.prog znG n (k x) F w0.heap.size b3 (u 3) w2 := hΦ 3 (by decide)
 have r := r.congr (sc (hΦ 4 (by decide)) rfl)
 have z2 := hb.size
 have h1 := keep hb h1
 have h2 := keep hb h2
 have h3 := keep hb h3
 have hB2 := hB.trans (hb.mono hB.size)
 have zB2 := hB2.size
 have hF1 : ∀ b, (fun b => F b ∨ (w0.heap.size ≤ b ∧ b < w2.heap.size ∧ b ≠ b3)) b → b < w2.heap.size := by rintro b (h | h); exact Nat.lt_of_lt_of_le (hF b h) hB2.size; exact h.2.1
 refine za8 r (ih (F := fun b => F b ∨ (w0.heap.size ≤ b ∧ b < w2.heap.size ∧ b ≠ b3)) hF1 hr (hg.mono (by omega) (fun b h => .inl h) (Same.below hB2 hF) hB2.size)
  (.inr (hg.mono (Nat.le_refl _) (fun b h => .inl h) (Same.below hB2 hF) hB2.size))) (fun R hc => zac r rfl zqf hc) rfl ?_
 rintro _ w3 ⟨v2, rfl, hb2, hr2⟩
 refine ⟨_, rfl, fun fr r => ?_⟩
 have z3 := hb2.size
 have h3 := keep hb2 h3
 have hB3 := hB2.trans (hb2.mono hB2.size)
 refine zae (.cells v2.cells 39 (0, 0)) r (fun R => zaf r hr2.shape rfl rfl h3 ts39 rfl) rfl fun fr w4 u4 r => wn ?_
 have z4 := u4.size
 have h3 := u4.at_
 have hB4 := u4.below hB3 (by omega)
 refine wp_ret ?_
 have hs := hr2.shape.cells
 refine zad r rfl rfl h3 (k := 8) hs.1 ta39 ?_
 rw [← hs.2.2]
 exact zny.fin hB4 hr2 u4 (by rintro b (h | ⟨h1, h2, _⟩); exact .inl h; exact .inr ⟨h1, h2⟩) (by rintro (h | ⟨_, _, h⟩); (have := hF _ h; omega); exact h rfl) (by omega) (by omega) (by omega)
theorem zgf (n : Nat) : zdL n := by
  induction n using Nat.strongRecOn with
  | _ n ih =>
  intro F w0 hF t pv fv g hp hf hd
  obtain ⟨ff, f1, f2, hcf, rfl, hff⟩ := id hf
  cases t with
  | cut => unfold Rep at hp; exact hp.elim
  | done x0 =>
    have hf := hd.resolve_left (by intro h; cases h)
    unfold Rep at hp
    subst hp
    refine enter (l := [.agg (znt true (znG.cells x0) 0 0 0 0 .nilFunc), .func (.func ff) f1.toArray f2.toArray]) Tryz.func113 rfl 15 rfl rfl fun fr r => ?_
    have hB := Below.refl w0.heap.size w0
    refine wp_seq (wp_region_lit ?_)
    refine za5 (.cells (znt true (znG.cells x0) 0 0 0 0 .nilFunc) 158 (0, 0)) r (fun R => znF r (v := .agg (znt true (znG.cells x0) 0 0 0 0 .nilFunc)) rfl) rfl fun fr b1 w1 q1 r => ?_
    refine za5 (.cells #[.func (.func ff) f1.toArray f2.toArray] 190 (0, 0)) r (fun R => znF r (v := .func (.func ff) f1.toArray f2.toArray) rfl) rfl fun fr b2 w2 q2 r => ?_
    refine za5 (.cells (znt false znx.zero 0 0 0 0 .nilFunc) 39 (0, 0)) r (fun R => zag tz39) rfl fun fr b3 w3 q3 r => wpList_nil ?_
    have h1 := keep q3.below (keep q2.below q1.at_)
    have h2 := keep q3.below q2.at_
    have h3 := q3.at_
    have e1 := q1.eq; have e2 := q2.eq; have e3 := q3.eq; have z1 := q1.size; have z2 := q2.size; have z3 := q3.size
    have hB := ((hB.trans q1.below).trans (q2.below.mono (by omega))).trans (q3.below.mono (by omega))
    have zB := hB.size
    refine wp_seq (wp_seq (wp_region_lit (za0 (zp b1) r (fun R => za4 r (o := 0) rfl zlM) rfl fun fr r => ?_)))
    refine za0 (.bool true) r (fun R => za3 r (v := .bool true) rfl h1 to4 rfl) rfl fun fr r => wpList_nil ?_
    refine wp_cond_split (t := true) (r.ev rfl) (fun _ => ?_) (fun h => by cases h)
    refine wp_seq (wp_region_lit (za0 (.func (.func ff) f1.toArray f2.toArray) r (fun R => za3 r (v := .func (.func ff) f1.toArray f2.toArray) rfl h2 zq9 rfl) rfl fun fr r => za0 (.pointer (some ⟨b1, 1, none⟩)) r (fun R => za4 r (o := 0) rfl zmM) rfl fun fr r => za0 (.agg (grantC x0).toArray) r (fun R => za6 r (cs := (grantC x0)) (n := 3) rfl h1 zq3 rfl) rfl fun fr r => ?_))
    refine za8 r (hf.at_.2 n (Nat.lt_succ_self n) x0 w3 (Same.below hB hF) hB.size) (fun R hc => zfk r rfl rfl hf.at_.1 hc) rfl ?_
    rintro _ w4 ⟨v, rfl, hb, hr⟩
    refine ⟨_, rfl, fun fr r => ?_⟩
    have z4 := hb.size
    have h3 := keep hb h3
    have hB := hB.trans (hb.mono hB.size)
    refine zae (.cells v.cells 39 (0, 0)) r (fun R => zaf r hr.shape rfl rfl h3 ts39 rfl) rfl fun fr w5 u5 r => wpList_nil ?_
    have z5 := u5.size
    have h3 := u5.at_
    have hB := u5.below hB (by omega)
    refine wp_ret ?_
    have hs := hr.shape.cells
    refine zad r rfl rfl h3 (k := 8) hs.1 ta39 ?_
    rw [← hs.2.2]
    exact zny.fin hB hr u5 (fun b hb => .inl hb) (fun h => by have := hF _ h; omega) (by omega) (by omega) (by omega)
  | act op at_ a b k =>
    obtain ⟨nf, n1, n2, hcn, rfl, hk⟩ : ∃ (nf : FuncId) (n1 n2 : List Value), znv Tryz.prog nf = true ∧ pv = .agg (znt false znG.zero op at_ a b (.func (.func nf) n1.toArray n2.toArray)) ∧ FnT Tryz.prog znG u64 n F w0 (.func (.func nf) n1.toArray n2.toArray) k := by
      exact Rep.zeq hp
    refine enter (l := [.agg (znt false znG.zero op at_ a b (.func (.func nf) n1.toArray n2.toArray)), .func (.func ff) f1.toArray f2.toArray]) Tryz.func113 rfl 15 rfl rfl fun fr r => ?_
    have hB := Below.refl w0.heap.size w0
    refine wp_seq (wp_region_lit ?_)
    refine za5 (.cells (znt false znG.zero op at_ a b (.func (.func nf) n1.toArray n2.toArray)) 158 (0, 0)) r (fun R => znF r (v := .agg (znt false znG.zero op at_ a b (.func (.func nf) n1.toArray n2.toArray))) rfl) rfl fun fr b1 w1 q1 r => ?_
    refine za5 (.cells #[.func (.func ff) f1.toArray f2.toArray] 190 (0, 0)) r (fun R => znF r (v := .func (.func ff) f1.toArray f2.toArray) rfl) rfl fun fr b2 w2 q2 r => ?_
    refine za5 (.cells (znt false znx.zero 0 0 0 0 .nilFunc) 39 (0, 0)) r (fun R => zag tz39) rfl fun fr b3 w3 q3 r => wpList_nil ?_
    have h1 := keep q3.below (keep q2.below q1.at_)
    have h2 := keep q3.below q2.at_
    have h3 := q3.at_
    have e1 := q1.eq; have e2 := q2.eq; have e3 := q3.eq; have z1 := q1.size; have z2 := q2.size; have z3 := q3.size
    have hB := ((hB.trans q1.below).trans (q2.below.mono (by omega))).trans (q3.below.mono (by omega))
    have zB := hB.size
    refine wp_seq (wp_seq (wp_region_lit (za0 (zp b1) r (fun R => za4 r (o := 0) rfl zlM) rfl fun fr r => ?_)))
    refine za0 (.bool false) r (fun R => za3 r (v := .bool false) rfl h1 to4 rfl) rfl fun fr r => wpList_nil ?_
    refine wp_cond_split (t := false) (r.ev rfl) (fun h => by cases h) (fun _ => wp_skip ?_)
    refine wp_seq (wp_region_lit (za0 (.pointer (some ⟨b1, 4, none⟩)) r (fun R => za4 r (o := 0) rfl zmS) rfl fun fr r => za0 (.agg (znE (⟨op, at_, a, b⟩ : Access)).toArray) r (fun R => za6 r (cs := (znE (⟨op, at_, a, b⟩ : Access))) (n := 4) rfl h1 ta36 rfl) rfl fun fr r => za0 (.func (.func 213) #[] #[zp b1, zp b2]) r (fun R => zao r rfl) rfl fun fr r => ?_))
    have hF1 : ∀ b, (fun b => F b ∨ b = b1 ∨ b = b2) b → b < w3.heap.size := by rintro b (h | h | h); exact Nat.lt_of_lt_of_le (hF b h) hB.size; omega; omega
    refine za8 r (zcM (F := fun b => F b ∨ b = b1 ∨ b = b2) (n := n) hF1 ⟨op, at_, a, b⟩ (a1 := fun x => (k x).bind g) (show FnT Tryz.prog znx u64 n (fun b => F b ∨ b = b1 ∨ b = b2) w3 (.func (.func 213) ([] : List Value).toArray [zp b1, zp b2].toArray) (fun x => (k x).bind g) from
      ⟨213, [], [zp b1, zp b2], zqM, rfl, fun m hm x w' hs hz => zgi (ih m hm) (fun b hb => Nat.lt_of_lt_of_le (hF1 b hb) hz) (.inr (.inl rfl)) (hs.at_ (.inr (.inl rfl)) h1) (.inr (.inr rfl)) (hs.at_ (.inr (.inr rfl)) h2)
        (hk.mono (by omega) (fun b h => .inl h) ((Same.below hB hF).trans (hs.sub (fun b h => .inl h))) (Nat.le_trans hB.size hz)) (hf.mono (by omega) (fun b h => .inl h) ((Same.below hB hF).trans (hs.sub (fun b h => .inl h))) (Nat.le_trans hB.size hz)) x⟩)) (fun R hc => zac r rfl zoo hc) rfl ?_
    rintro _ w4 ⟨v, rfl, hb, hr⟩
    refine ⟨_, rfl, fun fr r => ?_⟩
    have z4 := hb.size
    have h3 := keep hb h3
    have hB := hB.trans (hb.mono hB.size)
    refine zae (.cells v.cells 39 (0, 0)) r (fun R => zaf r hr.shape rfl rfl h3 ts39 rfl) rfl fun fr w5 u5 r => wpList_nil ?_
    have z5 := u5.size
    have h3 := u5.at_
    have hB := u5.below hB (by omega)
    refine wp_ret ?_
    have hs := hr.shape.cells
    refine zad r rfl rfl h3 (k := 8) hs.1 ta39 ?_
    rw [← hs.2.2]
    exact zny.fin hB hr u5 (by rintro b (h | h | h); exact .inl h; exact .inr ⟨by omega, by omega⟩; exact .inr ⟨by omega, by omega⟩) (by rintro (h | h | h); (have := hF _ h; omega); omega; omega) (by omega) (by omega) (by omega)
theorem zfn {n : Nat} {F : Nat → Prop} {w0 : World} (hF : ∀ b, F b → b < w0.heap.size) {t : T (Grant)} {pv fv : Value} {g : Grant → T (Res)} (hp : Rep Tryz.prog znG n t F w0 pv) (hf : FnT Tryz.prog znx argGrant (n + 1) F w0 fv g) :
    Calls Tryz.prog 113 #[pv, fv] w0 (zny Tryz.prog znx n (t.bind g) F w0) := zgf n hF hp (hf.mono (by omega) (fun b h => h) (Same.refl _ _) (Nat.le_refl _)) (.inr hf)
def ze0 (n : Nat) : Prop := ∀ {F : Nat → Prop} {w0 : World}, (∀ b, F b → b < w0.heap.size) → ∀ {t : T (Unit)} {pv fv : Value} {g : Unit → T (Res)}, Rep Tryz.prog znC n t F w0 pv → FnT Tryz.prog znx noneE n F w0 fv g →
    (t.znO = false ∨ FnT Tryz.prog znx noneE (n + 1) F w0 fv g) → Calls Tryz.prog 217 #[pv, fv] w0 (zny Tryz.prog znx n (t.bind g) F w0)
theorem zgH {n : Nat} (ih : ze0 n) {F : Nat → Prop} {w0 : World} (hF : ∀ b, F b → b < w0.heap.size) {op at_ a b : Int} {nf : FuncId} {n1 n2 : List Value} {k : Int → T (Unit)} {ff : FuncId} {f1 f2 : List Value} {g : Unit → T (Res)}
    {b1 b2 : Nat} (F1 : F b1) (h1 : w0.heap[b1]? = some (.cells (znt false znC.zero op at_ a b (.func (.func nf) n1.toArray n2.toArray)) 186 (0, 0))) (F2 : F b2) (h2 : w0.heap[b2]? = some (.cells #[.func (.func ff) f1.toArray f2.toArray] 270 (0, 0)))
    (hk : FnT Tryz.prog znC u64 (n + 1) F w0 (.func (.func nf) n1.toArray n2.toArray) k) (hg : FnT Tryz.prog znx noneE (n + 1) F w0 (.func (.func ff) f1.toArray f2.toArray) g) (x : Int) :
    Calls Tryz.prog 319 #[.int .u64 x, zp b1, zp b2] w0 (zny Tryz.prog znx n ((k x).bind g) F w0) := by
 refine enter Tryz.func319 rfl 11 rfl rfl fun fr r => ?_
 have hB := Below.refl w0.heap.size w0
 refine wp_seq (wp_region_lit ?_)
 refine za5 (.cells (znt false znx.zero 0 0 0 0 .nilFunc) 39 (0, 0)) r (fun R => zag tz39) rfl fun fr b3 w1 q1 r => wn ?_
 have h1 := keep q1.below h1
 have h2 := keep q1.below h2
 have e3 := q1.eq
 have z1 := q1.size
 have h3 := q1.at_
 have hB := hB.trans (q1.below.mono hB.size)
 have zB := hB.size
 refine wp_seq ?_
 refine zaI 5 [.val (.pointer (some ⟨b1, 5, none⟩)), .val (.func (.func nf) n1.toArray n2.toArray), .val (U x), .pred (znW Tryz.prog znC n (k x) F w0.heap.size b3) znW.stable, .val (.func (.func ff) f1.toArray f2.toArray)] mixed r (by kernel_rfl) (za2 trivial (za2 trivial (za2 trivial (za2 trivial (za2 trivial zaC))))) ?_ ?_
 ·
  refine ec r (fun _ u _ b d s => za4 s (b := b1) (o := 0) rfl zkT bz) ?_
  refine zba r rfl (fun fr1 u w' hb' hd r' => ?_) ?_
  ·
   obtain ⟨d0, _⟩ := hd
   exact za3 r' (v := .func (.func nf) n1.toArray n2.toArray) d0 (keep hb' h1) zpd rfl ⟨Below.refl _ _, rfl⟩
  refine ec r (fun _ u _ b d s => za9 s rfl bz) ?_
  refine zba r rfl (fun fr1 u w' hb' hd r' => ?_) ?_
  ·
   obtain ⟨d0, d1, _⟩ := hd
   have zb := hb'.size
   have zb : w1.heap.size ≤ w'.heap.size := zb
   have hB' : Below w0.heap.size w0 w' := hB.trans (Below.mono (w := w1) ⟨hb'.os, hb'.tape, hb'.output, hb'.size, hb'.block⟩ hB.size)
   have d0 : u 1 = .func (.func nf) n1.toArray n2.toArray := d0
   have d1 : u 2 = .int .u64 x := d1
   refine zdi r' (fs := n1) (cs := n2) d0 d1 hk.at_.1 ((hk.at_.2 n (Nat.lt_succ_self n) x w' (Same.below hB' hF) hB'.size).mono ?_)
   rintro _ w2 ⟨v, rfl, hb2, hr2⟩
   refine ⟨v, rfl, hb2, znW.zib (fun b h => Nat.lt_of_lt_of_le (hF b h) hB'.size) (by omega) hB'.size hb2 (Rep.mono ?_ (Same.refl _ _) (Nat.le_refl _) n _ _ hr2)⟩
   rintro b (h | h)
   · exact .inl (.inl h)
   · exact .inr h
  refine ec r (fun _ u _ b d s => za3 s rfl (keep b h2) zpQ rfl bz) ?_
  exact zaV
 intro fr u w2 hb hΦ _ r
 obtain ⟨_, hr3, _, hr⟩ : znW Tryz.prog znC n (k x) F w0.heap.size b3 (u 3) w2 := hΦ 3 (by decide)
 have r := r.congr (sc (hΦ 4 (by decide)) rfl)
 have z2 := hb.size
 have h1 := keep hb h1
 have h2 := keep hb h2
 have h3 := keep hb h3
 have hB2 := hB.trans (hb.mono hB.size)
 have zB2 := hB2.size
 have hF1 : ∀ b, (fun b => F b ∨ (w0.heap.size ≤ b ∧ b < w2.heap.size ∧ b ≠ b3)) b → b < w2.heap.size := by rintro b (h | h); exact Nat.lt_of_lt_of_le (hF b h) hB2.size; exact h.2.1
 refine za8 r (ih (F := fun b => F b ∨ (w0.heap.size ≤ b ∧ b < w2.heap.size ∧ b ≠ b3)) hF1 hr (hg.mono (by omega) (fun b h => .inl h) (Same.below hB2 hF) hB2.size)
  (.inr (hg.mono (Nat.le_refl _) (fun b h => .inl h) (Same.below hB2 hF) hB2.size))) (fun R hc => zac r rfl zpC hc) rfl ?_
 rintro _ w3 ⟨v2, rfl, hb2, hr2⟩
 refine ⟨_, rfl, fun fr r => ?_⟩
 have z3 := hb2.size
 have h3 := keep hb2 h3
 have hB3 := hB2.trans (hb2.mono hB2.size)
 refine zae (.cells v2.cells 39 (0, 0)) r (fun R => zaf r hr2.shape rfl rfl h3 ts39 rfl) rfl fun fr w4 u4 r => wn ?_
 have z4 := u4.size
 have h3 := u4.at_
 have hB4 := u4.below hB3 (by omega)
 refine wp_ret ?_
 have hs := hr2.shape.cells
 refine zad r rfl rfl h3 (k := 8) hs.1 ta39 ?_
 rw [← hs.2.2]
 exact zny.fin hB4 hr2 u4 (by rintro b (h | ⟨h1, h2, _⟩); exact .inl h; exact .inr ⟨h1, h2⟩) (by rintro (h | ⟨_, _, h⟩); (have := hF _ h; omega); exact h rfl) (by omega) (by omega) (by omega)
theorem zgI (n : Nat) : ze0 n := by
  induction n using Nat.strongRecOn with
  | _ n ih =>
  intro F w0 hF t pv fv g hp hf hd
  obtain ⟨ff, f1, f2, hcf, rfl, hff⟩ := id hf
  cases t with
  | cut => unfold Rep at hp; exact hp.elim
  | done x0 =>
    have hf := hd.resolve_left (by intro h; cases h)
    unfold Rep at hp
    subst hp
    refine enter (l := [.agg (znt true (znC.cells x0) 0 0 0 0 .nilFunc), .func (.func ff) f1.toArray f2.toArray]) Tryz.func217 rfl 15 rfl rfl fun fr r => ?_
    have hB := Below.refl w0.heap.size w0
    refine wp_seq (wp_region_lit ?_)
    refine za5 (.cells (znt true (znC.cells x0) 0 0 0 0 .nilFunc) 186 (0, 0)) r (fun R => znF r (v := .agg (znt true (znC.cells x0) 0 0 0 0 .nilFunc)) rfl) rfl fun fr b1 w1 q1 r => ?_
    refine za5 (.cells #[.func (.func ff) f1.toArray f2.toArray] 270 (0, 0)) r (fun R => znF r (v := .func (.func ff) f1.toArray f2.toArray) rfl) rfl fun fr b2 w2 q2 r => ?_
    refine za5 (.cells (znt false znx.zero 0 0 0 0 .nilFunc) 39 (0, 0)) r (fun R => zag tz39) rfl fun fr b3 w3 q3 r => wpList_nil ?_
    have h1 := keep q3.below (keep q2.below q1.at_)
    have h2 := keep q3.below q2.at_
    have h3 := q3.at_
    have e1 := q1.eq; have e2 := q2.eq; have e3 := q3.eq; have z1 := q1.size; have z2 := q2.size; have z3 := q3.size
    have hB := ((hB.trans q1.below).trans (q2.below.mono (by omega))).trans (q3.below.mono (by omega))
    have zB := hB.size
    refine wp_seq (wp_seq (wp_region_lit (za0 (zp b1) r (fun R => za4 r (o := 0) rfl zh8) rfl fun fr r => ?_)))
    refine za0 (.bool true) r (fun R => za3 r (v := .bool true) rfl h1 to4 rfl) rfl fun fr r => wpList_nil ?_
    refine wp_cond_split (t := true) (r.ev rfl) (fun _ => ?_) (fun h => by cases h)
    refine wp_seq (wp_region_lit (za0 (.func (.func ff) f1.toArray f2.toArray) r (fun R => za3 r (v := .func (.func ff) f1.toArray f2.toArray) rfl h2 zpQ rfl) rfl fun fr r => ?_))
    refine zl6 b1 1 r (fun R => zga r rfl zpg h1) rfl fun fr sp r => za0 (.agg #[]) r (fun R => zh0 r rfl zoF) rfl fun fr r => ?_
    refine za8 r (hf.at_.2 n (Nat.lt_succ_self n) x0 w3 (Same.below hB hF) hB.size) (fun R hc => zfk r rfl rfl hf.at_.1 hc) rfl ?_
    rintro _ w4 ⟨v, rfl, hb, hr⟩
    refine ⟨_, rfl, fun fr r => ?_⟩
    have z4 := hb.size
    have h3 := keep hb h3
    have hB := hB.trans (hb.mono hB.size)
    refine zae (.cells v.cells 39 (0, 0)) r (fun R => zaf r hr.shape rfl rfl h3 ts39 rfl) rfl fun fr w5 u5 r => wpList_nil ?_
    have z5 := u5.size
    have h3 := u5.at_
    have hB := u5.below hB (by omega)
    refine wp_ret ?_
    have hs := hr.shape.cells
    refine zad r rfl rfl h3 (k := 8) hs.1 ta39 ?_
    rw [← hs.2.2]
    exact zny.fin hB hr u5 (fun b hb => .inl hb) (fun h => by have := hF _ h; omega) (by omega) (by omega) (by omega)
  | act op at_ a b k =>
    obtain ⟨nf, n1, n2, hcn, rfl, hk⟩ : ∃ (nf : FuncId) (n1 n2 : List Value), znv Tryz.prog nf = true ∧ pv = .agg (znt false znC.zero op at_ a b (.func (.func nf) n1.toArray n2.toArray)) ∧ FnT Tryz.prog znC u64 n F w0 (.func (.func nf) n1.toArray n2.toArray) k := by
      exact Rep.zeq hp
    refine enter (l := [.agg (znt false znC.zero op at_ a b (.func (.func nf) n1.toArray n2.toArray)), .func (.func ff) f1.toArray f2.toArray]) Tryz.func217 rfl 15 rfl rfl fun fr r => ?_
    have hB := Below.refl w0.heap.size w0
    refine wp_seq (wp_region_lit ?_)
    refine za5 (.cells (znt false znC.zero op at_ a b (.func (.func nf) n1.toArray n2.toArray)) 186 (0, 0)) r (fun R => znF r (v := .agg (znt false znC.zero op at_ a b (.func (.func nf) n1.toArray n2.toArray))) rfl) rfl fun fr b1 w1 q1 r => ?_
    refine za5 (.cells #[.func (.func ff) f1.toArray f2.toArray] 270 (0, 0)) r (fun R => znF r (v := .func (.func ff) f1.toArray f2.toArray) rfl) rfl fun fr b2 w2 q2 r => ?_
    refine za5 (.cells (znt false znx.zero 0 0 0 0 .nilFunc) 39 (0, 0)) r (fun R => zag tz39) rfl fun fr b3 w3 q3 r => wpList_nil ?_
    have h1 := keep q3.below (keep q2.below q1.at_)
    have h2 := keep q3.below q2.at_
    have h3 := q3.at_
    have e1 := q1.eq; have e2 := q2.eq; have e3 := q3.eq; have z1 := q1.size; have z2 := q2.size; have z3 := q3.size
    have hB := ((hB.trans q1.below).trans (q2.below.mono (by omega))).trans (q3.below.mono (by omega))
    have zB := hB.size
    refine wp_seq (wp_seq (wp_region_lit (za0 (zp b1) r (fun R => za4 r (o := 0) rfl zh8) rfl fun fr r => ?_)))
    refine za0 (.bool false) r (fun R => za3 r (v := .bool false) rfl h1 to4 rfl) rfl fun fr r => wpList_nil ?_
    refine wp_cond_split (t := false) (r.ev rfl) (fun h => by cases h) (fun _ => wp_skip ?_)
    refine wp_seq (wp_region_lit (za0 (.pointer (some ⟨b1, 1, none⟩)) r (fun R => za4 r (o := 0) rfl zkS) rfl fun fr r => za0 (.agg (znE (⟨op, at_, a, b⟩ : Access)).toArray) r (fun R => za6 r (cs := (znE (⟨op, at_, a, b⟩ : Access))) (n := 4) rfl h1 ta36 rfl) rfl fun fr r => za0 (.func (.func 319) #[] #[zp b1, zp b2]) r (fun R => zao r rfl) rfl fun fr r => ?_))
    have hF1 : ∀ b, (fun b => F b ∨ b = b1 ∨ b = b2) b → b < w3.heap.size := by rintro b (h | h | h); exact Nat.lt_of_lt_of_le (hF b h) hB.size; omega; omega
    refine za8 r (zcM (F := fun b => F b ∨ b = b1 ∨ b = b2) (n := n) hF1 ⟨op, at_, a, b⟩ (a1 := fun x => (k x).bind g) (show FnT Tryz.prog znx u64 n (fun b => F b ∨ b = b1 ∨ b = b2) w3 (.func (.func 319) ([] : List Value).toArray [zp b1, zp b2].toArray) (fun x => (k x).bind g) from
      ⟨319, [], [zp b1, zp b2], zsa, rfl, fun m hm x w' hs hz => zgH (ih m hm) (fun b hb => Nat.lt_of_lt_of_le (hF1 b hb) hz) (.inr (.inl rfl)) (hs.at_ (.inr (.inl rfl)) h1) (.inr (.inr rfl)) (hs.at_ (.inr (.inr rfl)) h2)
        (hk.mono (by omega) (fun b h => .inl h) ((Same.below hB hF).trans (hs.sub (fun b h => .inl h))) (Nat.le_trans hB.size hz)) (hf.mono (by omega) (fun b h => .inl h) ((Same.below hB hF).trans (hs.sub (fun b h => .inl h))) (Nat.le_trans hB.size hz)) x⟩)) (fun R hc => zac r rfl zoo hc) rfl ?_
    rintro _ w4 ⟨v, rfl, hb, hr⟩
    refine ⟨_, rfl, fun fr r => ?_⟩
    have z4 := hb.size
    have h3 := keep hb h3
    have hB := hB.trans (hb.mono hB.size)
    refine zae (.cells v.cells 39 (0, 0)) r (fun R => zaf r hr.shape rfl rfl h3 ts39 rfl) rfl fun fr w5 u5 r => wpList_nil ?_
    have z5 := u5.size
    have h3 := u5.at_
    have hB := u5.below hB (by omega)
    refine wp_ret ?_
    have hs := hr.shape.cells
    refine zad r rfl rfl h3 (k := 8) hs.1 ta39 ?_
    rw [← hs.2.2]
    exact zny.fin hB hr u5 (by rintro b (h | h | h); exact .inl h; exact .inr ⟨by omega, by omega⟩; exact .inr ⟨by omega, by omega⟩) (by rintro (h | h | h); (have := hF _ h; omega); omega; omega) (by omega) (by omega) (by omega)
theorem zfI {n : Nat} {F : Nat → Prop} {w0 : World} (hF : ∀ b, F b → b < w0.heap.size) {t : T (Unit)} {pv fv : Value} {g : Unit → T (Res)} (hp : Rep Tryz.prog znC n t F w0 pv) (hf : FnT Tryz.prog znx noneE (n + 1) F w0 fv g) :
    Calls Tryz.prog 217 #[pv, fv] w0 (zny Tryz.prog znx n (t.bind g) F w0) := zgI n hF hp (hf.mono (by omega) (fun b h => h) (Same.refl _ _) (Nat.le_refl _)) (.inr hf)
def zdn (n : Nat) : Prop := ∀ {F : Nat → Prop} {w0 : World}, (∀ b, F b → b < w0.heap.size) → ∀ {t : T (Unit)} {pv fv : Value} {g : Unit → T (Int)}, Rep Tryz.prog znC n t F w0 pv → FnT Tryz.prog znM noneE n F w0 fv g →
    (t.znO = false ∨ FnT Tryz.prog znM noneE (n + 1) F w0 fv g) → Calls Tryz.prog 372 #[pv, fv] w0 (zny Tryz.prog znM n (t.bind g) F w0)
theorem zfU {n : Nat} (ih : zdn n) {F : Nat → Prop} {w0 : World} (hF : ∀ b, F b → b < w0.heap.size) {op at_ a b : Int} {nf : FuncId} {n1 n2 : List Value} {k : Int → T (Unit)} {ff : FuncId} {f1 f2 : List Value} {g : Unit → T (Int)}
    {b1 b2 : Nat} (F1 : F b1) (h1 : w0.heap[b1]? = some (.cells (znt false znC.zero op at_ a b (.func (.func nf) n1.toArray n2.toArray)) 186 (0, 0))) (F2 : F b2) (h2 : w0.heap[b2]? = some (.cells #[.func (.func ff) f1.toArray f2.toArray] 333 (0, 0)))
    (hk : FnT Tryz.prog znC u64 (n + 1) F w0 (.func (.func nf) n1.toArray n2.toArray) k) (hg : FnT Tryz.prog znM noneE (n + 1) F w0 (.func (.func ff) f1.toArray f2.toArray) g) (x : Int) :
    Calls Tryz.prog 404 #[.int .u64 x, zp b1, zp b2] w0 (zny Tryz.prog znM n ((k x).bind g) F w0) := by
 refine enter Tryz.func404 rfl 11 rfl rfl fun fr r => ?_
 have hB := Below.refl w0.heap.size w0
 refine wp_seq (wp_region_lit ?_)
 refine za5 (.cells (znt false znM.zero 0 0 0 0 .nilFunc) 283 (0, 0)) r (fun R => zag zof) rfl fun fr b3 w1 q1 r => wn ?_
 have h1 := keep q1.below h1
 have h2 := keep q1.below h2
 have e3 := q1.eq
 have z1 := q1.size
 have h3 := q1.at_
 have hB := hB.trans (q1.below.mono hB.size)
 have zB := hB.size
 refine wp_seq ?_
 refine zaI 5 [.val (.pointer (some ⟨b1, 5, none⟩)), .val (.func (.func nf) n1.toArray n2.toArray), .val (U x), .pred (znW Tryz.prog znC n (k x) F w0.heap.size b3) znW.stable, .val (.func (.func ff) f1.toArray f2.toArray)] mixed r (by kernel_rfl) (za2 trivial (za2 trivial (za2 trivial (za2 trivial (za2 trivial zaC))))) ?_ ?_
 ·
  refine ec r (fun _ u _ b d s => za4 s (b := b1) (o := 0) rfl zkT bz) ?_
  refine zba r rfl (fun fr1 u w' hb' hd r' => ?_) ?_
  ·
   obtain ⟨d0, _⟩ := hd
   exact za3 r' (v := .func (.func nf) n1.toArray n2.toArray) d0 (keep hb' h1) zpd rfl ⟨Below.refl _ _, rfl⟩
  refine ec r (fun _ u _ b d s => za9 s rfl bz) ?_
  refine zba r rfl (fun fr1 u w' hb' hd r' => ?_) ?_
  ·
   obtain ⟨d0, d1, _⟩ := hd
   have zb := hb'.size
   have zb : w1.heap.size ≤ w'.heap.size := zb
   have hB' : Below w0.heap.size w0 w' := hB.trans (Below.mono (w := w1) ⟨hb'.os, hb'.tape, hb'.output, hb'.size, hb'.block⟩ hB.size)
   have d0 : u 1 = .func (.func nf) n1.toArray n2.toArray := d0
   have d1 : u 2 = .int .u64 x := d1
   refine zdi r' (fs := n1) (cs := n2) d0 d1 hk.at_.1 ((hk.at_.2 n (Nat.lt_succ_self n) x w' (Same.below hB' hF) hB'.size).mono ?_)
   rintro _ w2 ⟨v, rfl, hb2, hr2⟩
   refine ⟨v, rfl, hb2, znW.zib (fun b h => Nat.lt_of_lt_of_le (hF b h) hB'.size) (by omega) hB'.size hb2 (Rep.mono ?_ (Same.refl _ _) (Nat.le_refl _) n _ _ hr2)⟩
   rintro b (h | h)
   · exact .inl (.inl h)
   · exact .inr h
  refine ec r (fun _ u _ b d s => za3 s rfl (keep b h2) zq6 rfl bz) ?_
  exact zaV
 intro fr u w2 hb hΦ _ r
 obtain ⟨_, hr3, _, hr⟩ : znW Tryz.prog znC n (k x) F w0.heap.size b3 (u 3) w2 := hΦ 3 (by decide)
 have r := r.congr (sc (hΦ 4 (by decide)) rfl)
 have z2 := hb.size
 have h1 := keep hb h1
 have h2 := keep hb h2
 have h3 := keep hb h3
 have hB2 := hB.trans (hb.mono hB.size)
 have zB2 := hB2.size
 have hF1 : ∀ b, (fun b => F b ∨ (w0.heap.size ≤ b ∧ b < w2.heap.size ∧ b ≠ b3)) b → b < w2.heap.size := by rintro b (h | h); exact Nat.lt_of_lt_of_le (hF b h) hB2.size; exact h.2.1
 refine za8 r (ih (F := fun b => F b ∨ (w0.heap.size ≤ b ∧ b < w2.heap.size ∧ b ≠ b3)) hF1 hr (hg.mono (by omega) (fun b h => .inl h) (Same.below hB2 hF) hB2.size)
  (.inr (hg.mono (Nat.le_refl _) (fun b h => .inl h) (Same.below hB2 hF) hB2.size))) (fun R hc => zac r rfl zq0 hc) rfl ?_
 rintro _ w3 ⟨v2, rfl, hb2, hr2⟩
 refine ⟨_, rfl, fun fr r => ?_⟩
 have z3 := hb2.size
 have h3 := keep hb2 h3
 have hB3 := hB2.trans (hb2.mono hB2.size)
 refine zae (.cells v2.cells 283 (0, 0)) r (fun R => zaf r hr2.shape rfl rfl h3 zoc rfl) rfl fun fr w4 u4 r => wn ?_
 have z4 := u4.size
 have h3 := u4.at_
 have hB4 := u4.below hB3 (by omega)
 refine wp_ret ?_
 have hs := hr2.shape.cells
 refine zad r rfl rfl h3 (k := 7) hs.1 zob ?_
 rw [← hs.2.2]
 exact zny.fin hB4 hr2 u4 (by rintro b (h | ⟨h1, h2, _⟩); exact .inl h; exact .inr ⟨h1, h2⟩) (by rintro (h | ⟨_, _, h⟩); (have := hF _ h; omega); exact h rfl) (by omega) (by omega) (by omega)
theorem zfV (n : Nat) : zdn n := by
  induction n using Nat.strongRecOn with
  | _ n ih =>
  intro F w0 hF t pv fv g hp hf hd
  obtain ⟨ff, f1, f2, hcf, rfl, hff⟩ := id hf
  cases t with
  | cut => unfold Rep at hp; exact hp.elim
  | done x0 =>
    have hf := hd.resolve_left (by intro h; cases h)
    unfold Rep at hp
    subst hp
    refine enter (l := [.agg (znt true (znC.cells x0) 0 0 0 0 .nilFunc), .func (.func ff) f1.toArray f2.toArray]) Tryz.func372 rfl 15 rfl rfl fun fr r => ?_
    have hB := Below.refl w0.heap.size w0
    refine wp_seq (wp_region_lit ?_)
    refine za5 (.cells (znt true (znC.cells x0) 0 0 0 0 .nilFunc) 186 (0, 0)) r (fun R => znF r (v := .agg (znt true (znC.cells x0) 0 0 0 0 .nilFunc)) rfl) rfl fun fr b1 w1 q1 r => ?_
    refine za5 (.cells #[.func (.func ff) f1.toArray f2.toArray] 333 (0, 0)) r (fun R => znF r (v := .func (.func ff) f1.toArray f2.toArray) rfl) rfl fun fr b2 w2 q2 r => ?_
    refine za5 (.cells (znt false znM.zero 0 0 0 0 .nilFunc) 283 (0, 0)) r (fun R => zag zof) rfl fun fr b3 w3 q3 r => wpList_nil ?_
    have h1 := keep q3.below (keep q2.below q1.at_)
    have h2 := keep q3.below q2.at_
    have h3 := q3.at_
    have e1 := q1.eq; have e2 := q2.eq; have e3 := q3.eq; have z1 := q1.size; have z2 := q2.size; have z3 := q3.size
    have hB := ((hB.trans q1.below).trans (q2.below.mono (by omega))).trans (q3.below.mono (by omega))
    have zB := hB.size
    refine wp_seq (wp_seq (wp_region_lit (za0 (zp b1) r (fun R => za4 r (o := 0) rfl zh8) rfl fun fr r => ?_)))
    refine za0 (.bool true) r (fun R => za3 r (v := .bool true) rfl h1 to4 rfl) rfl fun fr r => wpList_nil ?_
    refine wp_cond_split (t := true) (r.ev rfl) (fun _ => ?_) (fun h => by cases h)
    refine wp_seq (wp_region_lit (za0 (.func (.func ff) f1.toArray f2.toArray) r (fun R => za3 r (v := .func (.func ff) f1.toArray f2.toArray) rfl h2 zq6 rfl) rfl fun fr r => ?_))
    refine zl6 b1 1 r (fun R => zga r rfl zpg h1) rfl fun fr sp r => za0 (.agg #[]) r (fun R => zh0 r rfl zoF) rfl fun fr r => ?_
    refine za8 r (hf.at_.2 n (Nat.lt_succ_self n) x0 w3 (Same.below hB hF) hB.size) (fun R hc => zfk r rfl rfl hf.at_.1 hc) rfl ?_
    rintro _ w4 ⟨v, rfl, hb, hr⟩
    refine ⟨_, rfl, fun fr r => ?_⟩
    have z4 := hb.size
    have h3 := keep hb h3
    have hB := hB.trans (hb.mono hB.size)
    refine zae (.cells v.cells 283 (0, 0)) r (fun R => zaf r hr.shape rfl rfl h3 zoc rfl) rfl fun fr w5 u5 r => wpList_nil ?_
    have z5 := u5.size
    have h3 := u5.at_
    have hB := u5.below hB (by omega)
    refine wp_ret ?_
    have hs := hr.shape.cells
    refine zad r rfl rfl h3 (k := 7) hs.1 zob ?_
    rw [← hs.2.2]
    exact zny.fin hB hr u5 (fun b hb => .inl hb) (fun h => by have := hF _ h; omega) (by omega) (by omega) (by omega)
  | act op at_ a b k =>
    obtain ⟨nf, n1, n2, hcn, rfl, hk⟩ : ∃ (nf : FuncId) (n1 n2 : List Value), znv Tryz.prog nf = true ∧ pv = .agg (znt false znC.zero op at_ a b (.func (.func nf) n1.toArray n2.toArray)) ∧ FnT Tryz.prog znC u64 n F w0 (.func (.func nf) n1.toArray n2.toArray) k := by
      exact Rep.zeq hp
    refine enter (l := [.agg (znt false znC.zero op at_ a b (.func (.func nf) n1.toArray n2.toArray)), .func (.func ff) f1.toArray f2.toArray]) Tryz.func372 rfl 15 rfl rfl fun fr r => ?_
    have hB := Below.refl w0.heap.size w0
    refine wp_seq (wp_region_lit ?_)
    refine za5 (.cells (znt false znC.zero op at_ a b (.func (.func nf) n1.toArray n2.toArray)) 186 (0, 0)) r (fun R => znF r (v := .agg (znt false znC.zero op at_ a b (.func (.func nf) n1.toArray n2.toArray))) rfl) rfl fun fr b1 w1 q1 r => ?_
    refine za5 (.cells #[.func (.func ff) f1.toArray f2.toArray] 333 (0, 0)) r (fun R => znF r (v := .func (.func ff) f1.toArray f2.toArray) rfl) rfl fun fr b2 w2 q2 r => ?_
    refine za5 (.cells (znt false znM.zero 0 0 0 0 .nilFunc) 283 (0, 0)) r (fun R => zag zof) rfl fun fr b3 w3 q3 r => wpList_nil ?_
    have h1 := keep q3.below (keep q2.below q1.at_)
    have h2 := keep q3.below q2.at_
    have h3 := q3.at_
    have e1 := q1.eq; have e2 := q2.eq; have e3 := q3.eq; have z1 := q1.size; have z2 := q2.size; have z3 := q3.size
    have hB := ((hB.trans q1.below).trans (q2.below.mono (by omega))).trans (q3.below.mono (by omega))
    have zB := hB.size
    refine wp_seq (wp_seq (wp_region_lit (za0 (zp b1) r (fun R => za4 r (o := 0) rfl zh8) rfl fun fr r => ?_)))
    refine za0 (.bool false) r (fun R => za3 r (v := .bool false) rfl h1 to4 rfl) rfl fun fr r => wpList_nil ?_
    refine wp_cond_split (t := false) (r.ev rfl) (fun h => by cases h) (fun _ => wp_skip ?_)
    refine wp_seq (wp_region_lit (za0 (.pointer (some ⟨b1, 1, none⟩)) r (fun R => za4 r (o := 0) rfl zkS) rfl fun fr r => za0 (.agg (znE (⟨op, at_, a, b⟩ : Access)).toArray) r (fun R => za6 r (cs := (znE (⟨op, at_, a, b⟩ : Access))) (n := 4) rfl h1 ta36 rfl) rfl fun fr r => za0 (.func (.func 404) #[] #[zp b1, zp b2]) r (fun R => zao r rfl) rfl fun fr r => ?_))
    have hF1 : ∀ b, (fun b => F b ∨ b = b1 ∨ b = b2) b → b < w3.heap.size := by rintro b (h | h | h); exact Nat.lt_of_lt_of_le (hF b h) hB.size; omega; omega
    refine za8 r (zfY (F := fun b => F b ∨ b = b1 ∨ b = b2) (n := n) hF1 ⟨op, at_, a, b⟩ (a1 := fun x => (k x).bind g) (show FnT Tryz.prog znM u64 n (fun b => F b ∨ b = b1 ∨ b = b2) w3 (.func (.func 404) ([] : List Value).toArray [zp b1, zp b2].toArray) (fun x => (k x).bind g) from
      ⟨404, [], [zp b1, zp b2], zrc, rfl, fun m hm x w' hs hz => zfU (ih m hm) (fun b hb => Nat.lt_of_lt_of_le (hF1 b hb) hz) (.inr (.inl rfl)) (hs.at_ (.inr (.inl rfl)) h1) (.inr (.inr rfl)) (hs.at_ (.inr (.inr rfl)) h2)
        (hk.mono (by omega) (fun b h => .inl h) ((Same.below hB hF).trans (hs.sub (fun b h => .inl h))) (Nat.le_trans hB.size hz)) (hf.mono (by omega) (fun b h => .inl h) ((Same.below hB hF).trans (hs.sub (fun b h => .inl h))) (Nat.le_trans hB.size hz)) x⟩)) (fun R hc => zac r rfl zq8 hc) rfl ?_
    rintro _ w4 ⟨v, rfl, hb, hr⟩
    refine ⟨_, rfl, fun fr r => ?_⟩
    have z4 := hb.size
    have h3 := keep hb h3
    have hB := hB.trans (hb.mono hB.size)
    refine zae (.cells v.cells 283 (0, 0)) r (fun R => zaf r hr.shape rfl rfl h3 zoc rfl) rfl fun fr w5 u5 r => wpList_nil ?_
    have z5 := u5.size
    have h3 := u5.at_
    have hB := u5.below hB (by omega)
    refine wp_ret ?_
    have hs := hr.shape.cells
    refine zad r rfl rfl h3 (k := 7) hs.1 zob ?_
    rw [← hs.2.2]
    exact zny.fin hB hr u5 (by rintro b (h | h | h); exact .inl h; exact .inr ⟨by omega, by omega⟩; exact .inr ⟨by omega, by omega⟩) (by rintro (h | h | h); (have := hF _ h; omega); omega; omega) (by omega) (by omega) (by omega)
theorem zf3 {n : Nat} {F : Nat → Prop} {w0 : World} (hF : ∀ b, F b → b < w0.heap.size) {t : T (Unit)} {pv fv : Value} {g : Unit → T (Int)} (hp : Rep Tryz.prog znC n t F w0 pv) (hf : FnT Tryz.prog znM noneE (n + 1) F w0 fv g) :
    Calls Tryz.prog 372 #[pv, fv] w0 (zny Tryz.prog znM n (t.bind g) F w0) := zfV n hF hp (hf.mono (by omega) (fun b h => h) (Same.refl _ _) (Nat.le_refl _)) (.inr hf)
def zdH (n : Nat) : Prop := ∀ {F : Nat → Prop} {w0 : World}, (∀ b, F b → b < w0.heap.size) → ∀ {t : T (Int)} {pv fv : Value} {g : Int → T (Grant)}, Rep Tryz.prog znz n t F w0 pv → FnT Tryz.prog znG i64 n F w0 fv g →
    (t.znO = false ∨ FnT Tryz.prog znG i64 (n + 1) F w0 fv g) → Calls Tryz.prog 190 #[pv, fv] w0 (zny Tryz.prog znG n (t.bind g) F w0)
theorem zgu {n : Nat} (ih : zdH n) {F : Nat → Prop} {w0 : World} (hF : ∀ b, F b → b < w0.heap.size) {op at_ a b : Int} {nf : FuncId} {n1 n2 : List Value} {k : Int → T (Int)} {ff : FuncId} {f1 f2 : List Value} {g : Int → T (Grant)}
    {b1 b2 : Nat} (F1 : F b1) (h1 : w0.heap[b1]? = some (.cells (znt false znz.zero op at_ a b (.func (.func nf) n1.toArray n2.toArray)) 167 (0, 0))) (F2 : F b2) (h2 : w0.heap[b2]? = some (.cells #[.func (.func ff) f1.toArray f2.toArray] 246 (0, 0)))
    (hk : FnT Tryz.prog znz u64 (n + 1) F w0 (.func (.func nf) n1.toArray n2.toArray) k) (hg : FnT Tryz.prog znG i64 (n + 1) F w0 (.func (.func ff) f1.toArray f2.toArray) g) (x : Int) :
    Calls Tryz.prog 287 #[.int .u64 x, zp b1, zp b2] w0 (zny Tryz.prog znG n ((k x).bind g) F w0) := by
 refine enter Tryz.func287 rfl 11 rfl rfl fun fr r => ?_
 have hB := Below.refl w0.heap.size w0
 refine wp_seq (wp_region_lit ?_)
 refine za5 (.cells (znt false znG.zero 0 0 0 0 .nilFunc) 158 (0, 0)) r (fun R => zag zo7) rfl fun fr b3 w1 q1 r => wn ?_
 have h1 := keep q1.below h1
 have h2 := keep q1.below h2
 have e3 := q1.eq
 have z1 := q1.size
 have h3 := q1.at_
 have hB := hB.trans (q1.below.mono hB.size)
 have zB := hB.size
 refine wp_seq ?_
 refine zaI 5 [.val (.pointer (some ⟨b1, 6, none⟩)), .val (.func (.func nf) n1.toArray n2.toArray), .val (U x), .pred (znW Tryz.prog znz n (k x) F w0.heap.size b3) znW.stable, .val (.func (.func ff) f1.toArray f2.toArray)] mixed r (by kernel_rfl) (za2 trivial (za2 trivial (za2 trivial (za2 trivial (za2 trivial zaC))))) ?_ ?_
 ·
  refine ec r (fun _ u _ b d s => za4 s (b := b1) (o := 0) rfl zkR bz) ?_
  refine zba r rfl (fun fr1 u w' hb' hd r' => ?_) ?_
  ·
   obtain ⟨d0, _⟩ := hd
   exact za3 r' (v := .func (.func nf) n1.toArray n2.toArray) d0 (keep hb' h1) zpi rfl ⟨Below.refl _ _, rfl⟩
  refine ec r (fun _ u _ b d s => za9 s rfl bz) ?_
  refine zba r rfl (fun fr1 u w' hb' hd r' => ?_) ?_
  ·
   obtain ⟨d0, d1, _⟩ := hd
   have zb := hb'.size
   have zb : w1.heap.size ≤ w'.heap.size := zb
   have hB' : Below w0.heap.size w0 w' := hB.trans (Below.mono (w := w1) ⟨hb'.os, hb'.tape, hb'.output, hb'.size, hb'.block⟩ hB.size)
   have d0 : u 1 = .func (.func nf) n1.toArray n2.toArray := d0
   have d1 : u 2 = .int .u64 x := d1
   refine zdi r' (fs := n1) (cs := n2) d0 d1 hk.at_.1 ((hk.at_.2 n (Nat.lt_succ_self n) x w' (Same.below hB' hF) hB'.size).mono ?_)
   rintro _ w2 ⟨v, rfl, hb2, hr2⟩
   refine ⟨v, rfl, hb2, znW.zib (fun b h => Nat.lt_of_lt_of_le (hF b h) hB'.size) (by omega) hB'.size hb2 (Rep.mono ?_ (Same.refl _ _) (Nat.le_refl _) n _ _ hr2)⟩
   rintro b (h | h)
   · exact .inl (.inl h)
   · exact .inr h
  refine ec r (fun _ u _ b d s => za3 s rfl (keep b h2) zps rfl bz) ?_
  exact zaV
 intro fr u w2 hb hΦ _ r
 obtain ⟨_, hr3, _, hr⟩ : znW Tryz.prog znz n (k x) F w0.heap.size b3 (u 3) w2 := hΦ 3 (by decide)
 have r := r.congr (sc (hΦ 4 (by decide)) rfl)
 have z2 := hb.size
 have h1 := keep hb h1
 have h2 := keep hb h2
 have h3 := keep hb h3
 have hB2 := hB.trans (hb.mono hB.size)
 have zB2 := hB2.size
 have hF1 : ∀ b, (fun b => F b ∨ (w0.heap.size ≤ b ∧ b < w2.heap.size ∧ b ≠ b3)) b → b < w2.heap.size := by rintro b (h | h); exact Nat.lt_of_lt_of_le (hF b h) hB2.size; exact h.2.1
 refine za8 r (ih (F := fun b => F b ∨ (w0.heap.size ≤ b ∧ b < w2.heap.size ∧ b ≠ b3)) hF1 hr (hg.mono (by omega) (fun b h => .inl h) (Same.below hB2 hF) hB2.size)
  (.inr (hg.mono (Nat.le_refl _) (fun b h => .inl h) (Same.below hB2 hF) hB2.size))) (fun R hc => zac r rfl zoV hc) rfl ?_
 rintro _ w3 ⟨v2, rfl, hb2, hr2⟩
 refine ⟨_, rfl, fun fr r => ?_⟩
 have z3 := hb2.size
 have h3 := keep hb2 h3
 have hB3 := hB2.trans (hb2.mono hB2.size)
 refine zae (.cells v2.cells 158 (0, 0)) r (fun R => zaf r hr2.shape rfl rfl h3 zo3 rfl) rfl fun fr w4 u4 r => wn ?_
 have z4 := u4.size
 have h3 := u4.at_
 have hB4 := u4.below hB3 (by omega)
 refine wp_ret ?_
 have hs := hr2.shape.cells
 refine zad r rfl rfl h3 (k := 9) hs.1 zo4 ?_
 rw [← hs.2.2]
 exact zny.fin hB4 hr2 u4 (by rintro b (h | ⟨h1, h2, _⟩); exact .inl h; exact .inr ⟨h1, h2⟩) (by rintro (h | ⟨_, _, h⟩); (have := hF _ h; omega); exact h rfl) (by omega) (by omega) (by omega)
theorem zgx (n : Nat) : zdH n := by
  induction n using Nat.strongRecOn with
  | _ n ih =>
  intro F w0 hF t pv fv g hp hf hd
  obtain ⟨ff, f1, f2, hcf, rfl, hff⟩ := id hf
  cases t with
  | cut => unfold Rep at hp; exact hp.elim
  | done x0 =>
    have hf := hd.resolve_left (by intro h; cases h)
    unfold Rep at hp
    subst hp
    refine enter (l := [.agg (znt true (znz.cells x0) 0 0 0 0 .nilFunc), .func (.func ff) f1.toArray f2.toArray]) Tryz.func190 rfl 15 rfl rfl fun fr r => ?_
    have hB := Below.refl w0.heap.size w0
    refine wp_seq (wp_region_lit ?_)
    refine za5 (.cells (znt true (znz.cells x0) 0 0 0 0 .nilFunc) 167 (0, 0)) r (fun R => znF r (v := .agg (znt true (znz.cells x0) 0 0 0 0 .nilFunc)) rfl) rfl fun fr b1 w1 q1 r => ?_
    refine za5 (.cells #[.func (.func ff) f1.toArray f2.toArray] 246 (0, 0)) r (fun R => znF r (v := .func (.func ff) f1.toArray f2.toArray) rfl) rfl fun fr b2 w2 q2 r => ?_
    refine za5 (.cells (znt false znG.zero 0 0 0 0 .nilFunc) 158 (0, 0)) r (fun R => zag zo7) rfl fun fr b3 w3 q3 r => wpList_nil ?_
    have h1 := keep q3.below (keep q2.below q1.at_)
    have h2 := keep q3.below q2.at_
    have h3 := q3.at_
    have e1 := q1.eq; have e2 := q2.eq; have e3 := q3.eq; have z1 := q1.size; have z2 := q2.size; have z3 := q3.size
    have hB := ((hB.trans q1.below).trans (q2.below.mono (by omega))).trans (q3.below.mono (by omega))
    have zB := hB.size
    refine wp_seq (wp_seq (wp_region_lit (za0 (zp b1) r (fun R => za4 r (o := 0) rfl zhM) rfl fun fr r => ?_)))
    refine za0 (.bool true) r (fun R => za3 r (v := .bool true) rfl h1 to4 rfl) rfl fun fr r => wpList_nil ?_
    refine wp_cond_split (t := true) (r.ev rfl) (fun _ => ?_) (fun h => by cases h)
    refine wp_seq (wp_region_lit (za0 (.func (.func ff) f1.toArray f2.toArray) r (fun R => za3 r (v := .func (.func ff) f1.toArray f2.toArray) rfl h2 zps rfl) rfl fun fr r => za0 (.pointer (some ⟨b1, 1, none⟩)) r (fun R => za4 r (o := 0) rfl zkP) rfl fun fr r => za0 (.int .i64 x0) r (fun R => za3 r (v := (.int .i64 x0)) rfl h1 to3 rfl) rfl fun fr r => ?_))
    refine za8 r (hf.at_.2 n (Nat.lt_succ_self n) x0 w3 (Same.below hB hF) hB.size) (fun R hc => zfk r rfl rfl hf.at_.1 hc) rfl ?_
    rintro _ w4 ⟨v, rfl, hb, hr⟩
    refine ⟨_, rfl, fun fr r => ?_⟩
    have z4 := hb.size
    have h3 := keep hb h3
    have hB := hB.trans (hb.mono hB.size)
    refine zae (.cells v.cells 158 (0, 0)) r (fun R => zaf r hr.shape rfl rfl h3 zo3 rfl) rfl fun fr w5 u5 r => wpList_nil ?_
    have z5 := u5.size
    have h3 := u5.at_
    have hB := u5.below hB (by omega)
    refine wp_ret ?_
    have hs := hr.shape.cells
    refine zad r rfl rfl h3 (k := 9) hs.1 zo4 ?_
    rw [← hs.2.2]
    exact zny.fin hB hr u5 (fun b hb => .inl hb) (fun h => by have := hF _ h; omega) (by omega) (by omega) (by omega)
  | act op at_ a b k =>
    obtain ⟨nf, n1, n2, hcn, rfl, hk⟩ : ∃ (nf : FuncId) (n1 n2 : List Value), znv Tryz.prog nf = true ∧ pv = .agg (znt false znz.zero op at_ a b (.func (.func nf) n1.toArray n2.toArray)) ∧ FnT Tryz.prog znz u64 n F w0 (.func (.func nf) n1.toArray n2.toArray) k := by
      exact Rep.zeq hp
    refine enter (l := [.agg (znt false znz.zero op at_ a b (.func (.func nf) n1.toArray n2.toArray)), .func (.func ff) f1.toArray f2.toArray]) Tryz.func190 rfl 15 rfl rfl fun fr r => ?_
    have hB := Below.refl w0.heap.size w0
    refine wp_seq (wp_region_lit ?_)
    refine za5 (.cells (znt false znz.zero op at_ a b (.func (.func nf) n1.toArray n2.toArray)) 167 (0, 0)) r (fun R => znF r (v := .agg (znt false znz.zero op at_ a b (.func (.func nf) n1.toArray n2.toArray))) rfl) rfl fun fr b1 w1 q1 r => ?_
    refine za5 (.cells #[.func (.func ff) f1.toArray f2.toArray] 246 (0, 0)) r (fun R => znF r (v := .func (.func ff) f1.toArray f2.toArray) rfl) rfl fun fr b2 w2 q2 r => ?_
    refine za5 (.cells (znt false znG.zero 0 0 0 0 .nilFunc) 158 (0, 0)) r (fun R => zag zo7) rfl fun fr b3 w3 q3 r => wpList_nil ?_
    have h1 := keep q3.below (keep q2.below q1.at_)
    have h2 := keep q3.below q2.at_
    have h3 := q3.at_
    have e1 := q1.eq; have e2 := q2.eq; have e3 := q3.eq; have z1 := q1.size; have z2 := q2.size; have z3 := q3.size
    have hB := ((hB.trans q1.below).trans (q2.below.mono (by omega))).trans (q3.below.mono (by omega))
    have zB := hB.size
    refine wp_seq (wp_seq (wp_region_lit (za0 (zp b1) r (fun R => za4 r (o := 0) rfl zhM) rfl fun fr r => ?_)))
    refine za0 (.bool false) r (fun R => za3 r (v := .bool false) rfl h1 to4 rfl) rfl fun fr r => wpList_nil ?_
    refine wp_cond_split (t := false) (r.ev rfl) (fun h => by cases h) (fun _ => wp_skip ?_)
    refine wp_seq (wp_region_lit (za0 (.pointer (some ⟨b1, 2, none⟩)) r (fun R => za4 r (o := 0) rfl zkB) rfl fun fr r => za0 (.agg (znE (⟨op, at_, a, b⟩ : Access)).toArray) r (fun R => za6 r (cs := (znE (⟨op, at_, a, b⟩ : Access))) (n := 4) rfl h1 ta36 rfl) rfl fun fr r => za0 (.func (.func 287) #[] #[zp b1, zp b2]) r (fun R => zao r rfl) rfl fun fr r => ?_))
    have hF1 : ∀ b, (fun b => F b ∨ b = b1 ∨ b = b2) b → b < w3.heap.size := by rintro b (h | h | h); exact Nat.lt_of_lt_of_le (hF b h) hB.size; omega; omega
    refine za8 r (zf0 (F := fun b => F b ∨ b = b1 ∨ b = b2) (n := n) hF1 ⟨op, at_, a, b⟩ (a1 := fun x => (k x).bind g) (show FnT Tryz.prog znG u64 n (fun b => F b ∨ b = b1 ∨ b = b2) w3 (.func (.func 287) ([] : List Value).toArray [zp b1, zp b2].toArray) (fun x => (k x).bind g) from
      ⟨287, [], [zp b1, zp b2], zrs, rfl, fun m hm x w' hs hz => zgu (ih m hm) (fun b hb => Nat.lt_of_lt_of_le (hF1 b hb) hz) (.inr (.inl rfl)) (hs.at_ (.inr (.inl rfl)) h1) (.inr (.inr rfl)) (hs.at_ (.inr (.inr rfl)) h2)
        (hk.mono (by omega) (fun b h => .inl h) ((Same.below hB hF).trans (hs.sub (fun b h => .inl h))) (Nat.le_trans hB.size hz)) (hf.mono (by omega) (fun b h => .inl h) ((Same.below hB hF).trans (hs.sub (fun b h => .inl h))) (Nat.le_trans hB.size hz)) x⟩)) (fun R hc => zac r rfl zpl hc) rfl ?_
    rintro _ w4 ⟨v, rfl, hb, hr⟩
    refine ⟨_, rfl, fun fr r => ?_⟩
    have z4 := hb.size
    have h3 := keep hb h3
    have hB := hB.trans (hb.mono hB.size)
    refine zae (.cells v.cells 158 (0, 0)) r (fun R => zaf r hr.shape rfl rfl h3 zo3 rfl) rfl fun fr w5 u5 r => wpList_nil ?_
    have z5 := u5.size
    have h3 := u5.at_
    have hB := u5.below hB (by omega)
    refine wp_ret ?_
    have hs := hr.shape.cells
    refine zad r rfl rfl h3 (k := 9) hs.1 zo4 ?_
    rw [← hs.2.2]
    exact zny.fin hB hr u5 (by rintro b (h | h | h); exact .inl h; exact .inr ⟨by omega, by omega⟩; exact .inr ⟨by omega, by omega⟩) (by rintro (h | h | h); (have := hF _ h; omega); omega; omega) (by omega) (by omega) (by omega)
theorem zcD {n : Nat} {F : Nat → Prop} {w0 : World} (hF : ∀ b, F b → b < w0.heap.size) {t : T (Int)} {pv fv : Value} {g : Int → T (Grant)} (hp : Rep Tryz.prog znz n t F w0 pv) (hf : FnT Tryz.prog znG i64 (n + 1) F w0 fv g) :
    Calls Tryz.prog 190 #[pv, fv] w0 (zny Tryz.prog znG n (t.bind g) F w0) := zgx n hF hp (hf.mono (by omega) (fun b h => h) (Same.refl _ _) (Nat.le_refl _)) (.inr hf)
def ze6 (n : Nat) : Prop := ∀ {F : Nat → Prop} {w0 : World}, (∀ b, F b → b < w0.heap.size) → ∀ {t : T (Int)} {pv fv : Value} {g : Int → T (Res)}, Rep Tryz.prog znz n t F w0 pv → FnT Tryz.prog znx i64 n F w0 fv g →
    (t.znO = false ∨ FnT Tryz.prog znx i64 (n + 1) F w0 fv g) → Calls Tryz.prog 132 #[pv, fv] w0 (zny Tryz.prog znx n (t.bind g) F w0)
theorem zhd {n : Nat} (ih : ze6 n) {F : Nat → Prop} {w0 : World} (hF : ∀ b, F b → b < w0.heap.size) {op at_ a b : Int} {nf : FuncId} {n1 n2 : List Value} {k : Int → T (Int)} {ff : FuncId} {f1 f2 : List Value} {g : Int → T (Res)}
    {b1 b2 : Nat} (F1 : F b1) (h1 : w0.heap[b1]? = some (.cells (znt false znz.zero op at_ a b (.func (.func nf) n1.toArray n2.toArray)) 167 (0, 0))) (F2 : F b2) (h2 : w0.heap[b2]? = some (.cells #[.func (.func ff) f1.toArray f2.toArray] 204 (0, 0)))
    (hk : FnT Tryz.prog znz u64 (n + 1) F w0 (.func (.func nf) n1.toArray n2.toArray) k) (hg : FnT Tryz.prog znx i64 (n + 1) F w0 (.func (.func ff) f1.toArray f2.toArray) g) (x : Int) :
    Calls Tryz.prog 227 #[.int .u64 x, zp b1, zp b2] w0 (zny Tryz.prog znx n ((k x).bind g) F w0) := by
 refine enter Tryz.func227 rfl 11 rfl rfl fun fr r => ?_
 have hB := Below.refl w0.heap.size w0
 refine wp_seq (wp_region_lit ?_)
 refine za5 (.cells (znt false znx.zero 0 0 0 0 .nilFunc) 39 (0, 0)) r (fun R => zag tz39) rfl fun fr b3 w1 q1 r => wn ?_
 have h1 := keep q1.below h1
 have h2 := keep q1.below h2
 have e3 := q1.eq
 have z1 := q1.size
 have h3 := q1.at_
 have hB := hB.trans (q1.below.mono hB.size)
 have zB := hB.size
 refine wp_seq ?_
 refine zaI 5 [.val (.pointer (some ⟨b1, 6, none⟩)), .val (.func (.func nf) n1.toArray n2.toArray), .val (U x), .pred (znW Tryz.prog znz n (k x) F w0.heap.size b3) znW.stable, .val (.func (.func ff) f1.toArray f2.toArray)] mixed r (by kernel_rfl) (za2 trivial (za2 trivial (za2 trivial (za2 trivial (za2 trivial zaC))))) ?_ ?_
 ·
  refine ec r (fun _ u _ b d s => za4 s (b := b1) (o := 0) rfl zkR bz) ?_
  refine zba r rfl (fun fr1 u w' hb' hd r' => ?_) ?_
  ·
   obtain ⟨d0, _⟩ := hd
   exact za3 r' (v := .func (.func nf) n1.toArray n2.toArray) d0 (keep hb' h1) zpi rfl ⟨Below.refl _ _, rfl⟩
  refine ec r (fun _ u _ b d s => za9 s rfl bz) ?_
  refine zba r rfl (fun fr1 u w' hb' hd r' => ?_) ?_
  ·
   obtain ⟨d0, d1, _⟩ := hd
   have zb := hb'.size
   have zb : w1.heap.size ≤ w'.heap.size := zb
   have hB' : Below w0.heap.size w0 w' := hB.trans (Below.mono (w := w1) ⟨hb'.os, hb'.tape, hb'.output, hb'.size, hb'.block⟩ hB.size)
   have d0 : u 1 = .func (.func nf) n1.toArray n2.toArray := d0
   have d1 : u 2 = .int .u64 x := d1
   refine zdi r' (fs := n1) (cs := n2) d0 d1 hk.at_.1 ((hk.at_.2 n (Nat.lt_succ_self n) x w' (Same.below hB' hF) hB'.size).mono ?_)
   rintro _ w2 ⟨v, rfl, hb2, hr2⟩
   refine ⟨v, rfl, hb2, znW.zib (fun b h => Nat.lt_of_lt_of_le (hF b h) hB'.size) (by omega) hB'.size hb2 (Rep.mono ?_ (Same.refl _ _) (Nat.le_refl _) n _ _ hr2)⟩
   rintro b (h | h)
   · exact .inl (.inl h)
   · exact .inr h
  refine ec r (fun _ u _ b d s => za3 s rfl (keep b h2) zpm rfl bz) ?_
  exact zaV
 intro fr u w2 hb hΦ _ r
 obtain ⟨_, hr3, _, hr⟩ : znW Tryz.prog znz n (k x) F w0.heap.size b3 (u 3) w2 := hΦ 3 (by decide)
 have r := r.congr (sc (hΦ 4 (by decide)) rfl)
 have z2 := hb.size
 have h1 := keep hb h1
 have h2 := keep hb h2
 have h3 := keep hb h3
 have hB2 := hB.trans (hb.mono hB.size)
 have zB2 := hB2.size
 have hF1 : ∀ b, (fun b => F b ∨ (w0.heap.size ≤ b ∧ b < w2.heap.size ∧ b ≠ b3)) b → b < w2.heap.size := by rintro b (h | h); exact Nat.lt_of_lt_of_le (hF b h) hB2.size; exact h.2.1
 refine za8 r (ih (F := fun b => F b ∨ (w0.heap.size ≤ b ∧ b < w2.heap.size ∧ b ≠ b3)) hF1 hr (hg.mono (by omega) (fun b h => .inl h) (Same.below hB2 hF) hB2.size)
  (.inr (hg.mono (Nat.le_refl _) (fun b h => .inl h) (Same.below hB2 hF) hB2.size))) (fun R hc => zac r rfl zqg hc) rfl ?_
 rintro _ w3 ⟨v2, rfl, hb2, hr2⟩
 refine ⟨_, rfl, fun fr r => ?_⟩
 have z3 := hb2.size
 have h3 := keep hb2 h3
 have hB3 := hB2.trans (hb2.mono hB2.size)
 refine zae (.cells v2.cells 39 (0, 0)) r (fun R => zaf r hr2.shape rfl rfl h3 ts39 rfl) rfl fun fr w4 u4 r => wn ?_
 have z4 := u4.size
 have h3 := u4.at_
 have hB4 := u4.below hB3 (by omega)
 refine wp_ret ?_
 have hs := hr2.shape.cells
 refine zad r rfl rfl h3 (k := 8) hs.1 ta39 ?_
 rw [← hs.2.2]
 exact zny.fin hB4 hr2 u4 (by rintro b (h | ⟨h1, h2, _⟩); exact .inl h; exact .inr ⟨h1, h2⟩) (by rintro (h | ⟨_, _, h⟩); (have := hF _ h; omega); exact h rfl) (by omega) (by omega) (by omega)
theorem zhf (n : Nat) : ze6 n := by
  induction n using Nat.strongRecOn with
  | _ n ih =>
  intro F w0 hF t pv fv g hp hf hd
  obtain ⟨ff, f1, f2, hcf, rfl, hff⟩ := id hf
  cases t with
  | cut => unfold Rep at hp; exact hp.elim
  | done x0 =>
    have hf := hd.resolve_left (by intro h; cases h)
    unfold Rep at hp
    subst hp
    refine enter (l := [.agg (znt true (znz.cells x0) 0 0 0 0 .nilFunc), .func (.func ff) f1.toArray f2.toArray]) Tryz.func132 rfl 15 rfl rfl fun fr r => ?_
    have hB := Below.refl w0.heap.size w0
    refine wp_seq (wp_region_lit ?_)
    refine za5 (.cells (znt true (znz.cells x0) 0 0 0 0 .nilFunc) 167 (0, 0)) r (fun R => znF r (v := .agg (znt true (znz.cells x0) 0 0 0 0 .nilFunc)) rfl) rfl fun fr b1 w1 q1 r => ?_
    refine za5 (.cells #[.func (.func ff) f1.toArray f2.toArray] 204 (0, 0)) r (fun R => znF r (v := .func (.func ff) f1.toArray f2.toArray) rfl) rfl fun fr b2 w2 q2 r => ?_
    refine za5 (.cells (znt false znx.zero 0 0 0 0 .nilFunc) 39 (0, 0)) r (fun R => zag tz39) rfl fun fr b3 w3 q3 r => wpList_nil ?_
    have h1 := keep q3.below (keep q2.below q1.at_)
    have h2 := keep q3.below q2.at_
    have h3 := q3.at_
    have e1 := q1.eq; have e2 := q2.eq; have e3 := q3.eq; have z1 := q1.size; have z2 := q2.size; have z3 := q3.size
    have hB := ((hB.trans q1.below).trans (q2.below.mono (by omega))).trans (q3.below.mono (by omega))
    have zB := hB.size
    refine wp_seq (wp_seq (wp_region_lit (za0 (zp b1) r (fun R => za4 r (o := 0) rfl zhM) rfl fun fr r => ?_)))
    refine za0 (.bool true) r (fun R => za3 r (v := .bool true) rfl h1 to4 rfl) rfl fun fr r => wpList_nil ?_
    refine wp_cond_split (t := true) (r.ev rfl) (fun _ => ?_) (fun h => by cases h)
    refine wp_seq (wp_region_lit (za0 (.func (.func ff) f1.toArray f2.toArray) r (fun R => za3 r (v := .func (.func ff) f1.toArray f2.toArray) rfl h2 zpm rfl) rfl fun fr r => za0 (.pointer (some ⟨b1, 1, none⟩)) r (fun R => za4 r (o := 0) rfl zkP) rfl fun fr r => za0 (.int .i64 x0) r (fun R => za3 r (v := (.int .i64 x0)) rfl h1 to3 rfl) rfl fun fr r => ?_))
    refine za8 r (hf.at_.2 n (Nat.lt_succ_self n) x0 w3 (Same.below hB hF) hB.size) (fun R hc => zfk r rfl rfl hf.at_.1 hc) rfl ?_
    rintro _ w4 ⟨v, rfl, hb, hr⟩
    refine ⟨_, rfl, fun fr r => ?_⟩
    have z4 := hb.size
    have h3 := keep hb h3
    have hB := hB.trans (hb.mono hB.size)
    refine zae (.cells v.cells 39 (0, 0)) r (fun R => zaf r hr.shape rfl rfl h3 ts39 rfl) rfl fun fr w5 u5 r => wpList_nil ?_
    have z5 := u5.size
    have h3 := u5.at_
    have hB := u5.below hB (by omega)
    refine wp_ret ?_
    have hs := hr.shape.cells
    refine zad r rfl rfl h3 (k := 8) hs.1 ta39 ?_
    rw [← hs.2.2]
    exact zny.fin hB hr u5 (fun b hb => .inl hb) (fun h => by have := hF _ h; omega) (by omega) (by omega) (by omega)
  | act op at_ a b k =>
    obtain ⟨nf, n1, n2, hcn, rfl, hk⟩ : ∃ (nf : FuncId) (n1 n2 : List Value), znv Tryz.prog nf = true ∧ pv = .agg (znt false znz.zero op at_ a b (.func (.func nf) n1.toArray n2.toArray)) ∧ FnT Tryz.prog znz u64 n F w0 (.func (.func nf) n1.toArray n2.toArray) k := by
      exact Rep.zeq hp
    refine enter (l := [.agg (znt false znz.zero op at_ a b (.func (.func nf) n1.toArray n2.toArray)), .func (.func ff) f1.toArray f2.toArray]) Tryz.func132 rfl 15 rfl rfl fun fr r => ?_
    have hB := Below.refl w0.heap.size w0
    refine wp_seq (wp_region_lit ?_)
    refine za5 (.cells (znt false znz.zero op at_ a b (.func (.func nf) n1.toArray n2.toArray)) 167 (0, 0)) r (fun R => znF r (v := .agg (znt false znz.zero op at_ a b (.func (.func nf) n1.toArray n2.toArray))) rfl) rfl fun fr b1 w1 q1 r => ?_
    refine za5 (.cells #[.func (.func ff) f1.toArray f2.toArray] 204 (0, 0)) r (fun R => znF r (v := .func (.func ff) f1.toArray f2.toArray) rfl) rfl fun fr b2 w2 q2 r => ?_
    refine za5 (.cells (znt false znx.zero 0 0 0 0 .nilFunc) 39 (0, 0)) r (fun R => zag tz39) rfl fun fr b3 w3 q3 r => wpList_nil ?_
    have h1 := keep q3.below (keep q2.below q1.at_)
    have h2 := keep q3.below q2.at_
    have h3 := q3.at_
    have e1 := q1.eq; have e2 := q2.eq; have e3 := q3.eq; have z1 := q1.size; have z2 := q2.size; have z3 := q3.size
    have hB := ((hB.trans q1.below).trans (q2.below.mono (by omega))).trans (q3.below.mono (by omega))
    have zB := hB.size
    refine wp_seq (wp_seq (wp_region_lit (za0 (zp b1) r (fun R => za4 r (o := 0) rfl zhM) rfl fun fr r => ?_)))
    refine za0 (.bool false) r (fun R => za3 r (v := .bool false) rfl h1 to4 rfl) rfl fun fr r => wpList_nil ?_
    refine wp_cond_split (t := false) (r.ev rfl) (fun h => by cases h) (fun _ => wp_skip ?_)
    refine wp_seq (wp_region_lit (za0 (.pointer (some ⟨b1, 2, none⟩)) r (fun R => za4 r (o := 0) rfl zkB) rfl fun fr r => za0 (.agg (znE (⟨op, at_, a, b⟩ : Access)).toArray) r (fun R => za6 r (cs := (znE (⟨op, at_, a, b⟩ : Access))) (n := 4) rfl h1 ta36 rfl) rfl fun fr r => za0 (.func (.func 227) #[] #[zp b1, zp b2]) r (fun R => zao r rfl) rfl fun fr r => ?_))
    have hF1 : ∀ b, (fun b => F b ∨ b = b1 ∨ b = b2) b → b < w3.heap.size := by rintro b (h | h | h); exact Nat.lt_of_lt_of_le (hF b h) hB.size; omega; omega
    refine za8 r (zcM (F := fun b => F b ∨ b = b1 ∨ b = b2) (n := n) hF1 ⟨op, at_, a, b⟩ (a1 := fun x => (k x).bind g) (show FnT Tryz.prog znx u64 n (fun b => F b ∨ b = b1 ∨ b = b2) w3 (.func (.func 227) ([] : List Value).toArray [zp b1, zp b2].toArray) (fun x => (k x).bind g) from
      ⟨227, [], [zp b1, zp b2], zrA, rfl, fun m hm x w' hs hz => zhd (ih m hm) (fun b hb => Nat.lt_of_lt_of_le (hF1 b hb) hz) (.inr (.inl rfl)) (hs.at_ (.inr (.inl rfl)) h1) (.inr (.inr rfl)) (hs.at_ (.inr (.inr rfl)) h2)
        (hk.mono (by omega) (fun b h => .inl h) ((Same.below hB hF).trans (hs.sub (fun b h => .inl h))) (Nat.le_trans hB.size hz)) (hf.mono (by omega) (fun b h => .inl h) ((Same.below hB hF).trans (hs.sub (fun b h => .inl h))) (Nat.le_trans hB.size hz)) x⟩)) (fun R hc => zac r rfl zoo hc) rfl ?_
    rintro _ w4 ⟨v, rfl, hb, hr⟩
    refine ⟨_, rfl, fun fr r => ?_⟩
    have z4 := hb.size
    have h3 := keep hb h3
    have hB := hB.trans (hb.mono hB.size)
    refine zae (.cells v.cells 39 (0, 0)) r (fun R => zaf r hr.shape rfl rfl h3 ts39 rfl) rfl fun fr w5 u5 r => wpList_nil ?_
    have z5 := u5.size
    have h3 := u5.at_
    have hB := u5.below hB (by omega)
    refine wp_ret ?_
    have hs := hr.shape.cells
    refine zad r rfl rfl h3 (k := 8) hs.1 ta39 ?_
    rw [← hs.2.2]
    exact zny.fin hB hr u5 (by rintro b (h | h | h); exact .inl h; exact .inr ⟨by omega, by omega⟩; exact .inr ⟨by omega, by omega⟩) (by rintro (h | h | h); (have := hF _ h; omega); omega; omega) (by omega) (by omega) (by omega)
theorem zg1 {n : Nat} {F : Nat → Prop} {w0 : World} (hF : ∀ b, F b → b < w0.heap.size) {t : T (Int)} {pv fv : Value} {g : Int → T (Res)} (hp : Rep Tryz.prog znz n t F w0 pv) (hf : FnT Tryz.prog znx i64 (n + 1) F w0 fv g) :
    Calls Tryz.prog 132 #[pv, fv] w0 (zny Tryz.prog znx n (t.bind g) F w0) := zhf n hF hp (hf.mono (by omega) (fun b h => h) (Same.refl _ _) (Nat.le_refl _)) (.inr hf)
def ze5 (n : Nat) : Prop := ∀ {F : Nat → Prop} {w0 : World}, (∀ b, F b → b < w0.heap.size) → ∀ {t : T (Int)} {pv fv : Value} {g : Int → T (Int)}, Rep Tryz.prog znz n t F w0 pv → FnT Tryz.prog znz i64 n F w0 fv g →
    (t.znO = false ∨ FnT Tryz.prog znz i64 (n + 1) F w0 fv g) → Calls Tryz.prog 230 #[pv, fv] w0 (zny Tryz.prog znz n (t.bind g) F w0)
theorem zh3 {n : Nat} (ih : ze5 n) {F : Nat → Prop} {w0 : World} (hF : ∀ b, F b → b < w0.heap.size) {op at_ a b : Int} {nf : FuncId} {n1 n2 : List Value} {k : Int → T (Int)} {ff : FuncId} {f1 f2 : List Value} {g : Int → T (Int)}
    {b1 b2 : Nat} (F1 : F b1) (h1 : w0.heap[b1]? = some (.cells (znt false znz.zero op at_ a b (.func (.func nf) n1.toArray n2.toArray)) 167 (0, 0))) (F2 : F b2) (h2 : w0.heap[b2]? = some (.cells #[.func (.func ff) f1.toArray f2.toArray] 271 (0, 0)))
    (hk : FnT Tryz.prog znz u64 (n + 1) F w0 (.func (.func nf) n1.toArray n2.toArray) k) (hg : FnT Tryz.prog znz i64 (n + 1) F w0 (.func (.func ff) f1.toArray f2.toArray) g) (x : Int) :
    Calls Tryz.prog 321 #[.int .u64 x, zp b1, zp b2] w0 (zny Tryz.prog znz n ((k x).bind g) F w0) := by
 refine enter Tryz.func321 rfl 11 rfl rfl fun fr r => ?_
 have hB := Below.refl w0.heap.size w0
 refine wp_seq (wp_region_lit ?_)
 refine za5 (.cells (znt false znz.zero 0 0 0 0 .nilFunc) 167 (0, 0)) r (fun R => zag znV) rfl fun fr b3 w1 q1 r => wn ?_
 have h1 := keep q1.below h1
 have h2 := keep q1.below h2
 have e3 := q1.eq
 have z1 := q1.size
 have h3 := q1.at_
 have hB := hB.trans (q1.below.mono hB.size)
 have zB := hB.size
 refine wp_seq ?_
 refine zaI 5 [.val (.pointer (some ⟨b1, 6, none⟩)), .val (.func (.func nf) n1.toArray n2.toArray), .val (U x), .pred (znW Tryz.prog znz n (k x) F w0.heap.size b3) znW.stable, .val (.func (.func ff) f1.toArray f2.toArray)] mixed r (by kernel_rfl) (za2 trivial (za2 trivial (za2 trivial (za2 trivial (za2 trivial zaC))))) ?_ ?_
 ·
  refine ec r (fun _ u _ b d s => za4 s (b := b1) (o := 0) rfl zkR bz) ?_
  refine zba r rfl (fun fr1 u w' hb' hd r' => ?_) ?_
  ·
   obtain ⟨d0, _⟩ := hd
   exact za3 r' (v := .func (.func nf) n1.toArray n2.toArray) d0 (keep hb' h1) zpi rfl ⟨Below.refl _ _, rfl⟩
  refine ec r (fun _ u _ b d s => za9 s rfl bz) ?_
  refine zba r rfl (fun fr1 u w' hb' hd r' => ?_) ?_
  ·
   obtain ⟨d0, d1, _⟩ := hd
   have zb := hb'.size
   have zb : w1.heap.size ≤ w'.heap.size := zb
   have hB' : Below w0.heap.size w0 w' := hB.trans (Below.mono (w := w1) ⟨hb'.os, hb'.tape, hb'.output, hb'.size, hb'.block⟩ hB.size)
   have d0 : u 1 = .func (.func nf) n1.toArray n2.toArray := d0
   have d1 : u 2 = .int .u64 x := d1
   refine zdi r' (fs := n1) (cs := n2) d0 d1 hk.at_.1 ((hk.at_.2 n (Nat.lt_succ_self n) x w' (Same.below hB' hF) hB'.size).mono ?_)
   rintro _ w2 ⟨v, rfl, hb2, hr2⟩
   refine ⟨v, rfl, hb2, znW.zib (fun b h => Nat.lt_of_lt_of_le (hF b h) hB'.size) (by omega) hB'.size hb2 (Rep.mono ?_ (Same.refl _ _) (Nat.le_refl _) n _ _ hr2)⟩
   rintro b (h | h)
   · exact .inl (.inl h)
   · exact .inr h
  refine ec r (fun _ u _ b d s => za3 s rfl (keep b h2) zpa rfl bz) ?_
  exact zaV
 intro fr u w2 hb hΦ _ r
 obtain ⟨_, hr3, _, hr⟩ : znW Tryz.prog znz n (k x) F w0.heap.size b3 (u 3) w2 := hΦ 3 (by decide)
 have r := r.congr (sc (hΦ 4 (by decide)) rfl)
 have z2 := hb.size
 have h1 := keep hb h1
 have h2 := keep hb h2
 have h3 := keep hb h3
 have hB2 := hB.trans (hb.mono hB.size)
 have zB2 := hB2.size
 have hF1 : ∀ b, (fun b => F b ∨ (w0.heap.size ≤ b ∧ b < w2.heap.size ∧ b ≠ b3)) b → b < w2.heap.size := by rintro b (h | h); exact Nat.lt_of_lt_of_le (hF b h) hB2.size; exact h.2.1
 refine za8 r (ih (F := fun b => F b ∨ (w0.heap.size ≤ b ∧ b < w2.heap.size ∧ b ≠ b3)) hF1 hr (hg.mono (by omega) (fun b h => .inl h) (Same.below hB2 hF) hB2.size)
  (.inr (hg.mono (Nat.le_refl _) (fun b h => .inl h) (Same.below hB2 hF) hB2.size))) (fun R hc => zac r rfl zoK hc) rfl ?_
 rintro _ w3 ⟨v2, rfl, hb2, hr2⟩
 refine ⟨_, rfl, fun fr r => ?_⟩
 have z3 := hb2.size
 have h3 := keep hb2 h3
 have hB3 := hB2.trans (hb2.mono hB2.size)
 refine zae (.cells v2.cells 167 (0, 0)) r (fun R => zaf r hr2.shape rfl rfl h3 znT rfl) rfl fun fr w4 u4 r => wn ?_
 have z4 := u4.size
 have h3 := u4.at_
 have hB4 := u4.below hB3 (by omega)
 refine wp_ret ?_
 have hs := hr2.shape.cells
 refine zad r rfl rfl h3 (k := 7) hs.1 znS ?_
 rw [← hs.2.2]
 exact zny.fin hB4 hr2 u4 (by rintro b (h | ⟨h1, h2, _⟩); exact .inl h; exact .inr ⟨h1, h2⟩) (by rintro (h | ⟨_, _, h⟩); (have := hF _ h; omega); exact h rfl) (by omega) (by omega) (by omega)
theorem zeW (n : Nat) : ze5 n := by
  induction n using Nat.strongRecOn with
  | _ n ih =>
  intro F w0 hF t pv fv g hp hf hd
  obtain ⟨ff, f1, f2, hcf, rfl, hff⟩ := id hf
  cases t with
  | cut => unfold Rep at hp; exact hp.elim
  | done x0 =>
    have hf := hd.resolve_left (by intro h; cases h)
    unfold Rep at hp
    subst hp
    refine enter (l := [.agg (znt true (znz.cells x0) 0 0 0 0 .nilFunc), .func (.func ff) f1.toArray f2.toArray]) Tryz.func230 rfl 15 rfl rfl fun fr r => ?_
    have hB := Below.refl w0.heap.size w0
    refine wp_seq (wp_region_lit ?_)
    refine za5 (.cells (znt true (znz.cells x0) 0 0 0 0 .nilFunc) 167 (0, 0)) r (fun R => znF r (v := .agg (znt true (znz.cells x0) 0 0 0 0 .nilFunc)) rfl) rfl fun fr b1 w1 q1 r => ?_
    refine za5 (.cells #[.func (.func ff) f1.toArray f2.toArray] 271 (0, 0)) r (fun R => znF r (v := .func (.func ff) f1.toArray f2.toArray) rfl) rfl fun fr b2 w2 q2 r => ?_
    refine za5 (.cells (znt false znz.zero 0 0 0 0 .nilFunc) 167 (0, 0)) r (fun R => zag znV) rfl fun fr b3 w3 q3 r => wpList_nil ?_
    have h1 := keep q3.below (keep q2.below q1.at_)
    have h2 := keep q3.below q2.at_
    have h3 := q3.at_
    have e1 := q1.eq; have e2 := q2.eq; have e3 := q3.eq; have z1 := q1.size; have z2 := q2.size; have z3 := q3.size
    have hB := ((hB.trans q1.below).trans (q2.below.mono (by omega))).trans (q3.below.mono (by omega))
    have zB := hB.size
    refine wp_seq (wp_seq (wp_region_lit (za0 (zp b1) r (fun R => za4 r (o := 0) rfl zhM) rfl fun fr r => ?_)))
    refine za0 (.bool true) r (fun R => za3 r (v := .bool true) rfl h1 to4 rfl) rfl fun fr r => wpList_nil ?_
    refine wp_cond_split (t := true) (r.ev rfl) (fun _ => ?_) (fun h => by cases h)
    refine wp_seq (wp_region_lit (za0 (.func (.func ff) f1.toArray f2.toArray) r (fun R => za3 r (v := .func (.func ff) f1.toArray f2.toArray) rfl h2 zpa rfl) rfl fun fr r => za0 (.pointer (some ⟨b1, 1, none⟩)) r (fun R => za4 r (o := 0) rfl zkP) rfl fun fr r => za0 (.int .i64 x0) r (fun R => za3 r (v := (.int .i64 x0)) rfl h1 to3 rfl) rfl fun fr r => ?_))
    refine za8 r (hf.at_.2 n (Nat.lt_succ_self n) x0 w3 (Same.below hB hF) hB.size) (fun R hc => zfk r rfl rfl hf.at_.1 hc) rfl ?_
    rintro _ w4 ⟨v, rfl, hb, hr⟩
    refine ⟨_, rfl, fun fr r => ?_⟩
    have z4 := hb.size
    have h3 := keep hb h3
    have hB := hB.trans (hb.mono hB.size)
    refine zae (.cells v.cells 167 (0, 0)) r (fun R => zaf r hr.shape rfl rfl h3 znT rfl) rfl fun fr w5 u5 r => wpList_nil ?_
    have z5 := u5.size
    have h3 := u5.at_
    have hB := u5.below hB (by omega)
    refine wp_ret ?_
    have hs := hr.shape.cells
    refine zad r rfl rfl h3 (k := 7) hs.1 znS ?_
    rw [← hs.2.2]
    exact zny.fin hB hr u5 (fun b hb => .inl hb) (fun h => by have := hF _ h; omega) (by omega) (by omega) (by omega)
  | act op at_ a b k =>
    obtain ⟨nf, n1, n2, hcn, rfl, hk⟩ : ∃ (nf : FuncId) (n1 n2 : List Value), znv Tryz.prog nf = true ∧ pv = .agg (znt false znz.zero op at_ a b (.func (.func nf) n1.toArray n2.toArray)) ∧ FnT Tryz.prog znz u64 n F w0 (.func (.func nf) n1.toArray n2.toArray) k := by
      exact Rep.zeq hp
    refine enter (l := [.agg (znt false znz.zero op at_ a b (.func (.func nf) n1.toArray n2.toArray)), .func (.func ff) f1.toArray f2.toArray]) Tryz.func230 rfl 15 rfl rfl fun fr r => ?_
    have hB := Below.refl w0.heap.size w0
    refine wp_seq (wp_region_lit ?_)
    refine za5 (.cells (znt false znz.zero op at_ a b (.func (.func nf) n1.toArray n2.toArray)) 167 (0, 0)) r (fun R => znF r (v := .agg (znt false znz.zero op at_ a b (.func (.func nf) n1.toArray n2.toArray))) rfl) rfl fun fr b1 w1 q1 r => ?_
    refine za5 (.cells #[.func (.func ff) f1.toArray f2.toArray] 271 (0, 0)) r (fun R => znF r (v := .func (.func ff) f1.toArray f2.toArray) rfl) rfl fun fr b2 w2 q2 r => ?_
    refine za5 (.cells (znt false znz.zero 0 0 0 0 .nilFunc) 167 (0, 0)) r (fun R => zag znV) rfl fun fr b3 w3 q3 r => wpList_nil ?_
    have h1 := keep q3.below (keep q2.below q1.at_)
    have h2 := keep q3.below q2.at_
    have h3 := q3.at_
    have e1 := q1.eq; have e2 := q2.eq; have e3 := q3.eq; have z1 := q1.size; have z2 := q2.size; have z3 := q3.size
    have hB := ((hB.trans q1.below).trans (q2.below.mono (by omega))).trans (q3.below.mono (by omega))
    have zB := hB.size
    refine wp_seq (wp_seq (wp_region_lit (za0 (zp b1) r (fun R => za4 r (o := 0) rfl zhM) rfl fun fr r => ?_)))
    refine za0 (.bool false) r (fun R => za3 r (v := .bool false) rfl h1 to4 rfl) rfl fun fr r => wpList_nil ?_
    refine wp_cond_split (t := false) (r.ev rfl) (fun h => by cases h) (fun _ => wp_skip ?_)
    refine wp_seq (wp_region_lit (za0 (.pointer (some ⟨b1, 2, none⟩)) r (fun R => za4 r (o := 0) rfl zkB) rfl fun fr r => za0 (.agg (znE (⟨op, at_, a, b⟩ : Access)).toArray) r (fun R => za6 r (cs := (znE (⟨op, at_, a, b⟩ : Access))) (n := 4) rfl h1 ta36 rfl) rfl fun fr r => za0 (.func (.func 321) #[] #[zp b1, zp b2]) r (fun R => zao r rfl) rfl fun fr r => ?_))
    have hF1 : ∀ b, (fun b => F b ∨ b = b1 ∨ b = b2) b → b < w3.heap.size := by rintro b (h | h | h); exact Nat.lt_of_lt_of_le (hF b h) hB.size; omega; omega
    refine za8 r (zdX (F := fun b => F b ∨ b = b1 ∨ b = b2) (n := n) hF1 ⟨op, at_, a, b⟩ (a1 := fun x => (k x).bind g) (show FnT Tryz.prog znz u64 n (fun b => F b ∨ b = b1 ∨ b = b2) w3 (.func (.func 321) ([] : List Value).toArray [zp b1, zp b2].toArray) (fun x => (k x).bind g) from
      ⟨321, [], [zp b1, zp b2], zqu, rfl, fun m hm x w' hs hz => zh3 (ih m hm) (fun b hb => Nat.lt_of_lt_of_le (hF1 b hb) hz) (.inr (.inl rfl)) (hs.at_ (.inr (.inl rfl)) h1) (.inr (.inr rfl)) (hs.at_ (.inr (.inr rfl)) h2)
        (hk.mono (by omega) (fun b h => .inl h) ((Same.below hB hF).trans (hs.sub (fun b h => .inl h))) (Nat.le_trans hB.size hz)) (hf.mono (by omega) (fun b h => .inl h) ((Same.below hB hF).trans (hs.sub (fun b h => .inl h))) (Nat.le_trans hB.size hz)) x⟩)) (fun R hc => zac r rfl zoG hc) rfl ?_
    rintro _ w4 ⟨v, rfl, hb, hr⟩
    refine ⟨_, rfl, fun fr r => ?_⟩
    have z4 := hb.size
    have h3 := keep hb h3
    have hB := hB.trans (hb.mono hB.size)
    refine zae (.cells v.cells 167 (0, 0)) r (fun R => zaf r hr.shape rfl rfl h3 znT rfl) rfl fun fr w5 u5 r => wpList_nil ?_
    have z5 := u5.size
    have h3 := u5.at_
    have hB := u5.below hB (by omega)
    refine wp_ret ?_
    have hs := hr.shape.cells
    refine zad r rfl rfl h3 (k := 7) hs.1 znS ?_
    rw [← hs.2.2]
    exact zny.fin hB hr u5 (by rintro b (h | h | h); exact .inl h; exact .inr ⟨by omega, by omega⟩; exact .inr ⟨by omega, by omega⟩) (by rintro (h | h | h); (have := hF _ h; omega); omega; omega) (by omega) (by omega) (by omega)
theorem zg5 {n : Nat} {F : Nat → Prop} {w0 : World} (hF : ∀ b, F b → b < w0.heap.size) {t : T (Int)} {pv fv : Value} {g : Int → T (Int)} (hp : Rep Tryz.prog znz n t F w0 pv) (hf : FnT Tryz.prog znz i64 n F w0 fv g) (hd : t.znO = false) :
    Calls Tryz.prog 230 #[pv, fv] w0 (zny Tryz.prog znz n (t.bind g) F w0) := zeW n hF hp hf (.inl hd)
theorem zcX {n : Nat} {F : Nat → Prop} {w0 : World} (hF : ∀ b, F b → b < w0.heap.size) {t : T (Int)} {pv fv : Value} {g : Int → T (Int)} (hp : Rep Tryz.prog znz n t F w0 pv) (hf : FnT Tryz.prog znz i64 (n + 1) F w0 fv g) :
    Calls Tryz.prog 230 #[pv, fv] w0 (zny Tryz.prog znz n (t.bind g) F w0) := zeW n hF hp (hf.mono (by omega) (fun b h => h) (Same.refl _ _) (Nat.le_refl _)) (.inr hf)
def zdp (n : Nat) : Prop := ∀ {F : Nat → Prop} {w0 : World}, (∀ b, F b → b < w0.heap.size) → ∀ {t : T (Int)} {pv fv : Value} {g : Int → T (Res)}, Rep Tryz.prog znM n t F w0 pv → FnT Tryz.prog znx u64 n F w0 fv g →
    (t.znO = false ∨ FnT Tryz.prog znx u64 (n + 1) F w0 fv g) → Calls Tryz.prog 242 #[pv, fv] w0 (zny Tryz.prog znx n (t.bind g) F w0)
theorem zg6 {n : Nat} (ih : zdp n) {F : Nat → Prop} {w0 : World} (hF : ∀ b, F b → b < w0.heap.size) {op at_ a b : Int} {nf : FuncId} {n1 n2 : List Value} {k : Int → T (Int)} {ff : FuncId} {f1 f2 : List Value} {g : Int → T (Res)}
    {b1 b2 : Nat} (F1 : F b1) (h1 : w0.heap[b1]? = some (.cells (znt false znM.zero op at_ a b (.func (.func nf) n1.toArray n2.toArray)) 283 (0, 0))) (F2 : F b2) (h2 : w0.heap[b2]? = some (.cells #[.func (.func ff) f1.toArray f2.toArray] 37 (0, 0)))
    (hk : FnT Tryz.prog znM u64 (n + 1) F w0 (.func (.func nf) n1.toArray n2.toArray) k) (hg : FnT Tryz.prog znx u64 (n + 1) F w0 (.func (.func ff) f1.toArray f2.toArray) g) (x : Int) :
    Calls Tryz.prog 325 #[.int .u64 x, zp b1, zp b2] w0 (zny Tryz.prog znx n ((k x).bind g) F w0) := by
 refine enter Tryz.func325 rfl 11 rfl rfl fun fr r => ?_
 have hB := Below.refl w0.heap.size w0
 refine wp_seq (wp_region_lit ?_)
 refine za5 (.cells (znt false znx.zero 0 0 0 0 .nilFunc) 39 (0, 0)) r (fun R => zag tz39) rfl fun fr b3 w1 q1 r => wn ?_
 have h1 := keep q1.below h1
 have h2 := keep q1.below h2
 have e3 := q1.eq
 have z1 := q1.size
 have h3 := q1.at_
 have hB := hB.trans (q1.below.mono hB.size)
 have zB := hB.size
 refine wp_seq ?_
 refine zaI 5 [.val (.pointer (some ⟨b1, 6, none⟩)), .val (.func (.func nf) n1.toArray n2.toArray), .val (U x), .pred (znW Tryz.prog znM n (k x) F w0.heap.size b3) znW.stable, .val (.func (.func ff) f1.toArray f2.toArray)] mixed r (by kernel_rfl) (za2 trivial (za2 trivial (za2 trivial (za2 trivial (za2 trivial zaC))))) ?_ ?_
 ·
  refine ec r (fun _ u _ b d s => za4 s (b := b1) (o := 0) rfl zmR bz) ?_
  refine zba r rfl (fun fr1 u w' hb' hd r' => ?_) ?_
  ·
   obtain ⟨d0, _⟩ := hd
   exact za3 r' (v := .func (.func nf) n1.toArray n2.toArray) d0 (keep hb' h1) zsk rfl ⟨Below.refl _ _, rfl⟩
  refine ec r (fun _ u _ b d s => za9 s rfl bz) ?_
  refine zba r rfl (fun fr1 u w' hb' hd r' => ?_) ?_
  ·
   obtain ⟨d0, d1, _⟩ := hd
   have zb := hb'.size
   have zb : w1.heap.size ≤ w'.heap.size := zb
   have hB' : Below w0.heap.size w0 w' := hB.trans (Below.mono (w := w1) ⟨hb'.os, hb'.tape, hb'.output, hb'.size, hb'.block⟩ hB.size)
   have d0 : u 1 = .func (.func nf) n1.toArray n2.toArray := d0
   have d1 : u 2 = .int .u64 x := d1
   refine zdi r' (fs := n1) (cs := n2) d0 d1 hk.at_.1 ((hk.at_.2 n (Nat.lt_succ_self n) x w' (Same.below hB' hF) hB'.size).mono ?_)
   rintro _ w2 ⟨v, rfl, hb2, hr2⟩
   refine ⟨v, rfl, hb2, znW.zib (fun b h => Nat.lt_of_lt_of_le (hF b h) hB'.size) (by omega) hB'.size hb2 (Rep.mono ?_ (Same.refl _ _) (Nat.le_refl _) n _ _ hr2)⟩
   rintro b (h | h)
   · exact .inl (.inl h)
   · exact .inr h
  refine ec r (fun _ u _ b d s => za3 s rfl (keep b h2) to37 rfl bz) ?_
  exact zaV
 intro fr u w2 hb hΦ _ r
 obtain ⟨_, hr3, _, hr⟩ : znW Tryz.prog znM n (k x) F w0.heap.size b3 (u 3) w2 := hΦ 3 (by decide)
 have r := r.congr (sc (hΦ 4 (by decide)) rfl)
 have z2 := hb.size
 have h1 := keep hb h1
 have h2 := keep hb h2
 have h3 := keep hb h3
 have hB2 := hB.trans (hb.mono hB.size)
 have zB2 := hB2.size
 have hF1 : ∀ b, (fun b => F b ∨ (w0.heap.size ≤ b ∧ b < w2.heap.size ∧ b ≠ b3)) b → b < w2.heap.size := by rintro b (h | h); exact Nat.lt_of_lt_of_le (hF b h) hB2.size; exact h.2.1
 refine za8 r (ih (F := fun b => F b ∨ (w0.heap.size ≤ b ∧ b < w2.heap.size ∧ b ≠ b3)) hF1 hr (hg.mono (by omega) (fun b h => .inl h) (Same.below hB2 hF) hB2.size)
  (.inr (hg.mono (Nat.le_refl _) (fun b h => .inl h) (Same.below hB2 hF) hB2.size))) (fun R hc => zac r rfl zpf hc) rfl ?_
 rintro _ w3 ⟨v2, rfl, hb2, hr2⟩
 refine ⟨_, rfl, fun fr r => ?_⟩
 have z3 := hb2.size
 have h3 := keep hb2 h3
 have hB3 := hB2.trans (hb2.mono hB2.size)
 refine zae (.cells v2.cells 39 (0, 0)) r (fun R => zaf r hr2.shape rfl rfl h3 ts39 rfl) rfl fun fr w4 u4 r => wn ?_
 have z4 := u4.size
 have h3 := u4.at_
 have hB4 := u4.below hB3 (by omega)
 refine wp_ret ?_
 have hs := hr2.shape.cells
 refine zad r rfl rfl h3 (k := 8) hs.1 ta39 ?_
 rw [← hs.2.2]
 exact zny.fin hB4 hr2 u4 (by rintro b (h | ⟨h1, h2, _⟩); exact .inl h; exact .inr ⟨h1, h2⟩) (by rintro (h | ⟨_, _, h⟩); (have := hF _ h; omega); exact h rfl) (by omega) (by omega) (by omega)
theorem zg3 (n : Nat) : zdp n := by
  induction n using Nat.strongRecOn with
  | _ n ih =>
  intro F w0 hF t pv fv g hp hf hd
  obtain ⟨ff, f1, f2, hcf, rfl, hff⟩ := id hf
  cases t with
  | cut => unfold Rep at hp; exact hp.elim
  | done x0 =>
    have hf := hd.resolve_left (by intro h; cases h)
    unfold Rep at hp
    subst hp
    refine enter (l := [.agg (znt true (znM.cells x0) 0 0 0 0 .nilFunc), .func (.func ff) f1.toArray f2.toArray]) Tryz.func242 rfl 15 rfl rfl fun fr r => ?_
    have hB := Below.refl w0.heap.size w0
    refine wp_seq (wp_region_lit ?_)
    refine za5 (.cells (znt true (znM.cells x0) 0 0 0 0 .nilFunc) 283 (0, 0)) r (fun R => znF r (v := .agg (znt true (znM.cells x0) 0 0 0 0 .nilFunc)) rfl) rfl fun fr b1 w1 q1 r => ?_
    refine za5 (.cells #[.func (.func ff) f1.toArray f2.toArray] 37 (0, 0)) r (fun R => znF r (v := .func (.func ff) f1.toArray f2.toArray) rfl) rfl fun fr b2 w2 q2 r => ?_
    refine za5 (.cells (znt false znx.zero 0 0 0 0 .nilFunc) 39 (0, 0)) r (fun R => zag tz39) rfl fun fr b3 w3 q3 r => wpList_nil ?_
    have h1 := keep q3.below (keep q2.below q1.at_)
    have h2 := keep q3.below q2.at_
    have h3 := q3.at_
    have e1 := q1.eq; have e2 := q2.eq; have e3 := q3.eq; have z1 := q1.size; have z2 := q2.size; have z3 := q3.size
    have hB := ((hB.trans q1.below).trans (q2.below.mono (by omega))).trans (q3.below.mono (by omega))
    have zB := hB.size
    refine wp_seq (wp_seq (wp_region_lit (za0 (zp b1) r (fun R => za4 r (o := 0) rfl zlQ) rfl fun fr r => ?_)))
    refine za0 (.bool true) r (fun R => za3 r (v := .bool true) rfl h1 to4 rfl) rfl fun fr r => wpList_nil ?_
    refine wp_cond_split (t := true) (r.ev rfl) (fun _ => ?_) (fun h => by cases h)
    refine wp_seq (wp_region_lit (za0 (.func (.func ff) f1.toArray f2.toArray) r (fun R => za3 r (v := .func (.func ff) f1.toArray f2.toArray) rfl h2 to37 rfl) rfl fun fr r => za0 (.pointer (some ⟨b1, 1, none⟩)) r (fun R => za4 r (o := 0) rfl zmX) rfl fun fr r => za0 (.int .u64 x0) r (fun R => za3 r (v := (.int .u64 x0)) rfl h1 to22 rfl) rfl fun fr r => ?_))
    refine za8 r (hf.at_.2 n (Nat.lt_succ_self n) x0 w3 (Same.below hB hF) hB.size) (fun R hc => zfk r rfl rfl hf.at_.1 hc) rfl ?_
    rintro _ w4 ⟨v, rfl, hb, hr⟩
    refine ⟨_, rfl, fun fr r => ?_⟩
    have z4 := hb.size
    have h3 := keep hb h3
    have hB := hB.trans (hb.mono hB.size)
    refine zae (.cells v.cells 39 (0, 0)) r (fun R => zaf r hr.shape rfl rfl h3 ts39 rfl) rfl fun fr w5 u5 r => wpList_nil ?_
    have z5 := u5.size
    have h3 := u5.at_
    have hB := u5.below hB (by omega)
    refine wp_ret ?_
    have hs := hr.shape.cells
    refine zad r rfl rfl h3 (k := 8) hs.1 ta39 ?_
    rw [← hs.2.2]
    exact zny.fin hB hr u5 (fun b hb => .inl hb) (fun h => by have := hF _ h; omega) (by omega) (by omega) (by omega)
  | act op at_ a b k =>
    obtain ⟨nf, n1, n2, hcn, rfl, hk⟩ : ∃ (nf : FuncId) (n1 n2 : List Value), znv Tryz.prog nf = true ∧ pv = .agg (znt false znM.zero op at_ a b (.func (.func nf) n1.toArray n2.toArray)) ∧ FnT Tryz.prog znM u64 n F w0 (.func (.func nf) n1.toArray n2.toArray) k := by
      exact Rep.zeq hp
    refine enter (l := [.agg (znt false znM.zero op at_ a b (.func (.func nf) n1.toArray n2.toArray)), .func (.func ff) f1.toArray f2.toArray]) Tryz.func242 rfl 15 rfl rfl fun fr r => ?_
    have hB := Below.refl w0.heap.size w0
    refine wp_seq (wp_region_lit ?_)
    refine za5 (.cells (znt false znM.zero op at_ a b (.func (.func nf) n1.toArray n2.toArray)) 283 (0, 0)) r (fun R => znF r (v := .agg (znt false znM.zero op at_ a b (.func (.func nf) n1.toArray n2.toArray))) rfl) rfl fun fr b1 w1 q1 r => ?_
    refine za5 (.cells #[.func (.func ff) f1.toArray f2.toArray] 37 (0, 0)) r (fun R => znF r (v := .func (.func ff) f1.toArray f2.toArray) rfl) rfl fun fr b2 w2 q2 r => ?_
    refine za5 (.cells (znt false znx.zero 0 0 0 0 .nilFunc) 39 (0, 0)) r (fun R => zag tz39) rfl fun fr b3 w3 q3 r => wpList_nil ?_
    have h1 := keep q3.below (keep q2.below q1.at_)
    have h2 := keep q3.below q2.at_
    have h3 := q3.at_
    have e1 := q1.eq; have e2 := q2.eq; have e3 := q3.eq; have z1 := q1.size; have z2 := q2.size; have z3 := q3.size
    have hB := ((hB.trans q1.below).trans (q2.below.mono (by omega))).trans (q3.below.mono (by omega))
    have zB := hB.size
    refine wp_seq (wp_seq (wp_region_lit (za0 (zp b1) r (fun R => za4 r (o := 0) rfl zlQ) rfl fun fr r => ?_)))
    refine za0 (.bool false) r (fun R => za3 r (v := .bool false) rfl h1 to4 rfl) rfl fun fr r => wpList_nil ?_
    refine wp_cond_split (t := false) (r.ev rfl) (fun h => by cases h) (fun _ => wp_skip ?_)
    refine wp_seq (wp_region_lit (za0 (.pointer (some ⟨b1, 2, none⟩)) r (fun R => za4 r (o := 0) rfl zn6) rfl fun fr r => za0 (.agg (znE (⟨op, at_, a, b⟩ : Access)).toArray) r (fun R => za6 r (cs := (znE (⟨op, at_, a, b⟩ : Access))) (n := 4) rfl h1 ta36 rfl) rfl fun fr r => za0 (.func (.func 325) #[] #[zp b1, zp b2]) r (fun R => zao r rfl) rfl fun fr r => ?_))
    have hF1 : ∀ b, (fun b => F b ∨ b = b1 ∨ b = b2) b → b < w3.heap.size := by rintro b (h | h | h); exact Nat.lt_of_lt_of_le (hF b h) hB.size; omega; omega
    refine za8 r (zcM (F := fun b => F b ∨ b = b1 ∨ b = b2) (n := n) hF1 ⟨op, at_, a, b⟩ (a1 := fun x => (k x).bind g) (show FnT Tryz.prog znx u64 n (fun b => F b ∨ b = b1 ∨ b = b2) w3 (.func (.func 325) ([] : List Value).toArray [zp b1, zp b2].toArray) (fun x => (k x).bind g) from
      ⟨325, [], [zp b1, zp b2], zqL, rfl, fun m hm x w' hs hz => zg6 (ih m hm) (fun b hb => Nat.lt_of_lt_of_le (hF1 b hb) hz) (.inr (.inl rfl)) (hs.at_ (.inr (.inl rfl)) h1) (.inr (.inr rfl)) (hs.at_ (.inr (.inr rfl)) h2)
        (hk.mono (by omega) (fun b h => .inl h) ((Same.below hB hF).trans (hs.sub (fun b h => .inl h))) (Nat.le_trans hB.size hz)) (hf.mono (by omega) (fun b h => .inl h) ((Same.below hB hF).trans (hs.sub (fun b h => .inl h))) (Nat.le_trans hB.size hz)) x⟩)) (fun R hc => zac r rfl zoo hc) rfl ?_
    rintro _ w4 ⟨v, rfl, hb, hr⟩
    refine ⟨_, rfl, fun fr r => ?_⟩
    have z4 := hb.size
    have h3 := keep hb h3
    have hB := hB.trans (hb.mono hB.size)
    refine zae (.cells v.cells 39 (0, 0)) r (fun R => zaf r hr.shape rfl rfl h3 ts39 rfl) rfl fun fr w5 u5 r => wpList_nil ?_
    have z5 := u5.size
    have h3 := u5.at_
    have hB := u5.below hB (by omega)
    refine wp_ret ?_
    have hs := hr.shape.cells
    refine zad r rfl rfl h3 (k := 8) hs.1 ta39 ?_
    rw [← hs.2.2]
    exact zny.fin hB hr u5 (by rintro b (h | h | h); exact .inl h; exact .inr ⟨by omega, by omega⟩; exact .inr ⟨by omega, by omega⟩) (by rintro (h | h | h); (have := hF _ h; omega); omega; omega) (by omega) (by omega) (by omega)
theorem zds {n : Nat} {F : Nat → Prop} {w0 : World} (hF : ∀ b, F b → b < w0.heap.size) {t : T (Int)} {pv fv : Value} {g : Int → T (Res)} (hp : Rep Tryz.prog znM n t F w0 pv) (hf : FnT Tryz.prog znx u64 (n + 1) F w0 fv g) :
    Calls Tryz.prog 242 #[pv, fv] w0 (zny Tryz.prog znx n (t.bind g) F w0) := zg3 n hF hp (hf.mono (by omega) (fun b h => h) (Same.refl _ _) (Nat.le_refl _)) (.inr hf)
end Go.Proofs.YtjkinpbfmihhdaaGreat
