/- Some of our texts, one behind the other. -/
import Derived.Test.YtfpgnmhcfkikkaaGreatAaM2
import Derived.Test.YtfpgnmhcfkikkaaGreatAaMems
set_option linter.all false
/- Ours. -/
set_option maxRecDepth 20000
set_option maxHeartbeats 2000000
namespace Go.Proofs.YtfpgnmhcfkikkaaGreat
open Go.RowKit
theorem zmr : zlp Tryz.prog 112 = true := by kernel_rfl
theorem zmD : zlp Tryz.prog 210 = true := by kernel_rfl
theorem zor : zlp Tryz.prog 211 = true := by kernel_rfl
theorem zmb : zlp Tryz.prog 226 = true := by kernel_rfl
theorem zmd : zlp Tryz.prog 229 = true := by kernel_rfl
theorem zns : zlp Tryz.prog 321 = true := by kernel_rfl
theorem zo3 : zlp Tryz.prog 325 = true := by kernel_rfl
theorem zo0 : zlp Tryz.prog 384 = true := by kernel_rfl
theorem zol : zlp Tryz.prog 386 = true := by kernel_rfl
theorem ziz : zlB Tryz.prog 195 0 0 = true := by kernel_rfl
theorem zkM : zlB Tryz.prog 195 2 1 = true := by kernel_rfl
theorem zkI : zlB Tryz.prog 195 3 5 = true := by kernel_rfl
theorem zjF : zlB Tryz.prog 336 0 0 = true := by kernel_rfl
theorem zl0 : zlB Tryz.prog 336 1 1 = true := by kernel_rfl
theorem zla : zlB Tryz.prog 336 2 2 = true := by kernel_rfl
theorem zkX : zlB Tryz.prog 336 3 6 = true := by kernel_rfl
theorem zjp : zlB Tryz.prog 45 0 0 = true := by kernel_rfl
theorem zlf : zlB Tryz.prog 45 1 1 = true := by kernel_rfl
theorem zlc : zlB Tryz.prog 45 2 4 = true := by kernel_rfl
theorem zlj : zlB Tryz.prog 45 3 8 = true := by kernel_rfl
theorem zh0 : zlB Tryz.prog 61 0 0 = true := by kernel_rfl
theorem zjv : zlB Tryz.prog 61 1 1 = true := by kernel_rfl
theorem zk8 : zlB Tryz.prog 61 2 2 = true := by kernel_rfl
theorem zjP : zlB Tryz.prog 61 3 6 = true := by kernel_rfl
theorem zon : fieldZ Tryz.prog 195 1 1 = true := by kernel_rfl
theorem zmH : tyA Tryz.prog 190 0 = true := by kernel_rfl
theorem zlO : tyA Tryz.prog 195 6 = true := by kernel_rfl
theorem zlY : tyA Tryz.prog 336 7 = true := by kernel_rfl
theorem ta37 : tyA Tryz.prog 37 3 = true := by kernel_rfl
theorem ta42 : tyA Tryz.prog 42 4 = true := by kernel_rfl
theorem ta45 : tyA Tryz.prog 45 9 = true := by kernel_rfl
theorem ta61 : tyA Tryz.prog 61 7 = true := by kernel_rfl
theorem znP : tyO Tryz.prog 193 = true := by kernel_rfl
theorem zmI : tyO Tryz.prog 200 = true := by kernel_rfl
theorem zmu : tyO Tryz.prog 291 = true := by kernel_rfl
theorem zmJ : tyO Tryz.prog 294 = true := by kernel_rfl
theorem znE : tyO Tryz.prog 334 = true := by kernel_rfl
theorem to4 : tyO Tryz.prog 4 = true := by kernel_rfl
theorem to43 : tyO Tryz.prog 43 = true := by kernel_rfl
theorem to59 : tyO Tryz.prog 59 = true := by kernel_rfl
theorem zlP : sized Tryz.prog 195 6 = true := by kernel_rfl
theorem zlW : sized Tryz.prog 336 7 = true := by kernel_rfl
theorem ts45 : sized Tryz.prog 45 9 = true := by kernel_rfl
theorem ts61 : sized Tryz.prog 61 7 = true := by kernel_rfl
theorem zlT : zeroOf Tryz.prog 195 = some (.agg (zlo false zly.zero 0 0 0 0 .nilFunc)) := by kernel_rfl
theorem zm2 : zeroOf Tryz.prog 336 = some (.agg (zlo false zlH.zero 0 0 0 0 .nilFunc)) := by kernel_rfl
theorem tz45 : zeroOf Tryz.prog 45 = some (.agg (zlo false zls.zero 0 0 0 0 .nilFunc)) := by kernel_rfl
theorem tz61 : zeroOf Tryz.prog 61 = some (.agg (zlo false zlq.zero 0 0 0 0 .nilFunc)) := by kernel_rfl
def D.zgq (a0 : Access) (a1 : (Int → T Unit)) : T Unit := (T.act a0.op a0.at_ a0.a a0.b a1)
theorem zh9 {n : Nat} {F : Nat → Prop} {w0 : World} (hF : ∀ b, F b → b < w0.heap.size)
    (a0 : Access) {a1f : FuncId} {a1_1 a1_2 : List Value} {a1 : (Int → T Unit)} (a1n : FnT Tryz.prog zly u64 (n) F w0 (.func (.func a1f) a1_1.toArray a1_2.toArray) a1) :
    Calls Tryz.prog 384 #[.agg (zlz a0).toArray, .func (.func a1f) a1_1.toArray a1_2.toArray] w0 (zlx Tryz.prog zly n (D.zgq a0 a1) F w0) := by
 refine enter Tryz.func384 rfl 8 rfl rfl fun fr r => ?_
 have hB := Below.refl w0.heap.size w0
 refine wsr ?_
 refine zaa (.cells ((zlz a0)).toArray 42 (0, 0)) r (fun R => zlC r (v := (.agg (zlz a0).toArray)) rfl) rfl fun fr b1 w2 n3 r => ?_
 obtain ⟨e_b1, z_w2, h_b1, hB, zB⟩ := n3.all hB
 refine zaa (.cells (zlo false zly.zero 0 0 0 0 .nilFunc) 195 (0, 0)) r (fun R => zar zlT) rfl fun fr b4 w5 n6 r => ?_
 have h_b1 := keep n6.below h_b1
 obtain ⟨e_b4, z_w5, h_b4, hB, zB⟩ := n6.all hB
 refine wn (wsr (za0 (.agg (zlz a0).toArray) r (fun R => za7 r (cs := (zlz a0)) (n := 4) rfl h_b1 ta42 rfl) rfl fun fr r => za0 (.func (.func a1f) a1_1.toArray a1_2.toArray) r (fun R => za5 r rfl) rfl fun fr r => za0 (.agg (zlo false zly.zero a0.op a0.at_ a0.a a0.b (.func (.func a1f) a1_1.toArray a1_2.toArray))) r (fun R => zb4 r (by kernel_rfl)) rfl fun fr r => ?_))
 refine zaf (.cells (zlo false zly.zero a0.op a0.at_ a0.a a0.b (.func (.func a1f) a1_1.toArray a1_2.toArray)) 195 (0, 0)) r (fun R => zb0 r (o := 0) (v := (.agg (zlo false zly.zero a0.op a0.at_ a0.a a0.b (.func (.func a1f) a1_1.toArray a1_2.toArray)))) rfl rfl h_b4 zlP (Nat.le_of_ble_eq_true rfl) rfl rfl) rfl fun fr w7 u8 r => ?_
 have z_w7 := u8.size
 have h_b1 := u8.keep h_b1 (by omega)
 have h_b4 := u8.at_
 obtain ⟨hB, zB⟩ := u8.on hB (by omega)
 refine wn (wp_ret ?_)
 refine zal r rfl rfl h_b4 (k := 6) rfl zlO ?_
 exact ⟨_, rfl, hB, Rep.ziY (a1n.mono (Nat.le_refl _) (fun b hb => .inl hb) (Same.below hB hF) hB.size)⟩
def D.zfo  : T Unit := (T.done ())
theorem zgv {n : Nat} {F : Nat → Prop} {w0 : World} (hF : ∀ b, F b → b < w0.heap.size)
     :
    Calls Tryz.prog 383 #[.agg #[]] w0 (zlx Tryz.prog zly n D.zfo F w0) := by
 refine enter Tryz.func383 rfl 5 rfl rfl fun fr r => ?_
 have hB := Below.refl w0.heap.size w0
 refine wsr ?_
 refine zaa (.cells #[] 190 (0, 0)) r (fun R => zlC r (v := (.agg #[])) rfl) rfl fun fr b1 w2 n3 r => ?_
 obtain ⟨e_b1, z_w2, h_b1, hB, zB⟩ := n3.all hB
 refine zaa (.cells (zlo false zly.zero 0 0 0 0 .nilFunc) 195 (0, 0)) r (fun R => zar zlT) rfl fun fr b4 w5 n6 r => ?_
 have h_b1 := keep n6.below h_b1
 obtain ⟨e_b4, z_w5, h_b4, hB, zB⟩ := n6.all hB
 refine wn (wsr (za0 (.agg #[]) r (fun R => za7 r (cs := []) (n := 0) rfl h_b1 zmH rfl) rfl fun fr r => za0 (.agg (zlo true (zly.cells ()) 0 0 0 0 .nilFunc)) r (fun R => zb4 r (by kernel_rfl)) rfl fun fr r => ?_))
 refine zaf (.cells (zlo true (zly.cells ()) 0 0 0 0 .nilFunc) 195 (0, 0)) r (fun R => zb0 r (o := 0) (v := (.agg (zlo true (zly.cells ()) 0 0 0 0 .nilFunc))) rfl rfl h_b4 zlP (Nat.le_of_ble_eq_true rfl) rfl rfl) rfl fun fr w7 u8 r => ?_
 have z_w7 := u8.size
 have h_b1 := u8.keep h_b1 (by omega)
 have h_b4 := u8.at_
 obtain ⟨hB, zB⟩ := u8.on hB (by omega)
 refine wn (wp_ret ?_)
 refine zal r rfl rfl h_b4 (k := 6) rfl zlO ?_
 exact ⟨_, rfl, hB, Rep.zhQ⟩
def D.zeI (a0 : Access) (a1 : (Int → T Int)) : T Int := (T.act a0.op a0.at_ a0.a a0.b a1)
theorem zde {n : Nat} {F : Nat → Prop} {w0 : World} (hF : ∀ b, F b → b < w0.heap.size)
    (a0 : Access) {a1f : FuncId} {a1_1 a1_2 : List Value} {a1 : (Int → T Int)} (a1n : FnT Tryz.prog zlq u64 (n) F w0 (.func (.func a1f) a1_1.toArray a1_2.toArray) a1) :
    Calls Tryz.prog 226 #[.agg (zlz a0).toArray, .func (.func a1f) a1_1.toArray a1_2.toArray] w0 (zlx Tryz.prog zlq n (D.zeI a0 a1) F w0) := by
 refine enter Tryz.func226 rfl 8 rfl rfl fun fr r => ?_
 have hB := Below.refl w0.heap.size w0
 refine wsr ?_
 refine zaa (.cells ((zlz a0)).toArray 42 (0, 0)) r (fun R => zlC r (v := (.agg (zlz a0).toArray)) rfl) rfl fun fr b1 w2 n3 r => ?_
 obtain ⟨e_b1, z_w2, h_b1, hB, zB⟩ := n3.all hB
 refine zaa (.cells (zlo false zlq.zero 0 0 0 0 .nilFunc) 61 (0, 0)) r (fun R => zar tz61) rfl fun fr b4 w5 n6 r => ?_
 have h_b1 := keep n6.below h_b1
 obtain ⟨e_b4, z_w5, h_b4, hB, zB⟩ := n6.all hB
 refine wn (wsr (za0 (.agg (zlz a0).toArray) r (fun R => za7 r (cs := (zlz a0)) (n := 4) rfl h_b1 ta42 rfl) rfl fun fr r => za0 (.func (.func a1f) a1_1.toArray a1_2.toArray) r (fun R => za5 r rfl) rfl fun fr r => za0 (.agg (zlo false zlq.zero a0.op a0.at_ a0.a a0.b (.func (.func a1f) a1_1.toArray a1_2.toArray))) r (fun R => zb4 r (by kernel_rfl)) rfl fun fr r => ?_))
 refine zaf (.cells (zlo false zlq.zero a0.op a0.at_ a0.a a0.b (.func (.func a1f) a1_1.toArray a1_2.toArray)) 61 (0, 0)) r (fun R => zb0 r (o := 0) (v := (.agg (zlo false zlq.zero a0.op a0.at_ a0.a a0.b (.func (.func a1f) a1_1.toArray a1_2.toArray)))) rfl rfl h_b4 ts61 (Nat.le_of_ble_eq_true rfl) rfl rfl) rfl fun fr w7 u8 r => ?_
 have z_w7 := u8.size
 have h_b1 := u8.keep h_b1 (by omega)
 have h_b4 := u8.at_
 obtain ⟨hB, zB⟩ := u8.on hB (by omega)
 refine wn (wp_ret ?_)
 refine zal r rfl rfl h_b4 (k := 7) rfl ta61 ?_
 exact ⟨_, rfl, hB, Rep.ziY (a1n.mono (Nat.le_refl _) (fun b hb => .inl hb) (Same.below hB hF) hB.size)⟩
def D.zaW (a0 : Int) : T Int := (T.done a0)
theorem zbs {n : Nat} {F : Nat → Prop} {w0 : World} (hF : ∀ b, F b → b < w0.heap.size)
    (a0 : Int) :
    Calls Tryz.prog 213 #[.int .i64 a0] w0 (zlx Tryz.prog zlq n (D.zaW a0) F w0) := by
 refine enter Tryz.func213 rfl 5 rfl rfl fun fr r => ?_
 have hB := Below.refl w0.heap.size w0
 refine wsr ?_
 refine zaa (.cells (zlo false zlq.zero 0 0 0 0 .nilFunc) 61 (0, 0)) r (fun R => zar tz61) rfl fun fr b1 w2 n3 r => ?_
 obtain ⟨e_b1, z_w2, h_b1, hB, zB⟩ := n3.all hB
 refine wn (wsr (za0 (I a0) r (fun R => za5 r rfl) rfl fun fr r => za0 (.agg (zlo true (zlq.cells a0) 0 0 0 0 .nilFunc)) r (fun R => zb4 r (by kernel_rfl)) rfl fun fr r => ?_))
 refine zaf (.cells (zlo true (zlq.cells a0) 0 0 0 0 .nilFunc) 61 (0, 0)) r (fun R => zb0 r (o := 0) (v := (.agg (zlo true (zlq.cells a0) 0 0 0 0 .nilFunc))) rfl rfl h_b1 ts61 (Nat.le_of_ble_eq_true rfl) rfl rfl) rfl fun fr w4 u5 r => ?_
 have z_w4 := u5.size
 have h_b1 := u5.at_
 obtain ⟨hB, zB⟩ := u5.on hB (by omega)
 refine wn (wp_ret ?_)
 refine zal r rfl rfl h_b1 (k := 7) rfl ta61 ?_
 exact ⟨_, rfl, hB, Rep.zhQ⟩
def D.zdm (a0 : Grant) : T Grant := (T.done a0)
theorem zej {n : Nat} {F : Nat → Prop} {w0 : World} (hF : ∀ b, F b → b < w0.heap.size)
    (a0 : Grant) :
    Calls Tryz.prog 110 #[.agg (zlD a0).toArray] w0 (zlx Tryz.prog zls n (D.zdm a0) F w0) := by
 refine enter Tryz.func110 rfl 5 rfl rfl fun fr r => ?_
 have hB := Below.refl w0.heap.size w0
 refine wsr ?_
 refine zaa (.cells ((zlD a0)).toArray 37 (0, 0)) r (fun R => zlC r (v := (.agg (zlD a0).toArray)) rfl) rfl fun fr b1 w2 n3 r => ?_
 obtain ⟨e_b1, z_w2, h_b1, hB, zB⟩ := n3.all hB
 refine zaa (.cells (zlo false zls.zero 0 0 0 0 .nilFunc) 45 (0, 0)) r (fun R => zar tz45) rfl fun fr b4 w5 n6 r => ?_
 have h_b1 := keep n6.below h_b1
 obtain ⟨e_b4, z_w5, h_b4, hB, zB⟩ := n6.all hB
 refine wn (wsr (za0 (.agg (zlD a0).toArray) r (fun R => za7 r (cs := (zlD a0)) (n := 3) rfl h_b1 ta37 rfl) rfl fun fr r => za0 (.agg (zlo true (zls.cells a0) 0 0 0 0 .nilFunc)) r (fun R => zb4 r (by kernel_rfl)) rfl fun fr r => ?_))
 refine zaf (.cells (zlo true (zls.cells a0) 0 0 0 0 .nilFunc) 45 (0, 0)) r (fun R => zb0 r (o := 0) (v := (.agg (zlo true (zls.cells a0) 0 0 0 0 .nilFunc))) rfl rfl h_b4 ts45 (Nat.le_of_ble_eq_true rfl) rfl rfl) rfl fun fr w7 u8 r => ?_
 have z_w7 := u8.size
 have h_b1 := u8.keep h_b1 (by omega)
 have h_b4 := u8.at_
 obtain ⟨hB, zB⟩ := u8.on hB (by omega)
 refine wn (wp_ret ?_)
 refine zal r rfl rfl h_b4 (k := 9) rfl ta45 ?_
 exact ⟨_, rfl, hB, Rep.zhQ⟩
def D.zex (a0 : Access) (a1 : (Int → T Grant)) : T Grant := (T.act a0.op a0.at_ a0.a a0.b a1)
theorem zdU {n : Nat} {F : Nat → Prop} {w0 : World} (hF : ∀ b, F b → b < w0.heap.size)
    (a0 : Access) {a1f : FuncId} {a1_1 a1_2 : List Value} {a1 : (Int → T Grant)} (a1n : FnT Tryz.prog zls u64 (n) F w0 (.func (.func a1f) a1_1.toArray a1_2.toArray) a1) :
    Calls Tryz.prog 210 #[.agg (zlz a0).toArray, .func (.func a1f) a1_1.toArray a1_2.toArray] w0 (zlx Tryz.prog zls n (D.zex a0 a1) F w0) := by
 refine enter Tryz.func210 rfl 8 rfl rfl fun fr r => ?_
 have hB := Below.refl w0.heap.size w0
 refine wsr ?_
 refine zaa (.cells ((zlz a0)).toArray 42 (0, 0)) r (fun R => zlC r (v := (.agg (zlz a0).toArray)) rfl) rfl fun fr b1 w2 n3 r => ?_
 obtain ⟨e_b1, z_w2, h_b1, hB, zB⟩ := n3.all hB
 refine zaa (.cells (zlo false zls.zero 0 0 0 0 .nilFunc) 45 (0, 0)) r (fun R => zar tz45) rfl fun fr b4 w5 n6 r => ?_
 have h_b1 := keep n6.below h_b1
 obtain ⟨e_b4, z_w5, h_b4, hB, zB⟩ := n6.all hB
 refine wn (wsr (za0 (.agg (zlz a0).toArray) r (fun R => za7 r (cs := (zlz a0)) (n := 4) rfl h_b1 ta42 rfl) rfl fun fr r => za0 (.func (.func a1f) a1_1.toArray a1_2.toArray) r (fun R => za5 r rfl) rfl fun fr r => za0 (.agg (zlo false zls.zero a0.op a0.at_ a0.a a0.b (.func (.func a1f) a1_1.toArray a1_2.toArray))) r (fun R => zb4 r (by kernel_rfl)) rfl fun fr r => ?_))
 refine zaf (.cells (zlo false zls.zero a0.op a0.at_ a0.a a0.b (.func (.func a1f) a1_1.toArray a1_2.toArray)) 45 (0, 0)) r (fun R => zb0 r (o := 0) (v := (.agg (zlo false zls.zero a0.op a0.at_ a0.a a0.b (.func (.func a1f) a1_1.toArray a1_2.toArray)))) rfl rfl h_b4 ts45 (Nat.le_of_ble_eq_true rfl) rfl rfl) rfl fun fr w7 u8 r => ?_
 have z_w7 := u8.size
 have h_b1 := u8.keep h_b1 (by omega)
 have h_b4 := u8.at_
 obtain ⟨hB, zB⟩ := u8.on hB (by omega)
 refine wn (wp_ret ?_)
 refine zal r rfl rfl h_b4 (k := 9) rfl ta45 ?_
 exact ⟨_, rfl, hB, Rep.ziY (a1n.mono (Nat.le_refl _) (fun b hb => .inl hb) (Same.below hB hF) hB.size)⟩
def D.zcY (a0 : Bool) : T Bool := (T.done a0)
theorem zeL {n : Nat} {F : Nat → Prop} {w0 : World} (hF : ∀ b, F b → b < w0.heap.size)
    (a0 : Bool) :
    Calls Tryz.prog 416 #[.bool a0] w0 (zlx Tryz.prog zlH n (D.zcY a0) F w0) := by
 refine enter Tryz.func416 rfl 5 rfl rfl fun fr r => ?_
 have hB := Below.refl w0.heap.size w0
 refine wsr ?_
 refine zaa (.cells (zlo false zlH.zero 0 0 0 0 .nilFunc) 336 (0, 0)) r (fun R => zar zm2) rfl fun fr b1 w2 n3 r => ?_
 obtain ⟨e_b1, z_w2, h_b1, hB, zB⟩ := n3.all hB
 refine wn (wsr (za0 (.bool a0) r (fun R => za5 r rfl) rfl fun fr r => za0 (.agg (zlo true (zlH.cells a0) 0 0 0 0 .nilFunc)) r (fun R => zb4 r (by kernel_rfl)) rfl fun fr r => ?_))
 refine zaf (.cells (zlo true (zlH.cells a0) 0 0 0 0 .nilFunc) 336 (0, 0)) r (fun R => zb0 r (o := 0) (v := (.agg (zlo true (zlH.cells a0) 0 0 0 0 .nilFunc))) rfl rfl h_b1 zlW (Nat.le_of_ble_eq_true rfl) rfl rfl) rfl fun fr w4 u5 r => ?_
 have z_w4 := u5.size
 have h_b1 := u5.at_
 obtain ⟨hB, zB⟩ := u5.on hB (by omega)
 refine wn (wp_ret ?_)
 refine zal r rfl rfl h_b1 (k := 7) rfl zlY ?_
 exact ⟨_, rfl, hB, Rep.zhQ⟩
def D.zgm (a0 : Access) (a1 : (Int → T Bool)) : T Bool := (T.act a0.op a0.at_ a0.a a0.b a1)
theorem zh7 {n : Nat} {F : Nat → Prop} {w0 : World} (hF : ∀ b, F b → b < w0.heap.size)
    (a0 : Access) {a1f : FuncId} {a1_1 a1_2 : List Value} {a1 : (Int → T Bool)} (a1n : FnT Tryz.prog zlH u64 (n) F w0 (.func (.func a1f) a1_1.toArray a1_2.toArray) a1) :
    Calls Tryz.prog 429 #[.agg (zlz a0).toArray, .func (.func a1f) a1_1.toArray a1_2.toArray] w0 (zlx Tryz.prog zlH n (D.zgm a0 a1) F w0) := by
 refine enter Tryz.func429 rfl 8 rfl rfl fun fr r => ?_
 have hB := Below.refl w0.heap.size w0
 refine wsr ?_
 refine zaa (.cells ((zlz a0)).toArray 42 (0, 0)) r (fun R => zlC r (v := (.agg (zlz a0).toArray)) rfl) rfl fun fr b1 w2 n3 r => ?_
 obtain ⟨e_b1, z_w2, h_b1, hB, zB⟩ := n3.all hB
 refine zaa (.cells (zlo false zlH.zero 0 0 0 0 .nilFunc) 336 (0, 0)) r (fun R => zar zm2) rfl fun fr b4 w5 n6 r => ?_
 have h_b1 := keep n6.below h_b1
 obtain ⟨e_b4, z_w5, h_b4, hB, zB⟩ := n6.all hB
 refine wn (wsr (za0 (.agg (zlz a0).toArray) r (fun R => za7 r (cs := (zlz a0)) (n := 4) rfl h_b1 ta42 rfl) rfl fun fr r => za0 (.func (.func a1f) a1_1.toArray a1_2.toArray) r (fun R => za5 r rfl) rfl fun fr r => za0 (.agg (zlo false zlH.zero a0.op a0.at_ a0.a a0.b (.func (.func a1f) a1_1.toArray a1_2.toArray))) r (fun R => zb4 r (by kernel_rfl)) rfl fun fr r => ?_))
 refine zaf (.cells (zlo false zlH.zero a0.op a0.at_ a0.a a0.b (.func (.func a1f) a1_1.toArray a1_2.toArray)) 336 (0, 0)) r (fun R => zb0 r (o := 0) (v := (.agg (zlo false zlH.zero a0.op a0.at_ a0.a a0.b (.func (.func a1f) a1_1.toArray a1_2.toArray)))) rfl rfl h_b4 zlW (Nat.le_of_ble_eq_true rfl) rfl rfl) rfl fun fr w7 u8 r => ?_
 have z_w7 := u8.size
 have h_b1 := u8.keep h_b1 (by omega)
 have h_b4 := u8.at_
 obtain ⟨hB, zB⟩ := u8.on hB (by omega)
 refine wn (wp_ret ?_)
 refine zal r rfl rfl h_b4 (k := 7) rfl zlY ?_
 exact ⟨_, rfl, hB, Rep.ziY (a1n.mono (Nat.le_refl _) (fun b hb => .inl hb) (Same.below hB hF) hB.size)⟩
def zdj (n : Nat) : Prop := ∀ {F : Nat → Prop} {w0 : World}, (∀ b, F b → b < w0.heap.size) → ∀ {t : T (Bool)} {pv fv : Value} {g : Bool → T (Int)}, Rep Tryz.prog zlH n t F w0 pv → FnT Tryz.prog zlq zlr n F w0 fv g →
    (t.zlF = false ∨ FnT Tryz.prog zlq zlr (n + 1) F w0 fv g) → Calls Tryz.prog 321 #[pv, fv] w0 (zlx Tryz.prog zlq n (t.bind g) F w0)
theorem zfi {n : Nat} (ih : zdj n) {F : Nat → Prop} {w0 : World} (hF : ∀ b, F b → b < w0.heap.size) {op at_ a b : Int} {nf : FuncId} {n1 n2 : List Value} {k : Int → T (Bool)} {ff : FuncId} {f1 f2 : List Value} {g : Bool → T (Int)}
    {b1 b2 : Nat} (F1 : F b1) (h1 : w0.heap[b1]? = some (.cells (zlo false zlH.zero op at_ a b (.func (.func nf) n1.toArray n2.toArray)) 336 (0, 0))) (F2 : F b2) (h2 : w0.heap[b2]? = some (.cells #[.func (.func ff) f1.toArray f2.toArray] 294 (0, 0)))
    (hk : FnT Tryz.prog zlH u64 (n + 1) F w0 (.func (.func nf) n1.toArray n2.toArray) k) (hg : FnT Tryz.prog zlq zlr (n + 1) F w0 (.func (.func ff) f1.toArray f2.toArray) g) (x : Int) :
    Calls Tryz.prog 386 #[.int .u64 x, zp b1, zp b2] w0 (zlx Tryz.prog zlq n ((k x).bind g) F w0) := by
 refine enter Tryz.func386 rfl 11 rfl rfl fun fr r => ?_
 have hB := Below.refl w0.heap.size w0
 refine wp_seq (wp_region_lit ?_)
 refine zaa (.cells (zlo false zlq.zero 0 0 0 0 .nilFunc) 61 (0, 0)) r (fun R => zar tz61) rfl fun fr b3 w1 q1 r => wn ?_
 have h1 := keep q1.below h1
 have h2 := keep q1.below h2
 have e3 := q1.eq
 have z1 := q1.size
 have h3 := q1.at_
 have hB := hB.trans (q1.below.mono hB.size)
 have zB := hB.size
 refine wp_seq ?_
 refine zb5 5 [.val (.pointer (some ⟨b1, 6, none⟩)), .val (.func (.func nf) n1.toArray n2.toArray), .val (U x), .pred (RepAt Tryz.prog zlH n (k x) F w0.heap.size b3) RepAt.stable, .val (.func (.func ff) f1.toArray f2.toArray)] mixed r (by kernel_rfl) (za3 trivial (za3 trivial (za3 trivial (za3 trivial (za3 trivial zaV))))) ?_ ?_
 ·
  refine ec r (fun _ u _ b d s => za4 s (b := b1) (o := 0) rfl zkX bz) ?_
  refine zc6 r rfl (fun fr1 u w' hb' hd r' => ?_) ?_
  ·
   obtain ⟨d0, _⟩ := hd
   exact za2 r' (v := .func (.func nf) n1.toArray n2.toArray) d0 (keep hb' h1) znE rfl ⟨Below.refl _ _, rfl⟩
  refine ec r (fun _ u _ b d s => za5 s rfl bz) ?_
  refine zc6 r rfl (fun fr1 u w' hb' hd r' => ?_) ?_
  ·
   obtain ⟨d0, d1, _⟩ := hd
   have zb := hb'.size
   have zb : w1.heap.size ≤ w'.heap.size := zb
   have hB' : Below w0.heap.size w0 w' := hB.trans (Below.mono (w := w1) ⟨hb'.os, hb'.tape, hb'.output, hb'.size, hb'.block⟩ hB.size)
   have d0 : u 1 = .func (.func nf) n1.toArray n2.toArray := d0
   have d1 : u 2 = .int .u64 x := d1
   refine zew r' (fs := n1) (cs := n2) d0 d1 hk.at_.1 ((hk.at_.2 n (Nat.lt_succ_self n) x w' (Same.below hB' hF) hB'.size).mono ?_)
   rintro _ w2 ⟨v, rfl, hb2, hr2⟩
   refine ⟨v, rfl, hb2, RepAt.zjV (fun b h => Nat.lt_of_lt_of_le (hF b h) hB'.size) (by omega) hB'.size hb2 (Rep.mono ?_ (Same.refl _ _) (Nat.le_refl _) n _ _ hr2)⟩
   rintro b (h | h)
   · exact .inl (.inl h)
   · exact .inr h
  refine ec r (fun _ u _ b d s => za2 s rfl (keep b h2) zmJ rfl bz) ?_
  exact zbc
 intro fr u w2 hb hΦ _ r
 obtain ⟨_, hr3, _, hr⟩ : RepAt Tryz.prog zlH n (k x) F w0.heap.size b3 (u 3) w2 := hΦ 3 (by decide)
 have r := r.congr (sc (hΦ 4 (by decide)) rfl)
 have z2 := hb.size
 have h1 := keep hb h1
 have h2 := keep hb h2
 have h3 := keep hb h3
 have hB2 := hB.trans (hb.mono hB.size)
 have zB2 := hB2.size
 have hF1 : ∀ b, (fun b => F b ∨ (w0.heap.size ≤ b ∧ b < w2.heap.size ∧ b ≠ b3)) b → b < w2.heap.size := by rintro b (h | h); exact Nat.lt_of_lt_of_le (hF b h) hB2.size; exact h.2.1
 refine za9 r (ih (F := fun b => F b ∨ (w0.heap.size ≤ b ∧ b < w2.heap.size ∧ b ≠ b3)) hF1 hr (hg.mono (by omega) (fun b h => .inl h) (Same.below hB2 hF) hB2.size)
  (.inr (hg.mono (Nat.le_refl _) (fun b h => .inl h) (Same.below hB2 hF) hB2.size))) (fun R hc => zac r rfl zns hc) rfl ?_
 rintro _ w3 ⟨v2, rfl, hb2, hr2⟩
 refine ⟨_, rfl, fun fr r => ?_⟩
 have z3 := hb2.size
 have h3 := keep hb2 h3
 have hB3 := hB2.trans (hb2.mono hB2.size)
 refine zaf (.cells v2.cells 61 (0, 0)) r (fun R => zaq r hr2.shape rfl rfl h3 ts61 rfl) rfl fun fr w4 u4 r => wn ?_
 have z4 := u4.size
 have h3 := u4.at_
 have hB4 := u4.below hB3 (by omega)
 refine wp_ret ?_
 have hs := hr2.shape.cells
 refine zal r rfl rfl h3 (k := 7) hs.1 ta61 ?_
 rw [← hs.2.2]
 exact zlx.fin hB4 hr2 u4 (by rintro b (h | ⟨h1, h2, _⟩); exact .inl h; exact .inr ⟨h1, h2⟩) (by rintro (h | ⟨_, _, h⟩); (have := hF _ h; omega); exact h rfl) (by omega) (by omega) (by omega)
theorem zfg (n : Nat) : zdj n := by
  induction n using Nat.strongRecOn with
  | _ n ih =>
  intro F w0 hF t pv fv g hp hf hd
  obtain ⟨ff, f1, f2, hcf, rfl, hff⟩ := id hf
  cases t with
  | cut => unfold Rep at hp; exact hp.elim
  | done x0 =>
    have hf := hd.resolve_left (by intro h; cases h)
    unfold Rep at hp
    subst hp
    refine enter (l := [.agg (zlo true (zlH.cells x0) 0 0 0 0 .nilFunc), .func (.func ff) f1.toArray f2.toArray]) Tryz.func321 rfl 15 rfl rfl fun fr r => ?_
    have hB := Below.refl w0.heap.size w0
    refine wp_seq (wp_region_lit ?_)
    refine zaa (.cells (zlo true (zlH.cells x0) 0 0 0 0 .nilFunc) 336 (0, 0)) r (fun R => zlC r (v := .agg (zlo true (zlH.cells x0) 0 0 0 0 .nilFunc)) rfl) rfl fun fr b1 w1 q1 r => ?_
    refine zaa (.cells #[.func (.func ff) f1.toArray f2.toArray] 294 (0, 0)) r (fun R => zlC r (v := .func (.func ff) f1.toArray f2.toArray) rfl) rfl fun fr b2 w2 q2 r => ?_
    refine zaa (.cells (zlo false zlq.zero 0 0 0 0 .nilFunc) 61 (0, 0)) r (fun R => zar tz61) rfl fun fr b3 w3 q3 r => wpList_nil ?_
    have h1 := keep q3.below (keep q2.below q1.at_)
    have h2 := keep q3.below q2.at_
    have h3 := q3.at_
    have e1 := q1.eq; have e2 := q2.eq; have e3 := q3.eq; have z1 := q1.size; have z2 := q2.size; have z3 := q3.size
    have hB := ((hB.trans q1.below).trans (q2.below.mono (by omega))).trans (q3.below.mono (by omega))
    have zB := hB.size
    refine wp_seq (wp_seq (wp_region_lit (za0 (zp b1) r (fun R => za4 r (o := 0) rfl zjF) rfl fun fr r => ?_)))
    refine za0 (.bool true) r (fun R => za2 r (v := .bool true) rfl h1 to4 rfl) rfl fun fr r => wpList_nil ?_
    refine wp_cond_split (t := true) (r.ev rfl) (fun _ => ?_) (fun h => by cases h)
    refine wp_seq (wp_region_lit (za0 (.func (.func ff) f1.toArray f2.toArray) r (fun R => za2 r (v := .func (.func ff) f1.toArray f2.toArray) rfl h2 zmJ rfl) rfl fun fr r => za0 (.pointer (some ⟨b1, 1, none⟩)) r (fun R => za4 r (o := 0) rfl zl0) rfl fun fr r => za0 (.bool x0) r (fun R => za2 r (v := (.bool x0)) rfl h1 to4 rfl) rfl fun fr r => ?_))
    refine za9 r (hf.at_.2 n (Nat.lt_succ_self n) x0 w3 (Same.below hB hF) hB.size) (fun R hc => zgS r rfl rfl hf.at_.1 hc) rfl ?_
    rintro _ w4 ⟨v, rfl, hb, hr⟩
    refine ⟨_, rfl, fun fr r => ?_⟩
    have z4 := hb.size
    have h3 := keep hb h3
    have hB := hB.trans (hb.mono hB.size)
    refine zaf (.cells v.cells 61 (0, 0)) r (fun R => zaq r hr.shape rfl rfl h3 ts61 rfl) rfl fun fr w5 u5 r => wpList_nil ?_
    have z5 := u5.size
    have h3 := u5.at_
    have hB := u5.below hB (by omega)
    refine wp_ret ?_
    have hs := hr.shape.cells
    refine zal r rfl rfl h3 (k := 7) hs.1 ta61 ?_
    rw [← hs.2.2]
    exact zlx.fin hB hr u5 (fun b hb => .inl hb) (fun h => by have := hF _ h; omega) (by omega) (by omega) (by omega)
  | act op at_ a b k =>
    obtain ⟨nf, n1, n2, hcn, rfl, hk⟩ : ∃ (nf : FuncId) (n1 n2 : List Value), zlp Tryz.prog nf = true ∧ pv = .agg (zlo false zlH.zero op at_ a b (.func (.func nf) n1.toArray n2.toArray)) ∧ FnT Tryz.prog zlH u64 n F w0 (.func (.func nf) n1.toArray n2.toArray) k := by
      exact Rep.zfz hp
    refine enter (l := [.agg (zlo false zlH.zero op at_ a b (.func (.func nf) n1.toArray n2.toArray)), .func (.func ff) f1.toArray f2.toArray]) Tryz.func321 rfl 15 rfl rfl fun fr r => ?_
    have hB := Below.refl w0.heap.size w0
    refine wp_seq (wp_region_lit ?_)
    refine zaa (.cells (zlo false zlH.zero op at_ a b (.func (.func nf) n1.toArray n2.toArray)) 336 (0, 0)) r (fun R => zlC r (v := .agg (zlo false zlH.zero op at_ a b (.func (.func nf) n1.toArray n2.toArray))) rfl) rfl fun fr b1 w1 q1 r => ?_
    refine zaa (.cells #[.func (.func ff) f1.toArray f2.toArray] 294 (0, 0)) r (fun R => zlC r (v := .func (.func ff) f1.toArray f2.toArray) rfl) rfl fun fr b2 w2 q2 r => ?_
    refine zaa (.cells (zlo false zlq.zero 0 0 0 0 .nilFunc) 61 (0, 0)) r (fun R => zar tz61) rfl fun fr b3 w3 q3 r => wpList_nil ?_
    have h1 := keep q3.below (keep q2.below q1.at_)
    have h2 := keep q3.below q2.at_
    have h3 := q3.at_
    have e1 := q1.eq; have e2 := q2.eq; have e3 := q3.eq; have z1 := q1.size; have z2 := q2.size; have z3 := q3.size
    have hB := ((hB.trans q1.below).trans (q2.below.mono (by omega))).trans (q3.below.mono (by omega))
    have zB := hB.size
    refine wp_seq (wp_seq (wp_region_lit (za0 (zp b1) r (fun R => za4 r (o := 0) rfl zjF) rfl fun fr r => ?_)))
    refine za0 (.bool false) r (fun R => za2 r (v := .bool false) rfl h1 to4 rfl) rfl fun fr r => wpList_nil ?_
    refine wp_cond_split (t := false) (r.ev rfl) (fun h => by cases h) (fun _ => wp_skip ?_)
    refine wp_seq (wp_region_lit (za0 (.pointer (some ⟨b1, 2, none⟩)) r (fun R => za4 r (o := 0) rfl zla) rfl fun fr r => za0 (.agg (zlz (⟨op, at_, a, b⟩ : Access)).toArray) r (fun R => za7 r (cs := (zlz (⟨op, at_, a, b⟩ : Access))) (n := 4) rfl h1 ta42 rfl) rfl fun fr r => za0 (.func (.func 386) #[] #[zp b1, zp b2]) r (fun R => zaL r rfl) rfl fun fr r => ?_))
    have hF1 : ∀ b, (fun b => F b ∨ b = b1 ∨ b = b2) b → b < w3.heap.size := by rintro b (h | h | h); exact Nat.lt_of_lt_of_le (hF b h) hB.size; omega; omega
    refine za9 r (zde (F := fun b => F b ∨ b = b1 ∨ b = b2) (n := n) hF1 ⟨op, at_, a, b⟩ (a1 := fun x => (k x).bind g) (show FnT Tryz.prog zlq u64 n (fun b => F b ∨ b = b1 ∨ b = b2) w3 (.func (.func 386) ([] : List Value).toArray [zp b1, zp b2].toArray) (fun x => (k x).bind g) from
      ⟨386, [], [zp b1, zp b2], zol, rfl, fun m hm x w' hs hz => zfi (ih m hm) (fun b hb => Nat.lt_of_lt_of_le (hF1 b hb) hz) (.inr (.inl rfl)) (hs.at_ (.inr (.inl rfl)) h1) (.inr (.inr rfl)) (hs.at_ (.inr (.inr rfl)) h2)
        (hk.mono (by omega) (fun b h => .inl h) ((Same.below hB hF).trans (hs.sub (fun b h => .inl h))) (Nat.le_trans hB.size hz)) (hf.mono (by omega) (fun b h => .inl h) ((Same.below hB hF).trans (hs.sub (fun b h => .inl h))) (Nat.le_trans hB.size hz)) x⟩)) (fun R hc => zac r rfl zmb hc) rfl ?_
    rintro _ w4 ⟨v, rfl, hb, hr⟩
    refine ⟨_, rfl, fun fr r => ?_⟩
    have z4 := hb.size
    have h3 := keep hb h3
    have hB := hB.trans (hb.mono hB.size)
    refine zaf (.cells v.cells 61 (0, 0)) r (fun R => zaq r hr.shape rfl rfl h3 ts61 rfl) rfl fun fr w5 u5 r => wpList_nil ?_
    have z5 := u5.size
    have h3 := u5.at_
    have hB := u5.below hB (by omega)
    refine wp_ret ?_
    have hs := hr.shape.cells
    refine zal r rfl rfl h3 (k := 7) hs.1 ta61 ?_
    rw [← hs.2.2]
    exact zlx.fin hB hr u5 (by rintro b (h | h | h); exact .inl h; exact .inr ⟨by omega, by omega⟩; exact .inr ⟨by omega, by omega⟩) (by rintro (h | h | h); (have := hF _ h; omega); omega; omega) (by omega) (by omega) (by omega)
theorem zeA {n : Nat} {F : Nat → Prop} {w0 : World} (hF : ∀ b, F b → b < w0.heap.size) {t : T (Bool)} {pv fv : Value} {g : Bool → T (Int)} (hp : Rep Tryz.prog zlH n t F w0 pv) (hf : FnT Tryz.prog zlq zlr (n + 1) F w0 fv g) :
    Calls Tryz.prog 321 #[pv, fv] w0 (zlx Tryz.prog zlq n (t.bind g) F w0) := zfg n hF hp (hf.mono (by omega) (fun b h => h) (Same.refl _ _) (Nat.le_refl _)) (.inr hf)
def zd9 (n : Nat) : Prop := ∀ {F : Nat → Prop} {w0 : World}, (∀ b, F b → b < w0.heap.size) → ∀ {t : T (Int)} {pv fv : Value} {g : Int → T (Grant)}, Rep Tryz.prog zlq n t F w0 pv → FnT Tryz.prog zls i64 n F w0 fv g →
    (t.zlF = false ∨ FnT Tryz.prog zls i64 (n + 1) F w0 fv g) → Calls Tryz.prog 112 #[pv, fv] w0 (zlx Tryz.prog zls n (t.bind g) F w0)
theorem zeX {n : Nat} (ih : zd9 n) {F : Nat → Prop} {w0 : World} (hF : ∀ b, F b → b < w0.heap.size) {op at_ a b : Int} {nf : FuncId} {n1 n2 : List Value} {k : Int → T (Int)} {ff : FuncId} {f1 f2 : List Value} {g : Int → T (Grant)}
    {b1 b2 : Nat} (F1 : F b1) (h1 : w0.heap[b1]? = some (.cells (zlo false zlq.zero op at_ a b (.func (.func nf) n1.toArray n2.toArray)) 61 (0, 0))) (F2 : F b2) (h2 : w0.heap[b2]? = some (.cells #[.func (.func ff) f1.toArray f2.toArray] 200 (0, 0)))
    (hk : FnT Tryz.prog zlq u64 (n + 1) F w0 (.func (.func nf) n1.toArray n2.toArray) k) (hg : FnT Tryz.prog zls i64 (n + 1) F w0 (.func (.func ff) f1.toArray f2.toArray) g) (x : Int) :
    Calls Tryz.prog 211 #[.int .u64 x, zp b1, zp b2] w0 (zlx Tryz.prog zls n ((k x).bind g) F w0) := by
 refine enter Tryz.func211 rfl 11 rfl rfl fun fr r => ?_
 have hB := Below.refl w0.heap.size w0
 refine wp_seq (wp_region_lit ?_)
 refine zaa (.cells (zlo false zls.zero 0 0 0 0 .nilFunc) 45 (0, 0)) r (fun R => zar tz45) rfl fun fr b3 w1 q1 r => wn ?_
 have h1 := keep q1.below h1
 have h2 := keep q1.below h2
 have e3 := q1.eq
 have z1 := q1.size
 have h3 := q1.at_
 have hB := hB.trans (q1.below.mono hB.size)
 have zB := hB.size
 refine wp_seq ?_
 refine zb5 5 [.val (.pointer (some ⟨b1, 6, none⟩)), .val (.func (.func nf) n1.toArray n2.toArray), .val (U x), .pred (RepAt Tryz.prog zlq n (k x) F w0.heap.size b3) RepAt.stable, .val (.func (.func ff) f1.toArray f2.toArray)] mixed r (by kernel_rfl) (za3 trivial (za3 trivial (za3 trivial (za3 trivial (za3 trivial zaV))))) ?_ ?_
 ·
  refine ec r (fun _ u _ b d s => za4 s (b := b1) (o := 0) rfl zjP bz) ?_
  refine zc6 r rfl (fun fr1 u w' hb' hd r' => ?_) ?_
  ·
   obtain ⟨d0, _⟩ := hd
   exact za2 r' (v := .func (.func nf) n1.toArray n2.toArray) d0 (keep hb' h1) to59 rfl ⟨Below.refl _ _, rfl⟩
  refine ec r (fun _ u _ b d s => za5 s rfl bz) ?_
  refine zc6 r rfl (fun fr1 u w' hb' hd r' => ?_) ?_
  ·
   obtain ⟨d0, d1, _⟩ := hd
   have zb := hb'.size
   have zb : w1.heap.size ≤ w'.heap.size := zb
   have hB' : Below w0.heap.size w0 w' := hB.trans (Below.mono (w := w1) ⟨hb'.os, hb'.tape, hb'.output, hb'.size, hb'.block⟩ hB.size)
   have d0 : u 1 = .func (.func nf) n1.toArray n2.toArray := d0
   have d1 : u 2 = .int .u64 x := d1
   refine zew r' (fs := n1) (cs := n2) d0 d1 hk.at_.1 ((hk.at_.2 n (Nat.lt_succ_self n) x w' (Same.below hB' hF) hB'.size).mono ?_)
   rintro _ w2 ⟨v, rfl, hb2, hr2⟩
   refine ⟨v, rfl, hb2, RepAt.zjV (fun b h => Nat.lt_of_lt_of_le (hF b h) hB'.size) (by omega) hB'.size hb2 (Rep.mono ?_ (Same.refl _ _) (Nat.le_refl _) n _ _ hr2)⟩
   rintro b (h | h)
   · exact .inl (.inl h)
   · exact .inr h
  refine ec r (fun _ u _ b d s => za2 s rfl (keep b h2) zmI rfl bz) ?_
  exact zbc
 intro fr u w2 hb hΦ _ r
 obtain ⟨_, hr3, _, hr⟩ : RepAt Tryz.prog zlq n (k x) F w0.heap.size b3 (u 3) w2 := hΦ 3 (by decide)
 have r := r.congr (sc (hΦ 4 (by decide)) rfl)
 have z2 := hb.size
 have h1 := keep hb h1
 have h2 := keep hb h2
 have h3 := keep hb h3
 have hB2 := hB.trans (hb.mono hB.size)
 have zB2 := hB2.size
 have hF1 : ∀ b, (fun b => F b ∨ (w0.heap.size ≤ b ∧ b < w2.heap.size ∧ b ≠ b3)) b → b < w2.heap.size := by rintro b (h | h); exact Nat.lt_of_lt_of_le (hF b h) hB2.size; exact h.2.1
 refine za9 r (ih (F := fun b => F b ∨ (w0.heap.size ≤ b ∧ b < w2.heap.size ∧ b ≠ b3)) hF1 hr (hg.mono (by omega) (fun b h => .inl h) (Same.below hB2 hF) hB2.size)
  (.inr (hg.mono (Nat.le_refl _) (fun b h => .inl h) (Same.below hB2 hF) hB2.size))) (fun R hc => zac r rfl zmr hc) rfl ?_
 rintro _ w3 ⟨v2, rfl, hb2, hr2⟩
 refine ⟨_, rfl, fun fr r => ?_⟩
 have z3 := hb2.size
 have h3 := keep hb2 h3
 have hB3 := hB2.trans (hb2.mono hB2.size)
 refine zaf (.cells v2.cells 45 (0, 0)) r (fun R => zaq r hr2.shape rfl rfl h3 ts45 rfl) rfl fun fr w4 u4 r => wn ?_
 have z4 := u4.size
 have h3 := u4.at_
 have hB4 := u4.below hB3 (by omega)
 refine wp_ret ?_
 have hs := hr2.shape.cells
 refine zal r rfl rfl h3 (k := 9) hs.1 ta45 ?_
 rw [← hs.2.2]
 exact zlx.fin hB4 hr2 u4 (by rintro b (h | ⟨h1, h2, _⟩); exact .inl h; exact .inr ⟨h1, h2⟩) (by rintro (h | ⟨_, _, h⟩); (have := hF _ h; omega); exact h rfl) (by omega) (by omega) (by omega)
theorem zeR (n : Nat) : zd9 n := by
  induction n using Nat.strongRecOn with
  | _ n ih =>
  intro F w0 hF t pv fv g hp hf hd
  obtain ⟨ff, f1, f2, hcf, rfl, hff⟩ := id hf
  cases t with
  | cut => unfold Rep at hp; exact hp.elim
  | done x0 =>
    have hf := hd.resolve_left (by intro h; cases h)
    unfold Rep at hp
    subst hp
    refine enter (l := [.agg (zlo true (zlq.cells x0) 0 0 0 0 .nilFunc), .func (.func ff) f1.toArray f2.toArray]) Tryz.func112 rfl 15 rfl rfl fun fr r => ?_
    have hB := Below.refl w0.heap.size w0
    refine wp_seq (wp_region_lit ?_)
    refine zaa (.cells (zlo true (zlq.cells x0) 0 0 0 0 .nilFunc) 61 (0, 0)) r (fun R => zlC r (v := .agg (zlo true (zlq.cells x0) 0 0 0 0 .nilFunc)) rfl) rfl fun fr b1 w1 q1 r => ?_
    refine zaa (.cells #[.func (.func ff) f1.toArray f2.toArray] 200 (0, 0)) r (fun R => zlC r (v := .func (.func ff) f1.toArray f2.toArray) rfl) rfl fun fr b2 w2 q2 r => ?_
    refine zaa (.cells (zlo false zls.zero 0 0 0 0 .nilFunc) 45 (0, 0)) r (fun R => zar tz45) rfl fun fr b3 w3 q3 r => wpList_nil ?_
    have h1 := keep q3.below (keep q2.below q1.at_)
    have h2 := keep q3.below q2.at_
    have h3 := q3.at_
    have e1 := q1.eq; have e2 := q2.eq; have e3 := q3.eq; have z1 := q1.size; have z2 := q2.size; have z3 := q3.size
    have hB := ((hB.trans q1.below).trans (q2.below.mono (by omega))).trans (q3.below.mono (by omega))
    have zB := hB.size
    refine wp_seq (wp_seq (wp_region_lit (za0 (zp b1) r (fun R => za4 r (o := 0) rfl zh0) rfl fun fr r => ?_)))
    refine za0 (.bool true) r (fun R => za2 r (v := .bool true) rfl h1 to4 rfl) rfl fun fr r => wpList_nil ?_
    refine wp_cond_split (t := true) (r.ev rfl) (fun _ => ?_) (fun h => by cases h)
    refine wp_seq (wp_region_lit (za0 (.func (.func ff) f1.toArray f2.toArray) r (fun R => za2 r (v := .func (.func ff) f1.toArray f2.toArray) rfl h2 zmI rfl) rfl fun fr r => za0 (.pointer (some ⟨b1, 1, none⟩)) r (fun R => za4 r (o := 0) rfl zjv) rfl fun fr r => za0 (.int .i64 x0) r (fun R => za2 r (v := (.int .i64 x0)) rfl h1 to3 rfl) rfl fun fr r => ?_))
    refine za9 r (hf.at_.2 n (Nat.lt_succ_self n) x0 w3 (Same.below hB hF) hB.size) (fun R hc => zgS r rfl rfl hf.at_.1 hc) rfl ?_
    rintro _ w4 ⟨v, rfl, hb, hr⟩
    refine ⟨_, rfl, fun fr r => ?_⟩
    have z4 := hb.size
    have h3 := keep hb h3
    have hB := hB.trans (hb.mono hB.size)
    refine zaf (.cells v.cells 45 (0, 0)) r (fun R => zaq r hr.shape rfl rfl h3 ts45 rfl) rfl fun fr w5 u5 r => wpList_nil ?_
    have z5 := u5.size
    have h3 := u5.at_
    have hB := u5.below hB (by omega)
    refine wp_ret ?_
    have hs := hr.shape.cells
    refine zal r rfl rfl h3 (k := 9) hs.1 ta45 ?_
    rw [← hs.2.2]
    exact zlx.fin hB hr u5 (fun b hb => .inl hb) (fun h => by have := hF _ h; omega) (by omega) (by omega) (by omega)
  | act op at_ a b k =>
    obtain ⟨nf, n1, n2, hcn, rfl, hk⟩ : ∃ (nf : FuncId) (n1 n2 : List Value), zlp Tryz.prog nf = true ∧ pv = .agg (zlo false zlq.zero op at_ a b (.func (.func nf) n1.toArray n2.toArray)) ∧ FnT Tryz.prog zlq u64 n F w0 (.func (.func nf) n1.toArray n2.toArray) k := by
      exact Rep.zfz hp
    refine enter (l := [.agg (zlo false zlq.zero op at_ a b (.func (.func nf) n1.toArray n2.toArray)), .func (.func ff) f1.toArray f2.toArray]) Tryz.func112 rfl 15 rfl rfl fun fr r => ?_
    have hB := Below.refl w0.heap.size w0
    refine wp_seq (wp_region_lit ?_)
    refine zaa (.cells (zlo false zlq.zero op at_ a b (.func (.func nf) n1.toArray n2.toArray)) 61 (0, 0)) r (fun R => zlC r (v := .agg (zlo false zlq.zero op at_ a b (.func (.func nf) n1.toArray n2.toArray))) rfl) rfl fun fr b1 w1 q1 r => ?_
    refine zaa (.cells #[.func (.func ff) f1.toArray f2.toArray] 200 (0, 0)) r (fun R => zlC r (v := .func (.func ff) f1.toArray f2.toArray) rfl) rfl fun fr b2 w2 q2 r => ?_
    refine zaa (.cells (zlo false zls.zero 0 0 0 0 .nilFunc) 45 (0, 0)) r (fun R => zar tz45) rfl fun fr b3 w3 q3 r => wpList_nil ?_
    have h1 := keep q3.below (keep q2.below q1.at_)
    have h2 := keep q3.below q2.at_
    have h3 := q3.at_
    have e1 := q1.eq; have e2 := q2.eq; have e3 := q3.eq; have z1 := q1.size; have z2 := q2.size; have z3 := q3.size
    have hB := ((hB.trans q1.below).trans (q2.below.mono (by omega))).trans (q3.below.mono (by omega))
    have zB := hB.size
    refine wp_seq (wp_seq (wp_region_lit (za0 (zp b1) r (fun R => za4 r (o := 0) rfl zh0) rfl fun fr r => ?_)))
    refine za0 (.bool false) r (fun R => za2 r (v := .bool false) rfl h1 to4 rfl) rfl fun fr r => wpList_nil ?_
    refine wp_cond_split (t := false) (r.ev rfl) (fun h => by cases h) (fun _ => wp_skip ?_)
    refine wp_seq (wp_region_lit (za0 (.pointer (some ⟨b1, 2, none⟩)) r (fun R => za4 r (o := 0) rfl zk8) rfl fun fr r => za0 (.agg (zlz (⟨op, at_, a, b⟩ : Access)).toArray) r (fun R => za7 r (cs := (zlz (⟨op, at_, a, b⟩ : Access))) (n := 4) rfl h1 ta42 rfl) rfl fun fr r => za0 (.func (.func 211) #[] #[zp b1, zp b2]) r (fun R => zaL r rfl) rfl fun fr r => ?_))
    have hF1 : ∀ b, (fun b => F b ∨ b = b1 ∨ b = b2) b → b < w3.heap.size := by rintro b (h | h | h); exact Nat.lt_of_lt_of_le (hF b h) hB.size; omega; omega
    refine za9 r (zdU (F := fun b => F b ∨ b = b1 ∨ b = b2) (n := n) hF1 ⟨op, at_, a, b⟩ (a1 := fun x => (k x).bind g) (show FnT Tryz.prog zls u64 n (fun b => F b ∨ b = b1 ∨ b = b2) w3 (.func (.func 211) ([] : List Value).toArray [zp b1, zp b2].toArray) (fun x => (k x).bind g) from
      ⟨211, [], [zp b1, zp b2], zor, rfl, fun m hm x w' hs hz => zeX (ih m hm) (fun b hb => Nat.lt_of_lt_of_le (hF1 b hb) hz) (.inr (.inl rfl)) (hs.at_ (.inr (.inl rfl)) h1) (.inr (.inr rfl)) (hs.at_ (.inr (.inr rfl)) h2)
        (hk.mono (by omega) (fun b h => .inl h) ((Same.below hB hF).trans (hs.sub (fun b h => .inl h))) (Nat.le_trans hB.size hz)) (hf.mono (by omega) (fun b h => .inl h) ((Same.below hB hF).trans (hs.sub (fun b h => .inl h))) (Nat.le_trans hB.size hz)) x⟩)) (fun R hc => zac r rfl zmD hc) rfl ?_
    rintro _ w4 ⟨v, rfl, hb, hr⟩
    refine ⟨_, rfl, fun fr r => ?_⟩
    have z4 := hb.size
    have h3 := keep hb h3
    have hB := hB.trans (hb.mono hB.size)
    refine zaf (.cells v.cells 45 (0, 0)) r (fun R => zaq r hr.shape rfl rfl h3 ts45 rfl) rfl fun fr w5 u5 r => wpList_nil ?_
    have z5 := u5.size
    have h3 := u5.at_
    have hB := u5.below hB (by omega)
    refine wp_ret ?_
    have hs := hr.shape.cells
    refine zal r rfl rfl h3 (k := 9) hs.1 ta45 ?_
    rw [← hs.2.2]
    exact zlx.fin hB hr u5 (by rintro b (h | h | h); exact .inl h; exact .inr ⟨by omega, by omega⟩; exact .inr ⟨by omega, by omega⟩) (by rintro (h | h | h); (have := hF _ h; omega); omega; omega) (by omega) (by omega) (by omega)
theorem zcn {n : Nat} {F : Nat → Prop} {w0 : World} (hF : ∀ b, F b → b < w0.heap.size) {t : T (Int)} {pv fv : Value} {g : Int → T (Grant)} (hp : Rep Tryz.prog zlq n t F w0 pv) (hf : FnT Tryz.prog zls i64 (n + 1) F w0 fv g) :
    Calls Tryz.prog 112 #[pv, fv] w0 (zlx Tryz.prog zls n (t.bind g) F w0) := zeR n hF hp (hf.mono (by omega) (fun b h => h) (Same.refl _ _) (Nat.le_refl _)) (.inr hf)
def zdq (n : Nat) : Prop := ∀ {F : Nat → Prop} {w0 : World}, (∀ b, F b → b < w0.heap.size) → ∀ {t : T (Int)} {pv fv : Value} {g : Int → T (Int)}, Rep Tryz.prog zlq n t F w0 pv → FnT Tryz.prog zlq i64 n F w0 fv g →
    (t.zlF = false ∨ FnT Tryz.prog zlq i64 (n + 1) F w0 fv g) → Calls Tryz.prog 229 #[pv, fv] w0 (zlx Tryz.prog zlq n (t.bind g) F w0)
theorem zfr {n : Nat} (ih : zdq n) {F : Nat → Prop} {w0 : World} (hF : ∀ b, F b → b < w0.heap.size) {op at_ a b : Int} {nf : FuncId} {n1 n2 : List Value} {k : Int → T (Int)} {ff : FuncId} {f1 f2 : List Value} {g : Int → T (Int)}
    {b1 b2 : Nat} (F1 : F b1) (h1 : w0.heap[b1]? = some (.cells (zlo false zlq.zero op at_ a b (.func (.func nf) n1.toArray n2.toArray)) 61 (0, 0))) (F2 : F b2) (h2 : w0.heap[b2]? = some (.cells #[.func (.func ff) f1.toArray f2.toArray] 291 (0, 0)))
    (hk : FnT Tryz.prog zlq u64 (n + 1) F w0 (.func (.func nf) n1.toArray n2.toArray) k) (hg : FnT Tryz.prog zlq i64 (n + 1) F w0 (.func (.func ff) f1.toArray f2.toArray) g) (x : Int) :
    Calls Tryz.prog 325 #[.int .u64 x, zp b1, zp b2] w0 (zlx Tryz.prog zlq n ((k x).bind g) F w0) := by
 refine enter Tryz.func325 rfl 11 rfl rfl fun fr r => ?_
 have hB := Below.refl w0.heap.size w0
 refine wp_seq (wp_region_lit ?_)
 refine zaa (.cells (zlo false zlq.zero 0 0 0 0 .nilFunc) 61 (0, 0)) r (fun R => zar tz61) rfl fun fr b3 w1 q1 r => wn ?_
 have h1 := keep q1.below h1
 have h2 := keep q1.below h2
 have e3 := q1.eq
 have z1 := q1.size
 have h3 := q1.at_
 have hB := hB.trans (q1.below.mono hB.size)
 have zB := hB.size
 refine wp_seq ?_
 refine zb5 5 [.val (.pointer (some ⟨b1, 6, none⟩)), .val (.func (.func nf) n1.toArray n2.toArray), .val (U x), .pred (RepAt Tryz.prog zlq n (k x) F w0.heap.size b3) RepAt.stable, .val (.func (.func ff) f1.toArray f2.toArray)] mixed r (by kernel_rfl) (za3 trivial (za3 trivial (za3 trivial (za3 trivial (za3 trivial zaV))))) ?_ ?_
 ·
  refine ec r (fun _ u _ b d s => za4 s (b := b1) (o := 0) rfl zjP bz) ?_
  refine zc6 r rfl (fun fr1 u w' hb' hd r' => ?_) ?_
  ·
   obtain ⟨d0, _⟩ := hd
   exact za2 r' (v := .func (.func nf) n1.toArray n2.toArray) d0 (keep hb' h1) to59 rfl ⟨Below.refl _ _, rfl⟩
  refine ec r (fun _ u _ b d s => za5 s rfl bz) ?_
  refine zc6 r rfl (fun fr1 u w' hb' hd r' => ?_) ?_
  ·
   obtain ⟨d0, d1, _⟩ := hd
   have zb := hb'.size
   have zb : w1.heap.size ≤ w'.heap.size := zb
   have hB' : Below w0.heap.size w0 w' := hB.trans (Below.mono (w := w1) ⟨hb'.os, hb'.tape, hb'.output, hb'.size, hb'.block⟩ hB.size)
   have d0 : u 1 = .func (.func nf) n1.toArray n2.toArray := d0
   have d1 : u 2 = .int .u64 x := d1
   refine zew r' (fs := n1) (cs := n2) d0 d1 hk.at_.1 ((hk.at_.2 n (Nat.lt_succ_self n) x w' (Same.below hB' hF) hB'.size).mono ?_)
   rintro _ w2 ⟨v, rfl, hb2, hr2⟩
   refine ⟨v, rfl, hb2, RepAt.zjV (fun b h => Nat.lt_of_lt_of_le (hF b h) hB'.size) (by omega) hB'.size hb2 (Rep.mono ?_ (Same.refl _ _) (Nat.le_refl _) n _ _ hr2)⟩
   rintro b (h | h)
   · exact .inl (.inl h)
   · exact .inr h
  refine ec r (fun _ u _ b d s => za2 s rfl (keep b h2) zmu rfl bz) ?_
  exact zbc
 intro fr u w2 hb hΦ _ r
 obtain ⟨_, hr3, _, hr⟩ : RepAt Tryz.prog zlq n (k x) F w0.heap.size b3 (u 3) w2 := hΦ 3 (by decide)
 have r := r.congr (sc (hΦ 4 (by decide)) rfl)
 have z2 := hb.size
 have h1 := keep hb h1
 have h2 := keep hb h2
 have h3 := keep hb h3
 have hB2 := hB.trans (hb.mono hB.size)
 have zB2 := hB2.size
 have hF1 : ∀ b, (fun b => F b ∨ (w0.heap.size ≤ b ∧ b < w2.heap.size ∧ b ≠ b3)) b → b < w2.heap.size := by rintro b (h | h); exact Nat.lt_of_lt_of_le (hF b h) hB2.size; exact h.2.1
 refine za9 r (ih (F := fun b => F b ∨ (w0.heap.size ≤ b ∧ b < w2.heap.size ∧ b ≠ b3)) hF1 hr (hg.mono (by omega) (fun b h => .inl h) (Same.below hB2 hF) hB2.size)
  (.inr (hg.mono (Nat.le_refl _) (fun b h => .inl h) (Same.below hB2 hF) hB2.size))) (fun R hc => zac r rfl zmd hc) rfl ?_
 rintro _ w3 ⟨v2, rfl, hb2, hr2⟩
 refine ⟨_, rfl, fun fr r => ?_⟩
 have z3 := hb2.size
 have h3 := keep hb2 h3
 have hB3 := hB2.trans (hb2.mono hB2.size)
 refine zaf (.cells v2.cells 61 (0, 0)) r (fun R => zaq r hr2.shape rfl rfl h3 ts61 rfl) rfl fun fr w4 u4 r => wn ?_
 have z4 := u4.size
 have h3 := u4.at_
 have hB4 := u4.below hB3 (by omega)
 refine wp_ret ?_
 have hs := hr2.shape.cells
 refine zal r rfl rfl h3 (k := 7) hs.1 ta61 ?_
 rw [← hs.2.2]
 exact zlx.fin hB4 hr2 u4 (by rintro b (h | ⟨h1, h2, _⟩); exact .inl h; exact .inr ⟨h1, h2⟩) (by rintro (h | ⟨_, _, h⟩); (have := hF _ h; omega); exact h rfl) (by omega) (by omega) (by omega)
theorem zdV (n : Nat) : zdq n := by
  induction n using Nat.strongRecOn with
  | _ n ih =>
  intro F w0 hF t pv fv g hp hf hd
  obtain ⟨ff, f1, f2, hcf, rfl, hff⟩ := id hf
  cases t with
  | cut => unfold Rep at hp; exact hp.elim
  | done x0 =>
    have hf := hd.resolve_left (by intro h; cases h)
    unfold Rep at hp
    subst hp
    refine enter (l := [.agg (zlo true (zlq.cells x0) 0 0 0 0 .nilFunc), .func (.func ff) f1.toArray f2.toArray]) Tryz.func229 rfl 15 rfl rfl fun fr r => ?_
    have hB := Below.refl w0.heap.size w0
    refine wp_seq (wp_region_lit ?_)
    refine zaa (.cells (zlo true (zlq.cells x0) 0 0 0 0 .nilFunc) 61 (0, 0)) r (fun R => zlC r (v := .agg (zlo true (zlq.cells x0) 0 0 0 0 .nilFunc)) rfl) rfl fun fr b1 w1 q1 r => ?_
    refine zaa (.cells #[.func (.func ff) f1.toArray f2.toArray] 291 (0, 0)) r (fun R => zlC r (v := .func (.func ff) f1.toArray f2.toArray) rfl) rfl fun fr b2 w2 q2 r => ?_
    refine zaa (.cells (zlo false zlq.zero 0 0 0 0 .nilFunc) 61 (0, 0)) r (fun R => zar tz61) rfl fun fr b3 w3 q3 r => wpList_nil ?_
    have h1 := keep q3.below (keep q2.below q1.at_)
    have h2 := keep q3.below q2.at_
    have h3 := q3.at_
    have e1 := q1.eq; have e2 := q2.eq; have e3 := q3.eq; have z1 := q1.size; have z2 := q2.size; have z3 := q3.size
    have hB := ((hB.trans q1.below).trans (q2.below.mono (by omega))).trans (q3.below.mono (by omega))
    have zB := hB.size
    refine wp_seq (wp_seq (wp_region_lit (za0 (zp b1) r (fun R => za4 r (o := 0) rfl zh0) rfl fun fr r => ?_)))
    refine za0 (.bool true) r (fun R => za2 r (v := .bool true) rfl h1 to4 rfl) rfl fun fr r => wpList_nil ?_
    refine wp_cond_split (t := true) (r.ev rfl) (fun _ => ?_) (fun h => by cases h)
    refine wp_seq (wp_region_lit (za0 (.func (.func ff) f1.toArray f2.toArray) r (fun R => za2 r (v := .func (.func ff) f1.toArray f2.toArray) rfl h2 zmu rfl) rfl fun fr r => za0 (.pointer (some ⟨b1, 1, none⟩)) r (fun R => za4 r (o := 0) rfl zjv) rfl fun fr r => za0 (.int .i64 x0) r (fun R => za2 r (v := (.int .i64 x0)) rfl h1 to3 rfl) rfl fun fr r => ?_))
    refine za9 r (hf.at_.2 n (Nat.lt_succ_self n) x0 w3 (Same.below hB hF) hB.size) (fun R hc => zgS r rfl rfl hf.at_.1 hc) rfl ?_
    rintro _ w4 ⟨v, rfl, hb, hr⟩
    refine ⟨_, rfl, fun fr r => ?_⟩
    have z4 := hb.size
    have h3 := keep hb h3
    have hB := hB.trans (hb.mono hB.size)
    refine zaf (.cells v.cells 61 (0, 0)) r (fun R => zaq r hr.shape rfl rfl h3 ts61 rfl) rfl fun fr w5 u5 r => wpList_nil ?_
    have z5 := u5.size
    have h3 := u5.at_
    have hB := u5.below hB (by omega)
    refine wp_ret ?_
    have hs := hr.shape.cells
    refine zal r rfl rfl h3 (k := 7) hs.1 ta61 ?_
    rw [← hs.2.2]
    exact zlx.fin hB hr u5 (fun b hb => .inl hb) (fun h => by have := hF _ h; omega) (by omega) (by omega) (by omega)
  | act op at_ a b k =>
    obtain ⟨nf, n1, n2, hcn, rfl, hk⟩ : ∃ (nf : FuncId) (n1 n2 : List Value), zlp Tryz.prog nf = true ∧ pv = .agg (zlo false zlq.zero op at_ a b (.func (.func nf) n1.toArray n2.toArray)) ∧ FnT Tryz.prog zlq u64 n F w0 (.func (.func nf) n1.toArray n2.toArray) k := by
      exact Rep.zfz hp
    refine enter (l := [.agg (zlo false zlq.zero op at_ a b (.func (.func nf) n1.toArray n2.toArray)), .func (.func ff) f1.toArray f2.toArray]) Tryz.func229 rfl 15 rfl rfl fun fr r => ?_
    have hB := Below.refl w0.heap.size w0
    refine wp_seq (wp_region_lit ?_)
    refine zaa (.cells (zlo false zlq.zero op at_ a b (.func (.func nf) n1.toArray n2.toArray)) 61 (0, 0)) r (fun R => zlC r (v := .agg (zlo false zlq.zero op at_ a b (.func (.func nf) n1.toArray n2.toArray))) rfl) rfl fun fr b1 w1 q1 r => ?_
    refine zaa (.cells #[.func (.func ff) f1.toArray f2.toArray] 291 (0, 0)) r (fun R => zlC r (v := .func (.func ff) f1.toArray f2.toArray) rfl) rfl fun fr b2 w2 q2 r => ?_
    refine zaa (.cells (zlo false zlq.zero 0 0 0 0 .nilFunc) 61 (0, 0)) r (fun R => zar tz61) rfl fun fr b3 w3 q3 r => wpList_nil ?_
    have h1 := keep q3.below (keep q2.below q1.at_)
    have h2 := keep q3.below q2.at_
    have h3 := q3.at_
    have e1 := q1.eq; have e2 := q2.eq; have e3 := q3.eq; have z1 := q1.size; have z2 := q2.size; have z3 := q3.size
    have hB := ((hB.trans q1.below).trans (q2.below.mono (by omega))).trans (q3.below.mono (by omega))
    have zB := hB.size
    refine wp_seq (wp_seq (wp_region_lit (za0 (zp b1) r (fun R => za4 r (o := 0) rfl zh0) rfl fun fr r => ?_)))
    refine za0 (.bool false) r (fun R => za2 r (v := .bool false) rfl h1 to4 rfl) rfl fun fr r => wpList_nil ?_
    refine wp_cond_split (t := false) (r.ev rfl) (fun h => by cases h) (fun _ => wp_skip ?_)
    refine wp_seq (wp_region_lit (za0 (.pointer (some ⟨b1, 2, none⟩)) r (fun R => za4 r (o := 0) rfl zk8) rfl fun fr r => za0 (.agg (zlz (⟨op, at_, a, b⟩ : Access)).toArray) r (fun R => za7 r (cs := (zlz (⟨op, at_, a, b⟩ : Access))) (n := 4) rfl h1 ta42 rfl) rfl fun fr r => za0 (.func (.func 325) #[] #[zp b1, zp b2]) r (fun R => zaL r rfl) rfl fun fr r => ?_))
    have hF1 : ∀ b, (fun b => F b ∨ b = b1 ∨ b = b2) b → b < w3.heap.size := by rintro b (h | h | h); exact Nat.lt_of_lt_of_le (hF b h) hB.size; omega; omega
    refine za9 r (zde (F := fun b => F b ∨ b = b1 ∨ b = b2) (n := n) hF1 ⟨op, at_, a, b⟩ (a1 := fun x => (k x).bind g) (show FnT Tryz.prog zlq u64 n (fun b => F b ∨ b = b1 ∨ b = b2) w3 (.func (.func 325) ([] : List Value).toArray [zp b1, zp b2].toArray) (fun x => (k x).bind g) from
      ⟨325, [], [zp b1, zp b2], zo3, rfl, fun m hm x w' hs hz => zfr (ih m hm) (fun b hb => Nat.lt_of_lt_of_le (hF1 b hb) hz) (.inr (.inl rfl)) (hs.at_ (.inr (.inl rfl)) h1) (.inr (.inr rfl)) (hs.at_ (.inr (.inr rfl)) h2)
        (hk.mono (by omega) (fun b h => .inl h) ((Same.below hB hF).trans (hs.sub (fun b h => .inl h))) (Nat.le_trans hB.size hz)) (hf.mono (by omega) (fun b h => .inl h) ((Same.below hB hF).trans (hs.sub (fun b h => .inl h))) (Nat.le_trans hB.size hz)) x⟩)) (fun R hc => zac r rfl zmb hc) rfl ?_
    rintro _ w4 ⟨v, rfl, hb, hr⟩
    refine ⟨_, rfl, fun fr r => ?_⟩
    have z4 := hb.size
    have h3 := keep hb h3
    have hB := hB.trans (hb.mono hB.size)
    refine zaf (.cells v.cells 61 (0, 0)) r (fun R => zaq r hr.shape rfl rfl h3 ts61 rfl) rfl fun fr w5 u5 r => wpList_nil ?_
    have z5 := u5.size
    have h3 := u5.at_
    have hB := u5.below hB (by omega)
    refine wp_ret ?_
    have hs := hr.shape.cells
    refine zal r rfl rfl h3 (k := 7) hs.1 ta61 ?_
    rw [← hs.2.2]
    exact zlx.fin hB hr u5 (by rintro b (h | h | h); exact .inl h; exact .inr ⟨by omega, by omega⟩; exact .inr ⟨by omega, by omega⟩) (by rintro (h | h | h); (have := hF _ h; omega); omega; omega) (by omega) (by omega) (by omega)
theorem zeO {n : Nat} {F : Nat → Prop} {w0 : World} (hF : ∀ b, F b → b < w0.heap.size) {t : T (Int)} {pv fv : Value} {g : Int → T (Int)} (hp : Rep Tryz.prog zlq n t F w0 pv) (hf : FnT Tryz.prog zlq i64 n F w0 fv g) (hd : t.zlF = false) :
    Calls Tryz.prog 229 #[pv, fv] w0 (zlx Tryz.prog zlq n (t.bind g) F w0) := zdV n hF hp hf (.inl hd)
theorem zcE {n : Nat} {F : Nat → Prop} {w0 : World} (hF : ∀ b, F b → b < w0.heap.size) {t : T (Int)} {pv fv : Value} {g : Int → T (Int)} (hp : Rep Tryz.prog zlq n t F w0 pv) (hf : FnT Tryz.prog zlq i64 (n + 1) F w0 fv g) :
    Calls Tryz.prog 229 #[pv, fv] w0 (zlx Tryz.prog zlq n (t.bind g) F w0) := zdV n hF hp (hf.mono (by omega) (fun b h => h) (Same.refl _ _) (Nat.le_refl _)) (.inr hf)
end Go.Proofs.YtfpgnmhcfkikkaaGreat

/- Ours. -/
set_option maxRecDepth 20000
set_option maxHeartbeats 2000000
namespace Go.Proofs.YtfpgnmhcfkikkaaGreat
open Go.RowKit
theorem zoW : zlp Tryz.prog 227 = true := by kernel_rfl
theorem zne : zlp Tryz.prog 315 = true := by kernel_rfl
theorem zoN : zlp Tryz.prog 317 = true := by kernel_rfl
theorem znG : zlp Tryz.prog 318 = true := by kernel_rfl
theorem znL : zlp Tryz.prog 382 = true := by kernel_rfl
theorem zoc : zlp Tryz.prog 383 = true := by kernel_rfl
theorem znR : zlp Tryz.prog 385 = true := by kernel_rfl
theorem zog : zlp Tryz.prog 429 = true := by kernel_rfl
theorem zmg : tyO Tryz.prog 228 = true := by kernel_rfl
theorem znY : tyO Tryz.prog 289 = true := by kernel_rfl
theorem zou : tyO Tryz.prog 332 = true := by kernel_rfl
def D.zes (c0 : (Unit → T Unit)) (a0 : Int) : T Unit := (c0 ())
theorem zfx {n : Nat} {F : Nat → Prop} {w0 : World} (hF : ∀ b, F b → b < w0.heap.size)
    {c0f : FuncId} {c0_1 c0_2 : List Value} {c0 : (Unit → T Unit)} {c0b : Nat} (c0F : F c0b) (c0h : w0.heap[c0b]? = some (.cells #[.func (.func c0f) c0_1.toArray c0_2.toArray] 332 (0, 0))) (c0n : FnT Tryz.prog zly unitE (n + 1) F w0 (.func (.func c0f) c0_1.toArray c0_2.toArray) c0) (a0 : Int) :
    Calls Tryz.prog 385 #[.int .u64 a0, zp c0b] w0 (zlx Tryz.prog zly n (D.zes c0 a0) F w0) := by
 refine enter Tryz.func385 rfl 6 rfl rfl fun fr r => ?_
 have hB := Below.refl w0.heap.size w0
 have lc0b := lt_of_block c0h
 refine wsr ?_
 refine zaa (.cells (zlo false zly.zero 0 0 0 0 .nilFunc) 195 (0, 0)) r (fun R => zar zlT) rfl fun fr b1 w2 n3 r => ?_
 obtain ⟨eb1, zw2, hb1, hB, zB⟩ := n3.all hB
 refine wn (wsr (za0 (.func (.func c0f) c0_1.toArray c0_2.toArray) r (fun R => za2 r rfl (keep hB c0h) zou rfl) rfl fun fr r => ?_))
 refine za9 r (c0n.at_.2 n (Nat.lt_succ_self n) () w2 (Same.below hB hF) hB.size) (fun R hc => zfS r rfl c0n.at_.1 hc) rfl ?_
 rintro _ w4 ⟨v5, rfl, hb, hr6⟩
 refine ⟨_, rfl, fun fr r => ?_⟩
 have zw4 := hb.size
 have hb1 := keep hb hb1
 obtain ⟨hB, zB⟩ := bon hb hB
 refine zaf (.cells v5.cells 195 (0, 0)) r (fun R => zaq r hr6.shape rfl rfl hb1 zlP rfl) rfl fun fr w7 u8 r => ?_
 have zw7 := u8.size
 have hb1 := u8.at_
 obtain ⟨hB, zB⟩ := u8.on hB (by omega)
 refine wn (wp_ret ?_)
 have hs := hr6.shape.cells
 refine zal r rfl rfl hb1 (k := 6) hs.1 zlO ?_
 rw [← hs.2.2]
 exact zlx.fin hB hr6 u8 (fun b hb => .inl hb) (fun h => by have := hF _ h; omega) (by omega) (by omega) (by omega)
def D.zdl (a0 : Int) (a1 : Int) (a2 : (Unit → T Unit)) : T Unit := (D.zgq (⟨1, a0, a1, 0⟩ : Access) (fun x => (D.zes a2 x)))
theorem zen {n : Nat} {F : Nat → Prop} {w0 : World} (hF : ∀ b, F b → b < w0.heap.size)
    (a0 : Int) (a1 : Int) {a2f : FuncId} {a2_1 a2_2 : List Value} {a2 : (Unit → T Unit)} (a2n : FnT Tryz.prog zly unitE (n) F w0 (.func (.func a2f) a2_1.toArray a2_2.toArray) a2) :
    Calls Tryz.prog 315 #[.int .i64 a0, .int .u64 a1, .func (.func a2f) a2_1.toArray a2_2.toArray] w0 (zlx Tryz.prog zly n (D.zdl a0 a1 a2) F w0) := by
 refine enter Tryz.func315 rfl 12 rfl rfl fun fr r => ?_
 have hB := Below.refl w0.heap.size w0
 refine wsr ?_
 refine zaa (.cells #[.func (.func a2f) a2_1.toArray a2_2.toArray] 332 (0, 0)) r (fun R => zlC r (v := (.func (.func a2f) a2_1.toArray a2_2.toArray)) rfl) rfl fun fr b1 w2 n3 r => ?_
 obtain ⟨eb1, zw2, hb1, hB, zB⟩ := n3.all hB
 refine zaa (.cells (zlo false zly.zero 0 0 0 0 .nilFunc) 195 (0, 0)) r (fun R => zar zlT) rfl fun fr b4 w5 n6 r => ?_
 have hb1 := keep n6.below hb1
 obtain ⟨eb4, zw5, hb4, hB, zB⟩ := n6.all hB
 refine wn (wsr (za0 (I a0) r (fun R => za5 r rfl) rfl fun fr r => za0 (U a1) r (fun R => za5 r rfl) rfl fun fr r => za0 (.agg (zlz (⟨1, a0, a1, 0⟩ : Access)).toArray) r (fun R => zb4 r (by kernel_rfl)) rfl fun fr r => za0 (.func (.func 385) #[] #[zp b1]) r (fun R => zaL r rfl) rfl fun fr r => ?_))
 have hF1 := zlG hF hB b4
 have f7 : ((fun b => F b ∨ (w0.heap.size ≤ b ∧ b < w5.heap.size ∧ b ≠ b4))) b1 := (.inr ⟨by omega, by omega, by omega⟩)
 refine za9 r (zh9 (F := (fun b => F b ∨ (w0.heap.size ≤ b ∧ b < w5.heap.size ∧ b ≠ b4))) (n := n) hF1 (⟨1, a0, a1, 0⟩ : Access) ⟨385, [], [zp b1], znR, rfl, fun m hm x w' hs hz => zfx (fun b hb => Nat.lt_of_lt_of_le (hF1 b hb) hz) f7 (hs.at_ f7 hb1) (a2n.mono (by omega) (fun b h => .inl h) ((Same.below hB hF).trans (hs.sub (fun b h => .inl h))) (Nat.le_trans hB.size hz)) x⟩) (fun R hc => zac r rfl zo0 hc) rfl ?_
 rintro _ w8 ⟨v9, rfl, hb, hr10⟩
 refine ⟨_, rfl, fun fr r => ?_⟩
 have zw8 := hb.size
 have hb1 := keep hb hb1
 have hb4 := keep hb hb4
 obtain ⟨hB, zB⟩ := bon hb hB
 refine zaf (.cells v9.cells 195 (0, 0)) r (fun R => zaq r hr10.shape rfl rfl hb4 zlP rfl) rfl fun fr w11 u12 r => ?_
 have zw11 := u12.size
 have hb1 := u12.keep hb1 (by omega)
 have hb4 := u12.at_
 obtain ⟨hB, zB⟩ := u12.on hB (by omega)
 refine wn (wp_ret ?_)
 have hs := hr10.shape.cells
 refine zal r rfl rfl hb4 (k := 6) hs.1 zlO ?_
 rw [← hs.2.2]
 exact rfin hF hB hr10 u12 (by omega) (by omega) (by omega)
def D.zhh  : T Unit := D.zfo
theorem zia {n : Nat} {F : Nat → Prop} {w0 : World} (hF : ∀ b, F b → b < w0.heap.size)
     :
    Calls Tryz.prog 382 #[] w0 (zlx Tryz.prog zly n D.zhh F w0) := by
 refine enter Tryz.func382 rfl 3 rfl rfl fun fr r => ?_
 have hB := Below.refl w0.heap.size w0
 refine wsr ?_
 refine zaa (.cells (zlo false zly.zero 0 0 0 0 .nilFunc) 195 (0, 0)) r (fun R => zar zlT) rfl fun fr b1 w2 n3 r => ?_
 obtain ⟨eb1, zw2, hb1, hB, zB⟩ := n3.all hB
 refine wn (wsr (za0 (.agg #[]) r (fun R => zb4 r (by kernel_rfl)) rfl fun fr r => ?_))
 have hF1 := zlG hF hB b1
 refine za9 r (zgv (F := (fun b => F b ∨ (w0.heap.size ≤ b ∧ b < w2.heap.size ∧ b ≠ b1))) (n := n) hF1 ) (fun R hc => zac r rfl zoc hc) rfl ?_
 rintro _ w4 ⟨v5, rfl, hb, hr6⟩
 refine ⟨_, rfl, fun fr r => ?_⟩
 have zw4 := hb.size
 have hb1 := keep hb hb1
 obtain ⟨hB, zB⟩ := bon hb hB
 refine zaf (.cells v5.cells 195 (0, 0)) r (fun R => zaq r hr6.shape rfl rfl hb1 zlP rfl) rfl fun fr w7 u8 r => ?_
 have zw7 := u8.size
 have hb1 := u8.at_
 obtain ⟨hB, zB⟩ := u8.on hB (by omega)
 refine wn (wp_ret ?_)
 have hs := hr6.shape.cells
 refine zal r rfl rfl hb1 (k := 6) hs.1 zlO ?_
 rw [← hs.2.2]
 exact rfin hF hB hr6 u8 (by omega) (by omega) (by omega)
def D.zgF (a0 : Int) (a1 : Int) : T Unit := (D.zdl a0 a1 (fun _ => D.zhh))
theorem zj7 {n : Nat} {F : Nat → Prop} {w0 : World} (hF : ∀ b, F b → b < w0.heap.size)
    (a0 : Int) (a1 : Int) :
    Calls Tryz.prog 313 #[.int .i64 a0, .int .u64 a1] w0 (zlx Tryz.prog zly n (D.zgF a0 a1) F w0) := by
 refine enter Tryz.func313 rfl 8 rfl rfl fun fr r => ?_
 have hB := Below.refl w0.heap.size w0
 refine wsr ?_
 refine zaa (.cells (zlo false zly.zero 0 0 0 0 .nilFunc) 195 (0, 0)) r (fun R => zar zlT) rfl fun fr b1 w2 n3 r => ?_
 obtain ⟨eb1, zw2, hb1, hB, zB⟩ := n3.all hB
 refine wn (wsr (za0 (I a0) r (fun R => za5 r rfl) rfl fun fr r => za0 (U a1) r (fun R => za5 r rfl) rfl fun fr r => ?_))
 have hF1 := zlG hF hB b1
 refine za9 r (zen (F := (fun b => F b ∨ (w0.heap.size ≤ b ∧ b < w2.heap.size ∧ b ≠ b1))) (n := n) hF1 a0 a1 ⟨382, [], [], znL, rfl, fun m hm _ w' hs hz => zia (fun b hb => Nat.lt_of_lt_of_le (hF1 b hb) hz) ⟩) (fun R hc => zac r rfl zne hc) rfl ?_
 rintro _ w4 ⟨v5, rfl, hb, hr6⟩
 refine ⟨_, rfl, fun fr r => ?_⟩
 have zw4 := hb.size
 have hb1 := keep hb hb1
 obtain ⟨hB, zB⟩ := bon hb hB
 refine zaf (.cells v5.cells 195 (0, 0)) r (fun R => zaq r hr6.shape rfl rfl hb1 zlP rfl) rfl fun fr w7 u8 r => ?_
 have zw7 := u8.size
 have hb1 := u8.at_
 obtain ⟨hB, zB⟩ := u8.on hB (by omega)
 refine wn (wp_ret ?_)
 have hs := hr6.shape.cells
 refine zal r rfl rfl hb1 (k := 6) hs.1 zlO ?_
 rw [← hs.2.2]
 exact rfin hF hB hr6 u8 (by omega) (by omega) (by omega)
def D.zb7 (a0 : Int) (a1 : (Int → T Int)) : T Int := (D.zeI (⟨0, a0, 0, 0⟩ : Access) a1)
theorem zbG {n : Nat} {F : Nat → Prop} {w0 : World} (hF : ∀ b, F b → b < w0.heap.size)
    (a0 : Int) {a1f : FuncId} {a1_1 a1_2 : List Value} {a1 : (Int → T Int)} (a1n : FnT Tryz.prog zlq u64 (n) F w0 (.func (.func a1f) a1_1.toArray a1_2.toArray) a1) :
    Calls Tryz.prog 127 #[.int .i64 a0, .func (.func a1f) a1_1.toArray a1_2.toArray] w0 (zlx Tryz.prog zlq n (D.zb7 a0 a1) F w0) := by
 refine enter Tryz.func127 rfl 9 rfl rfl fun fr r => ?_
 have hB := Below.refl w0.heap.size w0
 refine wsr ?_
 refine zaa (.cells (zlo false zlq.zero 0 0 0 0 .nilFunc) 61 (0, 0)) r (fun R => zar tz61) rfl fun fr b1 w2 n3 r => ?_
 obtain ⟨eb1, zw2, hb1, hB, zB⟩ := n3.all hB
 refine wn (wsr (za0 (I a0) r (fun R => za5 r rfl) rfl fun fr r => za0 (.agg (zlz (⟨0, a0, 0, 0⟩ : Access)).toArray) r (fun R => zb4 r (by kernel_rfl)) rfl fun fr r => za0 (.func (.func a1f) a1_1.toArray a1_2.toArray) r (fun R => za5 r rfl) rfl fun fr r => ?_))
 have hF1 := zlG hF hB b1
 refine za9 r (zde (F := (fun b => F b ∨ (w0.heap.size ≤ b ∧ b < w2.heap.size ∧ b ≠ b1))) (n := n) hF1 (⟨0, a0, 0, 0⟩ : Access) (a1n.mono (by omega) (fun b h => .inl h) (Same.below hB hF) hB.size)) (fun R hc => zac r rfl zmb hc) rfl ?_
 rintro _ w4 ⟨v5, rfl, hb, hr6⟩
 refine ⟨_, rfl, fun fr r => ?_⟩
 have zw4 := hb.size
 have hb1 := keep hb hb1
 obtain ⟨hB, zB⟩ := bon hb hB
 refine zaf (.cells v5.cells 61 (0, 0)) r (fun R => zaq r hr6.shape rfl rfl hb1 ts61 rfl) rfl fun fr w7 u8 r => ?_
 have zw7 := u8.size
 have hb1 := u8.at_
 obtain ⟨hB, zB⟩ := u8.on hB (by omega)
 refine wn (wp_ret ?_)
 have hs := hr6.shape.cells
 refine zal r rfl rfl hb1 (k := 7) hs.1 ta61 ?_
 rw [← hs.2.2]
 exact rfin hF hB hr6 u8 (by omega) (by omega) (by omega)
def D.zcj (c0 : (Bool → T Int)) (c1 : Int) (a0 : Int) : T Int := (c0 (a0 == c1))
theorem zg5 {n : Nat} {F : Nat → Prop} {w0 : World} (hF : ∀ b, F b → b < w0.heap.size)
    {c0f : FuncId} {c0_1 c0_2 : List Value} {c0 : (Bool → T Int)} {c0b : Nat} (c0F : F c0b) (c0h : w0.heap[c0b]? = some (.cells #[.func (.func c0f) c0_1.toArray c0_2.toArray] 294 (0, 0))) (c0n : FnT Tryz.prog zlq zlr (n + 1) F w0 (.func (.func c0f) c0_1.toArray c0_2.toArray) c0) (c1 : Int) {c1b : Nat} (c1F : F c1b) (c1h : w0.heap[c1b]? = some (.cells ([(.int .u64 c1)]).toArray 40 (0, 0))) (a0 : Int) :
    Calls Tryz.prog 318 #[.int .u64 a0, zp c0b, zp c1b] w0 (zlx Tryz.prog zlq n (D.zcj c0 c1 a0) F w0) := by
 refine enter Tryz.func318 rfl 10 rfl rfl fun fr r => ?_
 have hB := Below.refl w0.heap.size w0
 have lc0b := lt_of_block c0h
 have lc1b := lt_of_block c1h
 refine wsr ?_
 refine zaa (.cells (zlo false zlq.zero 0 0 0 0 .nilFunc) 61 (0, 0)) r (fun R => zar tz61) rfl fun fr b1 w2 n3 r => ?_
 obtain ⟨eb1, zw2, hb1, hB, zB⟩ := n3.all hB
 refine wn (wsr (za0 (.func (.func c0f) c0_1.toArray c0_2.toArray) r (fun R => za2 r rfl (keep hB c0h) zmJ rfl) rfl fun fr r => za0 (U a0) r (fun R => za5 r rfl) rfl fun fr r => za0 (U c1) r (fun R => za2 r rfl (keep hB c1h) to40 rfl) rfl fun fr r => za0 _ r (fun R => zlt r rfl rfl rfl rfl) rfl fun fr r => ?_))
 refine za9 r (c0n.at_.2 n (Nat.lt_succ_self n) (a0 == c1) w2 (Same.below hB hF) hB.size) (fun R hc => zew r rfl rfl c0n.at_.1 hc) rfl ?_
 rintro _ w4 ⟨v5, rfl, hb, hr6⟩
 refine ⟨_, rfl, fun fr r => ?_⟩
 have zw4 := hb.size
 have hb1 := keep hb hb1
 obtain ⟨hB, zB⟩ := bon hb hB
 refine zaf (.cells v5.cells 61 (0, 0)) r (fun R => zaq r hr6.shape rfl rfl hb1 ts61 rfl) rfl fun fr w7 u8 r => ?_
 have zw7 := u8.size
 have hb1 := u8.at_
 obtain ⟨hB, zB⟩ := u8.on hB (by omega)
 refine wn (wp_ret ?_)
 have hs := hr6.shape.cells
 refine zal r rfl rfl hb1 (k := 7) hs.1 ta61 ?_
 rw [← hs.2.2]
 exact zlx.fin hB hr6 u8 (fun b hb => .inl hb) (fun h => by have := hF _ h; omega) (by omega) (by omega) (by omega)
def D.zeC (a0 : Int) (a1 : Int) (a2 : Int) (a3 : (Bool → T Int)) : T Int := (D.zeI (⟨2, a0, a1, a2⟩ : Access) (fun x => (D.zcj a3 a1 x)))
theorem zeV {n : Nat} {F : Nat → Prop} {w0 : World} (hF : ∀ b, F b → b < w0.heap.size)
    (a0 : Int) (a1 : Int) (a2 : Int) {a3f : FuncId} {a3_1 a3_2 : List Value} {a3 : (Bool → T Int)} (a3n : FnT Tryz.prog zlq zlr (n) F w0 (.func (.func a3f) a3_1.toArray a3_2.toArray) a3) :
    Calls Tryz.prog 215 #[.int .i64 a0, .int .u64 a1, .int .u64 a2, .func (.func a3f) a3_1.toArray a3_2.toArray] w0 (zlx Tryz.prog zlq n (D.zeC a0 a1 a2 a3) F w0) := by
 refine enter Tryz.func215 rfl 15 rfl rfl fun fr r => ?_
 have hB := Below.refl w0.heap.size w0
 refine wsr ?_
 refine zaa (.cells #[(U a1)] 40 (0, 0)) r (fun R => zlC r (v := (U a1)) rfl) rfl fun fr b1 w2 n3 r => ?_
 obtain ⟨eb1, zw2, hb1, hB, zB⟩ := n3.all hB
 refine zaa (.cells #[.func (.func a3f) a3_1.toArray a3_2.toArray] 294 (0, 0)) r (fun R => zlC r (v := (.func (.func a3f) a3_1.toArray a3_2.toArray)) rfl) rfl fun fr b4 w5 n6 r => ?_
 have hb1 := keep n6.below hb1
 obtain ⟨eb4, zw5, hb4, hB, zB⟩ := n6.all hB
 refine zaa (.cells (zlo false zlq.zero 0 0 0 0 .nilFunc) 61 (0, 0)) r (fun R => zar tz61) rfl fun fr b7 w8 n9 r => ?_
 have hb1 := keep n9.below hb1
 have hb4 := keep n9.below hb4
 obtain ⟨eb7, zw8, hb7, hB, zB⟩ := n9.all hB
 refine wn (wsr (za0 (I a0) r (fun R => za5 r rfl) rfl fun fr r => za0 (U a1) r (fun R => za2 r rfl hb1 to40 rfl) rfl fun fr r => za0 (U a2) r (fun R => za5 r rfl) rfl fun fr r => za0 (.agg (zlz (⟨2, a0, a1, a2⟩ : Access)).toArray) r (fun R => zb4 r (by kernel_rfl)) rfl fun fr r => za0 (.func (.func 318) #[] #[zp b4, zp b1]) r (fun R => zaL r rfl) rfl fun fr r => ?_))
 have hF1 := zlG hF hB b7
 have f10 : ((fun b => F b ∨ (w0.heap.size ≤ b ∧ b < w8.heap.size ∧ b ≠ b7))) b4 := (.inr ⟨by omega, by omega, by omega⟩)
 have f11 : ((fun b => F b ∨ (w0.heap.size ≤ b ∧ b < w8.heap.size ∧ b ≠ b7))) b1 := (.inr ⟨by omega, by omega, by omega⟩)
 refine za9 r (zde (F := (fun b => F b ∨ (w0.heap.size ≤ b ∧ b < w8.heap.size ∧ b ≠ b7))) (n := n) hF1 (⟨2, a0, a1, a2⟩ : Access) ⟨318, [], [zp b4, zp b1], znG, rfl, fun m hm x w' hs hz => zg5 (fun b hb => Nat.lt_of_lt_of_le (hF1 b hb) hz) f10 (hs.at_ f10 hb4) (a3n.mono (by omega) (fun b h => .inl h) ((Same.below hB hF).trans (hs.sub (fun b h => .inl h))) (Nat.le_trans hB.size hz)) a1 f11 (hs.at_ f11 hb1) x⟩) (fun R hc => zac r rfl zmb hc) rfl ?_
 rintro _ w12 ⟨v13, rfl, hb, hr14⟩
 refine ⟨_, rfl, fun fr r => ?_⟩
 have zw12 := hb.size
 have hb1 := keep hb hb1
 have hb4 := keep hb hb4
 have hb7 := keep hb hb7
 obtain ⟨hB, zB⟩ := bon hb hB
 refine zaf (.cells v13.cells 61 (0, 0)) r (fun R => zaq r hr14.shape rfl rfl hb7 ts61 rfl) rfl fun fr w15 u16 r => ?_
 have zw15 := u16.size
 have hb1 := u16.keep hb1 (by omega)
 have hb4 := u16.keep hb4 (by omega)
 have hb7 := u16.at_
 obtain ⟨hB, zB⟩ := u16.on hB (by omega)
 refine wn (wp_ret ?_)
 have hs := hr14.shape.cells
 refine zal r rfl rfl hb7 (k := 7) hs.1 ta61 ?_
 rw [← hs.2.2]
 exact rfin hF hB hr14 u16 (by omega) (by omega) (by omega)
def D.zdW (a0 : Int) (a1 : (Int → T Grant)) : T Grant := (D.zex (⟨0, a0, 0, 0⟩ : Access) a1)
theorem zg6 {n : Nat} {F : Nat → Prop} {w0 : World} (hF : ∀ b, F b → b < w0.heap.size)
    (a0 : Int) {a1f : FuncId} {a1_1 a1_2 : List Value} {a1 : (Int → T Grant)} (a1n : FnT Tryz.prog zls u64 (n) F w0 (.func (.func a1f) a1_1.toArray a1_2.toArray) a1) :
    Calls Tryz.prog 205 #[.int .i64 a0, .func (.func a1f) a1_1.toArray a1_2.toArray] w0 (zlx Tryz.prog zls n (D.zdW a0 a1) F w0) := by
 refine enter Tryz.func205 rfl 9 rfl rfl fun fr r => ?_
 have hB := Below.refl w0.heap.size w0
 refine wsr ?_
 refine zaa (.cells (zlo false zls.zero 0 0 0 0 .nilFunc) 45 (0, 0)) r (fun R => zar tz45) rfl fun fr b1 w2 n3 r => ?_
 obtain ⟨eb1, zw2, hb1, hB, zB⟩ := n3.all hB
 refine wn (wsr (za0 (I a0) r (fun R => za5 r rfl) rfl fun fr r => za0 (.agg (zlz (⟨0, a0, 0, 0⟩ : Access)).toArray) r (fun R => zb4 r (by kernel_rfl)) rfl fun fr r => za0 (.func (.func a1f) a1_1.toArray a1_2.toArray) r (fun R => za5 r rfl) rfl fun fr r => ?_))
 have hF1 := zlG hF hB b1
 refine za9 r (zdU (F := (fun b => F b ∨ (w0.heap.size ≤ b ∧ b < w2.heap.size ∧ b ≠ b1))) (n := n) hF1 (⟨0, a0, 0, 0⟩ : Access) (a1n.mono (by omega) (fun b h => .inl h) (Same.below hB hF) hB.size)) (fun R hc => zac r rfl zmD hc) rfl ?_
 rintro _ w4 ⟨v5, rfl, hb, hr6⟩
 refine ⟨_, rfl, fun fr r => ?_⟩
 have zw4 := hb.size
 have hb1 := keep hb hb1
 obtain ⟨hB, zB⟩ := bon hb hB
 refine zaf (.cells v5.cells 45 (0, 0)) r (fun R => zaq r hr6.shape rfl rfl hb1 ts45 rfl) rfl fun fr w7 u8 r => ?_
 have zw7 := u8.size
 have hb1 := u8.at_
 obtain ⟨hB, zB⟩ := u8.on hB (by omega)
 refine wn (wp_ret ?_)
 have hs := hr6.shape.cells
 refine zal r rfl rfl hb1 (k := 9) hs.1 ta45 ?_
 rw [← hs.2.2]
 exact rfin hF hB hr6 u8 (by omega) (by omega) (by omega)
def D.zea (c0 : (Unit → T Grant)) (a0 : Int) : T Grant := (c0 ())
theorem zfc {n : Nat} {F : Nat → Prop} {w0 : World} (hF : ∀ b, F b → b < w0.heap.size)
    {c0f : FuncId} {c0_1 c0_2 : List Value} {c0 : (Unit → T Grant)} {c0b : Nat} (c0F : F c0b) (c0h : w0.heap[c0b]? = some (.cells #[.func (.func c0f) c0_1.toArray c0_2.toArray] 289 (0, 0))) (c0n : FnT Tryz.prog zls unitE (n + 1) F w0 (.func (.func c0f) c0_1.toArray c0_2.toArray) c0) (a0 : Int) :
    Calls Tryz.prog 317 #[.int .u64 a0, zp c0b] w0 (zlx Tryz.prog zls n (D.zea c0 a0) F w0) := by
 refine enter Tryz.func317 rfl 6 rfl rfl fun fr r => ?_
 have hB := Below.refl w0.heap.size w0
 have lc0b := lt_of_block c0h
 refine wsr ?_
 refine zaa (.cells (zlo false zls.zero 0 0 0 0 .nilFunc) 45 (0, 0)) r (fun R => zar tz45) rfl fun fr b1 w2 n3 r => ?_
 obtain ⟨eb1, zw2, hb1, hB, zB⟩ := n3.all hB
 refine wn (wsr (za0 (.func (.func c0f) c0_1.toArray c0_2.toArray) r (fun R => za2 r rfl (keep hB c0h) znY rfl) rfl fun fr r => ?_))
 refine za9 r (c0n.at_.2 n (Nat.lt_succ_self n) () w2 (Same.below hB hF) hB.size) (fun R hc => zfS r rfl c0n.at_.1 hc) rfl ?_
 rintro _ w4 ⟨v5, rfl, hb, hr6⟩
 refine ⟨_, rfl, fun fr r => ?_⟩
 have zw4 := hb.size
 have hb1 := keep hb hb1
 obtain ⟨hB, zB⟩ := bon hb hB
 refine zaf (.cells v5.cells 45 (0, 0)) r (fun R => zaq r hr6.shape rfl rfl hb1 ts45 rfl) rfl fun fr w7 u8 r => ?_
 have zw7 := u8.size
 have hb1 := u8.at_
 obtain ⟨hB, zB⟩ := u8.on hB (by omega)
 refine wn (wp_ret ?_)
 have hs := hr6.shape.cells
 refine zal r rfl rfl hb1 (k := 9) hs.1 ta45 ?_
 rw [← hs.2.2]
 exact zlx.fin hB hr6 u8 (fun b hb => .inl hb) (fun h => by have := hF _ h; omega) (by omega) (by omega) (by omega)
def D.zdL (a0 : Int) (a1 : Int) (a2 : (Unit → T Grant)) : T Grant := (D.zex (⟨1, a0, a1, 0⟩ : Access) (fun x => (D.zea a2 x)))
theorem zfP {n : Nat} {F : Nat → Prop} {w0 : World} (hF : ∀ b, F b → b < w0.heap.size)
    (a0 : Int) (a1 : Int) {a2f : FuncId} {a2_1 a2_2 : List Value} {a2 : (Unit → T Grant)} (a2n : FnT Tryz.prog zls unitE (n) F w0 (.func (.func a2f) a2_1.toArray a2_2.toArray) a2) :
    Calls Tryz.prog 207 #[.int .i64 a0, .int .u64 a1, .func (.func a2f) a2_1.toArray a2_2.toArray] w0 (zlx Tryz.prog zls n (D.zdL a0 a1 a2) F w0) := by
 refine enter Tryz.func207 rfl 12 rfl rfl fun fr r => ?_
 have hB := Below.refl w0.heap.size w0
 refine wsr ?_
 refine zaa (.cells #[.func (.func a2f) a2_1.toArray a2_2.toArray] 289 (0, 0)) r (fun R => zlC r (v := (.func (.func a2f) a2_1.toArray a2_2.toArray)) rfl) rfl fun fr b1 w2 n3 r => ?_
 obtain ⟨eb1, zw2, hb1, hB, zB⟩ := n3.all hB
 refine zaa (.cells (zlo false zls.zero 0 0 0 0 .nilFunc) 45 (0, 0)) r (fun R => zar tz45) rfl fun fr b4 w5 n6 r => ?_
 have hb1 := keep n6.below hb1
 obtain ⟨eb4, zw5, hb4, hB, zB⟩ := n6.all hB
 refine wn (wsr (za0 (I a0) r (fun R => za5 r rfl) rfl fun fr r => za0 (U a1) r (fun R => za5 r rfl) rfl fun fr r => za0 (.agg (zlz (⟨1, a0, a1, 0⟩ : Access)).toArray) r (fun R => zb4 r (by kernel_rfl)) rfl fun fr r => za0 (.func (.func 317) #[] #[zp b1]) r (fun R => zaL r rfl) rfl fun fr r => ?_))
 have hF1 := zlG hF hB b4
 have f7 : ((fun b => F b ∨ (w0.heap.size ≤ b ∧ b < w5.heap.size ∧ b ≠ b4))) b1 := (.inr ⟨by omega, by omega, by omega⟩)
 refine za9 r (zdU (F := (fun b => F b ∨ (w0.heap.size ≤ b ∧ b < w5.heap.size ∧ b ≠ b4))) (n := n) hF1 (⟨1, a0, a1, 0⟩ : Access) ⟨317, [], [zp b1], zoN, rfl, fun m hm x w' hs hz => zfc (fun b hb => Nat.lt_of_lt_of_le (hF1 b hb) hz) f7 (hs.at_ f7 hb1) (a2n.mono (by omega) (fun b h => .inl h) ((Same.below hB hF).trans (hs.sub (fun b h => .inl h))) (Nat.le_trans hB.size hz)) x⟩) (fun R hc => zac r rfl zmD hc) rfl ?_
 rintro _ w8 ⟨v9, rfl, hb, hr10⟩
 refine ⟨_, rfl, fun fr r => ?_⟩
 have zw8 := hb.size
 have hb1 := keep hb hb1
 have hb4 := keep hb hb4
 obtain ⟨hB, zB⟩ := bon hb hB
 refine zaf (.cells v9.cells 45 (0, 0)) r (fun R => zaq r hr10.shape rfl rfl hb4 ts45 rfl) rfl fun fr w11 u12 r => ?_
 have zw11 := u12.size
 have hb1 := u12.keep hb1 (by omega)
 have hb4 := u12.at_
 obtain ⟨hB, zB⟩ := u12.on hB (by omega)
 refine wn (wp_ret ?_)
 have hs := hr10.shape.cells
 refine zal r rfl rfl hb4 (k := 9) hs.1 ta45 ?_
 rw [← hs.2.2]
 exact rfin hF hB hr10 u12 (by omega) (by omega) (by omega)
def D.zeg (a0 : Int) (a1 : (Int → T Bool)) : T Bool := (D.zgm (⟨0, a0, 0, 0⟩ : Access) a1)
theorem zgA {n : Nat} {F : Nat → Prop} {w0 : World} (hF : ∀ b, F b → b < w0.heap.size)
    (a0 : Int) {a1f : FuncId} {a1_1 a1_2 : List Value} {a1 : (Int → T Bool)} (a1n : FnT Tryz.prog zlH u64 (n) F w0 (.func (.func a1f) a1_1.toArray a1_2.toArray) a1) :
    Calls Tryz.prog 417 #[.int .i64 a0, .func (.func a1f) a1_1.toArray a1_2.toArray] w0 (zlx Tryz.prog zlH n (D.zeg a0 a1) F w0) := by
 refine enter Tryz.func417 rfl 9 rfl rfl fun fr r => ?_
 have hB := Below.refl w0.heap.size w0
 refine wsr ?_
 refine zaa (.cells (zlo false zlH.zero 0 0 0 0 .nilFunc) 336 (0, 0)) r (fun R => zar zm2) rfl fun fr b1 w2 n3 r => ?_
 obtain ⟨eb1, zw2, hb1, hB, zB⟩ := n3.all hB
 refine wn (wsr (za0 (I a0) r (fun R => za5 r rfl) rfl fun fr r => za0 (.agg (zlz (⟨0, a0, 0, 0⟩ : Access)).toArray) r (fun R => zb4 r (by kernel_rfl)) rfl fun fr r => za0 (.func (.func a1f) a1_1.toArray a1_2.toArray) r (fun R => za5 r rfl) rfl fun fr r => ?_))
 have hF1 := zlG hF hB b1
 refine za9 r (zh7 (F := (fun b => F b ∨ (w0.heap.size ≤ b ∧ b < w2.heap.size ∧ b ≠ b1))) (n := n) hF1 (⟨0, a0, 0, 0⟩ : Access) (a1n.mono (by omega) (fun b h => .inl h) (Same.below hB hF) hB.size)) (fun R hc => zac r rfl zog hc) rfl ?_
 rintro _ w4 ⟨v5, rfl, hb, hr6⟩
 refine ⟨_, rfl, fun fr r => ?_⟩
 have zw4 := hb.size
 have hb1 := keep hb hb1
 obtain ⟨hB, zB⟩ := bon hb hB
 refine zaf (.cells v5.cells 336 (0, 0)) r (fun R => zaq r hr6.shape rfl rfl hb1 zlW rfl) rfl fun fr w7 u8 r => ?_
 have zw7 := u8.size
 have hb1 := u8.at_
 obtain ⟨hB, zB⟩ := u8.on hB (by omega)
 refine wn (wp_ret ?_)
 have hs := hr6.shape.cells
 refine zal r rfl rfl hb1 (k := 7) hs.1 zlY ?_
 rw [← hs.2.2]
 exact rfin hF hB hr6 u8 (by omega) (by omega) (by omega)
def D.zd1 (c0 : (Unit → T Int)) (a0 : Int) : T Int := (c0 ())
theorem zfT {n : Nat} {F : Nat → Prop} {w0 : World} (hF : ∀ b, F b → b < w0.heap.size)
    {c0f : FuncId} {c0_1 c0_2 : List Value} {c0 : (Unit → T Int)} {c0b : Nat} (c0F : F c0b) (c0h : w0.heap[c0b]? = some (.cells #[.func (.func c0f) c0_1.toArray c0_2.toArray] 228 (0, 0))) (c0n : FnT Tryz.prog zlq unitE (n + 1) F w0 (.func (.func c0f) c0_1.toArray c0_2.toArray) c0) (a0 : Int) :
    Calls Tryz.prog 227 #[.int .u64 a0, zp c0b] w0 (zlx Tryz.prog zlq n (D.zd1 c0 a0) F w0) := by
 refine enter Tryz.func227 rfl 6 rfl rfl fun fr r => ?_
 have hB := Below.refl w0.heap.size w0
 have lc0b := lt_of_block c0h
 refine wsr ?_
 refine zaa (.cells (zlo false zlq.zero 0 0 0 0 .nilFunc) 61 (0, 0)) r (fun R => zar tz61) rfl fun fr b1 w2 n3 r => ?_
 obtain ⟨eb1, zw2, hb1, hB, zB⟩ := n3.all hB
 refine wn (wsr (za0 (.func (.func c0f) c0_1.toArray c0_2.toArray) r (fun R => za2 r rfl (keep hB c0h) zmg rfl) rfl fun fr r => ?_))
 refine za9 r (c0n.at_.2 n (Nat.lt_succ_self n) () w2 (Same.below hB hF) hB.size) (fun R hc => zfS r rfl c0n.at_.1 hc) rfl ?_
 rintro _ w4 ⟨v5, rfl, hb, hr6⟩
 refine ⟨_, rfl, fun fr r => ?_⟩
 have zw4 := hb.size
 have hb1 := keep hb hb1
 obtain ⟨hB, zB⟩ := bon hb hB
 refine zaf (.cells v5.cells 61 (0, 0)) r (fun R => zaq r hr6.shape rfl rfl hb1 ts61 rfl) rfl fun fr w7 u8 r => ?_
 have zw7 := u8.size
 have hb1 := u8.at_
 obtain ⟨hB, zB⟩ := u8.on hB (by omega)
 refine wn (wp_ret ?_)
 have hs := hr6.shape.cells
 refine zal r rfl rfl hb1 (k := 7) hs.1 ta61 ?_
 rw [← hs.2.2]
 exact zlx.fin hB hr6 u8 (fun b hb => .inl hb) (fun h => by have := hF _ h; omega) (by omega) (by omega) (by omega)
def D.zbd (a0 : Int) (a1 : Int) (a2 : (Unit → T Int)) : T Int := (D.zeI (⟨1, a0, a1, 0⟩ : Access) (fun x => (D.zd1 a2 x)))
theorem zbK {n : Nat} {F : Nat → Prop} {w0 : World} (hF : ∀ b, F b → b < w0.heap.size)
    (a0 : Int) (a1 : Int) {a2f : FuncId} {a2_1 a2_2 : List Value} {a2 : (Unit → T Int)} (a2n : FnT Tryz.prog zlq unitE (n) F w0 (.func (.func a2f) a2_1.toArray a2_2.toArray) a2) :
    Calls Tryz.prog 129 #[.int .i64 a0, .int .u64 a1, .func (.func a2f) a2_1.toArray a2_2.toArray] w0 (zlx Tryz.prog zlq n (D.zbd a0 a1 a2) F w0) := by
 refine enter Tryz.func129 rfl 12 rfl rfl fun fr r => ?_
 have hB := Below.refl w0.heap.size w0
 refine wsr ?_
 refine zaa (.cells #[.func (.func a2f) a2_1.toArray a2_2.toArray] 228 (0, 0)) r (fun R => zlC r (v := (.func (.func a2f) a2_1.toArray a2_2.toArray)) rfl) rfl fun fr b1 w2 n3 r => ?_
 obtain ⟨eb1, zw2, hb1, hB, zB⟩ := n3.all hB
 refine zaa (.cells (zlo false zlq.zero 0 0 0 0 .nilFunc) 61 (0, 0)) r (fun R => zar tz61) rfl fun fr b4 w5 n6 r => ?_
 have hb1 := keep n6.below hb1
 obtain ⟨eb4, zw5, hb4, hB, zB⟩ := n6.all hB
 refine wn (wsr (za0 (I a0) r (fun R => za5 r rfl) rfl fun fr r => za0 (U a1) r (fun R => za5 r rfl) rfl fun fr r => za0 (.agg (zlz (⟨1, a0, a1, 0⟩ : Access)).toArray) r (fun R => zb4 r (by kernel_rfl)) rfl fun fr r => za0 (.func (.func 227) #[] #[zp b1]) r (fun R => zaL r rfl) rfl fun fr r => ?_))
 have hF1 := zlG hF hB b4
 have f7 : ((fun b => F b ∨ (w0.heap.size ≤ b ∧ b < w5.heap.size ∧ b ≠ b4))) b1 := (.inr ⟨by omega, by omega, by omega⟩)
 refine za9 r (zde (F := (fun b => F b ∨ (w0.heap.size ≤ b ∧ b < w5.heap.size ∧ b ≠ b4))) (n := n) hF1 (⟨1, a0, a1, 0⟩ : Access) ⟨227, [], [zp b1], zoW, rfl, fun m hm x w' hs hz => zfT (fun b hb => Nat.lt_of_lt_of_le (hF1 b hb) hz) f7 (hs.at_ f7 hb1) (a2n.mono (by omega) (fun b h => .inl h) ((Same.below hB hF).trans (hs.sub (fun b h => .inl h))) (Nat.le_trans hB.size hz)) x⟩) (fun R hc => zac r rfl zmb hc) rfl ?_
 rintro _ w8 ⟨v9, rfl, hb, hr10⟩
 refine ⟨_, rfl, fun fr r => ?_⟩
 have zw8 := hb.size
 have hb1 := keep hb hb1
 have hb4 := keep hb hb4
 obtain ⟨hB, zB⟩ := bon hb hB
 refine zaf (.cells v9.cells 61 (0, 0)) r (fun R => zaq r hr10.shape rfl rfl hb4 ts61 rfl) rfl fun fr w11 u12 r => ?_
 have zw11 := u12.size
 have hb1 := u12.keep hb1 (by omega)
 have hb4 := u12.at_
 obtain ⟨hB, zB⟩ := u12.on hB (by omega)
 refine wn (wp_ret ?_)
 have hs := hr10.shape.cells
 refine zal r rfl rfl hb4 (k := 7) hs.1 ta61 ?_
 rw [← hs.2.2]
 exact rfin hF hB hr10 u12 (by omega) (by omega) (by omega)
end Go.Proofs.YtfpgnmhcfkikkaaGreat
