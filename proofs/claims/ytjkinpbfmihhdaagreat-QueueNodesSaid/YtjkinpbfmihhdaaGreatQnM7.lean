/- Some of our texts, one behind the other. -/
import Derived.Test.YtjkinpbfmihhdaaGreatQnThens
import Derived.Test.YtjkinpbfmihhdaaGreatQnM3
set_option linter.all false
/- Ours. -/
set_option maxRecDepth 20000
set_option maxHeartbeats 2000000
namespace Go.Proofs.YtjkinpbfmihhdaaGreat
open Go.RowKit
theorem zre : znv Tryz.prog 224 = true := by kernel_rfl
theorem zri : znv Tryz.prog 225 = true := by kernel_rfl
theorem zrH : znv Tryz.prog 298 = true := by kernel_rfl
theorem zpN : znv Tryz.prog 317 = true := by kernel_rfl
theorem zrf : znv Tryz.prog 353 = true := by kernel_rfl
theorem zr9 : znv Tryz.prog 354 = true := by kernel_rfl
theorem zr3 : znv Tryz.prog 366 = true := by kernel_rfl
theorem zrR : znv Tryz.prog 367 = true := by kernel_rfl
theorem zqp : znv Tryz.prog 369 = true := by kernel_rfl
theorem zqJ : znv Tryz.prog 423 = true := by kernel_rfl
theorem zpj : tyO Tryz.prog 197 = true := by kernel_rfl
theorem zs0 : tyO Tryz.prog 200 = true := by kernel_rfl
theorem zoy : tyO Tryz.prog 257 = true := by kernel_rfl
theorem zrM : tyO Tryz.prog 293 = true := by kernel_rfl
theorem zqC : tyO Tryz.prog 310 = true := by kernel_rfl
def D.zfu (c0 : (Unit → T Unit)) (a0 : Int) : T Unit := (c0 ())
theorem zh1 {n : Nat} {F : Nat → Prop} {w0 : World} (hF : ∀ b, F b → b < w0.heap.size)
    {c0f : FuncId} {c0_1 c0_2 : List Value} {c0 : (Unit → T Unit)} {c0b : Nat} (c0F : F c0b) (c0h : w0.heap[c0b]? = some (.cells #[.func (.func c0f) c0_1.toArray c0_2.toArray] 310 (0, 0))) (c0n : FnT Tryz.prog znC unitE (n + 1) F w0 (.func (.func c0f) c0_1.toArray c0_2.toArray) c0) (a0 : Int) :
    Calls Tryz.prog 369 #[.int .u64 a0, zp c0b] w0 (zny Tryz.prog znC n (D.zfu c0 a0) F w0) := by
 refine enter Tryz.func369 rfl 6 rfl rfl fun fr r => ?_
 have hB := Below.refl w0.heap.size w0
 have lc0b := lt_of_block c0h
 refine wsr ?_
 refine za5 (.cells (znt false znC.zero 0 0 0 0 .nilFunc) 186 (0, 0)) r (fun R => zag zod) rfl fun fr b1 w2 n3 r => ?_
 obtain ⟨eb1, zw2, hb1, hB, zB⟩ := n3.all hB
 refine wn (wsr (za0 (.func (.func c0f) c0_1.toArray c0_2.toArray) r (fun R => za3 r rfl (keep hB c0h) zqC rfl) rfl fun fr r => ?_))
 refine za8 r (c0n.at_.2 n (Nat.lt_succ_self n) () w2 (Same.below hB hF) hB.size) (fun R hc => zfF r rfl c0n.at_.1 hc) rfl ?_
 rintro _ w4 ⟨v5, rfl, hb, hr6⟩
 refine ⟨_, rfl, fun fr r => ?_⟩
 have zw4 := hb.size
 have hb1 := keep hb hb1
 obtain ⟨hB, zB⟩ := bon hb hB
 refine zae (.cells v5.cells 186 (0, 0)) r (fun R => zaf r hr6.shape rfl rfl hb1 zo6 rfl) rfl fun fr w7 u8 r => ?_
 have zw7 := u8.size
 have hb1 := u8.at_
 obtain ⟨hB, zB⟩ := u8.on hB (by omega)
 refine wn (wp_ret ?_)
 have hs := hr6.shape.cells
 refine zad r rfl rfl hb1 (k := 6) hs.1 zo2 ?_
 rw [← hs.2.2]
 exact zny.fin hB hr6 u8 (fun b hb => .inl hb) (fun h => by have := hF _ h; omega) (by omega) (by omega) (by omega)
def D.zdQ (a0 : Int) (a1 : Int) (a2 : (Unit → T Unit)) : T Unit := (D.zik (⟨1, a0, a1, 0⟩ : Access) (fun x => (D.zfu a2 x)))
theorem zfx {n : Nat} {F : Nat → Prop} {w0 : World} (hF : ∀ b, F b → b < w0.heap.size)
    (a0 : Int) (a1 : Int) {a2f : FuncId} {a2_1 a2_2 : List Value} {a2 : (Unit → T Unit)} (a2n : FnT Tryz.prog znC unitE (n) F w0 (.func (.func a2f) a2_1.toArray a2_2.toArray) a2) :
    Calls Tryz.prog 317 #[.int .i64 a0, .int .u64 a1, .func (.func a2f) a2_1.toArray a2_2.toArray] w0 (zny Tryz.prog znC n (D.zdQ a0 a1 a2) F w0) := by
 refine enter Tryz.func317 rfl 12 rfl rfl fun fr r => ?_
 have hB := Below.refl w0.heap.size w0
 refine wsr ?_
 refine za5 (.cells #[.func (.func a2f) a2_1.toArray a2_2.toArray] 310 (0, 0)) r (fun R => znF r (v := (.func (.func a2f) a2_1.toArray a2_2.toArray)) rfl) rfl fun fr b1 w2 n3 r => ?_
 obtain ⟨eb1, zw2, hb1, hB, zB⟩ := n3.all hB
 refine za5 (.cells (znt false znC.zero 0 0 0 0 .nilFunc) 186 (0, 0)) r (fun R => zag zod) rfl fun fr b4 w5 n6 r => ?_
 have hb1 := keep n6.below hb1
 obtain ⟨eb4, zw5, hb4, hB, zB⟩ := n6.all hB
 refine wn (wsr (za0 (I a0) r (fun R => za9 r rfl) rfl fun fr r => za0 (U a1) r (fun R => za9 r rfl) rfl fun fr r => za0 (.agg (znE (⟨1, a0, a1, 0⟩ : Access)).toArray) r (fun R => zaQ r (by kernel_rfl)) rfl fun fr r => za0 (.func (.func 369) #[] #[zp b1]) r (fun R => zao r rfl) rfl fun fr r => ?_))
 have hF1 := znI hF hB b4
 have f7 : ((fun b => F b ∨ (w0.heap.size ≤ b ∧ b < w5.heap.size ∧ b ≠ b4))) b1 := (.inr ⟨by omega, by omega, by omega⟩)
 refine za8 r (zjh (F := (fun b => F b ∨ (w0.heap.size ≤ b ∧ b < w5.heap.size ∧ b ≠ b4))) (n := n) hF1 (⟨1, a0, a1, 0⟩ : Access) ⟨369, [], [zp b1], zqp, rfl, fun m hm x w' hs hz => zh1 (fun b hb => Nat.lt_of_lt_of_le (hF1 b hb) hz) f7 (hs.at_ f7 hb1) (a2n.mono (by omega) (fun b h => .inl h) ((Same.below hB hF).trans (hs.sub (fun b h => .inl h))) (Nat.le_trans hB.size hz)) x⟩) (fun R hc => zac r rfl zqs hc) rfl ?_
 rintro _ w8 ⟨v9, rfl, hb, hr10⟩
 refine ⟨_, rfl, fun fr r => ?_⟩
 have zw8 := hb.size
 have hb1 := keep hb hb1
 have hb4 := keep hb hb4
 obtain ⟨hB, zB⟩ := bon hb hB
 refine zae (.cells v9.cells 186 (0, 0)) r (fun R => zaf r hr10.shape rfl rfl hb4 zo6 rfl) rfl fun fr w11 u12 r => ?_
 have zw11 := u12.size
 have hb1 := u12.keep hb1 (by omega)
 have hb4 := u12.at_
 obtain ⟨hB, zB⟩ := u12.on hB (by omega)
 refine wn (wp_ret ?_)
 have hs := hr10.shape.cells
 refine zad r rfl rfl hb4 (k := 6) hs.1 zo2 ?_
 rw [← hs.2.2]
 exact rfin hF hB hr10 u12 (by omega) (by omega) (by omega)
def D.zjw  : T Unit := D.zgW
theorem zk9 {n : Nat} {F : Nat → Prop} {w0 : World} (hF : ∀ b, F b → b < w0.heap.size)
     :
    Calls Tryz.prog 366 #[] w0 (zny Tryz.prog znC n D.zjw F w0) := by
 refine enter Tryz.func366 rfl 3 rfl rfl fun fr r => ?_
 have hB := Below.refl w0.heap.size w0
 refine wsr ?_
 refine za5 (.cells (znt false znC.zero 0 0 0 0 .nilFunc) 186 (0, 0)) r (fun R => zag zod) rfl fun fr b1 w2 n3 r => ?_
 obtain ⟨eb1, zw2, hb1, hB, zB⟩ := n3.all hB
 refine wn (wsr (za0 (.agg #[]) r (fun R => zaQ r (by kernel_rfl)) rfl fun fr r => ?_))
 have hF1 := znI hF hB b1
 refine za8 r (zis (F := (fun b => F b ∨ (w0.heap.size ≤ b ∧ b < w2.heap.size ∧ b ≠ b1))) (n := n) hF1 ) (fun R hc => zac r rfl zrR hc) rfl ?_
 rintro _ w4 ⟨v5, rfl, hb, hr6⟩
 refine ⟨_, rfl, fun fr r => ?_⟩
 have zw4 := hb.size
 have hb1 := keep hb hb1
 obtain ⟨hB, zB⟩ := bon hb hB
 refine zae (.cells v5.cells 186 (0, 0)) r (fun R => zaf r hr6.shape rfl rfl hb1 zo6 rfl) rfl fun fr w7 u8 r => ?_
 have zw7 := u8.size
 have hb1 := u8.at_
 obtain ⟨hB, zB⟩ := u8.on hB (by omega)
 refine wn (wp_ret ?_)
 have hs := hr6.shape.cells
 refine zad r rfl rfl hb1 (k := 6) hs.1 zo2 ?_
 rw [← hs.2.2]
 exact rfin hF hB hr6 u8 (by omega) (by omega) (by omega)
def D.zhF (a0 : Int) (a1 : Int) : T Unit := (D.zdQ a0 a1 (fun _ => D.zjw))
theorem zjj {n : Nat} {F : Nat → Prop} {w0 : World} (hF : ∀ b, F b → b < w0.heap.size)
    (a0 : Int) (a1 : Int) :
    Calls Tryz.prog 315 #[.int .i64 a0, .int .u64 a1] w0 (zny Tryz.prog znC n (D.zhF a0 a1) F w0) := by
 refine enter Tryz.func315 rfl 8 rfl rfl fun fr r => ?_
 have hB := Below.refl w0.heap.size w0
 refine wsr ?_
 refine za5 (.cells (znt false znC.zero 0 0 0 0 .nilFunc) 186 (0, 0)) r (fun R => zag zod) rfl fun fr b1 w2 n3 r => ?_
 obtain ⟨eb1, zw2, hb1, hB, zB⟩ := n3.all hB
 refine wn (wsr (za0 (I a0) r (fun R => za9 r rfl) rfl fun fr r => za0 (U a1) r (fun R => za9 r rfl) rfl fun fr r => ?_))
 have hF1 := znI hF hB b1
 refine za8 r (zfx (F := (fun b => F b ∨ (w0.heap.size ≤ b ∧ b < w2.heap.size ∧ b ≠ b1))) (n := n) hF1 a0 a1 ⟨366, [], [], zr3, rfl, fun m hm _ w' hs hz => zk9 (fun b hb => Nat.lt_of_lt_of_le (hF1 b hb) hz) ⟩) (fun R hc => zac r rfl zpN hc) rfl ?_
 rintro _ w4 ⟨v5, rfl, hb, hr6⟩
 refine ⟨_, rfl, fun fr r => ?_⟩
 have zw4 := hb.size
 have hb1 := keep hb hb1
 obtain ⟨hB, zB⟩ := bon hb hB
 refine zae (.cells v5.cells 186 (0, 0)) r (fun R => zaf r hr6.shape rfl rfl hb1 zo6 rfl) rfl fun fr w7 u8 r => ?_
 have zw7 := u8.size
 have hb1 := u8.at_
 obtain ⟨hB, zB⟩ := u8.on hB (by omega)
 refine wn (wp_ret ?_)
 have hs := hr6.shape.cells
 refine zad r rfl rfl hb1 (k := 6) hs.1 zo2 ?_
 rw [← hs.2.2]
 exact rfin hF hB hr6 u8 (by omega) (by omega) (by omega)
def D.zb9 (a0 : Int) (a1 : (Int → T Int)) : T Int := (D.zfK (⟨0, a0, 0, 0⟩ : Access) a1)
theorem zbG {n : Nat} {F : Nat → Prop} {w0 : World} (hF : ∀ b, F b → b < w0.heap.size)
    (a0 : Int) {a1f : FuncId} {a1_1 a1_2 : List Value} {a1 : (Int → T Int)} (a1n : FnT Tryz.prog znz u64 (n) F w0 (.func (.func a1f) a1_1.toArray a1_2.toArray) a1) :
    Calls Tryz.prog 198 #[.int .i64 a0, .func (.func a1f) a1_1.toArray a1_2.toArray] w0 (zny Tryz.prog znz n (D.zb9 a0 a1) F w0) := by
 refine enter Tryz.func198 rfl 9 rfl rfl fun fr r => ?_
 have hB := Below.refl w0.heap.size w0
 refine wsr ?_
 refine za5 (.cells (znt false znz.zero 0 0 0 0 .nilFunc) 167 (0, 0)) r (fun R => zag znV) rfl fun fr b1 w2 n3 r => ?_
 obtain ⟨eb1, zw2, hb1, hB, zB⟩ := n3.all hB
 refine wn (wsr (za0 (I a0) r (fun R => za9 r rfl) rfl fun fr r => za0 (.agg (znE (⟨0, a0, 0, 0⟩ : Access)).toArray) r (fun R => zaQ r (by kernel_rfl)) rfl fun fr r => za0 (.func (.func a1f) a1_1.toArray a1_2.toArray) r (fun R => za9 r rfl) rfl fun fr r => ?_))
 have hF1 := znI hF hB b1
 refine za8 r (zdX (F := (fun b => F b ∨ (w0.heap.size ≤ b ∧ b < w2.heap.size ∧ b ≠ b1))) (n := n) hF1 (⟨0, a0, 0, 0⟩ : Access) (a1n.mono (by omega) (fun b h => .inl h) (Same.below hB hF) hB.size)) (fun R hc => zac r rfl zoG hc) rfl ?_
 rintro _ w4 ⟨v5, rfl, hb, hr6⟩
 refine ⟨_, rfl, fun fr r => ?_⟩
 have zw4 := hb.size
 have hb1 := keep hb hb1
 obtain ⟨hB, zB⟩ := bon hb hB
 refine zae (.cells v5.cells 167 (0, 0)) r (fun R => zaf r hr6.shape rfl rfl hb1 znT rfl) rfl fun fr w7 u8 r => ?_
 have zw7 := u8.size
 have hb1 := u8.at_
 obtain ⟨hB, zB⟩ := u8.on hB (by omega)
 refine wn (wp_ret ?_)
 have hs := hr6.shape.cells
 refine zad r rfl rfl hb1 (k := 7) hs.1 znS ?_
 rw [← hs.2.2]
 exact rfin hF hB hr6 u8 (by omega) (by omega) (by omega)
def D.zcy (c0 : (Bool → T Int)) (c1 : Int) (a0 : Int) : T Int := (c0 (a0 == c1))
theorem zhR {n : Nat} {F : Nat → Prop} {w0 : World} (hF : ∀ b, F b → b < w0.heap.size)
    {c0f : FuncId} {c0_1 c0_2 : List Value} {c0 : (Bool → T Int)} {c0b : Nat} (c0F : F c0b) (c0h : w0.heap[c0b]? = some (.cells #[.func (.func c0f) c0_1.toArray c0_2.toArray] 297 (0, 0))) (c0n : FnT Tryz.prog znz boolE (n + 1) F w0 (.func (.func c0f) c0_1.toArray c0_2.toArray) c0) (c1 : Int) {c1b : Nat} (c1F : F c1b) (c1h : w0.heap[c1b]? = some (.cells ([(.int .u64 c1)]).toArray 22 (0, 0))) (a0 : Int) :
    Calls Tryz.prog 354 #[.int .u64 a0, zp c0b, zp c1b] w0 (zny Tryz.prog znz n (D.zcy c0 c1 a0) F w0) := by
 refine enter Tryz.func354 rfl 10 rfl rfl fun fr r => ?_
 have hB := Below.refl w0.heap.size w0
 have lc0b := lt_of_block c0h
 have lc1b := lt_of_block c1h
 refine wsr ?_
 refine za5 (.cells (znt false znz.zero 0 0 0 0 .nilFunc) 167 (0, 0)) r (fun R => zag znV) rfl fun fr b1 w2 n3 r => ?_
 obtain ⟨eb1, zw2, hb1, hB, zB⟩ := n3.all hB
 refine wn (wsr (za0 (.func (.func c0f) c0_1.toArray c0_2.toArray) r (fun R => za3 r rfl (keep hB c0h) zpv rfl) rfl fun fr r => za0 (U a0) r (fun R => za9 r rfl) rfl fun fr r => za0 (U c1) r (fun R => za3 r rfl (keep hB c1h) to22 rfl) rfl fun fr r => za0 _ r (fun R => znA r rfl rfl rfl rfl) rfl fun fr r => ?_))
 refine za8 r (c0n.at_.2 n (Nat.lt_succ_self n) (a0 == c1) w2 (Same.below hB hF) hB.size) (fun R hc => zdi r rfl rfl c0n.at_.1 hc) rfl ?_
 rintro _ w4 ⟨v5, rfl, hb, hr6⟩
 refine ⟨_, rfl, fun fr r => ?_⟩
 have zw4 := hb.size
 have hb1 := keep hb hb1
 obtain ⟨hB, zB⟩ := bon hb hB
 refine zae (.cells v5.cells 167 (0, 0)) r (fun R => zaf r hr6.shape rfl rfl hb1 znT rfl) rfl fun fr w7 u8 r => ?_
 have zw7 := u8.size
 have hb1 := u8.at_
 obtain ⟨hB, zB⟩ := u8.on hB (by omega)
 refine wn (wp_ret ?_)
 have hs := hr6.shape.cells
 refine zad r rfl rfl hb1 (k := 7) hs.1 znS ?_
 rw [← hs.2.2]
 exact zny.fin hB hr6 u8 (fun b hb => .inl hb) (fun h => by have := hF _ h; omega) (by omega) (by omega) (by omega)
def D.zfJ (a0 : Int) (a1 : Int) (a2 : Int) (a3 : (Bool → T Int)) : T Int := (D.zfK (⟨2, a0, a1, a2⟩ : Access) (fun x => (D.zcy a3 a1 x)))
theorem zgo {n : Nat} {F : Nat → Prop} {w0 : World} (hF : ∀ b, F b → b < w0.heap.size)
    (a0 : Int) (a1 : Int) (a2 : Int) {a3f : FuncId} {a3_1 a3_2 : List Value} {a3 : (Bool → T Int)} (a3n : FnT Tryz.prog znz boolE (n) F w0 (.func (.func a3f) a3_1.toArray a3_2.toArray) a3) :
    Calls Tryz.prog 290 #[.int .i64 a0, .int .u64 a1, .int .u64 a2, .func (.func a3f) a3_1.toArray a3_2.toArray] w0 (zny Tryz.prog znz n (D.zfJ a0 a1 a2 a3) F w0) := by
 refine enter Tryz.func290 rfl 15 rfl rfl fun fr r => ?_
 have hB := Below.refl w0.heap.size w0
 refine wsr ?_
 refine za5 (.cells #[(U a1)] 22 (0, 0)) r (fun R => znF r (v := (U a1)) rfl) rfl fun fr b1 w2 n3 r => ?_
 obtain ⟨eb1, zw2, hb1, hB, zB⟩ := n3.all hB
 refine za5 (.cells #[.func (.func a3f) a3_1.toArray a3_2.toArray] 297 (0, 0)) r (fun R => znF r (v := (.func (.func a3f) a3_1.toArray a3_2.toArray)) rfl) rfl fun fr b4 w5 n6 r => ?_
 have hb1 := keep n6.below hb1
 obtain ⟨eb4, zw5, hb4, hB, zB⟩ := n6.all hB
 refine za5 (.cells (znt false znz.zero 0 0 0 0 .nilFunc) 167 (0, 0)) r (fun R => zag znV) rfl fun fr b7 w8 n9 r => ?_
 have hb1 := keep n9.below hb1
 have hb4 := keep n9.below hb4
 obtain ⟨eb7, zw8, hb7, hB, zB⟩ := n9.all hB
 refine wn (wsr (za0 (I a0) r (fun R => za9 r rfl) rfl fun fr r => za0 (U a1) r (fun R => za3 r rfl hb1 to22 rfl) rfl fun fr r => za0 (U a2) r (fun R => za9 r rfl) rfl fun fr r => za0 (.agg (znE (⟨2, a0, a1, a2⟩ : Access)).toArray) r (fun R => zaQ r (by kernel_rfl)) rfl fun fr r => za0 (.func (.func 354) #[] #[zp b4, zp b1]) r (fun R => zao r rfl) rfl fun fr r => ?_))
 have hF1 := znI hF hB b7
 have f10 : ((fun b => F b ∨ (w0.heap.size ≤ b ∧ b < w8.heap.size ∧ b ≠ b7))) b4 := (.inr ⟨by omega, by omega, by omega⟩)
 have f11 : ((fun b => F b ∨ (w0.heap.size ≤ b ∧ b < w8.heap.size ∧ b ≠ b7))) b1 := (.inr ⟨by omega, by omega, by omega⟩)
 refine za8 r (zdX (F := (fun b => F b ∨ (w0.heap.size ≤ b ∧ b < w8.heap.size ∧ b ≠ b7))) (n := n) hF1 (⟨2, a0, a1, a2⟩ : Access) ⟨354, [], [zp b4, zp b1], zr9, rfl, fun m hm x w' hs hz => zhR (fun b hb => Nat.lt_of_lt_of_le (hF1 b hb) hz) f10 (hs.at_ f10 hb4) (a3n.mono (by omega) (fun b h => .inl h) ((Same.below hB hF).trans (hs.sub (fun b h => .inl h))) (Nat.le_trans hB.size hz)) a1 f11 (hs.at_ f11 hb1) x⟩) (fun R hc => zac r rfl zoG hc) rfl ?_
 rintro _ w12 ⟨v13, rfl, hb, hr14⟩
 refine ⟨_, rfl, fun fr r => ?_⟩
 have zw12 := hb.size
 have hb1 := keep hb hb1
 have hb4 := keep hb hb4
 have hb7 := keep hb hb7
 obtain ⟨hB, zB⟩ := bon hb hB
 refine zae (.cells v13.cells 167 (0, 0)) r (fun R => zaf r hr14.shape rfl rfl hb7 znT rfl) rfl fun fr w15 u16 r => ?_
 have zw15 := u16.size
 have hb1 := u16.keep hb1 (by omega)
 have hb4 := u16.keep hb4 (by omega)
 have hb7 := u16.at_
 obtain ⟨hB, zB⟩ := u16.on hB (by omega)
 refine wn (wp_ret ?_)
 have hs := hr14.shape.cells
 refine zad r rfl rfl hb7 (k := 7) hs.1 znS ?_
 rw [← hs.2.2]
 exact rfin hF hB hr14 u16 (by omega) (by omega) (by omega)
def D.zeR (a0 : Int) (a1 : (Int → T Grant)) : T Grant := (D.zfE (⟨0, a0, 0, 0⟩ : Access) a1)
theorem zi6 {n : Nat} {F : Nat → Prop} {w0 : World} (hF : ∀ b, F b → b < w0.heap.size)
    (a0 : Int) {a1f : FuncId} {a1_1 a1_2 : List Value} {a1 : (Int → T Grant)} (a1n : FnT Tryz.prog znG u64 (n) F w0 (.func (.func a1f) a1_1.toArray a1_2.toArray) a1) :
    Calls Tryz.prog 281 #[.int .i64 a0, .func (.func a1f) a1_1.toArray a1_2.toArray] w0 (zny Tryz.prog znG n (D.zeR a0 a1) F w0) := by
 refine enter Tryz.func281 rfl 9 rfl rfl fun fr r => ?_
 have hB := Below.refl w0.heap.size w0
 refine wsr ?_
 refine za5 (.cells (znt false znG.zero 0 0 0 0 .nilFunc) 158 (0, 0)) r (fun R => zag zo7) rfl fun fr b1 w2 n3 r => ?_
 obtain ⟨eb1, zw2, hb1, hB, zB⟩ := n3.all hB
 refine wn (wsr (za0 (I a0) r (fun R => za9 r rfl) rfl fun fr r => za0 (.agg (znE (⟨0, a0, 0, 0⟩ : Access)).toArray) r (fun R => zaQ r (by kernel_rfl)) rfl fun fr r => za0 (.func (.func a1f) a1_1.toArray a1_2.toArray) r (fun R => za9 r rfl) rfl fun fr r => ?_))
 have hF1 := znI hF hB b1
 refine za8 r (zf0 (F := (fun b => F b ∨ (w0.heap.size ≤ b ∧ b < w2.heap.size ∧ b ≠ b1))) (n := n) hF1 (⟨0, a0, 0, 0⟩ : Access) (a1n.mono (by omega) (fun b h => .inl h) (Same.below hB hF) hB.size)) (fun R hc => zac r rfl zpl hc) rfl ?_
 rintro _ w4 ⟨v5, rfl, hb, hr6⟩
 refine ⟨_, rfl, fun fr r => ?_⟩
 have zw4 := hb.size
 have hb1 := keep hb hb1
 obtain ⟨hB, zB⟩ := bon hb hB
 refine zae (.cells v5.cells 158 (0, 0)) r (fun R => zaf r hr6.shape rfl rfl hb1 zo3 rfl) rfl fun fr w7 u8 r => ?_
 have zw7 := u8.size
 have hb1 := u8.at_
 obtain ⟨hB, zB⟩ := u8.on hB (by omega)
 refine wn (wp_ret ?_)
 have hs := hr6.shape.cells
 refine zad r rfl rfl hb1 (k := 9) hs.1 zo4 ?_
 rw [← hs.2.2]
 exact rfin hF hB hr6 u8 (by omega) (by omega) (by omega)
def D.zfd (c0 : (Unit → T Grant)) (a0 : Int) : T Grant := (c0 ())
theorem zgM {n : Nat} {F : Nat → Prop} {w0 : World} (hF : ∀ b, F b → b < w0.heap.size)
    {c0f : FuncId} {c0_1 c0_2 : List Value} {c0 : (Unit → T Grant)} {c0b : Nat} (c0F : F c0b) (c0h : w0.heap[c0b]? = some (.cells #[.func (.func c0f) c0_1.toArray c0_2.toArray] 293 (0, 0))) (c0n : FnT Tryz.prog znG unitE (n + 1) F w0 (.func (.func c0f) c0_1.toArray c0_2.toArray) c0) (a0 : Int) :
    Calls Tryz.prog 353 #[.int .u64 a0, zp c0b] w0 (zny Tryz.prog znG n (D.zfd c0 a0) F w0) := by
 refine enter Tryz.func353 rfl 6 rfl rfl fun fr r => ?_
 have hB := Below.refl w0.heap.size w0
 have lc0b := lt_of_block c0h
 refine wsr ?_
 refine za5 (.cells (znt false znG.zero 0 0 0 0 .nilFunc) 158 (0, 0)) r (fun R => zag zo7) rfl fun fr b1 w2 n3 r => ?_
 obtain ⟨eb1, zw2, hb1, hB, zB⟩ := n3.all hB
 refine wn (wsr (za0 (.func (.func c0f) c0_1.toArray c0_2.toArray) r (fun R => za3 r rfl (keep hB c0h) zrM rfl) rfl fun fr r => ?_))
 refine za8 r (c0n.at_.2 n (Nat.lt_succ_self n) () w2 (Same.below hB hF) hB.size) (fun R hc => zfF r rfl c0n.at_.1 hc) rfl ?_
 rintro _ w4 ⟨v5, rfl, hb, hr6⟩
 refine ⟨_, rfl, fun fr r => ?_⟩
 have zw4 := hb.size
 have hb1 := keep hb hb1
 obtain ⟨hB, zB⟩ := bon hb hB
 refine zae (.cells v5.cells 158 (0, 0)) r (fun R => zaf r hr6.shape rfl rfl hb1 zo3 rfl) rfl fun fr w7 u8 r => ?_
 have zw7 := u8.size
 have hb1 := u8.at_
 obtain ⟨hB, zB⟩ := u8.on hB (by omega)
 refine wn (wp_ret ?_)
 have hs := hr6.shape.cells
 refine zad r rfl rfl hb1 (k := 9) hs.1 zo4 ?_
 rw [← hs.2.2]
 exact zny.fin hB hr6 u8 (fun b hb => .inl hb) (fun h => by have := hF _ h; omega) (by omega) (by omega) (by omega)
def D.zev (a0 : Int) (a1 : Int) (a2 : (Unit → T Grant)) : T Grant := (D.zfE (⟨1, a0, a1, 0⟩ : Access) (fun x => (D.zfd a2 x)))
theorem zhs {n : Nat} {F : Nat → Prop} {w0 : World} (hF : ∀ b, F b → b < w0.heap.size)
    (a0 : Int) (a1 : Int) {a2f : FuncId} {a2_1 a2_2 : List Value} {a2 : (Unit → T Grant)} (a2n : FnT Tryz.prog znG unitE (n) F w0 (.func (.func a2f) a2_1.toArray a2_2.toArray) a2) :
    Calls Tryz.prog 283 #[.int .i64 a0, .int .u64 a1, .func (.func a2f) a2_1.toArray a2_2.toArray] w0 (zny Tryz.prog znG n (D.zev a0 a1 a2) F w0) := by
 refine enter Tryz.func283 rfl 12 rfl rfl fun fr r => ?_
 have hB := Below.refl w0.heap.size w0
 refine wsr ?_
 refine za5 (.cells #[.func (.func a2f) a2_1.toArray a2_2.toArray] 293 (0, 0)) r (fun R => znF r (v := (.func (.func a2f) a2_1.toArray a2_2.toArray)) rfl) rfl fun fr b1 w2 n3 r => ?_
 obtain ⟨eb1, zw2, hb1, hB, zB⟩ := n3.all hB
 refine za5 (.cells (znt false znG.zero 0 0 0 0 .nilFunc) 158 (0, 0)) r (fun R => zag zo7) rfl fun fr b4 w5 n6 r => ?_
 have hb1 := keep n6.below hb1
 obtain ⟨eb4, zw5, hb4, hB, zB⟩ := n6.all hB
 refine wn (wsr (za0 (I a0) r (fun R => za9 r rfl) rfl fun fr r => za0 (U a1) r (fun R => za9 r rfl) rfl fun fr r => za0 (.agg (znE (⟨1, a0, a1, 0⟩ : Access)).toArray) r (fun R => zaQ r (by kernel_rfl)) rfl fun fr r => za0 (.func (.func 353) #[] #[zp b1]) r (fun R => zao r rfl) rfl fun fr r => ?_))
 have hF1 := znI hF hB b4
 have f7 : ((fun b => F b ∨ (w0.heap.size ≤ b ∧ b < w5.heap.size ∧ b ≠ b4))) b1 := (.inr ⟨by omega, by omega, by omega⟩)
 refine za8 r (zf0 (F := (fun b => F b ∨ (w0.heap.size ≤ b ∧ b < w5.heap.size ∧ b ≠ b4))) (n := n) hF1 (⟨1, a0, a1, 0⟩ : Access) ⟨353, [], [zp b1], zrf, rfl, fun m hm x w' hs hz => zgM (fun b hb => Nat.lt_of_lt_of_le (hF1 b hb) hz) f7 (hs.at_ f7 hb1) (a2n.mono (by omega) (fun b h => .inl h) ((Same.below hB hF).trans (hs.sub (fun b h => .inl h))) (Nat.le_trans hB.size hz)) x⟩) (fun R hc => zac r rfl zpl hc) rfl ?_
 rintro _ w8 ⟨v9, rfl, hb, hr10⟩
 refine ⟨_, rfl, fun fr r => ?_⟩
 have zw8 := hb.size
 have hb1 := keep hb hb1
 have hb4 := keep hb hb4
 obtain ⟨hB, zB⟩ := bon hb hB
 refine zae (.cells v9.cells 158 (0, 0)) r (fun R => zaf r hr10.shape rfl rfl hb4 zo3 rfl) rfl fun fr w11 u12 r => ?_
 have zw11 := u12.size
 have hb1 := u12.keep hb1 (by omega)
 have hb4 := u12.at_
 obtain ⟨hB, zB⟩ := u12.on hB (by omega)
 refine wn (wp_ret ?_)
 have hs := hr10.shape.cells
 refine zad r rfl rfl hb4 (k := 9) hs.1 zo4 ?_
 rw [← hs.2.2]
 exact rfin hF hB hr10 u12 (by omega) (by omega) (by omega)
def D.zfi (a0 : Int) (a1 : (Int → T Bool)) : T Bool := (D.zig (⟨0, a0, 0, 0⟩ : Access) a1)
theorem zim {n : Nat} {F : Nat → Prop} {w0 : World} (hF : ∀ b, F b → b < w0.heap.size)
    (a0 : Int) {a1f : FuncId} {a1_1 a1_2 : List Value} {a1 : (Int → T Bool)} (a1n : FnT Tryz.prog znP u64 (n) F w0 (.func (.func a1f) a1_1.toArray a1_2.toArray) a1) :
    Calls Tryz.prog 414 #[.int .i64 a0, .func (.func a1f) a1_1.toArray a1_2.toArray] w0 (zny Tryz.prog znP n (D.zfi a0 a1) F w0) := by
 refine enter Tryz.func414 rfl 9 rfl rfl fun fr r => ?_
 have hB := Below.refl w0.heap.size w0
 refine wsr ?_
 refine za5 (.cells (znt false znP.zero 0 0 0 0 .nilFunc) 324 (0, 0)) r (fun R => zag zox) rfl fun fr b1 w2 n3 r => ?_
 obtain ⟨eb1, zw2, hb1, hB, zB⟩ := n3.all hB
 refine wn (wsr (za0 (I a0) r (fun R => za9 r rfl) rfl fun fr r => za0 (.agg (znE (⟨0, a0, 0, 0⟩ : Access)).toArray) r (fun R => zaQ r (by kernel_rfl)) rfl fun fr r => za0 (.func (.func a1f) a1_1.toArray a1_2.toArray) r (fun R => za9 r rfl) rfl fun fr r => ?_))
 have hF1 := znI hF hB b1
 refine za8 r (zja (F := (fun b => F b ∨ (w0.heap.size ≤ b ∧ b < w2.heap.size ∧ b ≠ b1))) (n := n) hF1 (⟨0, a0, 0, 0⟩ : Access) (a1n.mono (by omega) (fun b h => .inl h) (Same.below hB hF) hB.size)) (fun R hc => zac r rfl zqJ hc) rfl ?_
 rintro _ w4 ⟨v5, rfl, hb, hr6⟩
 refine ⟨_, rfl, fun fr r => ?_⟩
 have zw4 := hb.size
 have hb1 := keep hb hb1
 obtain ⟨hB, zB⟩ := bon hb hB
 refine zae (.cells v5.cells 324 (0, 0)) r (fun R => zaf r hr6.shape rfl rfl hb1 zol rfl) rfl fun fr w7 u8 r => ?_
 have zw7 := u8.size
 have hb1 := u8.at_
 obtain ⟨hB, zB⟩ := u8.on hB (by omega)
 refine wn (wp_ret ?_)
 have hs := hr6.shape.cells
 refine zad r rfl rfl hb1 (k := 7) hs.1 zom ?_
 rw [← hs.2.2]
 exact rfin hF hB hr6 u8 (by omega) (by omega) (by omega)
def D.zdv (c0 : (Unit → T Int)) (a0 : Int) : T Int := (c0 ())
theorem zhl {n : Nat} {F : Nat → Prop} {w0 : World} (hF : ∀ b, F b → b < w0.heap.size)
    {c0f : FuncId} {c0_1 c0_2 : List Value} {c0 : (Unit → T Int)} {c0b : Nat} (c0F : F c0b) (c0h : w0.heap[c0b]? = some (.cells #[.func (.func c0f) c0_1.toArray c0_2.toArray] 257 (0, 0))) (c0n : FnT Tryz.prog znz unitE (n + 1) F w0 (.func (.func c0f) c0_1.toArray c0_2.toArray) c0) (a0 : Int) :
    Calls Tryz.prog 298 #[.int .u64 a0, zp c0b] w0 (zny Tryz.prog znz n (D.zdv c0 a0) F w0) := by
 refine enter Tryz.func298 rfl 6 rfl rfl fun fr r => ?_
 have hB := Below.refl w0.heap.size w0
 have lc0b := lt_of_block c0h
 refine wsr ?_
 refine za5 (.cells (znt false znz.zero 0 0 0 0 .nilFunc) 167 (0, 0)) r (fun R => zag znV) rfl fun fr b1 w2 n3 r => ?_
 obtain ⟨eb1, zw2, hb1, hB, zB⟩ := n3.all hB
 refine wn (wsr (za0 (.func (.func c0f) c0_1.toArray c0_2.toArray) r (fun R => za3 r rfl (keep hB c0h) zoy rfl) rfl fun fr r => ?_))
 refine za8 r (c0n.at_.2 n (Nat.lt_succ_self n) () w2 (Same.below hB hF) hB.size) (fun R hc => zfF r rfl c0n.at_.1 hc) rfl ?_
 rintro _ w4 ⟨v5, rfl, hb, hr6⟩
 refine ⟨_, rfl, fun fr r => ?_⟩
 have zw4 := hb.size
 have hb1 := keep hb hb1
 obtain ⟨hB, zB⟩ := bon hb hB
 refine zae (.cells v5.cells 167 (0, 0)) r (fun R => zaf r hr6.shape rfl rfl hb1 znT rfl) rfl fun fr w7 u8 r => ?_
 have zw7 := u8.size
 have hb1 := u8.at_
 obtain ⟨hB, zB⟩ := u8.on hB (by omega)
 refine wn (wp_ret ?_)
 have hs := hr6.shape.cells
 refine zad r rfl rfl hb1 (k := 7) hs.1 znS ?_
 rw [← hs.2.2]
 exact zny.fin hB hr6 u8 (fun b hb => .inl hb) (fun h => by have := hF _ h; omega) (by omega) (by omega) (by omega)
def D.zbe (a0 : Int) (a1 : Int) (a2 : (Unit → T Int)) : T Int := (D.zfK (⟨1, a0, a1, 0⟩ : Access) (fun x => (D.zdv a2 x)))
theorem zbK {n : Nat} {F : Nat → Prop} {w0 : World} (hF : ∀ b, F b → b < w0.heap.size)
    (a0 : Int) (a1 : Int) {a2f : FuncId} {a2_1 a2_2 : List Value} {a2 : (Unit → T Int)} (a2n : FnT Tryz.prog znz unitE (n) F w0 (.func (.func a2f) a2_1.toArray a2_2.toArray) a2) :
    Calls Tryz.prog 200 #[.int .i64 a0, .int .u64 a1, .func (.func a2f) a2_1.toArray a2_2.toArray] w0 (zny Tryz.prog znz n (D.zbe a0 a1 a2) F w0) := by
 refine enter Tryz.func200 rfl 12 rfl rfl fun fr r => ?_
 have hB := Below.refl w0.heap.size w0
 refine wsr ?_
 refine za5 (.cells #[.func (.func a2f) a2_1.toArray a2_2.toArray] 257 (0, 0)) r (fun R => znF r (v := (.func (.func a2f) a2_1.toArray a2_2.toArray)) rfl) rfl fun fr b1 w2 n3 r => ?_
 obtain ⟨eb1, zw2, hb1, hB, zB⟩ := n3.all hB
 refine za5 (.cells (znt false znz.zero 0 0 0 0 .nilFunc) 167 (0, 0)) r (fun R => zag znV) rfl fun fr b4 w5 n6 r => ?_
 have hb1 := keep n6.below hb1
 obtain ⟨eb4, zw5, hb4, hB, zB⟩ := n6.all hB
 refine wn (wsr (za0 (I a0) r (fun R => za9 r rfl) rfl fun fr r => za0 (U a1) r (fun R => za9 r rfl) rfl fun fr r => za0 (.agg (znE (⟨1, a0, a1, 0⟩ : Access)).toArray) r (fun R => zaQ r (by kernel_rfl)) rfl fun fr r => za0 (.func (.func 298) #[] #[zp b1]) r (fun R => zao r rfl) rfl fun fr r => ?_))
 have hF1 := znI hF hB b4
 have f7 : ((fun b => F b ∨ (w0.heap.size ≤ b ∧ b < w5.heap.size ∧ b ≠ b4))) b1 := (.inr ⟨by omega, by omega, by omega⟩)
 refine za8 r (zdX (F := (fun b => F b ∨ (w0.heap.size ≤ b ∧ b < w5.heap.size ∧ b ≠ b4))) (n := n) hF1 (⟨1, a0, a1, 0⟩ : Access) ⟨298, [], [zp b1], zrH, rfl, fun m hm x w' hs hz => zhl (fun b hb => Nat.lt_of_lt_of_le (hF1 b hb) hz) f7 (hs.at_ f7 hb1) (a2n.mono (by omega) (fun b h => .inl h) ((Same.below hB hF).trans (hs.sub (fun b h => .inl h))) (Nat.le_trans hB.size hz)) x⟩) (fun R hc => zac r rfl zoG hc) rfl ?_
 rintro _ w8 ⟨v9, rfl, hb, hr10⟩
 refine ⟨_, rfl, fun fr r => ?_⟩
 have zw8 := hb.size
 have hb1 := keep hb hb1
 have hb4 := keep hb hb4
 obtain ⟨hB, zB⟩ := bon hb hB
 refine zae (.cells v9.cells 167 (0, 0)) r (fun R => zaf r hr10.shape rfl rfl hb4 znT rfl) rfl fun fr w11 u12 r => ?_
 have zw11 := u12.size
 have hb1 := u12.keep hb1 (by omega)
 have hb4 := u12.at_
 obtain ⟨hB, zB⟩ := u12.on hB (by omega)
 refine wn (wp_ret ?_)
 have hs := hr10.shape.cells
 refine zad r rfl rfl hb4 (k := 7) hs.1 znS ?_
 rw [← hs.2.2]
 exact rfin hF hB hr10 u12 (by omega) (by omega) (by omega)
def D.zc8 (a0 : Int) (a1 : (Int → T Res)) : T Res := (D.zfT (⟨0, a0, 0, 0⟩ : Access) a1)
theorem zcG {n : Nat} {F : Nat → Prop} {w0 : World} (hF : ∀ b, F b → b < w0.heap.size)
    (a0 : Int) {a1f : FuncId} {a1_1 a1_2 : List Value} {a1 : (Int → T Res)} (a1n : FnT Tryz.prog znx u64 (n) F w0 (.func (.func a1f) a1_1.toArray a1_2.toArray) a1) :
    Calls Tryz.prog 123 #[.int .i64 a0, .func (.func a1f) a1_1.toArray a1_2.toArray] w0 (zny Tryz.prog znx n (D.zc8 a0 a1) F w0) := by
 refine enter Tryz.func123 rfl 9 rfl rfl fun fr r => ?_
 have hB := Below.refl w0.heap.size w0
 refine wsr ?_
 refine za5 (.cells (znt false znx.zero 0 0 0 0 .nilFunc) 39 (0, 0)) r (fun R => zag tz39) rfl fun fr b1 w2 n3 r => ?_
 obtain ⟨eb1, zw2, hb1, hB, zB⟩ := n3.all hB
 refine wn (wsr (za0 (I a0) r (fun R => za9 r rfl) rfl fun fr r => za0 (.agg (znE (⟨0, a0, 0, 0⟩ : Access)).toArray) r (fun R => zaQ r (by kernel_rfl)) rfl fun fr r => za0 (.func (.func a1f) a1_1.toArray a1_2.toArray) r (fun R => za9 r rfl) rfl fun fr r => ?_))
 have hF1 := znI hF hB b1
 refine za8 r (zcM (F := (fun b => F b ∨ (w0.heap.size ≤ b ∧ b < w2.heap.size ∧ b ≠ b1))) (n := n) hF1 (⟨0, a0, 0, 0⟩ : Access) (a1n.mono (by omega) (fun b h => .inl h) (Same.below hB hF) hB.size)) (fun R hc => zac r rfl zoo hc) rfl ?_
 rintro _ w4 ⟨v5, rfl, hb, hr6⟩
 refine ⟨_, rfl, fun fr r => ?_⟩
 have zw4 := hb.size
 have hb1 := keep hb hb1
 obtain ⟨hB, zB⟩ := bon hb hB
 refine zae (.cells v5.cells 39 (0, 0)) r (fun R => zaf r hr6.shape rfl rfl hb1 ts39 rfl) rfl fun fr w7 u8 r => ?_
 have zw7 := u8.size
 have hb1 := u8.at_
 obtain ⟨hB, zB⟩ := u8.on hB (by omega)
 refine wn (wp_ret ?_)
 have hs := hr6.shape.cells
 refine zad r rfl rfl hb1 (k := 8) hs.1 ta39 ?_
 rw [← hs.2.2]
 exact rfin hF hB hr6 u8 (by omega) (by omega) (by omega)
def D.zfZ (c0 : (Unit → T Res)) (a0 : Int) : T Res := (c0 ())
theorem zhw {n : Nat} {F : Nat → Prop} {w0 : World} (hF : ∀ b, F b → b < w0.heap.size)
    {c0f : FuncId} {c0_1 c0_2 : List Value} {c0 : (Unit → T Res)} {c0b : Nat} (c0F : F c0b) (c0h : w0.heap[c0b]? = some (.cells #[.func (.func c0f) c0_1.toArray c0_2.toArray] 197 (0, 0))) (c0n : FnT Tryz.prog znx unitE (n + 1) F w0 (.func (.func c0f) c0_1.toArray c0_2.toArray) c0) (a0 : Int) :
    Calls Tryz.prog 224 #[.int .u64 a0, zp c0b] w0 (zny Tryz.prog znx n (D.zfZ c0 a0) F w0) := by
 refine enter Tryz.func224 rfl 6 rfl rfl fun fr r => ?_
 have hB := Below.refl w0.heap.size w0
 have lc0b := lt_of_block c0h
 refine wsr ?_
 refine za5 (.cells (znt false znx.zero 0 0 0 0 .nilFunc) 39 (0, 0)) r (fun R => zag tz39) rfl fun fr b1 w2 n3 r => ?_
 obtain ⟨eb1, zw2, hb1, hB, zB⟩ := n3.all hB
 refine wn (wsr (za0 (.func (.func c0f) c0_1.toArray c0_2.toArray) r (fun R => za3 r rfl (keep hB c0h) zpj rfl) rfl fun fr r => ?_))
 refine za8 r (c0n.at_.2 n (Nat.lt_succ_self n) () w2 (Same.below hB hF) hB.size) (fun R hc => zfF r rfl c0n.at_.1 hc) rfl ?_
 rintro _ w4 ⟨v5, rfl, hb, hr6⟩
 refine ⟨_, rfl, fun fr r => ?_⟩
 have zw4 := hb.size
 have hb1 := keep hb hb1
 obtain ⟨hB, zB⟩ := bon hb hB
 refine zae (.cells v5.cells 39 (0, 0)) r (fun R => zaf r hr6.shape rfl rfl hb1 ts39 rfl) rfl fun fr w7 u8 r => ?_
 have zw7 := u8.size
 have hb1 := u8.at_
 obtain ⟨hB, zB⟩ := u8.on hB (by omega)
 refine wn (wp_ret ?_)
 have hs := hr6.shape.cells
 refine zad r rfl rfl hb1 (k := 8) hs.1 ta39 ?_
 rw [← hs.2.2]
 exact zny.fin hB hr6 u8 (fun b hb => .inl hb) (fun h => by have := hF _ h; omega) (by omega) (by omega) (by omega)
def D.zdt (a0 : Int) (a1 : Int) (a2 : (Unit → T Res)) : T Res := (D.zfT (⟨1, a0, a1, 0⟩ : Access) (fun x => (D.zfZ a2 x)))
theorem zez {n : Nat} {F : Nat → Prop} {w0 : World} (hF : ∀ b, F b → b < w0.heap.size)
    (a0 : Int) (a1 : Int) {a2f : FuncId} {a2_1 a2_2 : List Value} {a2 : (Unit → T Res)} (a2n : FnT Tryz.prog znx unitE (n) F w0 (.func (.func a2f) a2_1.toArray a2_2.toArray) a2) :
    Calls Tryz.prog 120 #[.int .i64 a0, .int .u64 a1, .func (.func a2f) a2_1.toArray a2_2.toArray] w0 (zny Tryz.prog znx n (D.zdt a0 a1 a2) F w0) := by
 refine enter Tryz.func120 rfl 12 rfl rfl fun fr r => ?_
 have hB := Below.refl w0.heap.size w0
 refine wsr ?_
 refine za5 (.cells #[.func (.func a2f) a2_1.toArray a2_2.toArray] 197 (0, 0)) r (fun R => znF r (v := (.func (.func a2f) a2_1.toArray a2_2.toArray)) rfl) rfl fun fr b1 w2 n3 r => ?_
 obtain ⟨eb1, zw2, hb1, hB, zB⟩ := n3.all hB
 refine za5 (.cells (znt false znx.zero 0 0 0 0 .nilFunc) 39 (0, 0)) r (fun R => zag tz39) rfl fun fr b4 w5 n6 r => ?_
 have hb1 := keep n6.below hb1
 obtain ⟨eb4, zw5, hb4, hB, zB⟩ := n6.all hB
 refine wn (wsr (za0 (I a0) r (fun R => za9 r rfl) rfl fun fr r => za0 (U a1) r (fun R => za9 r rfl) rfl fun fr r => za0 (.agg (znE (⟨1, a0, a1, 0⟩ : Access)).toArray) r (fun R => zaQ r (by kernel_rfl)) rfl fun fr r => za0 (.func (.func 224) #[] #[zp b1]) r (fun R => zao r rfl) rfl fun fr r => ?_))
 have hF1 := znI hF hB b4
 have f7 : ((fun b => F b ∨ (w0.heap.size ≤ b ∧ b < w5.heap.size ∧ b ≠ b4))) b1 := (.inr ⟨by omega, by omega, by omega⟩)
 refine za8 r (zcM (F := (fun b => F b ∨ (w0.heap.size ≤ b ∧ b < w5.heap.size ∧ b ≠ b4))) (n := n) hF1 (⟨1, a0, a1, 0⟩ : Access) ⟨224, [], [zp b1], zre, rfl, fun m hm x w' hs hz => zhw (fun b hb => Nat.lt_of_lt_of_le (hF1 b hb) hz) f7 (hs.at_ f7 hb1) (a2n.mono (by omega) (fun b h => .inl h) ((Same.below hB hF).trans (hs.sub (fun b h => .inl h))) (Nat.le_trans hB.size hz)) x⟩) (fun R hc => zac r rfl zoo hc) rfl ?_
 rintro _ w8 ⟨v9, rfl, hb, hr10⟩
 refine ⟨_, rfl, fun fr r => ?_⟩
 have zw8 := hb.size
 have hb1 := keep hb hb1
 have hb4 := keep hb hb4
 obtain ⟨hB, zB⟩ := bon hb hB
 refine zae (.cells v9.cells 39 (0, 0)) r (fun R => zaf r hr10.shape rfl rfl hb4 ts39 rfl) rfl fun fr w11 u12 r => ?_
 have zw11 := u12.size
 have hb1 := u12.keep hb1 (by omega)
 have hb4 := u12.at_
 obtain ⟨hB, zB⟩ := u12.on hB (by omega)
 refine wn (wp_ret ?_)
 have hs := hr10.shape.cells
 refine zad r rfl rfl hb4 (k := 8) hs.1 ta39 ?_
 rw [← hs.2.2]
 exact rfin hF hB hr10 u12 (by omega) (by omega) (by omega)
def D.zgh (c0 : (Bool → T Res)) (c1 : Int) (a0 : Int) : T Res := (c0 (a0 == c1))
theorem zhX {n : Nat} {F : Nat → Prop} {w0 : World} (hF : ∀ b, F b → b < w0.heap.size)
    {c0f : FuncId} {c0_1 c0_2 : List Value} {c0 : (Bool → T Res)} {c0b : Nat} (c0F : F c0b) (c0h : w0.heap[c0b]? = some (.cells #[.func (.func c0f) c0_1.toArray c0_2.toArray] 200 (0, 0))) (c0n : FnT Tryz.prog znx boolE (n + 1) F w0 (.func (.func c0f) c0_1.toArray c0_2.toArray) c0) (c1 : Int) {c1b : Nat} (c1F : F c1b) (c1h : w0.heap[c1b]? = some (.cells ([(.int .u64 c1)]).toArray 22 (0, 0))) (a0 : Int) :
    Calls Tryz.prog 225 #[.int .u64 a0, zp c0b, zp c1b] w0 (zny Tryz.prog znx n (D.zgh c0 c1 a0) F w0) := by
 refine enter Tryz.func225 rfl 10 rfl rfl fun fr r => ?_
 have hB := Below.refl w0.heap.size w0
 have lc0b := lt_of_block c0h
 have lc1b := lt_of_block c1h
 refine wsr ?_
 refine za5 (.cells (znt false znx.zero 0 0 0 0 .nilFunc) 39 (0, 0)) r (fun R => zag tz39) rfl fun fr b1 w2 n3 r => ?_
 obtain ⟨eb1, zw2, hb1, hB, zB⟩ := n3.all hB
 refine wn (wsr (za0 (.func (.func c0f) c0_1.toArray c0_2.toArray) r (fun R => za3 r rfl (keep hB c0h) zs0 rfl) rfl fun fr r => za0 (U a0) r (fun R => za9 r rfl) rfl fun fr r => za0 (U c1) r (fun R => za3 r rfl (keep hB c1h) to22 rfl) rfl fun fr r => za0 _ r (fun R => znA r rfl rfl rfl rfl) rfl fun fr r => ?_))
 refine za8 r (c0n.at_.2 n (Nat.lt_succ_self n) (a0 == c1) w2 (Same.below hB hF) hB.size) (fun R hc => zdi r rfl rfl c0n.at_.1 hc) rfl ?_
 rintro _ w4 ⟨v5, rfl, hb, hr6⟩
 refine ⟨_, rfl, fun fr r => ?_⟩
 have zw4 := hb.size
 have hb1 := keep hb hb1
 obtain ⟨hB, zB⟩ := bon hb hB
 refine zae (.cells v5.cells 39 (0, 0)) r (fun R => zaf r hr6.shape rfl rfl hb1 ts39 rfl) rfl fun fr w7 u8 r => ?_
 have zw7 := u8.size
 have hb1 := u8.at_
 obtain ⟨hB, zB⟩ := u8.on hB (by omega)
 refine wn (wp_ret ?_)
 have hs := hr6.shape.cells
 refine zad r rfl rfl hb1 (k := 8) hs.1 ta39 ?_
 rw [← hs.2.2]
 exact zny.fin hB hr6 u8 (fun b hb => .inl hb) (fun h => by have := hF _ h; omega) (by omega) (by omega) (by omega)
def D.zbH (a0 : Int) (a1 : Int) (a2 : Int) (a3 : (Bool → T Res)) : T Res := (D.zfT (⟨2, a0, a1, a2⟩ : Access) (fun x => (D.zgh a3 a1 x)))
theorem zd4 {n : Nat} {F : Nat → Prop} {w0 : World} (hF : ∀ b, F b → b < w0.heap.size)
    (a0 : Int) (a1 : Int) (a2 : Int) {a3f : FuncId} {a3_1 a3_2 : List Value} {a3 : (Bool → T Res)} (a3n : FnT Tryz.prog znx boolE (n) F w0 (.func (.func a3f) a3_1.toArray a3_2.toArray) a3) :
    Calls Tryz.prog 125 #[.int .i64 a0, .int .u64 a1, .int .u64 a2, .func (.func a3f) a3_1.toArray a3_2.toArray] w0 (zny Tryz.prog znx n (D.zbH a0 a1 a2 a3) F w0) := by
 refine enter Tryz.func125 rfl 15 rfl rfl fun fr r => ?_
 have hB := Below.refl w0.heap.size w0
 refine wsr ?_
 refine za5 (.cells #[(U a1)] 22 (0, 0)) r (fun R => znF r (v := (U a1)) rfl) rfl fun fr b1 w2 n3 r => ?_
 obtain ⟨eb1, zw2, hb1, hB, zB⟩ := n3.all hB
 refine za5 (.cells #[.func (.func a3f) a3_1.toArray a3_2.toArray] 200 (0, 0)) r (fun R => znF r (v := (.func (.func a3f) a3_1.toArray a3_2.toArray)) rfl) rfl fun fr b4 w5 n6 r => ?_
 have hb1 := keep n6.below hb1
 obtain ⟨eb4, zw5, hb4, hB, zB⟩ := n6.all hB
 refine za5 (.cells (znt false znx.zero 0 0 0 0 .nilFunc) 39 (0, 0)) r (fun R => zag tz39) rfl fun fr b7 w8 n9 r => ?_
 have hb1 := keep n9.below hb1
 have hb4 := keep n9.below hb4
 obtain ⟨eb7, zw8, hb7, hB, zB⟩ := n9.all hB
 refine wn (wsr (za0 (I a0) r (fun R => za9 r rfl) rfl fun fr r => za0 (U a1) r (fun R => za3 r rfl hb1 to22 rfl) rfl fun fr r => za0 (U a2) r (fun R => za9 r rfl) rfl fun fr r => za0 (.agg (znE (⟨2, a0, a1, a2⟩ : Access)).toArray) r (fun R => zaQ r (by kernel_rfl)) rfl fun fr r => za0 (.func (.func 225) #[] #[zp b4, zp b1]) r (fun R => zao r rfl) rfl fun fr r => ?_))
 have hF1 := znI hF hB b7
 have f10 : ((fun b => F b ∨ (w0.heap.size ≤ b ∧ b < w8.heap.size ∧ b ≠ b7))) b4 := (.inr ⟨by omega, by omega, by omega⟩)
 have f11 : ((fun b => F b ∨ (w0.heap.size ≤ b ∧ b < w8.heap.size ∧ b ≠ b7))) b1 := (.inr ⟨by omega, by omega, by omega⟩)
 refine za8 r (zcM (F := (fun b => F b ∨ (w0.heap.size ≤ b ∧ b < w8.heap.size ∧ b ≠ b7))) (n := n) hF1 (⟨2, a0, a1, a2⟩ : Access) ⟨225, [], [zp b4, zp b1], zri, rfl, fun m hm x w' hs hz => zhX (fun b hb => Nat.lt_of_lt_of_le (hF1 b hb) hz) f10 (hs.at_ f10 hb4) (a3n.mono (by omega) (fun b h => .inl h) ((Same.below hB hF).trans (hs.sub (fun b h => .inl h))) (Nat.le_trans hB.size hz)) a1 f11 (hs.at_ f11 hb1) x⟩) (fun R hc => zac r rfl zoo hc) rfl ?_
 rintro _ w12 ⟨v13, rfl, hb, hr14⟩
 refine ⟨_, rfl, fun fr r => ?_⟩
 have zw12 := hb.size
 have hb1 := keep hb hb1
 have hb4 := keep hb hb4
 have hb7 := keep hb hb7
 obtain ⟨hB, zB⟩ := bon hb hB
 refine zae (.cells v13.cells 39 (0, 0)) r (fun R => zaf r hr14.shape rfl rfl hb7 ts39 rfl) rfl fun fr w15 u16 r => ?_
 have zw15 := u16.size
 have hb1 := u16.keep hb1 (by omega)
 have hb4 := u16.keep hb4 (by omega)
 have hb7 := u16.at_
 obtain ⟨hB, zB⟩ := u16.on hB (by omega)
 refine wn (wp_ret ?_)
 have hs := hr14.shape.cells
 refine zad r rfl rfl hb7 (k := 8) hs.1 ta39 ?_
 rw [← hs.2.2]
 exact rfin hF hB hr14 u16 (by omega) (by omega) (by omega)
def D.zdu (a0 : Int) (a1 : (Int → T Int)) : T Int := (D.zgU (⟨0, a0, 0, 0⟩ : Access) a1)
theorem zfc {n : Nat} {F : Nat → Prop} {w0 : World} (hF : ∀ b, F b → b < w0.heap.size)
    (a0 : Int) {a1f : FuncId} {a1_1 a1_2 : List Value} {a1 : (Int → T Int)} (a1n : FnT Tryz.prog znM u64 (n) F w0 (.func (.func a1f) a1_1.toArray a1_2.toArray) a1) :
    Calls Tryz.prog 326 #[.int .i64 a0, .func (.func a1f) a1_1.toArray a1_2.toArray] w0 (zny Tryz.prog znM n (D.zdu a0 a1) F w0) := by
 refine enter Tryz.func326 rfl 9 rfl rfl fun fr r => ?_
 have hB := Below.refl w0.heap.size w0
 refine wsr ?_
 refine za5 (.cells (znt false znM.zero 0 0 0 0 .nilFunc) 283 (0, 0)) r (fun R => zag zof) rfl fun fr b1 w2 n3 r => ?_
 obtain ⟨eb1, zw2, hb1, hB, zB⟩ := n3.all hB
 refine wn (wsr (za0 (I a0) r (fun R => za9 r rfl) rfl fun fr r => za0 (.agg (znE (⟨0, a0, 0, 0⟩ : Access)).toArray) r (fun R => zaQ r (by kernel_rfl)) rfl fun fr r => za0 (.func (.func a1f) a1_1.toArray a1_2.toArray) r (fun R => za9 r rfl) rfl fun fr r => ?_))
 have hF1 := znI hF hB b1
 refine za8 r (zfY (F := (fun b => F b ∨ (w0.heap.size ≤ b ∧ b < w2.heap.size ∧ b ≠ b1))) (n := n) hF1 (⟨0, a0, 0, 0⟩ : Access) (a1n.mono (by omega) (fun b h => .inl h) (Same.below hB hF) hB.size)) (fun R hc => zac r rfl zq8 hc) rfl ?_
 rintro _ w4 ⟨v5, rfl, hb, hr6⟩
 refine ⟨_, rfl, fun fr r => ?_⟩
 have zw4 := hb.size
 have hb1 := keep hb hb1
 obtain ⟨hB, zB⟩ := bon hb hB
 refine zae (.cells v5.cells 283 (0, 0)) r (fun R => zaf r hr6.shape rfl rfl hb1 zoc rfl) rfl fun fr w7 u8 r => ?_
 have zw7 := u8.size
 have hb1 := u8.at_
 obtain ⟨hB, zB⟩ := u8.on hB (by omega)
 refine wn (wp_ret ?_)
 have hs := hr6.shape.cells
 refine zad r rfl rfl hb1 (k := 7) hs.1 zob ?_
 rw [← hs.2.2]
 exact rfin hF hB hr6 u8 (by omega) (by omega) (by omega)
end Go.Proofs.YtjkinpbfmihhdaaGreat

/- Ours. -/
set_option maxRecDepth 20000
set_option maxHeartbeats 2000000
namespace Go.Proofs.YtjkinpbfmihhdaaGreat
open Go.RowKit
theorem zoO : znv Tryz.prog 160 = true := by kernel_rfl
theorem zou : znv Tryz.prog 161 = true := by kernel_rfl
theorem zov : znv Tryz.prog 162 = true := by kernel_rfl
theorem zoI : znv Tryz.prog 163 = true := by kernel_rfl
theorem zpq : znv Tryz.prog 191 = true := by kernel_rfl
theorem zoj : znv Tryz.prog 198 = true := by kernel_rfl
theorem zon : znv Tryz.prog 200 = true := by kernel_rfl
theorem zqd : znv Tryz.prog 210 = true := by kernel_rfl
theorem zoe : znv Tryz.prog 229 = true := by kernel_rfl
theorem zqT : znv Tryz.prog 288 = true := by kernel_rfl
theorem zr6 : znv Tryz.prog 289 = true := by kernel_rfl
theorem zpU : znv Tryz.prog 290 = true := by kernel_rfl
theorem zpO : znv Tryz.prog 291 = true := by kernel_rfl
theorem zsd : znv Tryz.prog 292 = true := by kernel_rfl
theorem zoT : znv Tryz.prog 296 = true := by kernel_rfl
theorem zqb : znv Tryz.prog 315 = true := by kernel_rfl
theorem zpb : znv Tryz.prog 316 = true := by kernel_rfl
theorem zqt : znv Tryz.prog 318 = true := by kernel_rfl
theorem zpW : znv Tryz.prog 343 = true := by kernel_rfl
theorem zqa : znv Tryz.prog 355 = true := by kernel_rfl
theorem zrz : znv Tryz.prog 379 = true := by kernel_rfl
theorem zqx : znv Tryz.prog 380 = true := by kernel_rfl
theorem zrN : znv Tryz.prog 381 = true := by kernel_rfl
theorem ti22 : intTy Tryz.prog 22 .u64 = true := by kernel_rfl
theorem ti3 : intTy Tryz.prog 3 .i64 = true := by kernel_rfl
theorem zor : sized Tryz.prog 223 2 = true := by kernel_rfl
theorem zot : zeroOf Tryz.prog 223 = some (.agg (znB (⟨0, 0⟩ : Field)).toArray) := by kernel_rfl
theorem tz3 : zeroOf Tryz.prog 3 = some (.int .i64 0) := by kernel_rfl
def D.zbM (a0 : Int) : Int := (IntKind.u64.wrap (IntKind.i64.wrap (a0 + 1)))
theorem zh7 (w0 : World) 
    (a0 : Int) :
    Calls Tryz.prog 316 #[.int .i64 a0] w0 (znL (.int .u64 (D.zbM a0)) w0) := by
 refine enter Tryz.func316 rfl 6 rfl rfl fun fr r => ?_
 have hB := Below.refl w0.heap.size w0
 refine wsr (za0 (U 0) r (fun R => za7 r rfl) rfl fun fr r => wn (wsr (za0 (I a0) r (fun R => za9 r rfl) rfl fun fr r => za0 _ r (fun R => znA r rfl rfl rfl rfl) rfl fun fr r => za0 (U (V (W (a0 + 1)))) r (fun R => zb8 r rfl ti3 ti22) rfl fun fr r => za0 (U (V (W (a0 + 1)))) r (fun R => za7 r rfl) rfl fun fr r => wn (wp_ret ?_))))
 refine zaz r rfl rfl ?_
 exact ⟨rfl, hB⟩
def D.zgb (r_free_fresh : Plan → Int → T Unit) (c0 : Plan) (c1 : Int) : T Unit := (r_free_fresh c0 (IntKind.i64.wrap (c1 + 1)))
def D.zbZ (r_free_fresh : Plan → Int → T Unit) (a0 : Plan) (a1 : Int) : T Unit := (bif (a1 == a0.nodes) then (D.zhF (D.zaW a0) (D.zbM 0)) else (let x19 : Int := (bif ((IntKind.i64.wrap (a1 + 1)) == a0.nodes) then 0 else (D.zbM (IntKind.i64.wrap (a1 + 1)))); (D.zdQ (D.zb2 a0 a1) x19 (fun _ => (D.zgb r_free_fresh a0 a1)))))
def D.zdc : Nat → Plan → Int → T Unit
  | 0, _, _ => .cut
  | k + 1, a0, a1 => D.zbZ (D.zdc k) a0 a1
def zeT (r : Plan → Int → T Unit) (n : Nat) : Prop := ∀ (F : Nat → Prop) (w0 : World), (∀ b, F b → b < w0.heap.size) → ∀ (a0 : Plan) (a1 : Int), Calls Tryz.prog 210 #[.agg (znu a0).toArray, .int .i64 a1] w0 (zny Tryz.prog znC n (r a0 a1) F w0)
theorem zjg {n : Nat} {F : Nat → Prop} {r_free_fresh : Plan → Int → T Unit} {w0 : World} (hF : ∀ b, F b → b < w0.heap.size) (ih_free_fresh : ∀ m, m ≤ n → zeT r_free_fresh m)
    (c0 : Plan) {c0b : Nat} (c0F : F c0b) (c0h : w0.heap[c0b]? = some (.cells ((znu c0)).toArray 25 (0, 0))) (c1 : Int) {c1b : Nat} (c1F : F c1b) (c1h : w0.heap[c1b]? = some (.cells ([(.int .i64 c1)]).toArray 3 (0, 0))) :
    Calls Tryz.prog 318 #[zp c0b, zp c1b] w0 (zny Tryz.prog znC n (D.zgb r_free_fresh c0 c1) F w0) := by
 refine enter Tryz.func318 rfl 7 rfl rfl fun fr r => ?_
 have hB := Below.refl w0.heap.size w0
 have lc0b := lt_of_block c0h
 have lc1b := lt_of_block c1h
 refine wsr ?_
 refine za5 (.cells (znt false znC.zero 0 0 0 0 .nilFunc) 186 (0, 0)) r (fun R => zag zod) rfl fun fr b1 w2 n3 r => ?_
 obtain ⟨e_b1, z_w2, h_b1, hB, zB⟩ := n3.all hB
 refine wn (wsr (za0 (.agg (znu c0).toArray) r (fun R => za6 r (cs := (znu c0)) (n := 6) rfl (keep hB c0h) ta25 rfl) rfl fun fr r => za0 (I c1) r (fun R => za3 r rfl (keep hB c1h) to3 rfl) rfl fun fr r => za0 _ r (fun R => znA r rfl rfl rfl rfl) rfl fun fr r => ?_))
 have hF1 := znI hF hB b1
 refine za8 r ((ih_free_fresh n (by omega)) (fun b => F b ∨ (w0.heap.size ≤ b ∧ b < w2.heap.size ∧ b ≠ b1)) _ hF1 c0 (W (c1 + 1))) (fun R hc => zac r rfl zqd hc) rfl ?_
 rintro _ w4 ⟨v5, rfl, hb, hr6⟩
 refine ⟨_, rfl, fun fr r => ?_⟩
 have z_w4 := hb.size
 have h_b1 := keep hb h_b1
 obtain ⟨hB, zB⟩ := bon hb hB
 refine zae (.cells v5.cells 186 (0, 0)) r (fun R => zaf r hr6.shape rfl rfl h_b1 zo6 rfl) rfl fun fr w7 u8 r => ?_
 have z_w7 := u8.size
 have h_b1 := u8.at_
 obtain ⟨hB, zB⟩ := u8.on hB (by omega)
 refine wn (wp_ret ?_)
 have hs := hr6.shape.cells
 refine zad r rfl rfl h_b1 (k := 6) hs.1 zo2 ?_
 rw [← hs.2.2]
 exact rfin hF hB hr6 u8 (by omega) (by omega) (by omega)
theorem zku {n : Nat} {F : Nat → Prop} {r_free_fresh : Plan → Int → T Unit} {w0 : World} (hF : ∀ b, F b → b < w0.heap.size) (ih_free_fresh : ∀ m, m < n → zeT r_free_fresh m)
    (a0 : Plan) (a1 : Int) :
    Calls Tryz.prog 210 #[.agg (znu a0).toArray, .int .i64 a1] w0 (zny Tryz.prog znC n (D.zbZ r_free_fresh a0 a1) F w0) := by
 refine enter Tryz.func210 rfl 28 rfl rfl fun fr r => ?_
 have hB := Below.refl w0.heap.size w0
 refine wsr ?_
 refine za5 (.cells ((znu a0)).toArray 25 (0, 0)) r (fun R => znF r (v := (.agg (znu a0).toArray)) rfl) rfl fun fr b1 w2 n3 r => ?_
 obtain ⟨e_b1, z_w2, h_b1, hB, zB⟩ := n3.all hB
 refine za5 (.cells #[(I a1)] 3 (0, 0)) r (fun R => znF r (v := (I a1)) rfl) rfl fun fr b4 w5 n6 r => ?_
 have h_b1 := keep n6.below h_b1
 obtain ⟨e_b4, z_w5, h_b4, hB, zB⟩ := n6.all hB
 refine za5 (.cells (znt false znC.zero 0 0 0 0 .nilFunc) 186 (0, 0)) r (fun R => zag zod) rfl fun fr b7 w8 n9 r => ?_
 have h_b1 := keep n9.below h_b1
 have h_b4 := keep n9.below h_b4
 obtain ⟨e_b7, z_w8, h_b7, hB, zB⟩ := n9.all hB
 refine wn (wp_seq (wsr (za0 (I a1) r (fun R => za3 r rfl h_b4 to3 rfl) rfl fun fr r => za0 _ r (fun R => za4 r (o := 0) rfl zeD) rfl fun fr r => za0 (I a0.nodes) r (fun R => za3 r rfl h_b1 to3 rfl) rfl fun fr r => za0 _ r (fun R => znA r rfl rfl rfl rfl) rfl fun fr r => wn ?_)))
 refine wp_cond_split (t := (a1 == a0.nodes)) (r.ev rfl) (fun h10 => ?_) (fun h10 => ?_)
 ·
  refine wsr (za0 (.agg (znu a0).toArray) r (fun R => za6 r (cs := (znu a0)) (n := 6) rfl h_b1 ta25 rfl) rfl fun fr r => ?_)
  refine za8 r (zcg w8 a0) (fun R hc => zac r rfl zov hc) rfl ?_
  rintro _ w11 ⟨rfl, hb⟩
  refine ⟨_, rfl, fun fr r => ?_⟩
  have z_w11 := hb.size
  have h_b1 := keep hb h_b1
  have h_b4 := keep hb h_b4
  have h_b7 := keep hb h_b7
  obtain ⟨hB, zB⟩ := bon hb hB
  refine za8 r (zh7 w11 0) (fun R hc => zac r rfl zpb hc) rfl ?_
  rintro _ w12 ⟨rfl, hb⟩
  refine ⟨_, rfl, fun fr r => ?_⟩
  have z_w12 := hb.size
  have h_b1 := keep hb h_b1
  have h_b4 := keep hb h_b4
  have h_b7 := keep hb h_b7
  obtain ⟨hB, zB⟩ := bon hb hB
  have hF1 := znI hF hB b7
  refine za8 r (zjj (F := (fun b => F b ∨ (w0.heap.size ≤ b ∧ b < w12.heap.size ∧ b ≠ b7))) (n := n) hF1 (D.zaW a0) (D.zbM 0)) (fun R hc => zac r rfl zqb hc) rfl ?_
  rintro _ w13 ⟨v14, rfl, hb, hr15⟩
  refine ⟨_, rfl, fun fr r => ?_⟩
  have z_w13 := hb.size
  have h_b1 := keep hb h_b1
  have h_b4 := keep hb h_b4
  have h_b7 := keep hb h_b7
  obtain ⟨hB, zB⟩ := bon hb hB
  refine zae (.cells v14.cells 186 (0, 0)) r (fun R => zaf r hr15.shape rfl rfl h_b7 zo6 rfl) rfl fun fr w16 u17 r => ?_
  have z_w16 := u17.size
  have h_b1 := u17.keep h_b1 (by omega)
  have h_b4 := u17.keep h_b4 (by omega)
  have h_b7 := u17.at_
  obtain ⟨hB, zB⟩ := u17.on hB (by omega)
  refine wn (wp_ret ?_)
  have hd : D.zbZ r_free_fresh a0 a1 = (D.zhF (D.zaW a0) (D.zbM 0)) := (zaq h10).trans (rfl)
  have hs := hr15.shape.cells
  refine zad r rfl rfl h_b7 (k := 6) hs.1 zo2 ?_
  rw [← hs.2.2, hd]
  exact rfin hF hB hr15 u17 (by omega) (by omega) (by omega)
 ·
  refine wp_skip (wsr (za0 (I a1) r (fun R => za3 r rfl h_b4 to3 rfl) rfl fun fr r => za0 _ r (fun R => znA r rfl rfl rfl rfl) rfl fun fr r => ?_))
  refine za8 r (zh7 w8 (W (a1 + 1))) (fun R hc => zac r rfl zpb hc) rfl ?_
  rintro _ w18 ⟨rfl, hb⟩
  refine ⟨_, rfl, fun fr r => ?_⟩
  have z_w18 := hb.size
  have h_b1 := keep hb h_b1
  have h_b4 := keep hb h_b4
  have h_b7 := keep hb h_b7
  obtain ⟨hB, zB⟩ := bon hb hB
  refine za0 (U (D.zbM (W (a1 + 1)))) r (fun R => za7 r rfl) rfl fun fr r => wn (wp_seq (wsr (za0 (I a1) r (fun R => za3 r rfl h_b4 to3 rfl) rfl fun fr r => za0 _ r (fun R => znA r rfl rfl rfl rfl) rfl fun fr r => za0 _ r (fun R => za4 r (o := 0) rfl zeD) rfl fun fr r => za0 (I a0.nodes) r (fun R => za3 r rfl h_b1 to3 rfl) rfl fun fr r => za0 _ r (fun R => znA r rfl rfl rfl rfl) rfl fun fr r => wn ?_)))
  obtain ⟨x19, hx19⟩ : ∃ x : Int, x = (bif ((W (a1 + 1)) == a0.nodes) then 0 else (D.zbM (W (a1 + 1)))) := ⟨_, rfl⟩
  refine zn1 (N := 28) [(0, (.agg (znu a0).toArray)), (1, (I a1)), (2, (zp b1)), (3, (zp b4)), (4, (zp b7)), (5, (U x19))] (fun w => Below w0.heap.size w0 w ∧ w18.heap.size ≤ w.heap.size ∧ w.heap[b1]? = some (.cells ((znu a0)).toArray 25 (0, 0)) ∧ w.heap[b4]? = some (.cells #[(I a1)] 3 (0, 0)) ∧ w.heap[b7]? = some (.cells (znt false znC.zero 0 0 0 0 .nilFunc) 186 (0, 0))) ?_ ?_
  ·
   refine wp_cond_split (t := ((W (a1 + 1)) == a0.nodes)) (r.ev rfl) (fun h20 => ?_) (fun h20 => ?_)
   ·
    refine wp_region_lit (za0 (U 0) r (fun R => za7 r rfl) rfl fun fr r => wn ?_)
    exact ⟨rfl, _, r, (za1 rfl (za1 rfl (za1 rfl (za1 rfl (za1 rfl (za1 (by rw [hx19, zaq h20]; rfl) zaJ)))))), hB, (by omega), h_b1, h_b4, h_b7⟩
   ·
    refine wp_skip ?_
    exact ⟨rfl, _, r, (za1 rfl (za1 rfl (za1 rfl (za1 rfl (za1 rfl (za1 (by rw [hx19, zak h20]; rfl) zaJ)))))), hB, (by omega), h_b1, h_b4, h_b7⟩
  ·
   rintro fr w21 g r ⟨hB, z_w21, h_b1, h_b4, h_b7⟩
   have zB := hB.size
   refine wsr (za0 (.agg (znu a0).toArray) r (fun R => za6 r (cs := (znu a0)) (n := 6) rfl h_b1 ta25 rfl) rfl fun fr r => za0 (I a1) r (fun R => za3 r rfl h_b4 to3 rfl) rfl fun fr r => ?_)
   refine za8 r (zcP w21 a0 a1) (fun R hc => zac r rfl zoI hc) rfl ?_
   rintro _ w22 ⟨rfl, hb⟩
   refine ⟨_, rfl, fun fr r => ?_⟩
   have z_w22 := hb.size
   have h_b1 := keep hb h_b1
   have h_b4 := keep hb h_b4
   have h_b7 := keep hb h_b7
   obtain ⟨hB, zB⟩ := bon hb hB
   refine za0 (U x19) r (fun R => za9 r rfl) rfl fun fr r => za0 (.func (.func 318) #[] #[zp b1, zp b4]) r (fun R => zao r rfl) rfl fun fr r => ?_
   have hF1 := znI hF hB b7
   have f23 : ((fun b => F b ∨ (w0.heap.size ≤ b ∧ b < w22.heap.size ∧ b ≠ b7))) b1 := (.inr ⟨by omega, by omega, by omega⟩)
   have f24 : ((fun b => F b ∨ (w0.heap.size ≤ b ∧ b < w22.heap.size ∧ b ≠ b7))) b4 := (.inr ⟨by omega, by omega, by omega⟩)
   refine za8 r (zfx (F := (fun b => F b ∨ (w0.heap.size ≤ b ∧ b < w22.heap.size ∧ b ≠ b7))) (n := n) hF1 (D.zb2 a0 a1) x19 ⟨318, [], [zp b1, zp b4], zqt, rfl, fun m hm _ w' hs hz => zjg (fun b hb => Nat.lt_of_lt_of_le (hF1 b hb) hz) (fun m' hm' => ih_free_fresh m' (by omega)) a0 f23 (hs.at_ f23 h_b1) a1 f24 (hs.at_ f24 h_b4)⟩) (fun R hc => zac r rfl zpN hc) rfl ?_
   rintro _ w25 ⟨v26, rfl, hb, hr27⟩
   refine ⟨_, rfl, fun fr r => ?_⟩
   have z_w25 := hb.size
   have h_b1 := keep hb h_b1
   have h_b4 := keep hb h_b4
   have h_b7 := keep hb h_b7
   obtain ⟨hB, zB⟩ := bon hb hB
   refine zae (.cells v26.cells 186 (0, 0)) r (fun R => zaf r hr27.shape rfl rfl h_b7 zo6 rfl) rfl fun fr w28 u29 r => ?_
   have z_w28 := u29.size
   have h_b1 := u29.keep h_b1 (by omega)
   have h_b4 := u29.keep h_b4 (by omega)
   have h_b7 := u29.at_
   obtain ⟨hB, zB⟩ := u29.on hB (by omega)
   refine wn (wp_ret ?_)
   have hd : D.zbZ r_free_fresh a0 a1 = (D.zdQ (D.zb2 a0 a1) x19 (fun _ => (D.zgb r_free_fresh a0 a1))) := by subst hx19; exact (zak h10).trans (rfl)
   have hs := hr27.shape.cells
   refine zad r rfl rfl h_b7 (k := 6) hs.1 zo2 ?_
   rw [← hs.2.2, hd]
   exact rfin hF hB hr27 u29 (by omega) (by omega) (by omega)
theorem zko {n : Nat} {k : Nat} (hk : n < k) : zeT (D.zdc k) n := by
  induction n using Nat.strongRecOn generalizing k with
  | _ n ih =>
    obtain ⟨k, rfl⟩ : ∃ q, k = q + 1 := ⟨k - 1, by omega⟩
    intro F w0 hF
    have h := @zku n F (D.zdc k) w0 hF (fun m hm => ih m hm (by omega))
    exact h
def D.zea (j : Nat) (a0 : Plan) : T Unit := (D.zdc j a0 0)
theorem zks {n : Nat} {F : Nat → Prop} {j : Nat} {w0 : World} (hF : ∀ b, F b → b < w0.heap.size) (hj : n < j)
    (a0 : Plan) :
    Calls Tryz.prog 111 #[.agg (znu a0).toArray] w0 (zny Tryz.prog znC n (D.zea j a0) F w0) := by
 refine enter Tryz.func111 rfl 5 rfl rfl fun fr r => ?_
 have hB := Below.refl w0.heap.size w0
 refine wsr ?_
 refine za5 (.cells ((znu a0)).toArray 25 (0, 0)) r (fun R => znF r (v := (.agg (znu a0).toArray)) rfl) rfl fun fr b1 w2 n3 r => ?_
 obtain ⟨e_b1, z_w2, h_b1, hB, zB⟩ := n3.all hB
 refine za5 (.cells (znt false znC.zero 0 0 0 0 .nilFunc) 186 (0, 0)) r (fun R => zag zod) rfl fun fr b4 w5 n6 r => ?_
 have h_b1 := keep n6.below h_b1
 obtain ⟨e_b4, z_w5, h_b4, hB, zB⟩ := n6.all hB
 refine wn (wsr (za0 (.agg (znu a0).toArray) r (fun R => za6 r (cs := (znu a0)) (n := 6) rfl h_b1 ta25 rfl) rfl fun fr r => ?_))
 have hF1 := znI hF hB b4
 refine za8 r ((zko (k := j) (n := n) (by omega)) (fun b => F b ∨ (w0.heap.size ≤ b ∧ b < w5.heap.size ∧ b ≠ b4)) _ hF1 a0 0) (fun R hc => zac r rfl zqd hc) rfl ?_
 rintro _ w7 ⟨v8, rfl, hb, hr9⟩
 refine ⟨_, rfl, fun fr r => ?_⟩
 have z_w7 := hb.size
 have h_b1 := keep hb h_b1
 have h_b4 := keep hb h_b4
 obtain ⟨hB, zB⟩ := bon hb hB
 refine zae (.cells v8.cells 186 (0, 0)) r (fun R => zaf r hr9.shape rfl rfl h_b4 zo6 rfl) rfl fun fr w10 u11 r => ?_
 have z_w10 := u11.size
 have h_b1 := u11.keep h_b1 (by omega)
 have h_b4 := u11.at_
 obtain ⟨hB, zB⟩ := u11.on hB (by omega)
 refine wn (wp_ret ?_)
 have hs := hr9.shape.cells
 refine zad r rfl rfl h_b4 (k := 6) hs.1 zo2 ?_
 rw [← hs.2.2]
 exact rfin hF hB hr9 u11 (by omega) (by omega) (by omega)
def D.zaO  : Field := (⟨0, 21⟩ : Field)
theorem zfP (w0 : World) 
     :
    Calls Tryz.prog 160 #[] w0 (znL (.agg (znB D.zaO).toArray) w0) := by
 refine enter Tryz.func160 rfl 2 rfl rfl fun fr r => ?_
 have hB := Below.refl w0.heap.size w0
 refine wsr ?_
 refine za5 (.cells ((znB (⟨0, 0⟩ : Field))).toArray 223 (0, 0)) r (fun R => zag zot) rfl fun fr b1 w2 n3 r => ?_
 obtain ⟨e_b1, z_w2, h_b1, hB, zB⟩ := n3.all hB
 refine wn (wsr (za0 (.agg (znB (⟨0, 21⟩ : Field)).toArray) r (fun R => zaQ r (by kernel_rfl)) rfl fun fr r => ?_))
 refine zae (.cells ((znB (⟨0, 21⟩ : Field))).toArray 223 (0, 0)) r (fun R => zaS r (o := 0) (v := (.agg (znB (⟨0, 21⟩ : Field)).toArray)) rfl rfl h_b1 zor (Nat.le_of_ble_eq_true rfl) rfl rfl) rfl fun fr w4 u5 r => ?_
 have z_w4 := u5.size
 have h_b1 := u5.at_
 obtain ⟨hB, zB⟩ := u5.on hB (by omega)
 refine wn (wp_ret ?_)
 refine zad r rfl rfl h_b1 (k := 2) rfl zo1 ?_
 exact ⟨rfl, hB⟩
def D.zdh  : Field := (⟨21, 43⟩ : Field)
theorem zjt (w0 : World) 
     :
    Calls Tryz.prog 355 #[] w0 (znL (.agg (znB D.zdh).toArray) w0) := by
 refine enter Tryz.func355 rfl 2 rfl rfl fun fr r => ?_
 have hB := Below.refl w0.heap.size w0
 refine wsr ?_
 refine za5 (.cells ((znB (⟨0, 0⟩ : Field))).toArray 223 (0, 0)) r (fun R => zag zot) rfl fun fr b1 w2 n3 r => ?_
 obtain ⟨e_b1, z_w2, h_b1, hB, zB⟩ := n3.all hB
 refine wn (wsr (za0 (.agg (znB (⟨21, 43⟩ : Field)).toArray) r (fun R => zaQ r (by kernel_rfl)) rfl fun fr r => ?_))
 refine zae (.cells ((znB (⟨21, 43⟩ : Field))).toArray 223 (0, 0)) r (fun R => zaS r (o := 0) (v := (.agg (znB (⟨21, 43⟩ : Field)).toArray)) rfl rfl h_b1 zor (Nat.le_of_ble_eq_true rfl) rfl rfl) rfl fun fr w4 u5 r => ?_
 have z_w4 := u5.size
 have h_b1 := u5.at_
 obtain ⟨hB, zB⟩ := u5.on hB (by omega)
 refine wn (wp_ret ?_)
 refine zad r rfl rfl h_b1 (k := 2) rfl zo1 ?_
 exact ⟨rfl, hB⟩
def D.zcH (a0 : Int) (a1 : Int) : Int := (D.zaG D.zdh (D.zaG D.zaO 0 a1) (IntKind.u64.wrap ((D.zah D.zdh a0) + 1)))
theorem zhH (w0 : World) 
    (a0 : Int) (a1 : Int) :
    Calls Tryz.prog 291 #[.int .u64 a0, .int .u64 a1] w0 (znL (.int .u64 (D.zcH a0 a1)) w0) := by
 refine enter Tryz.func291 rfl 14 rfl rfl fun fr r => ?_
 have hB := Below.refl w0.heap.size w0
 refine wsr (za0 (U 0) r (fun R => za7 r rfl) rfl fun fr r => wn (wsr ?_))
 refine za8 r (zjt w0 ) (fun R hc => zac r rfl zqa hc) rfl ?_
 rintro _ w1 ⟨rfl, hb⟩
 refine ⟨_, rfl, fun fr r => ?_⟩
 have z_w1 := hb.size
 obtain ⟨hB, zB⟩ := bon hb hB
 refine za8 r (zfP w1 ) (fun R hc => zac r rfl zoO hc) rfl ?_
 rintro _ w2 ⟨rfl, hb⟩
 refine ⟨_, rfl, fun fr r => ?_⟩
 have z_w2 := hb.size
 obtain ⟨hB, zB⟩ := bon hb hB
 refine za0 (U a1) r (fun R => za9 r rfl) rfl fun fr r => ?_
 refine za8 r (zec w2 D.zaO 0 a1) (fun R hc => zac r rfl zoT hc) rfl ?_
 rintro _ w3 ⟨rfl, hb⟩
 refine ⟨_, rfl, fun fr r => ?_⟩
 have z_w3 := hb.size
 obtain ⟨hB, zB⟩ := bon hb hB
 refine za8 r (zjt w3 ) (fun R hc => zac r rfl zqa hc) rfl ?_
 rintro _ w4 ⟨rfl, hb⟩
 refine ⟨_, rfl, fun fr r => ?_⟩
 have z_w4 := hb.size
 obtain ⟨hB, zB⟩ := bon hb hB
 refine za0 (U a0) r (fun R => za9 r rfl) rfl fun fr r => ?_
 refine za8 r (zcA w4 D.zdh a0) (fun R hc => zac r rfl zou hc) rfl ?_
 rintro _ w5 ⟨rfl, hb⟩
 refine ⟨_, rfl, fun fr r => ?_⟩
 have z_w5 := hb.size
 obtain ⟨hB, zB⟩ := bon hb hB
 refine za0 _ r (fun R => znA r rfl rfl rfl rfl) rfl fun fr r => ?_
 refine za8 r (zec w5 D.zdh (D.zaG D.zaO 0 a1) (V ((D.zah D.zdh a0) + 1))) (fun R hc => zac r rfl zoT hc) rfl ?_
 rintro _ w6 ⟨rfl, hb⟩
 refine ⟨_, rfl, fun fr r => ?_⟩
 have z_w6 := hb.size
 obtain ⟨hB, zB⟩ := bon hb hB
 refine za0 (U (D.zaG D.zdh (D.zaG D.zaO 0 a1) (V ((D.zah D.zdh a0) + 1)))) r (fun R => za7 r rfl) rfl fun fr r => wn (wp_ret ?_)
 refine zaz r rfl rfl ?_
 exact ⟨rfl, hB⟩
def D.zcW (r_free_Pop : Plan → T Int) (c0 : Plan) (c1 : Int) (a0 : Bool) : T Int := (bif (!a0) then (r_free_Pop c0) else (D.zaY c1))
def D.zen (r_free_Pop : Plan → T Int) (c0 : Plan) (c1 : Int) (c2 : Int) (a0 : Int) : T Int := (D.zfJ (D.zaW c0) c1 (D.zcH c1 a0) (fun x => (D.zcW r_free_Pop c0 c2 x)))
def D.zdM (r_free_Pop : Plan → T Int) (c0 : Plan) (a0 : Int) : T Int := (bif (decide ((IntKind.i64.wrap ((IntKind.i64.wrap (D.zah D.zaO a0)) - 1)) < 0)) then (D.zaY (-1)) else (D.zb9 (D.zb2 c0 (IntKind.i64.wrap ((IntKind.i64.wrap (D.zah D.zaO a0)) - 1))) (fun x => (D.zen r_free_Pop c0 a0 (IntKind.i64.wrap ((IntKind.i64.wrap (D.zah D.zaO a0)) - 1)) x))))
def D.zdk (r_free_Pop : Plan → T Int) (a0 : Plan) : T Int := (D.zb9 (D.zaW a0) (fun x => (D.zdM r_free_Pop a0 x)))
def D.zbW : Nat → Plan → T Int
  | 0, _ => .cut
  | k + 1, a0 => D.zdk (D.zbW k) a0
def ze4 (r : Plan → T Int) (n : Nat) : Prop := ∀ (F : Nat → Prop) (w0 : World), (∀ b, F b → b < w0.heap.size) → ∀ (a0 : Plan), Calls Tryz.prog 191 #[.agg (znu a0).toArray] w0 (zny Tryz.prog znz n (r a0) F w0)
theorem zix {n : Nat} {F : Nat → Prop} {r_free_Pop : Plan → T Int} {w0 : World} (hF : ∀ b, F b → b < w0.heap.size) (ih_free_Pop : ∀ m, m ≤ n → ze4 r_free_Pop m)
    (c0 : Plan) {c0b : Nat} (c0F : F c0b) (c0h : w0.heap[c0b]? = some (.cells ((znu c0)).toArray 25 (0, 0))) (c1 : Int) {c1b : Nat} (c1F : F c1b) (c1h : w0.heap[c1b]? = some (.cells ([(.int .i64 c1)]).toArray 3 (0, 0))) (a0 : Bool) :
    Calls Tryz.prog 292 #[.bool a0, zp c0b, zp c1b] w0 (zny Tryz.prog znz n (D.zcW r_free_Pop c0 c1 a0) F w0) := by
 refine enter Tryz.func292 rfl 11 rfl rfl fun fr r => ?_
 have hB := Below.refl w0.heap.size w0
 have lc0b := lt_of_block c0h
 have lc1b := lt_of_block c1h
 refine wsr ?_
 refine za5 (.cells (znt false znz.zero 0 0 0 0 .nilFunc) 167 (0, 0)) r (fun R => zag znV) rfl fun fr b1 w2 n3 r => ?_
 obtain ⟨e_b1, z_w2, h_b1, hB, zB⟩ := n3.all hB
 refine wn (wp_seq (wsr (za0 (.bool a0) r (fun R => za9 r rfl) rfl fun fr r => za0 (.bool (!a0)) r (fun R => y_un r (u := (.bool a0)) rfl rfl) rfl fun fr r => wn ?_)))
 refine wp_cond_split (t := (!a0)) (r.ev rfl) (fun h4 => ?_) (fun h4 => ?_)
 ·
  refine wsr (za0 (.agg (znu c0).toArray) r (fun R => za6 r (cs := (znu c0)) (n := 6) rfl (keep hB c0h) ta25 rfl) rfl fun fr r => ?_)
  have hF1 := znI hF hB b1
  refine za8 r ((ih_free_Pop n (by omega)) (fun b => F b ∨ (w0.heap.size ≤ b ∧ b < w2.heap.size ∧ b ≠ b1)) _ hF1 c0) (fun R hc => zac r rfl zpq hc) rfl ?_
  rintro _ w5 ⟨v6, rfl, hb, hr7⟩
  refine ⟨_, rfl, fun fr r => ?_⟩
  have z_w5 := hb.size
  have h_b1 := keep hb h_b1
  obtain ⟨hB, zB⟩ := bon hb hB
  refine zae (.cells v6.cells 167 (0, 0)) r (fun R => zaf r hr7.shape rfl rfl h_b1 znT rfl) rfl fun fr w8 u9 r => ?_
  have z_w8 := u9.size
  have h_b1 := u9.at_
  obtain ⟨hB, zB⟩ := u9.on hB (by omega)
  refine wn (wp_ret ?_)
  have hd : D.zcW r_free_Pop c0 c1 a0 = (r_free_Pop c0) := (zaq h4).trans (rfl)
  have hs := hr7.shape.cells
  refine zad r rfl rfl h_b1 (k := 7) hs.1 znS ?_
  rw [← hs.2.2, hd]
  exact rfin hF hB hr7 u9 (by omega) (by omega) (by omega)
 ·
  refine wp_skip (wsr (za0 (I c1) r (fun R => za3 r rfl (keep hB c1h) to3 rfl) rfl fun fr r => ?_))
  have hF1 := znI hF hB b1
  refine za8 r (zbm (F := (fun b => F b ∨ (w0.heap.size ≤ b ∧ b < w2.heap.size ∧ b ≠ b1))) (n := n) hF1 c1) (fun R hc => zac r rfl zoe hc) rfl ?_
  rintro _ w10 ⟨v11, rfl, hb, hr12⟩
  refine ⟨_, rfl, fun fr r => ?_⟩
  have z_w10 := hb.size
  have h_b1 := keep hb h_b1
  obtain ⟨hB, zB⟩ := bon hb hB
  refine zae (.cells v11.cells 167 (0, 0)) r (fun R => zaf r hr12.shape rfl rfl h_b1 znT rfl) rfl fun fr w13 u14 r => ?_
  have z_w13 := u14.size
  have h_b1 := u14.at_
  obtain ⟨hB, zB⟩ := u14.on hB (by omega)
  refine wn (wp_ret ?_)
  have hd : D.zcW r_free_Pop c0 c1 a0 = (D.zaY c1) := (zak h4).trans (rfl)
  have hs := hr12.shape.cells
  refine zad r rfl rfl h_b1 (k := 7) hs.1 znS ?_
  rw [← hs.2.2, hd]
  exact rfin hF hB hr12 u14 (by omega) (by omega) (by omega)
theorem zjd {n : Nat} {F : Nat → Prop} {r_free_Pop : Plan → T Int} {w0 : World} (hF : ∀ b, F b → b < w0.heap.size) (ih_free_Pop : ∀ m, m < n → ze4 r_free_Pop m)
    (c0 : Plan) {c0b : Nat} (c0F : F c0b) (c0h : w0.heap[c0b]? = some (.cells ((znu c0)).toArray 25 (0, 0))) (c1 : Int) {c1b : Nat} (c1F : F c1b) (c1h : w0.heap[c1b]? = some (.cells ([(.int .u64 c1)]).toArray 22 (0, 0))) (c2 : Int) {c2b : Nat} (c2F : F c2b) (c2h : w0.heap[c2b]? = some (.cells ([(.int .i64 c2)]).toArray 3 (0, 0))) (a0 : Int) :
    Calls Tryz.prog 289 #[.int .u64 a0, zp c0b, zp c1b, zp c2b] w0 (zny Tryz.prog znz n (D.zen r_free_Pop c0 c1 c2 a0) F w0) := by
 refine enter Tryz.func289 rfl 14 rfl rfl fun fr r => ?_
 have hB := Below.refl w0.heap.size w0
 have lc0b := lt_of_block c0h
 have lc1b := lt_of_block c1h
 have lc2b := lt_of_block c2h
 refine wsr ?_
 refine za5 (.cells (znt false znz.zero 0 0 0 0 .nilFunc) 167 (0, 0)) r (fun R => zag znV) rfl fun fr b1 w2 n3 r => ?_
 obtain ⟨e_b1, z_w2, h_b1, hB, zB⟩ := n3.all hB
 refine wn (wp_seq ?_)
 refine zaI 7 [.val (.agg (znu c0).toArray), .val (I (D.zaW c0)), .val (U c1), .val (U c1), .val (U a0), .val (U (D.zcH c1 a0)), .val (.func (.func 292) #[] #[zp c0b, zp c2b])] mixed r (by kernel_rfl) (za2 (by exact trivial) (za2 (by exact trivial) (za2 (by exact trivial) (za2 (by exact trivial) (za2 (by exact trivial) (za2 (by exact trivial) (za2 (by exact trivial) zaC))))))) ?_ ?_
 ·
  refine ec r (fun _ u _ b d s => za6 s (cs := (znu c0)) (n := 6) rfl (znU hB b c0h) ta25 rfl bz) (ec r (fun fr1 u w' hb' hd r' => zac r' (args := [(.agg (znu c0).toArray)]) (lc hd.1 l0) zov ((zcg _ c0).mono (by rintro _ w2 ⟨rfl, hb2⟩; exact ⟨_, rfl, hb2, rfl⟩))) (ec r (fun _ u _ b d s => za3 s rfl (znU hB b c1h) to22 rfl bz) (ec r (fun _ u _ b d s => za3 s rfl (znU hB b c1h) to22 rfl bz) (ec r (fun _ u _ b d s => za9 s rfl bz) (ec r (fun fr1 u w' hb' hd r' => zac r' (args := [(U c1), (U a0)]) (lc hd.1 (lc hd.2.1 l0)) zpO ((zhH _ c1 a0).mono (by rintro _ w2 ⟨rfl, hb2⟩; exact ⟨_, rfl, hb2, rfl⟩))) (ec r (fun _ u _ b d s => zao s (v := (.func (.func 292) #[] #[zp c0b, zp c2b])) rfl bz) ?_))))))
  exact zaV
 ·
  intro fr u w4 hb hΦ hne r
  have r := r.congr (sc (hΦ 6 (by decide)) (sc (hΦ 5 (by decide)) (sc (hΦ 4 (by decide)) (sc (hΦ 3 (by decide)) (sc (hΦ 2 (by decide)) (sc (hΦ 1 (by decide)) (sc (hΦ 0 (by decide)) rfl)))))))
  have z_w4 := hb.size
  have h_b1 := keep hb h_b1
  obtain ⟨hB, zB⟩ := bon hb hB
  have hF1 := znI hF hB b1
  have f5 : ((fun b => F b ∨ (w0.heap.size ≤ b ∧ b < w4.heap.size ∧ b ≠ b1))) c0b := (.inl c0F)
  have f6 : ((fun b => F b ∨ (w0.heap.size ≤ b ∧ b < w4.heap.size ∧ b ≠ b1))) c2b := (.inl c2F)
  refine za8 r (zgo (F := (fun b => F b ∨ (w0.heap.size ≤ b ∧ b < w4.heap.size ∧ b ≠ b1))) (n := n) hF1 (D.zaW c0) c1 (D.zcH c1 a0) ⟨292, [], [zp c0b, zp c2b], zsd, rfl, fun m hm x w' hs hz => zix (fun b hb => Nat.lt_of_lt_of_le (hF1 b hb) hz) (fun m' hm' => ih_free_Pop m' (by omega)) c0 f5 (hs.at_ f5 (keep hB c0h)) c2 f6 (hs.at_ f6 (keep hB c2h)) x⟩) (fun R hc => zac r rfl zpU hc) rfl ?_
  rintro _ w7 ⟨v8, rfl, hb, hr9⟩
  refine ⟨_, rfl, fun fr r => ?_⟩
  have z_w7 := hb.size
  have h_b1 := keep hb h_b1
  obtain ⟨hB, zB⟩ := bon hb hB
  refine zae (.cells v8.cells 167 (0, 0)) r (fun R => zaf r hr9.shape rfl rfl h_b1 znT rfl) rfl fun fr w10 u11 r => ?_
  have z_w10 := u11.size
  have h_b1 := u11.at_
  obtain ⟨hB, zB⟩ := u11.on hB (by omega)
  refine wn (wp_ret ?_)
  have hs := hr9.shape.cells
  refine zad r rfl rfl h_b1 (k := 7) hs.1 znS ?_
  rw [← hs.2.2]
  exact rfin hF hB hr9 u11 (by omega) (by omega) (by omega)
theorem zkj {n : Nat} {F : Nat → Prop} {r_free_Pop : Plan → T Int} {w0 : World} (hF : ∀ b, F b → b < w0.heap.size) (ih_free_Pop : ∀ m, m < n → ze4 r_free_Pop m)
    (c0 : Plan) {c0b : Nat} (c0F : F c0b) (c0h : w0.heap[c0b]? = some (.cells ((znu c0)).toArray 25 (0, 0))) (a0 : Int) :
    Calls Tryz.prog 288 #[.int .u64 a0, zp c0b] w0 (zny Tryz.prog znz n (D.zdM r_free_Pop c0 a0) F w0) := by
 refine enter Tryz.func288 rfl 18 rfl rfl fun fr r => ?_
 have hB := Below.refl w0.heap.size w0
 have lc0b := lt_of_block c0h
 refine wsr ?_
 refine za5 (.cells #[(U a0)] 22 (0, 0)) r (fun R => znF r (v := (U a0)) rfl) rfl fun fr b1 w2 n3 r => ?_
 obtain ⟨e_b1, z_w2, h_b1, hB, zB⟩ := n3.all hB
 refine za5 (.cells (znt false znz.zero 0 0 0 0 .nilFunc) 167 (0, 0)) r (fun R => zag znV) rfl fun fr b4 w5 n6 r => ?_
 have h_b1 := keep n6.below h_b1
 obtain ⟨e_b4, z_w5, h_b4, hB, zB⟩ := n6.all hB
 refine wn (wp_seq ?_)
 refine zaI 6 [.val (.agg (znB D.zaO).toArray), .val (U a0), .val (U (D.zah D.zaO a0)), .val (I (W (D.zah D.zaO a0))), .val (I (W ((W (D.zah D.zaO a0)) - 1))), .new w5.heap.size (.cells #[(I 0)] 3 (0, 0))] mixed r (by kernel_rfl) (za2 (by exact trivial) (za2 (by exact trivial) (za2 (by exact trivial) (za2 (by exact trivial) (za2 (by exact trivial) (za2 (Nat.le_refl _) zaC)))))) ?_ ?_
 ·
  refine ec r (fun fr1 u w' hb' hd r' => zac r' (args := []) (l0) zoO ((zfP _ ).mono (by rintro _ w2 ⟨rfl, hb2⟩; exact ⟨_, rfl, hb2, rfl⟩))) (ec r (fun _ u _ b d s => za3 s rfl (keep b h_b1) to22 rfl bz) (ec r (fun fr1 u w' hb' hd r' => zac r' (args := [(.agg (znB D.zaO).toArray), (U a0)]) (lc hd.1 (lc hd.2.1 l0)) zou ((zcA _ D.zaO a0).mono (by rintro _ w2 ⟨rfl, hb2⟩; exact ⟨_, rfl, hb2, rfl⟩))) (ec r (fun _ u _ b d s => zb8 s (n := (D.zah D.zaO a0)) d.1 ti22 ti3 bz) (ec r (fun _ u _ b d s => znA s d.1 rfl rfl rfl bz) (ec r (fun fr1 u w' hb' hd r' => zag tz3 (fun b w2 n2 => ⟨n2.below, b, rfl, Nat.le_of_eq n2.eq.symm, n2.at_⟩)) ?_)))))
  exact zaV
 ·
  intro fr u w7 hb hΦ hne r
  obtain ⟨b8, g5, e_b8, h_b8⟩ := hΦ 5 (by decide)
  have l_b8 := lt_of_block h_b8
  have r := r.congr (sc g5 (sc (hΦ 4 (by decide)) (sc (hΦ 3 (by decide)) (sc (hΦ 2 (by decide)) (sc (hΦ 1 (by decide)) (sc (hΦ 0 (by decide)) rfl))))))
  have z_w7 := hb.size
  have h_b1 := keep hb h_b1
  have h_b4 := keep hb h_b4
  obtain ⟨hB, zB⟩ := bon hb hB
  refine zae (.cells #[(I (W ((W (D.zah D.zaO a0)) - 1)))] 3 (0, 0)) r (fun R => zaS r (o := 0) (v := (I (W ((W (D.zah D.zaO a0)) - 1)))) rfl rfl h_b8 ts3 (Nat.le_of_ble_eq_true rfl) rfl rfl) rfl fun fr w9 u10 r => ?_
  have z_w9 := u10.size
  have h_b1 := u10.keep h_b1 (by omega)
  have h_b4 := u10.keep h_b4 (by omega)
  have h_b8 := u10.at_
  obtain ⟨hB, zB⟩ := u10.on hB (by omega)
  refine wn (wp_seq (wsr (za0 (I (W ((W (D.zah D.zaO a0)) - 1))) r (fun R => za3 r rfl h_b8 to3 rfl) rfl fun fr r => za0 _ r (fun R => znA r rfl rfl rfl rfl) rfl fun fr r => wn ?_)))
  refine wp_cond_split (t := (decide ((W ((W (D.zah D.zaO a0)) - 1)) < 0))) (r.ev rfl) (fun h11 => ?_) (fun h11 => ?_)
  ·
   refine wsr ?_
   have hF1 := znI hF hB b4
   refine za8 r (zbm (F := (fun b => F b ∨ (w0.heap.size ≤ b ∧ b < w9.heap.size ∧ b ≠ b4))) (n := n) hF1 (-1)) (fun R hc => zac r rfl zoe hc) rfl ?_
   rintro _ w12 ⟨v13, rfl, hb, hr14⟩
   refine ⟨_, rfl, fun fr r => ?_⟩
   have z_w12 := hb.size
   have h_b1 := keep hb h_b1
   have h_b4 := keep hb h_b4
   have h_b8 := keep hb h_b8
   obtain ⟨hB, zB⟩ := bon hb hB
   refine zae (.cells v13.cells 167 (0, 0)) r (fun R => zaf r hr14.shape rfl rfl h_b4 znT rfl) rfl fun fr w15 u16 r => ?_
   have z_w15 := u16.size
   have h_b1 := u16.keep h_b1 (by omega)
   have h_b8 := u16.keep h_b8 (by omega)
   have h_b4 := u16.at_
   obtain ⟨hB, zB⟩ := u16.on hB (by omega)
   refine wn (wp_ret ?_)
   have hd : D.zdM r_free_Pop c0 a0 = (D.zaY (-1)) := (zaq h11).trans (rfl)
   have hs := hr14.shape.cells
   refine zad r rfl rfl h_b4 (k := 7) hs.1 znS ?_
   rw [← hs.2.2, hd]
   exact rfin hF hB hr14 u16 (by omega) (by omega) (by omega)
  ·
   refine wp_skip (wsr (za0 (.agg (znu c0).toArray) r (fun R => za6 r (cs := (znu c0)) (n := 6) rfl (keep hB c0h) ta25 rfl) rfl fun fr r => za0 (I (W ((W (D.zah D.zaO a0)) - 1))) r (fun R => za3 r rfl h_b8 to3 rfl) rfl fun fr r => ?_))
   refine za8 r (zcP w9 c0 (W ((W (D.zah D.zaO a0)) - 1))) (fun R hc => zac r rfl zoI hc) rfl ?_
   rintro _ w17 ⟨rfl, hb⟩
   refine ⟨_, rfl, fun fr r => ?_⟩
   have z_w17 := hb.size
   have h_b1 := keep hb h_b1
   have h_b4 := keep hb h_b4
   have h_b8 := keep hb h_b8
   obtain ⟨hB, zB⟩ := bon hb hB
   refine za0 (.func (.func 289) #[] #[zp c0b, zp b1, zp b8]) r (fun R => zao r rfl) rfl fun fr r => ?_
   have hF1 := znI hF hB b4
   have f18 : ((fun b => F b ∨ (w0.heap.size ≤ b ∧ b < w17.heap.size ∧ b ≠ b4))) c0b := (.inl c0F)
   have f19 : ((fun b => F b ∨ (w0.heap.size ≤ b ∧ b < w17.heap.size ∧ b ≠ b4))) b1 := (.inr ⟨by omega, by omega, by omega⟩)
   have f20 : ((fun b => F b ∨ (w0.heap.size ≤ b ∧ b < w17.heap.size ∧ b ≠ b4))) b8 := (.inr ⟨by omega, by omega, by omega⟩)
   refine za8 r (zbG (F := (fun b => F b ∨ (w0.heap.size ≤ b ∧ b < w17.heap.size ∧ b ≠ b4))) (n := n) hF1 (D.zb2 c0 (W ((W (D.zah D.zaO a0)) - 1))) ⟨289, [], [zp c0b, zp b1, zp b8], zr6, rfl, fun m hm x w' hs hz => zjd (fun b hb => Nat.lt_of_lt_of_le (hF1 b hb) hz) (fun m' hm' => ih_free_Pop m' (by omega)) c0 f18 (hs.at_ f18 (keep hB c0h)) a0 f19 (hs.at_ f19 h_b1) (W ((W (D.zah D.zaO a0)) - 1)) f20 (hs.at_ f20 h_b8) x⟩) (fun R hc => zac r rfl zoj hc) rfl ?_
   rintro _ w21 ⟨v22, rfl, hb, hr23⟩
   refine ⟨_, rfl, fun fr r => ?_⟩
   have z_w21 := hb.size
   have h_b1 := keep hb h_b1
   have h_b4 := keep hb h_b4
   have h_b8 := keep hb h_b8
   obtain ⟨hB, zB⟩ := bon hb hB
   refine zae (.cells v22.cells 167 (0, 0)) r (fun R => zaf r hr23.shape rfl rfl h_b4 znT rfl) rfl fun fr w24 u25 r => ?_
   have z_w24 := u25.size
   have h_b1 := u25.keep h_b1 (by omega)
   have h_b8 := u25.keep h_b8 (by omega)
   have h_b4 := u25.at_
   obtain ⟨hB, zB⟩ := u25.on hB (by omega)
   refine wn (wp_ret ?_)
   have hd : D.zdM r_free_Pop c0 a0 = (D.zb9 (D.zb2 c0 (W ((W (D.zah D.zaO a0)) - 1))) (fun x => (D.zen r_free_Pop c0 a0 (W ((W (D.zah D.zaO a0)) - 1)) x))) := (zak h11).trans (rfl)
   have hs := hr23.shape.cells
   refine zad r rfl rfl h_b4 (k := 7) hs.1 znS ?_
   rw [← hs.2.2, hd]
   exact rfin hF hB hr23 u25 (by omega) (by omega) (by omega)
theorem zll {n : Nat} {F : Nat → Prop} {r_free_Pop : Plan → T Int} {w0 : World} (hF : ∀ b, F b → b < w0.heap.size) (ih_free_Pop : ∀ m, m < n → ze4 r_free_Pop m)
    (a0 : Plan) :
    Calls Tryz.prog 191 #[.agg (znu a0).toArray] w0 (zny Tryz.prog znz n (D.zdk r_free_Pop a0) F w0) := by
 refine enter Tryz.func191 rfl 7 rfl rfl fun fr r => ?_
 have hB := Below.refl w0.heap.size w0
 refine wsr ?_
 refine za5 (.cells ((znu a0)).toArray 25 (0, 0)) r (fun R => znF r (v := (.agg (znu a0).toArray)) rfl) rfl fun fr b1 w2 n3 r => ?_
 obtain ⟨e_b1, z_w2, h_b1, hB, zB⟩ := n3.all hB
 refine za5 (.cells (znt false znz.zero 0 0 0 0 .nilFunc) 167 (0, 0)) r (fun R => zag znV) rfl fun fr b4 w5 n6 r => ?_
 have h_b1 := keep n6.below h_b1
 obtain ⟨e_b4, z_w5, h_b4, hB, zB⟩ := n6.all hB
 refine wn (wsr (za0 (.agg (znu a0).toArray) r (fun R => za6 r (cs := (znu a0)) (n := 6) rfl h_b1 ta25 rfl) rfl fun fr r => ?_))
 refine za8 r (zcg w5 a0) (fun R hc => zac r rfl zov hc) rfl ?_
 rintro _ w7 ⟨rfl, hb⟩
 refine ⟨_, rfl, fun fr r => ?_⟩
 have z_w7 := hb.size
 have h_b1 := keep hb h_b1
 have h_b4 := keep hb h_b4
 obtain ⟨hB, zB⟩ := bon hb hB
 refine za0 (.func (.func 288) #[] #[zp b1]) r (fun R => zao r rfl) rfl fun fr r => ?_
 have hF1 := znI hF hB b4
 have f8 : ((fun b => F b ∨ (w0.heap.size ≤ b ∧ b < w7.heap.size ∧ b ≠ b4))) b1 := (.inr ⟨by omega, by omega, by omega⟩)
 refine za8 r (zbG (F := (fun b => F b ∨ (w0.heap.size ≤ b ∧ b < w7.heap.size ∧ b ≠ b4))) (n := n) hF1 (D.zaW a0) ⟨288, [], [zp b1], zqT, rfl, fun m hm x w' hs hz => zkj (fun b hb => Nat.lt_of_lt_of_le (hF1 b hb) hz) (fun m' hm' => ih_free_Pop m' (by omega)) a0 f8 (hs.at_ f8 h_b1) x⟩) (fun R hc => zac r rfl zoj hc) rfl ?_
 rintro _ w9 ⟨v10, rfl, hb, hr11⟩
 refine ⟨_, rfl, fun fr r => ?_⟩
 have z_w9 := hb.size
 have h_b1 := keep hb h_b1
 have h_b4 := keep hb h_b4
 obtain ⟨hB, zB⟩ := bon hb hB
 refine zae (.cells v10.cells 167 (0, 0)) r (fun R => zaf r hr11.shape rfl rfl h_b4 znT rfl) rfl fun fr w12 u13 r => ?_
 have z_w12 := u13.size
 have h_b1 := u13.keep h_b1 (by omega)
 have h_b4 := u13.at_
 obtain ⟨hB, zB⟩ := u13.on hB (by omega)
 refine wn (wp_ret ?_)
 have hs := hr11.shape.cells
 refine zad r rfl rfl h_b4 (k := 7) hs.1 znS ?_
 rw [← hs.2.2]
 exact rfin hF hB hr11 u13 (by omega) (by omega) (by omega)
theorem zjo {n : Nat} {k : Nat} (hk : n < k) : ze4 (D.zbW k) n := by
  induction n using Nat.strongRecOn generalizing k with
  | _ n ih =>
    obtain ⟨k, rfl⟩ : ∃ q, k = q + 1 := ⟨k - 1, by omega⟩
    intro F w0 hF
    have h := @zll n F (D.zbW k) w0 hF (fun m hm => ih m hm (by omega))
    exact h
def D.zcz (r_free_Push : Plan → Int → T Int) (c0 : Plan) (c1 : Int) (a0 : Bool) : T Int := (bif (!a0) then (r_free_Push c0 c1) else (D.zaY c1))
def D.zeG (r_free_Push : Plan → Int → T Int) (c0 : Plan) (c1 : Int) (c2 : Int) : T Int := (D.zfJ (D.zaW c0) c1 (D.zcH c1 (D.zbM c2)) (fun x => (D.zcz r_free_Push c0 c2 x)))
def D.zeS (r_free_Push : Plan → Int → T Int) (c0 : Plan) (c1 : Int) (a0 : Int) : T Int := (D.zbe (D.zb2 c0 c1) (D.zah D.zaO a0) (fun _ => (D.zeG r_free_Push c0 a0 c1)))
def D.zcU (r_free_Push : Plan → Int → T Int) (a0 : Plan) (a1 : Int) : T Int := (bif ((D.zb2 a0 a1) == (-1)) then (D.zaY (-1)) else (D.zb9 (D.zaW a0) (fun x => (D.zeS r_free_Push a0 a1 x))))
def D.zd5 : Nat → Plan → Int → T Int
  | 0, _, _ => .cut
  | k + 1, a0, a1 => D.zcU (D.zd5 k) a0 a1
def zdr (r : Plan → Int → T Int) (n : Nat) : Prop := ∀ (F : Nat → Prop) (w0 : World), (∀ b, F b → b < w0.heap.size) → ∀ (a0 : Plan) (a1 : Int), Calls Tryz.prog 343 #[.agg (znu a0).toArray, .int .i64 a1] w0 (zny Tryz.prog znz n (r a0 a1) F w0)
theorem zi8 {n : Nat} {F : Nat → Prop} {r_free_Push : Plan → Int → T Int} {w0 : World} (hF : ∀ b, F b → b < w0.heap.size) (ih_free_Push : ∀ m, m ≤ n → zdr r_free_Push m)
    (c0 : Plan) {c0b : Nat} (c0F : F c0b) (c0h : w0.heap[c0b]? = some (.cells ((znu c0)).toArray 25 (0, 0))) (c1 : Int) {c1b : Nat} (c1F : F c1b) (c1h : w0.heap[c1b]? = some (.cells ([(.int .i64 c1)]).toArray 3 (0, 0))) (a0 : Bool) :
    Calls Tryz.prog 381 #[.bool a0, zp c0b, zp c1b] w0 (zny Tryz.prog znz n (D.zcz r_free_Push c0 c1 a0) F w0) := by
 refine enter Tryz.func381 rfl 12 rfl rfl fun fr r => ?_
 have hB := Below.refl w0.heap.size w0
 have lc0b := lt_of_block c0h
 have lc1b := lt_of_block c1h
 refine wsr ?_
 refine za5 (.cells (znt false znz.zero 0 0 0 0 .nilFunc) 167 (0, 0)) r (fun R => zag znV) rfl fun fr b1 w2 n3 r => ?_
 obtain ⟨e_b1, z_w2, h_b1, hB, zB⟩ := n3.all hB
 refine wn (wp_seq (wsr (za0 (.bool a0) r (fun R => za9 r rfl) rfl fun fr r => za0 (.bool (!a0)) r (fun R => y_un r (u := (.bool a0)) rfl rfl) rfl fun fr r => wn ?_)))
 refine wp_cond_split (t := (!a0)) (r.ev rfl) (fun h4 => ?_) (fun h4 => ?_)
 ·
  refine wsr (za0 (.agg (znu c0).toArray) r (fun R => za6 r (cs := (znu c0)) (n := 6) rfl (keep hB c0h) ta25 rfl) rfl fun fr r => za0 (I c1) r (fun R => za3 r rfl (keep hB c1h) to3 rfl) rfl fun fr r => ?_)
  have hF1 := znI hF hB b1
  refine za8 r ((ih_free_Push n (by omega)) (fun b => F b ∨ (w0.heap.size ≤ b ∧ b < w2.heap.size ∧ b ≠ b1)) _ hF1 c0 c1) (fun R hc => zac r rfl zpW hc) rfl ?_
  rintro _ w5 ⟨v6, rfl, hb, hr7⟩
  refine ⟨_, rfl, fun fr r => ?_⟩
  have z_w5 := hb.size
  have h_b1 := keep hb h_b1
  obtain ⟨hB, zB⟩ := bon hb hB
  refine zae (.cells v6.cells 167 (0, 0)) r (fun R => zaf r hr7.shape rfl rfl h_b1 znT rfl) rfl fun fr w8 u9 r => ?_
  have z_w8 := u9.size
  have h_b1 := u9.at_
  obtain ⟨hB, zB⟩ := u9.on hB (by omega)
  refine wn (wp_ret ?_)
  have hd : D.zcz r_free_Push c0 c1 a0 = (r_free_Push c0 c1) := (zaq h4).trans (rfl)
  have hs := hr7.shape.cells
  refine zad r rfl rfl h_b1 (k := 7) hs.1 znS ?_
  rw [← hs.2.2, hd]
  exact rfin hF hB hr7 u9 (by omega) (by omega) (by omega)
 ·
  refine wp_skip (wsr (za0 (I c1) r (fun R => za3 r rfl (keep hB c1h) to3 rfl) rfl fun fr r => ?_))
  have hF1 := znI hF hB b1
  refine za8 r (zbm (F := (fun b => F b ∨ (w0.heap.size ≤ b ∧ b < w2.heap.size ∧ b ≠ b1))) (n := n) hF1 c1) (fun R hc => zac r rfl zoe hc) rfl ?_
  rintro _ w10 ⟨v11, rfl, hb, hr12⟩
  refine ⟨_, rfl, fun fr r => ?_⟩
  have z_w10 := hb.size
  have h_b1 := keep hb h_b1
  obtain ⟨hB, zB⟩ := bon hb hB
  refine zae (.cells v11.cells 167 (0, 0)) r (fun R => zaf r hr12.shape rfl rfl h_b1 znT rfl) rfl fun fr w13 u14 r => ?_
  have z_w13 := u14.size
  have h_b1 := u14.at_
  obtain ⟨hB, zB⟩ := u14.on hB (by omega)
  refine wn (wp_ret ?_)
  have hd : D.zcz r_free_Push c0 c1 a0 = (D.zaY c1) := (zak h4).trans (rfl)
  have hs := hr12.shape.cells
  refine zad r rfl rfl h_b1 (k := 7) hs.1 znS ?_
  rw [← hs.2.2, hd]
  exact rfin hF hB hr12 u14 (by omega) (by omega) (by omega)
theorem ziS {n : Nat} {F : Nat → Prop} {r_free_Push : Plan → Int → T Int} {w0 : World} (hF : ∀ b, F b → b < w0.heap.size) (ih_free_Push : ∀ m, m < n → zdr r_free_Push m)
    (c0 : Plan) {c0b : Nat} (c0F : F c0b) (c0h : w0.heap[c0b]? = some (.cells ((znu c0)).toArray 25 (0, 0))) (c1 : Int) {c1b : Nat} (c1F : F c1b) (c1h : w0.heap[c1b]? = some (.cells ([(.int .u64 c1)]).toArray 22 (0, 0))) (c2 : Int) {c2b : Nat} (c2F : F c2b) (c2h : w0.heap[c2b]? = some (.cells ([(.int .i64 c2)]).toArray 3 (0, 0))) :
    Calls Tryz.prog 380 #[zp c0b, zp c1b, zp c2b] w0 (zny Tryz.prog znz n (D.zeG r_free_Push c0 c1 c2) F w0) := by
 refine enter Tryz.func380 rfl 13 rfl rfl fun fr r => ?_
 have hB := Below.refl w0.heap.size w0
 have lc0b := lt_of_block c0h
 have lc1b := lt_of_block c1h
 have lc2b := lt_of_block c2h
 refine wsr ?_
 refine za5 (.cells (znt false znz.zero 0 0 0 0 .nilFunc) 167 (0, 0)) r (fun R => zag znV) rfl fun fr b1 w2 n3 r => ?_
 obtain ⟨e_b1, z_w2, h_b1, hB, zB⟩ := n3.all hB
 refine wn (wp_seq ?_)
 refine zaI 8 [.val (.agg (znu c0).toArray), .val (I (D.zaW c0)), .val (U c1), .val (U c1), .val (I c2), .val (U (D.zbM c2)), .val (U (D.zcH c1 (D.zbM c2))), .val (.func (.func 381) #[] #[zp c0b, zp c2b])] mixed r (by kernel_rfl) (za2 (by exact trivial) (za2 (by exact trivial) (za2 (by exact trivial) (za2 (by exact trivial) (za2 (by exact trivial) (za2 (by exact trivial) (za2 (by exact trivial) (za2 (by exact trivial) zaC)))))))) ?_ ?_
 ·
  refine ec r (fun _ u _ b d s => za6 s (cs := (znu c0)) (n := 6) rfl (znU hB b c0h) ta25 rfl bz) (ec r (fun fr1 u w' hb' hd r' => zac r' (args := [(.agg (znu c0).toArray)]) (lc hd.1 l0) zov ((zcg _ c0).mono (by rintro _ w2 ⟨rfl, hb2⟩; exact ⟨_, rfl, hb2, rfl⟩))) (ec r (fun _ u _ b d s => za3 s rfl (znU hB b c1h) to22 rfl bz) (ec r (fun _ u _ b d s => za3 s rfl (znU hB b c1h) to22 rfl bz) (ec r (fun _ u _ b d s => za3 s rfl (znU hB b c2h) to3 rfl bz) (ec r (fun fr1 u w' hb' hd r' => zac r' (args := [(I c2)]) (lc hd.1 l0) zpb ((zh7 _ c2).mono (by rintro _ w2 ⟨rfl, hb2⟩; exact ⟨_, rfl, hb2, rfl⟩))) (ec r (fun fr1 u w' hb' hd r' => zac r' (args := [(U c1), (U (D.zbM c2))]) (lc hd.1 (lc hd.2.1 l0)) zpO ((zhH _ c1 (D.zbM c2)).mono (by rintro _ w2 ⟨rfl, hb2⟩; exact ⟨_, rfl, hb2, rfl⟩))) (ec r (fun _ u _ b d s => zao s (v := (.func (.func 381) #[] #[zp c0b, zp c2b])) rfl bz) ?_)))))))
  exact zaV
 ·
  intro fr u w4 hb hΦ hne r
  have r := r.congr (sc (hΦ 7 (by decide)) (sc (hΦ 6 (by decide)) (sc (hΦ 5 (by decide)) (sc (hΦ 4 (by decide)) (sc (hΦ 3 (by decide)) (sc (hΦ 2 (by decide)) (sc (hΦ 1 (by decide)) (sc (hΦ 0 (by decide)) rfl))))))))
  have z_w4 := hb.size
  have h_b1 := keep hb h_b1
  obtain ⟨hB, zB⟩ := bon hb hB
  have hF1 := znI hF hB b1
  have f5 : ((fun b => F b ∨ (w0.heap.size ≤ b ∧ b < w4.heap.size ∧ b ≠ b1))) c0b := (.inl c0F)
  have f6 : ((fun b => F b ∨ (w0.heap.size ≤ b ∧ b < w4.heap.size ∧ b ≠ b1))) c2b := (.inl c2F)
  refine za8 r (zgo (F := (fun b => F b ∨ (w0.heap.size ≤ b ∧ b < w4.heap.size ∧ b ≠ b1))) (n := n) hF1 (D.zaW c0) c1 (D.zcH c1 (D.zbM c2)) ⟨381, [], [zp c0b, zp c2b], zrN, rfl, fun m hm x w' hs hz => zi8 (fun b hb => Nat.lt_of_lt_of_le (hF1 b hb) hz) (fun m' hm' => ih_free_Push m' (by omega)) c0 f5 (hs.at_ f5 (keep hB c0h)) c2 f6 (hs.at_ f6 (keep hB c2h)) x⟩) (fun R hc => zac r rfl zpU hc) rfl ?_
  rintro _ w7 ⟨v8, rfl, hb, hr9⟩
  refine ⟨_, rfl, fun fr r => ?_⟩
  have z_w7 := hb.size
  have h_b1 := keep hb h_b1
  obtain ⟨hB, zB⟩ := bon hb hB
  refine zae (.cells v8.cells 167 (0, 0)) r (fun R => zaf r hr9.shape rfl rfl h_b1 znT rfl) rfl fun fr w10 u11 r => ?_
  have z_w10 := u11.size
  have h_b1 := u11.at_
  obtain ⟨hB, zB⟩ := u11.on hB (by omega)
  refine wn (wp_ret ?_)
  have hs := hr9.shape.cells
  refine zad r rfl rfl h_b1 (k := 7) hs.1 znS ?_
  rw [← hs.2.2]
  exact rfin hF hB hr9 u11 (by omega) (by omega) (by omega)
theorem zk7 {n : Nat} {F : Nat → Prop} {r_free_Push : Plan → Int → T Int} {w0 : World} (hF : ∀ b, F b → b < w0.heap.size) (ih_free_Push : ∀ m, m < n → zdr r_free_Push m)
    (c0 : Plan) {c0b : Nat} (c0F : F c0b) (c0h : w0.heap[c0b]? = some (.cells ((znu c0)).toArray 25 (0, 0))) (c1 : Int) {c1b : Nat} (c1F : F c1b) (c1h : w0.heap[c1b]? = some (.cells ([(.int .i64 c1)]).toArray 3 (0, 0))) (a0 : Int) :
    Calls Tryz.prog 379 #[.int .u64 a0, zp c0b, zp c1b] w0 (zny Tryz.prog znz n (D.zeS r_free_Push c0 c1 a0) F w0) := by
 refine enter Tryz.func379 rfl 13 rfl rfl fun fr r => ?_
 have hB := Below.refl w0.heap.size w0
 have lc0b := lt_of_block c0h
 have lc1b := lt_of_block c1h
 refine wsr ?_
 refine za5 (.cells #[(U a0)] 22 (0, 0)) r (fun R => znF r (v := (U a0)) rfl) rfl fun fr b1 w2 n3 r => ?_
 obtain ⟨e_b1, z_w2, h_b1, hB, zB⟩ := n3.all hB
 refine za5 (.cells (znt false znz.zero 0 0 0 0 .nilFunc) 167 (0, 0)) r (fun R => zag znV) rfl fun fr b4 w5 n6 r => ?_
 have h_b1 := keep n6.below h_b1
 obtain ⟨e_b4, z_w5, h_b4, hB, zB⟩ := n6.all hB
 refine wn (wp_seq ?_)
 refine zaI 7 [.val (.agg (znu c0).toArray), .val (I c1), .val (I (D.zb2 c0 c1)), .val (.agg (znB D.zaO).toArray), .val (U a0), .val (U (D.zah D.zaO a0)), .val (.func (.func 380) #[] #[zp c0b, zp b1, zp c1b])] mixed r (by kernel_rfl) (za2 (by exact trivial) (za2 (by exact trivial) (za2 (by exact trivial) (za2 (by exact trivial) (za2 (by exact trivial) (za2 (by exact trivial) (za2 (by exact trivial) zaC))))))) ?_ ?_
 ·
  refine ec r (fun _ u _ b d s => za6 s (cs := (znu c0)) (n := 6) rfl (znU hB b c0h) ta25 rfl bz) (ec r (fun _ u _ b d s => za3 s rfl (znU hB b c1h) to3 rfl bz) (ec r (fun fr1 u w' hb' hd r' => zac r' (args := [(.agg (znu c0).toArray), (I c1)]) (lc hd.1 (lc hd.2.1 l0)) zoI ((zcP _ c0 c1).mono (by rintro _ w2 ⟨rfl, hb2⟩; exact ⟨_, rfl, hb2, rfl⟩))) (ec r (fun fr1 u w' hb' hd r' => zac r' (args := []) (l0) zoO ((zfP _ ).mono (by rintro _ w2 ⟨rfl, hb2⟩; exact ⟨_, rfl, hb2, rfl⟩))) (ec r (fun _ u _ b d s => za3 s rfl (keep b h_b1) to22 rfl bz) (ec r (fun fr1 u w' hb' hd r' => zac r' (args := [(.agg (znB D.zaO).toArray), (U a0)]) (lc hd.1 (lc hd.2.1 l0)) zou ((zcA _ D.zaO a0).mono (by rintro _ w2 ⟨rfl, hb2⟩; exact ⟨_, rfl, hb2, rfl⟩))) (ec r (fun _ u _ b d s => zao s (v := (.func (.func 380) #[] #[zp c0b, zp b1, zp c1b])) rfl bz) ?_))))))
  exact zaV
 ·
  intro fr u w7 hb hΦ hne r
  have r := r.congr (sc (hΦ 6 (by decide)) (sc (hΦ 5 (by decide)) (sc (hΦ 4 (by decide)) (sc (hΦ 3 (by decide)) (sc (hΦ 2 (by decide)) (sc (hΦ 1 (by decide)) (sc (hΦ 0 (by decide)) rfl)))))))
  have z_w7 := hb.size
  have h_b1 := keep hb h_b1
  have h_b4 := keep hb h_b4
  obtain ⟨hB, zB⟩ := bon hb hB
  have hF1 := znI hF hB b4
  have f8 : ((fun b => F b ∨ (w0.heap.size ≤ b ∧ b < w7.heap.size ∧ b ≠ b4))) c0b := (.inl c0F)
  have f9 : ((fun b => F b ∨ (w0.heap.size ≤ b ∧ b < w7.heap.size ∧ b ≠ b4))) b1 := (.inr ⟨by omega, by omega, by omega⟩)
  have f10 : ((fun b => F b ∨ (w0.heap.size ≤ b ∧ b < w7.heap.size ∧ b ≠ b4))) c1b := (.inl c1F)
  refine za8 r (zbK (F := (fun b => F b ∨ (w0.heap.size ≤ b ∧ b < w7.heap.size ∧ b ≠ b4))) (n := n) hF1 (D.zb2 c0 c1) (D.zah D.zaO a0) ⟨380, [], [zp c0b, zp b1, zp c1b], zqx, rfl, fun m hm _ w' hs hz => ziS (fun b hb => Nat.lt_of_lt_of_le (hF1 b hb) hz) (fun m' hm' => ih_free_Push m' (by omega)) c0 f8 (hs.at_ f8 (keep hB c0h)) a0 f9 (hs.at_ f9 h_b1) c1 f10 (hs.at_ f10 (keep hB c1h))⟩) (fun R hc => zac r rfl zon hc) rfl ?_
  rintro _ w11 ⟨v12, rfl, hb, hr13⟩
  refine ⟨_, rfl, fun fr r => ?_⟩
  have z_w11 := hb.size
  have h_b1 := keep hb h_b1
  have h_b4 := keep hb h_b4
  obtain ⟨hB, zB⟩ := bon hb hB
  refine zae (.cells v12.cells 167 (0, 0)) r (fun R => zaf r hr13.shape rfl rfl h_b4 znT rfl) rfl fun fr w14 u15 r => ?_
  have z_w14 := u15.size
  have h_b1 := u15.keep h_b1 (by omega)
  have h_b4 := u15.at_
  obtain ⟨hB, zB⟩ := u15.on hB (by omega)
  refine wn (wp_ret ?_)
  have hs := hr13.shape.cells
  refine zad r rfl rfl h_b4 (k := 7) hs.1 znS ?_
  rw [← hs.2.2]
  exact rfin hF hB hr13 u15 (by omega) (by omega) (by omega)
theorem zkV {n : Nat} {F : Nat → Prop} {r_free_Push : Plan → Int → T Int} {w0 : World} (hF : ∀ b, F b → b < w0.heap.size) (ih_free_Push : ∀ m, m < n → zdr r_free_Push m)
    (a0 : Plan) (a1 : Int) :
    Calls Tryz.prog 343 #[.agg (znu a0).toArray, .int .i64 a1] w0 (zny Tryz.prog znz n (D.zcU r_free_Push a0 a1) F w0) := by
 refine enter Tryz.func343 rfl 14 rfl rfl fun fr r => ?_
 have hB := Below.refl w0.heap.size w0
 refine wsr ?_
 refine za5 (.cells ((znu a0)).toArray 25 (0, 0)) r (fun R => znF r (v := (.agg (znu a0).toArray)) rfl) rfl fun fr b1 w2 n3 r => ?_
 obtain ⟨e_b1, z_w2, h_b1, hB, zB⟩ := n3.all hB
 refine za5 (.cells #[(I a1)] 3 (0, 0)) r (fun R => znF r (v := (I a1)) rfl) rfl fun fr b4 w5 n6 r => ?_
 have h_b1 := keep n6.below h_b1
 obtain ⟨e_b4, z_w5, h_b4, hB, zB⟩ := n6.all hB
 refine za5 (.cells (znt false znz.zero 0 0 0 0 .nilFunc) 167 (0, 0)) r (fun R => zag znV) rfl fun fr b7 w8 n9 r => ?_
 have h_b1 := keep n9.below h_b1
 have h_b4 := keep n9.below h_b4
 obtain ⟨e_b7, z_w8, h_b7, hB, zB⟩ := n9.all hB
 refine wn (wp_seq (wsr (za0 (.agg (znu a0).toArray) r (fun R => za6 r (cs := (znu a0)) (n := 6) rfl h_b1 ta25 rfl) rfl fun fr r => za0 (I a1) r (fun R => za3 r rfl h_b4 to3 rfl) rfl fun fr r => ?_)))
 refine za8 r (zcP w8 a0 a1) (fun R hc => zac r rfl zoI hc) rfl ?_
 rintro _ w10 ⟨rfl, hb⟩
 refine ⟨_, rfl, fun fr r => ?_⟩
 have z_w10 := hb.size
 have h_b1 := keep hb h_b1
 have h_b4 := keep hb h_b4
 have h_b7 := keep hb h_b7
 obtain ⟨hB, zB⟩ := bon hb hB
 refine za0 _ r (fun R => znA r rfl rfl rfl rfl) rfl fun fr r => wn ?_
 refine wp_cond_split (t := ((D.zb2 a0 a1) == (-1))) (r.ev rfl) (fun h11 => ?_) (fun h11 => ?_)
 ·
  refine wsr ?_
  have hF1 := znI hF hB b7
  refine za8 r (zbm (F := (fun b => F b ∨ (w0.heap.size ≤ b ∧ b < w10.heap.size ∧ b ≠ b7))) (n := n) hF1 (-1)) (fun R hc => zac r rfl zoe hc) rfl ?_
  rintro _ w12 ⟨v13, rfl, hb, hr14⟩
  refine ⟨_, rfl, fun fr r => ?_⟩
  have z_w12 := hb.size
  have h_b1 := keep hb h_b1
  have h_b4 := keep hb h_b4
  have h_b7 := keep hb h_b7
  obtain ⟨hB, zB⟩ := bon hb hB
  refine zae (.cells v13.cells 167 (0, 0)) r (fun R => zaf r hr14.shape rfl rfl h_b7 znT rfl) rfl fun fr w15 u16 r => ?_
  have z_w15 := u16.size
  have h_b1 := u16.keep h_b1 (by omega)
  have h_b4 := u16.keep h_b4 (by omega)
  have h_b7 := u16.at_
  obtain ⟨hB, zB⟩ := u16.on hB (by omega)
  refine wn (wp_ret ?_)
  have hd : D.zcU r_free_Push a0 a1 = (D.zaY (-1)) := (zaq h11).trans (rfl)
  have hs := hr14.shape.cells
  refine zad r rfl rfl h_b7 (k := 7) hs.1 znS ?_
  rw [← hs.2.2, hd]
  exact rfin hF hB hr14 u16 (by omega) (by omega) (by omega)
 ·
  refine wp_skip (wsr (za0 (.agg (znu a0).toArray) r (fun R => za6 r (cs := (znu a0)) (n := 6) rfl h_b1 ta25 rfl) rfl fun fr r => ?_))
  refine za8 r (zcg w10 a0) (fun R hc => zac r rfl zov hc) rfl ?_
  rintro _ w17 ⟨rfl, hb⟩
  refine ⟨_, rfl, fun fr r => ?_⟩
  have z_w17 := hb.size
  have h_b1 := keep hb h_b1
  have h_b4 := keep hb h_b4
  have h_b7 := keep hb h_b7
  obtain ⟨hB, zB⟩ := bon hb hB
  refine za0 (.func (.func 379) #[] #[zp b1, zp b4]) r (fun R => zao r rfl) rfl fun fr r => ?_
  have hF1 := znI hF hB b7
  have f18 : ((fun b => F b ∨ (w0.heap.size ≤ b ∧ b < w17.heap.size ∧ b ≠ b7))) b1 := (.inr ⟨by omega, by omega, by omega⟩)
  have f19 : ((fun b => F b ∨ (w0.heap.size ≤ b ∧ b < w17.heap.size ∧ b ≠ b7))) b4 := (.inr ⟨by omega, by omega, by omega⟩)
  refine za8 r (zbG (F := (fun b => F b ∨ (w0.heap.size ≤ b ∧ b < w17.heap.size ∧ b ≠ b7))) (n := n) hF1 (D.zaW a0) ⟨379, [], [zp b1, zp b4], zrz, rfl, fun m hm x w' hs hz => zk7 (fun b hb => Nat.lt_of_lt_of_le (hF1 b hb) hz) (fun m' hm' => ih_free_Push m' (by omega)) a0 f18 (hs.at_ f18 h_b1) a1 f19 (hs.at_ f19 h_b4) x⟩) (fun R hc => zac r rfl zoj hc) rfl ?_
  rintro _ w20 ⟨v21, rfl, hb, hr22⟩
  refine ⟨_, rfl, fun fr r => ?_⟩
  have z_w20 := hb.size
  have h_b1 := keep hb h_b1
  have h_b4 := keep hb h_b4
  have h_b7 := keep hb h_b7
  obtain ⟨hB, zB⟩ := bon hb hB
  refine zae (.cells v21.cells 167 (0, 0)) r (fun R => zaf r hr22.shape rfl rfl h_b7 znT rfl) rfl fun fr w23 u24 r => ?_
  have z_w23 := u24.size
  have h_b1 := u24.keep h_b1 (by omega)
  have h_b4 := u24.keep h_b4 (by omega)
  have h_b7 := u24.at_
  obtain ⟨hB, zB⟩ := u24.on hB (by omega)
  refine wn (wp_ret ?_)
  have hd : D.zcU r_free_Push a0 a1 = (D.zb9 (D.zaW a0) (fun x => (D.zeS r_free_Push a0 a1 x))) := (zak h11).trans (rfl)
  have hs := hr22.shape.cells
  refine zad r rfl rfl h_b7 (k := 7) hs.1 znS ?_
  rw [← hs.2.2, hd]
  exact rfin hF hB hr22 u24 (by omega) (by omega) (by omega)
theorem zkY {n : Nat} {k : Nat} (hk : n < k) : zdr (D.zd5 k) n := by
  induction n using Nat.strongRecOn generalizing k with
  | _ n ih =>
    obtain ⟨k, rfl⟩ : ∃ q, k = q + 1 := ⟨k - 1, by omega⟩
    intro F w0 hF
    have h := @zkV n F (D.zd5 k) w0 hF (fun m hm => ih m hm (by omega))
    exact h
end Go.Proofs.YtjkinpbfmihhdaaGreat
