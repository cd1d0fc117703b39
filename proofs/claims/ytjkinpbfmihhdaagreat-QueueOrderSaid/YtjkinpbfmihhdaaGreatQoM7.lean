/- Some of our texts, one behind the other. -/
import Derived.Test.YtjkinpbfmihhdaaGreatQoThens
import Derived.Test.YtjkinpbfmihhdaaGreatQoM3
set_option linter.all false
/- Written by a program of ours (wip/gen.py): programs of one access -/
set_option linter.unusedVariables false
set_option maxRecDepth 20000
set_option maxHeartbeats 2000000
namespace Go.Proofs.YtjkinpbfmihhdaaGreat
open Go.RowKit
theorem cl224 : znb Tryz.prog 224 = true := by kernel_rfl

theorem cl225 : znb Tryz.prog 225 = true := by kernel_rfl

theorem cl298 : znb Tryz.prog 298 = true := by kernel_rfl

theorem cl317 : znb Tryz.prog 317 = true := by kernel_rfl

theorem cl353 : znb Tryz.prog 353 = true := by kernel_rfl

theorem cl354 : znb Tryz.prog 354 = true := by kernel_rfl

theorem cl366 : znb Tryz.prog 366 = true := by kernel_rfl

theorem cl367 : znb Tryz.prog 367 = true := by kernel_rfl

theorem cl369 : znb Tryz.prog 369 = true := by kernel_rfl

theorem cl423 : znb Tryz.prog 423 = true := by kernel_rfl

theorem to197 : tyO Tryz.prog 197 = true := by kernel_rfl

theorem to200 : tyO Tryz.prog 200 = true := by kernel_rfl

theorem to257 : tyO Tryz.prog 257 = true := by kernel_rfl

theorem to293 : tyO Tryz.prog 293 = true := by kernel_rfl

theorem to310 : tyO Tryz.prog 310 = true := by kernel_rfl

def D.zfp (c0 : (Unit → T Unit)) (a0 : Int) : T Unit := (c0 ())

theorem zgU {n : Nat} {F : Nat → Prop} {w0 : World} (hF : ∀ b, F b → b < w0.heap.size)
    {c0_f : FuncId} {c0_1 c0_2 : List Value} {c0 : (Unit → T Unit)} {c0_b : Nat} (c0_F : F c0_b) (c0_h : w0.heap[c0_b]? = some (.cells #[.func (.func c0_f) c0_1.toArray c0_2.toArray] 310 (0, 0))) (c0_n : FnT Tryz.prog znj unitE (n + 1) F w0 (.func (.func c0_f) c0_1.toArray c0_2.toArray) c0) (a0 : Int) :
    Calls Tryz.prog 369 #[.int .u64 a0, .pointer (some ⟨c0_b, 0, none⟩)] w0 (znf Tryz.prog znj n (D.zfp c0 a0) F w0) := by
 refine enter Tryz.func369 rfl 6 rfl rfl fun fr r => ?_
 have hB := Below.refl w0.heap.size w0
 have l_c0_b := lt_of_block c0_h
 refine wsr ?_
 refine za5 (.cells (zna false znj.zero 0 0 0 0 .nilFunc) 186 (0, 0)) r (fun R => zag tz186) rfl fun fr b1 w2 n3 r => ?_
 obtain ⟨e_b1, z_w2, h_b1, hB, zB⟩ := n3.all hB
 refine wn (wsr (za0 (.func (.func c0_f) c0_1.toArray c0_2.toArray) r (fun R => za3 r rfl (keep hB c0_h) to310 rfl) rfl fun fr r => ?_))
 refine za7 r (c0_n.at_.2 n (Nat.lt_succ_self n) () w2 (Same.below hB hF) hB.size) (fun R hc => zfD r rfl c0_n.at_.1 hc) rfl ?_
 rintro _ w4 ⟨v5, rfl, hb, hr6⟩
 refine ⟨_, rfl, fun fr r => ?_⟩
 have z_w4 := hb.size
 have h_b1 := keep hb h_b1
 obtain ⟨hB, zB⟩ := bon hb hB
 refine zae (.cells v5.cells 186 (0, 0)) r (fun R => zaf r hr6.shape rfl rfl h_b1 ts186 rfl) rfl fun fr w7 u8 r => ?_
 have z_w7 := u8.size
 have h_b1 := u8.at_
 obtain ⟨hB, zB⟩ := u8.on hB (by omega)
 refine wn (wp_ret ?_)
 have hs := hr6.shape.cells
 refine zad r rfl rfl h_b1 (k := 6) hs.1 ta186 ?_
 rw [← hs.2.2]
 exact znf.fin hB hr6 u8 (fun b hb => .inl hb) (fun h => by have := hF _ h; omega) (by omega) (by omega) (by omega)

def D.zdM (a0 : Int) (a1 : Int) (a2 : (Unit → T Unit)) : T Unit := (D.zi9 (⟨1, a0, a1, 0⟩ : Access) (fun x => (D.zfp a2 x)))

theorem zfo {n : Nat} {F : Nat → Prop} {w0 : World} (hF : ∀ b, F b → b < w0.heap.size)
    (a0 : Int) (a1 : Int) {a2_f : FuncId} {a2_1 a2_2 : List Value} {a2 : (Unit → T Unit)} (a2_n : FnT Tryz.prog znj unitE (n) F w0 (.func (.func a2_f) a2_1.toArray a2_2.toArray) a2) :
    Calls Tryz.prog 317 #[.int .i64 a0, .int .u64 a1, .func (.func a2_f) a2_1.toArray a2_2.toArray] w0 (znf Tryz.prog znj n (D.zdM a0 a1 a2) F w0) := by
 refine enter Tryz.func317 rfl 12 rfl rfl fun fr r => ?_
 have hB := Below.refl w0.heap.size w0
 refine wsr ?_
 refine za5 (.cells #[.func (.func a2_f) a2_1.toArray a2_2.toArray] 310 (0, 0)) r (fun R => znm r (v := (.func (.func a2_f) a2_1.toArray a2_2.toArray)) rfl) rfl fun fr b1 w2 n3 r => ?_
 obtain ⟨e_b1, z_w2, h_b1, hB, zB⟩ := n3.all hB
 refine za5 (.cells (zna false znj.zero 0 0 0 0 .nilFunc) 186 (0, 0)) r (fun R => zag tz186) rfl fun fr b4 w5 n6 r => ?_
 have h_b1 := keep n6.below h_b1
 obtain ⟨e_b4, z_w5, h_b4, hB, zB⟩ := n6.all hB
 refine wn (wsr (za0 (I a0) r (fun R => zaa r rfl) rfl fun fr r => za0 (U a1) r (fun R => zaa r rfl) rfl fun fr r => za0 (.agg (znk (⟨1, a0, a1, 0⟩ : Access)).toArray) r (fun R => zaM r (by kernel_rfl)) rfl fun fr r => za0 (.func (.func 369) #[] #[.pointer (some ⟨b1, 0, none⟩)]) r (fun R => zan r rfl) rfl fun fr r => ?_))
 have hF1 := fgrow hF hB b4
 have f7 : ((fun b => F b ∨ (w0.heap.size ≤ b ∧ b < w5.heap.size ∧ b ≠ b4))) b1 := (.inr ⟨by omega, by omega, by omega⟩)
 refine za7 r (ziZ (F := (fun b => F b ∨ (w0.heap.size ≤ b ∧ b < w5.heap.size ∧ b ≠ b4))) (n := n) hF1 (⟨1, a0, a1, 0⟩ : Access) ⟨369, [], [.pointer (some ⟨b1, 0, none⟩)], cl369, rfl, fun m hm x w' hs hz => zgU (fun b hb => Nat.lt_of_lt_of_le (hF1 b hb) hz) f7 (hs.at_ f7 h_b1) (a2_n.mono (by omega) (fun b h => .inl h) ((Same.below hB hF).trans (hs.sub (fun b h => .inl h))) (Nat.le_trans hB.size hz)) x⟩) (fun R hc => zac r rfl cl368 hc) rfl ?_
 rintro _ w8 ⟨v9, rfl, hb, hr10⟩
 refine ⟨_, rfl, fun fr r => ?_⟩
 have z_w8 := hb.size
 have h_b1 := keep hb h_b1
 have h_b4 := keep hb h_b4
 obtain ⟨hB, zB⟩ := bon hb hB
 refine zae (.cells v9.cells 186 (0, 0)) r (fun R => zaf r hr10.shape rfl rfl h_b4 ts186 rfl) rfl fun fr w11 u12 r => ?_
 have z_w11 := u12.size
 have h_b1 := u12.keep h_b1 (by omega)
 have h_b4 := u12.at_
 obtain ⟨hB, zB⟩ := u12.on hB (by omega)
 refine wn (wp_ret ?_)
 have hs := hr10.shape.cells
 refine zad r rfl rfl h_b4 (k := 6) hs.1 ta186 ?_
 rw [← hs.2.2]
 exact rfin hF hB hr10 u12 (by omega) (by omega) (by omega)

def D.zj8  : T Unit := D.zgL

theorem zkd {n : Nat} {F : Nat → Prop} {w0 : World} (hF : ∀ b, F b → b < w0.heap.size)
     :
    Calls Tryz.prog 366 #[] w0 (znf Tryz.prog znj n D.zj8 F w0) := by
 refine enter Tryz.func366 rfl 3 rfl rfl fun fr r => ?_
 have hB := Below.refl w0.heap.size w0
 refine wsr ?_
 refine za5 (.cells (zna false znj.zero 0 0 0 0 .nilFunc) 186 (0, 0)) r (fun R => zag tz186) rfl fun fr b1 w2 n3 r => ?_
 obtain ⟨e_b1, z_w2, h_b1, hB, zB⟩ := n3.all hB
 refine wn (wsr (za0 (.agg #[]) r (fun R => zaM r (by kernel_rfl)) rfl fun fr r => ?_))
 have hF1 := fgrow hF hB b1
 refine za7 r (zil (F := (fun b => F b ∨ (w0.heap.size ≤ b ∧ b < w2.heap.size ∧ b ≠ b1))) (n := n) hF1 ) (fun R hc => zac r rfl cl367 hc) rfl ?_
 rintro _ w4 ⟨v5, rfl, hb, hr6⟩
 refine ⟨_, rfl, fun fr r => ?_⟩
 have z_w4 := hb.size
 have h_b1 := keep hb h_b1
 obtain ⟨hB, zB⟩ := bon hb hB
 refine zae (.cells v5.cells 186 (0, 0)) r (fun R => zaf r hr6.shape rfl rfl h_b1 ts186 rfl) rfl fun fr w7 u8 r => ?_
 have z_w7 := u8.size
 have h_b1 := u8.at_
 obtain ⟨hB, zB⟩ := u8.on hB (by omega)
 refine wn (wp_ret ?_)
 have hs := hr6.shape.cells
 refine zad r rfl rfl h_b1 (k := 6) hs.1 ta186 ?_
 rw [← hs.2.2]
 exact rfin hF hB hr6 u8 (by omega) (by omega) (by omega)

def D.zht (a0 : Int) (a1 : Int) : T Unit := (D.zdM a0 a1 (fun _ => D.zj8))

theorem zj5 {n : Nat} {F : Nat → Prop} {w0 : World} (hF : ∀ b, F b → b < w0.heap.size)
    (a0 : Int) (a1 : Int) :
    Calls Tryz.prog 315 #[.int .i64 a0, .int .u64 a1] w0 (znf Tryz.prog znj n (D.zht a0 a1) F w0) := by
 refine enter Tryz.func315 rfl 8 rfl rfl fun fr r => ?_
 have hB := Below.refl w0.heap.size w0
 refine wsr ?_
 refine za5 (.cells (zna false znj.zero 0 0 0 0 .nilFunc) 186 (0, 0)) r (fun R => zag tz186) rfl fun fr b1 w2 n3 r => ?_
 obtain ⟨e_b1, z_w2, h_b1, hB, zB⟩ := n3.all hB
 refine wn (wsr (za0 (I a0) r (fun R => zaa r rfl) rfl fun fr r => za0 (U a1) r (fun R => zaa r rfl) rfl fun fr r => ?_))
 have hF1 := fgrow hF hB b1
 refine za7 r (zfo (F := (fun b => F b ∨ (w0.heap.size ≤ b ∧ b < w2.heap.size ∧ b ≠ b1))) (n := n) hF1 a0 a1 ⟨366, [], [], cl366, rfl, fun m hm _ w' hs hz => zkd (fun b hb => Nat.lt_of_lt_of_le (hF1 b hb) hz) ⟩) (fun R hc => zac r rfl cl317 hc) rfl ?_
 rintro _ w4 ⟨v5, rfl, hb, hr6⟩
 refine ⟨_, rfl, fun fr r => ?_⟩
 have z_w4 := hb.size
 have h_b1 := keep hb h_b1
 obtain ⟨hB, zB⟩ := bon hb hB
 refine zae (.cells v5.cells 186 (0, 0)) r (fun R => zaf r hr6.shape rfl rfl h_b1 ts186 rfl) rfl fun fr w7 u8 r => ?_
 have z_w7 := u8.size
 have h_b1 := u8.at_
 obtain ⟨hB, zB⟩ := u8.on hB (by omega)
 refine wn (wp_ret ?_)
 have hs := hr6.shape.cells
 refine zad r rfl rfl h_b1 (k := 6) hs.1 ta186 ?_
 rw [← hs.2.2]
 exact rfin hF hB hr6 u8 (by omega) (by omega) (by omega)

def D.zb7 (a0 : Int) (a1 : (Int → T Int)) : T Int := (D.zfB (⟨0, a0, 0, 0⟩ : Access) a1)

theorem zbz {n : Nat} {F : Nat → Prop} {w0 : World} (hF : ∀ b, F b → b < w0.heap.size)
    (a0 : Int) {a1_f : FuncId} {a1_1 a1_2 : List Value} {a1 : (Int → T Int)} (a1_n : FnT Tryz.prog zng u64 (n) F w0 (.func (.func a1_f) a1_1.toArray a1_2.toArray) a1) :
    Calls Tryz.prog 198 #[.int .i64 a0, .func (.func a1_f) a1_1.toArray a1_2.toArray] w0 (znf Tryz.prog zng n (D.zb7 a0 a1) F w0) := by
 refine enter Tryz.func198 rfl 9 rfl rfl fun fr r => ?_
 have hB := Below.refl w0.heap.size w0
 refine wsr ?_
 refine za5 (.cells (zna false zng.zero 0 0 0 0 .nilFunc) 167 (0, 0)) r (fun R => zag tz167) rfl fun fr b1 w2 n3 r => ?_
 obtain ⟨e_b1, z_w2, h_b1, hB, zB⟩ := n3.all hB
 refine wn (wsr (za0 (I a0) r (fun R => zaa r rfl) rfl fun fr r => za0 (.agg (znk (⟨0, a0, 0, 0⟩ : Access)).toArray) r (fun R => zaM r (by kernel_rfl)) rfl fun fr r => za0 (.func (.func a1_f) a1_1.toArray a1_2.toArray) r (fun R => zaa r rfl) rfl fun fr r => ?_))
 have hF1 := fgrow hF hB b1
 refine za7 r (zdT (F := (fun b => F b ∨ (w0.heap.size ≤ b ∧ b < w2.heap.size ∧ b ≠ b1))) (n := n) hF1 (⟨0, a0, 0, 0⟩ : Access) (a1_n.mono (by omega) (fun b h => .inl h) (Same.below hB hF) hB.size)) (fun R hc => zac r rfl cl297 hc) rfl ?_
 rintro _ w4 ⟨v5, rfl, hb, hr6⟩
 refine ⟨_, rfl, fun fr r => ?_⟩
 have z_w4 := hb.size
 have h_b1 := keep hb h_b1
 obtain ⟨hB, zB⟩ := bon hb hB
 refine zae (.cells v5.cells 167 (0, 0)) r (fun R => zaf r hr6.shape rfl rfl h_b1 ts167 rfl) rfl fun fr w7 u8 r => ?_
 have z_w7 := u8.size
 have h_b1 := u8.at_
 obtain ⟨hB, zB⟩ := u8.on hB (by omega)
 refine wn (wp_ret ?_)
 have hs := hr6.shape.cells
 refine zad r rfl rfl h_b1 (k := 7) hs.1 ta167 ?_
 rw [← hs.2.2]
 exact rfin hF hB hr6 u8 (by omega) (by omega) (by omega)

def D.zcs (c0 : (Bool → T Int)) (c1 : Int) (a0 : Int) : T Int := (c0 (a0 == c1))

theorem zhK {n : Nat} {F : Nat → Prop} {w0 : World} (hF : ∀ b, F b → b < w0.heap.size)
    {c0_f : FuncId} {c0_1 c0_2 : List Value} {c0 : (Bool → T Int)} {c0_b : Nat} (c0_F : F c0_b) (c0_h : w0.heap[c0_b]? = some (.cells #[.func (.func c0_f) c0_1.toArray c0_2.toArray] 297 (0, 0))) (c0_n : FnT Tryz.prog zng boolE (n + 1) F w0 (.func (.func c0_f) c0_1.toArray c0_2.toArray) c0) (c1 : Int) {c1_b : Nat} (c1_F : F c1_b) (c1_h : w0.heap[c1_b]? = some (.cells ([(.int .u64 c1)]).toArray 22 (0, 0))) (a0 : Int) :
    Calls Tryz.prog 354 #[.int .u64 a0, .pointer (some ⟨c0_b, 0, none⟩), .pointer (some ⟨c1_b, 0, none⟩)] w0 (znf Tryz.prog zng n (D.zcs c0 c1 a0) F w0) := by
 refine enter Tryz.func354 rfl 10 rfl rfl fun fr r => ?_
 have hB := Below.refl w0.heap.size w0
 have l_c0_b := lt_of_block c0_h
 have l_c1_b := lt_of_block c1_h
 refine wsr ?_
 refine za5 (.cells (zna false zng.zero 0 0 0 0 .nilFunc) 167 (0, 0)) r (fun R => zag tz167) rfl fun fr b1 w2 n3 r => ?_
 obtain ⟨e_b1, z_w2, h_b1, hB, zB⟩ := n3.all hB
 refine wn (wsr (za0 (.func (.func c0_f) c0_1.toArray c0_2.toArray) r (fun R => za3 r rfl (keep hB c0_h) to297 rfl) rfl fun fr r => za0 (U a0) r (fun R => zaa r rfl) rfl fun fr r => za0 (U c1) r (fun R => za3 r rfl (keep hB c1_h) to22 rfl) rfl fun fr r => za0 _ r (fun R => zni r rfl rfl rfl rfl) rfl fun fr r => ?_))
 refine za7 r (c0_n.at_.2 n (Nat.lt_succ_self n) (a0 == c1) w2 (Same.below hB hF) hB.size) (fun R hc => zde r rfl rfl c0_n.at_.1 hc) rfl ?_
 rintro _ w4 ⟨v5, rfl, hb, hr6⟩
 refine ⟨_, rfl, fun fr r => ?_⟩
 have z_w4 := hb.size
 have h_b1 := keep hb h_b1
 obtain ⟨hB, zB⟩ := bon hb hB
 refine zae (.cells v5.cells 167 (0, 0)) r (fun R => zaf r hr6.shape rfl rfl h_b1 ts167 rfl) rfl fun fr w7 u8 r => ?_
 have z_w7 := u8.size
 have h_b1 := u8.at_
 obtain ⟨hB, zB⟩ := u8.on hB (by omega)
 refine wn (wp_ret ?_)
 have hs := hr6.shape.cells
 refine zad r rfl rfl h_b1 (k := 7) hs.1 ta167 ?_
 rw [← hs.2.2]
 exact znf.fin hB hr6 u8 (fun b hb => .inl hb) (fun h => by have := hF _ h; omega) (by omega) (by omega) (by omega)

def D.zfF (a0 : Int) (a1 : Int) (a2 : Int) (a3 : (Bool → T Int)) : T Int := (D.zfB (⟨2, a0, a1, a2⟩ : Access) (fun x => (D.zcs a3 a1 x)))

theorem zgb {n : Nat} {F : Nat → Prop} {w0 : World} (hF : ∀ b, F b → b < w0.heap.size)
    (a0 : Int) (a1 : Int) (a2 : Int) {a3_f : FuncId} {a3_1 a3_2 : List Value} {a3 : (Bool → T Int)} (a3_n : FnT Tryz.prog zng boolE (n) F w0 (.func (.func a3_f) a3_1.toArray a3_2.toArray) a3) :
    Calls Tryz.prog 290 #[.int .i64 a0, .int .u64 a1, .int .u64 a2, .func (.func a3_f) a3_1.toArray a3_2.toArray] w0 (znf Tryz.prog zng n (D.zfF a0 a1 a2 a3) F w0) := by
 refine enter Tryz.func290 rfl 15 rfl rfl fun fr r => ?_
 have hB := Below.refl w0.heap.size w0
 refine wsr ?_
 refine za5 (.cells #[(U a1)] 22 (0, 0)) r (fun R => znm r (v := (U a1)) rfl) rfl fun fr b1 w2 n3 r => ?_
 obtain ⟨e_b1, z_w2, h_b1, hB, zB⟩ := n3.all hB
 refine za5 (.cells #[.func (.func a3_f) a3_1.toArray a3_2.toArray] 297 (0, 0)) r (fun R => znm r (v := (.func (.func a3_f) a3_1.toArray a3_2.toArray)) rfl) rfl fun fr b4 w5 n6 r => ?_
 have h_b1 := keep n6.below h_b1
 obtain ⟨e_b4, z_w5, h_b4, hB, zB⟩ := n6.all hB
 refine za5 (.cells (zna false zng.zero 0 0 0 0 .nilFunc) 167 (0, 0)) r (fun R => zag tz167) rfl fun fr b7 w8 n9 r => ?_
 have h_b1 := keep n9.below h_b1
 have h_b4 := keep n9.below h_b4
 obtain ⟨e_b7, z_w8, h_b7, hB, zB⟩ := n9.all hB
 refine wn (wsr (za0 (I a0) r (fun R => zaa r rfl) rfl fun fr r => za0 (U a1) r (fun R => za3 r rfl h_b1 to22 rfl) rfl fun fr r => za0 (U a2) r (fun R => zaa r rfl) rfl fun fr r => za0 (.agg (znk (⟨2, a0, a1, a2⟩ : Access)).toArray) r (fun R => zaM r (by kernel_rfl)) rfl fun fr r => za0 (.func (.func 354) #[] #[.pointer (some ⟨b4, 0, none⟩), .pointer (some ⟨b1, 0, none⟩)]) r (fun R => zan r rfl) rfl fun fr r => ?_))
 have hF1 := fgrow hF hB b7
 have f10 : ((fun b => F b ∨ (w0.heap.size ≤ b ∧ b < w8.heap.size ∧ b ≠ b7))) b4 := (.inr ⟨by omega, by omega, by omega⟩)
 have f11 : ((fun b => F b ∨ (w0.heap.size ≤ b ∧ b < w8.heap.size ∧ b ≠ b7))) b1 := (.inr ⟨by omega, by omega, by omega⟩)
 refine za7 r (zdT (F := (fun b => F b ∨ (w0.heap.size ≤ b ∧ b < w8.heap.size ∧ b ≠ b7))) (n := n) hF1 (⟨2, a0, a1, a2⟩ : Access) ⟨354, [], [.pointer (some ⟨b4, 0, none⟩), .pointer (some ⟨b1, 0, none⟩)], cl354, rfl, fun m hm x w' hs hz => zhK (fun b hb => Nat.lt_of_lt_of_le (hF1 b hb) hz) f10 (hs.at_ f10 h_b4) (a3_n.mono (by omega) (fun b h => .inl h) ((Same.below hB hF).trans (hs.sub (fun b h => .inl h))) (Nat.le_trans hB.size hz)) a1 f11 (hs.at_ f11 h_b1) x⟩) (fun R hc => zac r rfl cl297 hc) rfl ?_
 rintro _ w12 ⟨v13, rfl, hb, hr14⟩
 refine ⟨_, rfl, fun fr r => ?_⟩
 have z_w12 := hb.size
 have h_b1 := keep hb h_b1
 have h_b4 := keep hb h_b4
 have h_b7 := keep hb h_b7
 obtain ⟨hB, zB⟩ := bon hb hB
 refine zae (.cells v13.cells 167 (0, 0)) r (fun R => zaf r hr14.shape rfl rfl h_b7 ts167 rfl) rfl fun fr w15 u16 r => ?_
 have z_w15 := u16.size
 have h_b1 := u16.keep h_b1 (by omega)
 have h_b4 := u16.keep h_b4 (by omega)
 have h_b7 := u16.at_
 obtain ⟨hB, zB⟩ := u16.on hB (by omega)
 refine wn (wp_ret ?_)
 have hs := hr14.shape.cells
 refine zad r rfl rfl h_b7 (k := 7) hs.1 ta167 ?_
 rw [← hs.2.2]
 exact rfin hF hB hr14 u16 (by omega) (by omega) (by omega)

def D.zeT (a0 : Int) (a1 : (Int → T Grant)) : T Grant := (D.zfA (⟨0, a0, 0, 0⟩ : Access) a1)

theorem zhV {n : Nat} {F : Nat → Prop} {w0 : World} (hF : ∀ b, F b → b < w0.heap.size)
    (a0 : Int) {a1_f : FuncId} {a1_1 a1_2 : List Value} {a1 : (Int → T Grant)} (a1_n : FnT Tryz.prog znn u64 (n) F w0 (.func (.func a1_f) a1_1.toArray a1_2.toArray) a1) :
    Calls Tryz.prog 281 #[.int .i64 a0, .func (.func a1_f) a1_1.toArray a1_2.toArray] w0 (znf Tryz.prog znn n (D.zeT a0 a1) F w0) := by
 refine enter Tryz.func281 rfl 9 rfl rfl fun fr r => ?_
 have hB := Below.refl w0.heap.size w0
 refine wsr ?_
 refine za5 (.cells (zna false znn.zero 0 0 0 0 .nilFunc) 158 (0, 0)) r (fun R => zag tz158) rfl fun fr b1 w2 n3 r => ?_
 obtain ⟨e_b1, z_w2, h_b1, hB, zB⟩ := n3.all hB
 refine wn (wsr (za0 (I a0) r (fun R => zaa r rfl) rfl fun fr r => za0 (.agg (znk (⟨0, a0, 0, 0⟩ : Access)).toArray) r (fun R => zaM r (by kernel_rfl)) rfl fun fr r => za0 (.func (.func a1_f) a1_1.toArray a1_2.toArray) r (fun R => zaa r rfl) rfl fun fr r => ?_))
 have hF1 := fgrow hF hB b1
 refine za7 r (zeM (F := (fun b => F b ∨ (w0.heap.size ≤ b ∧ b < w2.heap.size ∧ b ≠ b1))) (n := n) hF1 (⟨0, a0, 0, 0⟩ : Access) (a1_n.mono (by omega) (fun b h => .inl h) (Same.below hB hF) hB.size)) (fun R hc => zac r rfl cl286 hc) rfl ?_
 rintro _ w4 ⟨v5, rfl, hb, hr6⟩
 refine ⟨_, rfl, fun fr r => ?_⟩
 have z_w4 := hb.size
 have h_b1 := keep hb h_b1
 obtain ⟨hB, zB⟩ := bon hb hB
 refine zae (.cells v5.cells 158 (0, 0)) r (fun R => zaf r hr6.shape rfl rfl h_b1 ts158 rfl) rfl fun fr w7 u8 r => ?_
 have z_w7 := u8.size
 have h_b1 := u8.at_
 obtain ⟨hB, zB⟩ := u8.on hB (by omega)
 refine wn (wp_ret ?_)
 have hs := hr6.shape.cells
 refine zad r rfl rfl h_b1 (k := 9) hs.1 ta158 ?_
 rw [← hs.2.2]
 exact rfin hF hB hr6 u8 (by omega) (by omega) (by omega)

def D.zf5 (c0 : (Unit → T Grant)) (a0 : Int) : T Grant := (c0 ())

theorem zgF {n : Nat} {F : Nat → Prop} {w0 : World} (hF : ∀ b, F b → b < w0.heap.size)
    {c0_f : FuncId} {c0_1 c0_2 : List Value} {c0 : (Unit → T Grant)} {c0_b : Nat} (c0_F : F c0_b) (c0_h : w0.heap[c0_b]? = some (.cells #[.func (.func c0_f) c0_1.toArray c0_2.toArray] 293 (0, 0))) (c0_n : FnT Tryz.prog znn unitE (n + 1) F w0 (.func (.func c0_f) c0_1.toArray c0_2.toArray) c0) (a0 : Int) :
    Calls Tryz.prog 353 #[.int .u64 a0, .pointer (some ⟨c0_b, 0, none⟩)] w0 (znf Tryz.prog znn n (D.zf5 c0 a0) F w0) := by
 refine enter Tryz.func353 rfl 6 rfl rfl fun fr r => ?_
 have hB := Below.refl w0.heap.size w0
 have l_c0_b := lt_of_block c0_h
 refine wsr ?_
 refine za5 (.cells (zna false znn.zero 0 0 0 0 .nilFunc) 158 (0, 0)) r (fun R => zag tz158) rfl fun fr b1 w2 n3 r => ?_
 obtain ⟨e_b1, z_w2, h_b1, hB, zB⟩ := n3.all hB
 refine wn (wsr (za0 (.func (.func c0_f) c0_1.toArray c0_2.toArray) r (fun R => za3 r rfl (keep hB c0_h) to293 rfl) rfl fun fr r => ?_))
 refine za7 r (c0_n.at_.2 n (Nat.lt_succ_self n) () w2 (Same.below hB hF) hB.size) (fun R hc => zfD r rfl c0_n.at_.1 hc) rfl ?_
 rintro _ w4 ⟨v5, rfl, hb, hr6⟩
 refine ⟨_, rfl, fun fr r => ?_⟩
 have z_w4 := hb.size
 have h_b1 := keep hb h_b1
 obtain ⟨hB, zB⟩ := bon hb hB
 refine zae (.cells v5.cells 158 (0, 0)) r (fun R => zaf r hr6.shape rfl rfl h_b1 ts158 rfl) rfl fun fr w7 u8 r => ?_
 have z_w7 := u8.size
 have h_b1 := u8.at_
 obtain ⟨hB, zB⟩ := u8.on hB (by omega)
 refine wn (wp_ret ?_)
 have hs := hr6.shape.cells
 refine zad r rfl rfl h_b1 (k := 9) hs.1 ta158 ?_
 rw [← hs.2.2]
 exact znf.fin hB hr6 u8 (fun b hb => .inl hb) (fun h => by have := hF _ h; omega) (by omega) (by omega) (by omega)

def D.zek (a0 : Int) (a1 : Int) (a2 : (Unit → T Grant)) : T Grant := (D.zfA (⟨1, a0, a1, 0⟩ : Access) (fun x => (D.zf5 a2 x)))

theorem zhm {n : Nat} {F : Nat → Prop} {w0 : World} (hF : ∀ b, F b → b < w0.heap.size)
    (a0 : Int) (a1 : Int) {a2_f : FuncId} {a2_1 a2_2 : List Value} {a2 : (Unit → T Grant)} (a2_n : FnT Tryz.prog znn unitE (n) F w0 (.func (.func a2_f) a2_1.toArray a2_2.toArray) a2) :
    Calls Tryz.prog 283 #[.int .i64 a0, .int .u64 a1, .func (.func a2_f) a2_1.toArray a2_2.toArray] w0 (znf Tryz.prog znn n (D.zek a0 a1 a2) F w0) := by
 refine enter Tryz.func283 rfl 12 rfl rfl fun fr r => ?_
 have hB := Below.refl w0.heap.size w0
 refine wsr ?_
 refine za5 (.cells #[.func (.func a2_f) a2_1.toArray a2_2.toArray] 293 (0, 0)) r (fun R => znm r (v := (.func (.func a2_f) a2_1.toArray a2_2.toArray)) rfl) rfl fun fr b1 w2 n3 r => ?_
 obtain ⟨e_b1, z_w2, h_b1, hB, zB⟩ := n3.all hB
 refine za5 (.cells (zna false znn.zero 0 0 0 0 .nilFunc) 158 (0, 0)) r (fun R => zag tz158) rfl fun fr b4 w5 n6 r => ?_
 have h_b1 := keep n6.below h_b1
 obtain ⟨e_b4, z_w5, h_b4, hB, zB⟩ := n6.all hB
 refine wn (wsr (za0 (I a0) r (fun R => zaa r rfl) rfl fun fr r => za0 (U a1) r (fun R => zaa r rfl) rfl fun fr r => za0 (.agg (znk (⟨1, a0, a1, 0⟩ : Access)).toArray) r (fun R => zaM r (by kernel_rfl)) rfl fun fr r => za0 (.func (.func 353) #[] #[.pointer (some ⟨b1, 0, none⟩)]) r (fun R => zan r rfl) rfl fun fr r => ?_))
 have hF1 := fgrow hF hB b4
 have f7 : ((fun b => F b ∨ (w0.heap.size ≤ b ∧ b < w5.heap.size ∧ b ≠ b4))) b1 := (.inr ⟨by omega, by omega, by omega⟩)
 refine za7 r (zeM (F := (fun b => F b ∨ (w0.heap.size ≤ b ∧ b < w5.heap.size ∧ b ≠ b4))) (n := n) hF1 (⟨1, a0, a1, 0⟩ : Access) ⟨353, [], [.pointer (some ⟨b1, 0, none⟩)], cl353, rfl, fun m hm x w' hs hz => zgF (fun b hb => Nat.lt_of_lt_of_le (hF1 b hb) hz) f7 (hs.at_ f7 h_b1) (a2_n.mono (by omega) (fun b h => .inl h) ((Same.below hB hF).trans (hs.sub (fun b h => .inl h))) (Nat.le_trans hB.size hz)) x⟩) (fun R hc => zac r rfl cl286 hc) rfl ?_
 rintro _ w8 ⟨v9, rfl, hb, hr10⟩
 refine ⟨_, rfl, fun fr r => ?_⟩
 have z_w8 := hb.size
 have h_b1 := keep hb h_b1
 have h_b4 := keep hb h_b4
 obtain ⟨hB, zB⟩ := bon hb hB
 refine zae (.cells v9.cells 158 (0, 0)) r (fun R => zaf r hr10.shape rfl rfl h_b4 ts158 rfl) rfl fun fr w11 u12 r => ?_
 have z_w11 := u12.size
 have h_b1 := u12.keep h_b1 (by omega)
 have h_b4 := u12.at_
 obtain ⟨hB, zB⟩ := u12.on hB (by omega)
 refine wn (wp_ret ?_)
 have hs := hr10.shape.cells
 refine zad r rfl rfl h_b4 (k := 9) hs.1 ta158 ?_
 rw [← hs.2.2]
 exact rfin hF hB hr10 u12 (by omega) (by omega) (by omega)

def D.zf9 (a0 : Int) (a1 : (Int → T Bool)) : T Bool := (D.zi8 (⟨0, a0, 0, 0⟩ : Access) a1)

theorem zii {n : Nat} {F : Nat → Prop} {w0 : World} (hF : ∀ b, F b → b < w0.heap.size)
    (a0 : Int) {a1_f : FuncId} {a1_1 a1_2 : List Value} {a1 : (Int → T Bool)} (a1_n : FnT Tryz.prog encBool u64 (n) F w0 (.func (.func a1_f) a1_1.toArray a1_2.toArray) a1) :
    Calls Tryz.prog 414 #[.int .i64 a0, .func (.func a1_f) a1_1.toArray a1_2.toArray] w0 (znf Tryz.prog encBool n (D.zf9 a0 a1) F w0) := by
 refine enter Tryz.func414 rfl 9 rfl rfl fun fr r => ?_
 have hB := Below.refl w0.heap.size w0
 refine wsr ?_
 refine za5 (.cells (zna false encBool.zero 0 0 0 0 .nilFunc) 324 (0, 0)) r (fun R => zag tz324) rfl fun fr b1 w2 n3 r => ?_
 obtain ⟨e_b1, z_w2, h_b1, hB, zB⟩ := n3.all hB
 refine wn (wsr (za0 (I a0) r (fun R => zaa r rfl) rfl fun fr r => za0 (.agg (znk (⟨0, a0, 0, 0⟩ : Access)).toArray) r (fun R => zaM r (by kernel_rfl)) rfl fun fr r => za0 (.func (.func a1_f) a1_1.toArray a1_2.toArray) r (fun R => zaa r rfl) rfl fun fr r => ?_))
 have hF1 := fgrow hF hB b1
 refine za7 r (ziX (F := (fun b => F b ∨ (w0.heap.size ≤ b ∧ b < w2.heap.size ∧ b ≠ b1))) (n := n) hF1 (⟨0, a0, 0, 0⟩ : Access) (a1_n.mono (by omega) (fun b h => .inl h) (Same.below hB hF) hB.size)) (fun R hc => zac r rfl cl423 hc) rfl ?_
 rintro _ w4 ⟨v5, rfl, hb, hr6⟩
 refine ⟨_, rfl, fun fr r => ?_⟩
 have z_w4 := hb.size
 have h_b1 := keep hb h_b1
 obtain ⟨hB, zB⟩ := bon hb hB
 refine zae (.cells v5.cells 324 (0, 0)) r (fun R => zaf r hr6.shape rfl rfl h_b1 ts324 rfl) rfl fun fr w7 u8 r => ?_
 have z_w7 := u8.size
 have h_b1 := u8.at_
 obtain ⟨hB, zB⟩ := u8.on hB (by omega)
 refine wn (wp_ret ?_)
 have hs := hr6.shape.cells
 refine zad r rfl rfl h_b1 (k := 7) hs.1 ta324 ?_
 rw [← hs.2.2]
 exact rfin hF hB hr6 u8 (by omega) (by omega) (by omega)

def D.zdt (c0 : (Unit → T Int)) (a0 : Int) : T Int := (c0 ())

theorem zhc {n : Nat} {F : Nat → Prop} {w0 : World} (hF : ∀ b, F b → b < w0.heap.size)
    {c0_f : FuncId} {c0_1 c0_2 : List Value} {c0 : (Unit → T Int)} {c0_b : Nat} (c0_F : F c0_b) (c0_h : w0.heap[c0_b]? = some (.cells #[.func (.func c0_f) c0_1.toArray c0_2.toArray] 257 (0, 0))) (c0_n : FnT Tryz.prog zng unitE (n + 1) F w0 (.func (.func c0_f) c0_1.toArray c0_2.toArray) c0) (a0 : Int) :
    Calls Tryz.prog 298 #[.int .u64 a0, .pointer (some ⟨c0_b, 0, none⟩)] w0 (znf Tryz.prog zng n (D.zdt c0 a0) F w0) := by
 refine enter Tryz.func298 rfl 6 rfl rfl fun fr r => ?_
 have hB := Below.refl w0.heap.size w0
 have l_c0_b := lt_of_block c0_h
 refine wsr ?_
 refine za5 (.cells (zna false zng.zero 0 0 0 0 .nilFunc) 167 (0, 0)) r (fun R => zag tz167) rfl fun fr b1 w2 n3 r => ?_
 obtain ⟨e_b1, z_w2, h_b1, hB, zB⟩ := n3.all hB
 refine wn (wsr (za0 (.func (.func c0_f) c0_1.toArray c0_2.toArray) r (fun R => za3 r rfl (keep hB c0_h) to257 rfl) rfl fun fr r => ?_))
 refine za7 r (c0_n.at_.2 n (Nat.lt_succ_self n) () w2 (Same.below hB hF) hB.size) (fun R hc => zfD r rfl c0_n.at_.1 hc) rfl ?_
 rintro _ w4 ⟨v5, rfl, hb, hr6⟩
 refine ⟨_, rfl, fun fr r => ?_⟩
 have z_w4 := hb.size
 have h_b1 := keep hb h_b1
 obtain ⟨hB, zB⟩ := bon hb hB
 refine zae (.cells v5.cells 167 (0, 0)) r (fun R => zaf r hr6.shape rfl rfl h_b1 ts167 rfl) rfl fun fr w7 u8 r => ?_
 have z_w7 := u8.size
 have h_b1 := u8.at_
 obtain ⟨hB, zB⟩ := u8.on hB (by omega)
 refine wn (wp_ret ?_)
 have hs := hr6.shape.cells
 refine zad r rfl rfl h_b1 (k := 7) hs.1 ta167 ?_
 rw [← hs.2.2]
 exact znf.fin hB hr6 u8 (fun b hb => .inl hb) (fun h => by have := hF _ h; omega) (by omega) (by omega) (by omega)

def D.zba (a0 : Int) (a1 : Int) (a2 : (Unit → T Int)) : T Int := (D.zfB (⟨1, a0, a1, 0⟩ : Access) (fun x => (D.zdt a2 x)))

theorem zbE {n : Nat} {F : Nat → Prop} {w0 : World} (hF : ∀ b, F b → b < w0.heap.size)
    (a0 : Int) (a1 : Int) {a2_f : FuncId} {a2_1 a2_2 : List Value} {a2 : (Unit → T Int)} (a2_n : FnT Tryz.prog zng unitE (n) F w0 (.func (.func a2_f) a2_1.toArray a2_2.toArray) a2) :
    Calls Tryz.prog 200 #[.int .i64 a0, .int .u64 a1, .func (.func a2_f) a2_1.toArray a2_2.toArray] w0 (znf Tryz.prog zng n (D.zba a0 a1 a2) F w0) := by
 refine enter Tryz.func200 rfl 12 rfl rfl fun fr r => ?_
 have hB := Below.refl w0.heap.size w0
 refine wsr ?_
 refine za5 (.cells #[.func (.func a2_f) a2_1.toArray a2_2.toArray] 257 (0, 0)) r (fun R => znm r (v := (.func (.func a2_f) a2_1.toArray a2_2.toArray)) rfl) rfl fun fr b1 w2 n3 r => ?_
 obtain ⟨e_b1, z_w2, h_b1, hB, zB⟩ := n3.all hB
 refine za5 (.cells (zna false zng.zero 0 0 0 0 .nilFunc) 167 (0, 0)) r (fun R => zag tz167) rfl fun fr b4 w5 n6 r => ?_
 have h_b1 := keep n6.below h_b1
 obtain ⟨e_b4, z_w5, h_b4, hB, zB⟩ := n6.all hB
 refine wn (wsr (za0 (I a0) r (fun R => zaa r rfl) rfl fun fr r => za0 (U a1) r (fun R => zaa r rfl) rfl fun fr r => za0 (.agg (znk (⟨1, a0, a1, 0⟩ : Access)).toArray) r (fun R => zaM r (by kernel_rfl)) rfl fun fr r => za0 (.func (.func 298) #[] #[.pointer (some ⟨b1, 0, none⟩)]) r (fun R => zan r rfl) rfl fun fr r => ?_))
 have hF1 := fgrow hF hB b4
 have f7 : ((fun b => F b ∨ (w0.heap.size ≤ b ∧ b < w5.heap.size ∧ b ≠ b4))) b1 := (.inr ⟨by omega, by omega, by omega⟩)
 refine za7 r (zdT (F := (fun b => F b ∨ (w0.heap.size ≤ b ∧ b < w5.heap.size ∧ b ≠ b4))) (n := n) hF1 (⟨1, a0, a1, 0⟩ : Access) ⟨298, [], [.pointer (some ⟨b1, 0, none⟩)], cl298, rfl, fun m hm x w' hs hz => zhc (fun b hb => Nat.lt_of_lt_of_le (hF1 b hb) hz) f7 (hs.at_ f7 h_b1) (a2_n.mono (by omega) (fun b h => .inl h) ((Same.below hB hF).trans (hs.sub (fun b h => .inl h))) (Nat.le_trans hB.size hz)) x⟩) (fun R hc => zac r rfl cl297 hc) rfl ?_
 rintro _ w8 ⟨v9, rfl, hb, hr10⟩
 refine ⟨_, rfl, fun fr r => ?_⟩
 have z_w8 := hb.size
 have h_b1 := keep hb h_b1
 have h_b4 := keep hb h_b4
 obtain ⟨hB, zB⟩ := bon hb hB
 refine zae (.cells v9.cells 167 (0, 0)) r (fun R => zaf r hr10.shape rfl rfl h_b4 ts167 rfl) rfl fun fr w11 u12 r => ?_
 have z_w11 := u12.size
 have h_b1 := u12.keep h_b1 (by omega)
 have h_b4 := u12.at_
 obtain ⟨hB, zB⟩ := u12.on hB (by omega)
 refine wn (wp_ret ?_)
 have hs := hr10.shape.cells
 refine zad r rfl rfl h_b4 (k := 7) hs.1 ta167 ?_
 rw [← hs.2.2]
 exact rfin hF hB hr10 u12 (by omega) (by omega) (by omega)

def D.zc6 (a0 : Int) (a1 : (Int → T Res)) : T Res := (D.zfO (⟨0, a0, 0, 0⟩ : Access) a1)

theorem zcv {n : Nat} {F : Nat → Prop} {w0 : World} (hF : ∀ b, F b → b < w0.heap.size)
    (a0 : Int) {a1_f : FuncId} {a1_1 a1_2 : List Value} {a1 : (Int → T Res)} (a1_n : FnT Tryz.prog zne u64 (n) F w0 (.func (.func a1_f) a1_1.toArray a1_2.toArray) a1) :
    Calls Tryz.prog 123 #[.int .i64 a0, .func (.func a1_f) a1_1.toArray a1_2.toArray] w0 (znf Tryz.prog zne n (D.zc6 a0 a1) F w0) := by
 refine enter Tryz.func123 rfl 9 rfl rfl fun fr r => ?_
 have hB := Below.refl w0.heap.size w0
 refine wsr ?_
 refine za5 (.cells (zna false zne.zero 0 0 0 0 .nilFunc) 39 (0, 0)) r (fun R => zag tz39) rfl fun fr b1 w2 n3 r => ?_
 obtain ⟨e_b1, z_w2, h_b1, hB, zB⟩ := n3.all hB
 refine wn (wsr (za0 (I a0) r (fun R => zaa r rfl) rfl fun fr r => za0 (.agg (znk (⟨0, a0, 0, 0⟩ : Access)).toArray) r (fun R => zaM r (by kernel_rfl)) rfl fun fr r => za0 (.func (.func a1_f) a1_1.toArray a1_2.toArray) r (fun R => zaa r rfl) rfl fun fr r => ?_))
 have hF1 := fgrow hF hB b1
 refine za7 r (zcC (F := (fun b => F b ∨ (w0.heap.size ≤ b ∧ b < w2.heap.size ∧ b ≠ b1))) (n := n) hF1 (⟨0, a0, 0, 0⟩ : Access) (a1_n.mono (by omega) (fun b h => .inl h) (Same.below hB hF) hB.size)) (fun R hc => zac r rfl cl212 hc) rfl ?_
 rintro _ w4 ⟨v5, rfl, hb, hr6⟩
 refine ⟨_, rfl, fun fr r => ?_⟩
 have z_w4 := hb.size
 have h_b1 := keep hb h_b1
 obtain ⟨hB, zB⟩ := bon hb hB
 refine zae (.cells v5.cells 39 (0, 0)) r (fun R => zaf r hr6.shape rfl rfl h_b1 ts39 rfl) rfl fun fr w7 u8 r => ?_
 have z_w7 := u8.size
 have h_b1 := u8.at_
 obtain ⟨hB, zB⟩ := u8.on hB (by omega)
 refine wn (wp_ret ?_)
 have hs := hr6.shape.cells
 refine zad r rfl rfl h_b1 (k := 8) hs.1 ta39 ?_
 rw [← hs.2.2]
 exact rfin hF hB hr6 u8 (by omega) (by omega) (by omega)

def D.zfP (c0 : (Unit → T Res)) (a0 : Int) : T Res := (c0 ())

theorem zhn {n : Nat} {F : Nat → Prop} {w0 : World} (hF : ∀ b, F b → b < w0.heap.size)
    {c0_f : FuncId} {c0_1 c0_2 : List Value} {c0 : (Unit → T Res)} {c0_b : Nat} (c0_F : F c0_b) (c0_h : w0.heap[c0_b]? = some (.cells #[.func (.func c0_f) c0_1.toArray c0_2.toArray] 197 (0, 0))) (c0_n : FnT Tryz.prog zne unitE (n + 1) F w0 (.func (.func c0_f) c0_1.toArray c0_2.toArray) c0) (a0 : Int) :
    Calls Tryz.prog 224 #[.int .u64 a0, .pointer (some ⟨c0_b, 0, none⟩)] w0 (znf Tryz.prog zne n (D.zfP c0 a0) F w0) := by
 refine enter Tryz.func224 rfl 6 rfl rfl fun fr r => ?_
 have hB := Below.refl w0.heap.size w0
 have l_c0_b := lt_of_block c0_h
 refine wsr ?_
 refine za5 (.cells (zna false zne.zero 0 0 0 0 .nilFunc) 39 (0, 0)) r (fun R => zag tz39) rfl fun fr b1 w2 n3 r => ?_
 obtain ⟨e_b1, z_w2, h_b1, hB, zB⟩ := n3.all hB
 refine wn (wsr (za0 (.func (.func c0_f) c0_1.toArray c0_2.toArray) r (fun R => za3 r rfl (keep hB c0_h) to197 rfl) rfl fun fr r => ?_))
 refine za7 r (c0_n.at_.2 n (Nat.lt_succ_self n) () w2 (Same.below hB hF) hB.size) (fun R hc => zfD r rfl c0_n.at_.1 hc) rfl ?_
 rintro _ w4 ⟨v5, rfl, hb, hr6⟩
 refine ⟨_, rfl, fun fr r => ?_⟩
 have z_w4 := hb.size
 have h_b1 := keep hb h_b1
 obtain ⟨hB, zB⟩ := bon hb hB
 refine zae (.cells v5.cells 39 (0, 0)) r (fun R => zaf r hr6.shape rfl rfl h_b1 ts39 rfl) rfl fun fr w7 u8 r => ?_
 have z_w7 := u8.size
 have h_b1 := u8.at_
 obtain ⟨hB, zB⟩ := u8.on hB (by omega)
 refine wn (wp_ret ?_)
 have hs := hr6.shape.cells
 refine zad r rfl rfl h_b1 (k := 8) hs.1 ta39 ?_
 rw [← hs.2.2]
 exact znf.fin hB hr6 u8 (fun b hb => .inl hb) (fun h => by have := hF _ h; omega) (by omega) (by omega) (by omega)

def D.zdm (a0 : Int) (a1 : Int) (a2 : (Unit → T Res)) : T Res := (D.zfO (⟨1, a0, a1, 0⟩ : Access) (fun x => (D.zfP a2 x)))

theorem zel {n : Nat} {F : Nat → Prop} {w0 : World} (hF : ∀ b, F b → b < w0.heap.size)
    (a0 : Int) (a1 : Int) {a2_f : FuncId} {a2_1 a2_2 : List Value} {a2 : (Unit → T Res)} (a2_n : FnT Tryz.prog zne unitE (n) F w0 (.func (.func a2_f) a2_1.toArray a2_2.toArray) a2) :
    Calls Tryz.prog 120 #[.int .i64 a0, .int .u64 a1, .func (.func a2_f) a2_1.toArray a2_2.toArray] w0 (znf Tryz.prog zne n (D.zdm a0 a1 a2) F w0) := by
 refine enter Tryz.func120 rfl 12 rfl rfl fun fr r => ?_
 have hB := Below.refl w0.heap.size w0
 refine wsr ?_
 refine za5 (.cells #[.func (.func a2_f) a2_1.toArray a2_2.toArray] 197 (0, 0)) r (fun R => znm r (v := (.func (.func a2_f) a2_1.toArray a2_2.toArray)) rfl) rfl fun fr b1 w2 n3 r => ?_
 obtain ⟨e_b1, z_w2, h_b1, hB, zB⟩ := n3.all hB
 refine za5 (.cells (zna false zne.zero 0 0 0 0 .nilFunc) 39 (0, 0)) r (fun R => zag tz39) rfl fun fr b4 w5 n6 r => ?_
 have h_b1 := keep n6.below h_b1
 obtain ⟨e_b4, z_w5, h_b4, hB, zB⟩ := n6.all hB
 refine wn (wsr (za0 (I a0) r (fun R => zaa r rfl) rfl fun fr r => za0 (U a1) r (fun R => zaa r rfl) rfl fun fr r => za0 (.agg (znk (⟨1, a0, a1, 0⟩ : Access)).toArray) r (fun R => zaM r (by kernel_rfl)) rfl fun fr r => za0 (.func (.func 224) #[] #[.pointer (some ⟨b1, 0, none⟩)]) r (fun R => zan r rfl) rfl fun fr r => ?_))
 have hF1 := fgrow hF hB b4
 have f7 : ((fun b => F b ∨ (w0.heap.size ≤ b ∧ b < w5.heap.size ∧ b ≠ b4))) b1 := (.inr ⟨by omega, by omega, by omega⟩)
 refine za7 r (zcC (F := (fun b => F b ∨ (w0.heap.size ≤ b ∧ b < w5.heap.size ∧ b ≠ b4))) (n := n) hF1 (⟨1, a0, a1, 0⟩ : Access) ⟨224, [], [.pointer (some ⟨b1, 0, none⟩)], cl224, rfl, fun m hm x w' hs hz => zhn (fun b hb => Nat.lt_of_lt_of_le (hF1 b hb) hz) f7 (hs.at_ f7 h_b1) (a2_n.mono (by omega) (fun b h => .inl h) ((Same.below hB hF).trans (hs.sub (fun b h => .inl h))) (Nat.le_trans hB.size hz)) x⟩) (fun R hc => zac r rfl cl212 hc) rfl ?_
 rintro _ w8 ⟨v9, rfl, hb, hr10⟩
 refine ⟨_, rfl, fun fr r => ?_⟩
 have z_w8 := hb.size
 have h_b1 := keep hb h_b1
 have h_b4 := keep hb h_b4
 obtain ⟨hB, zB⟩ := bon hb hB
 refine zae (.cells v9.cells 39 (0, 0)) r (fun R => zaf r hr10.shape rfl rfl h_b4 ts39 rfl) rfl fun fr w11 u12 r => ?_
 have z_w11 := u12.size
 have h_b1 := u12.keep h_b1 (by omega)
 have h_b4 := u12.at_
 obtain ⟨hB, zB⟩ := u12.on hB (by omega)
 refine wn (wp_ret ?_)
 have hs := hr10.shape.cells
 refine zad r rfl rfl h_b4 (k := 8) hs.1 ta39 ?_
 rw [← hs.2.2]
 exact rfin hF hB hr10 u12 (by omega) (by omega) (by omega)

def D.zgi (c0 : (Bool → T Res)) (c1 : Int) (a0 : Int) : T Res := (c0 (a0 == c1))

theorem zhO {n : Nat} {F : Nat → Prop} {w0 : World} (hF : ∀ b, F b → b < w0.heap.size)
    {c0_f : FuncId} {c0_1 c0_2 : List Value} {c0 : (Bool → T Res)} {c0_b : Nat} (c0_F : F c0_b) (c0_h : w0.heap[c0_b]? = some (.cells #[.func (.func c0_f) c0_1.toArray c0_2.toArray] 200 (0, 0))) (c0_n : FnT Tryz.prog zne boolE (n + 1) F w0 (.func (.func c0_f) c0_1.toArray c0_2.toArray) c0) (c1 : Int) {c1_b : Nat} (c1_F : F c1_b) (c1_h : w0.heap[c1_b]? = some (.cells ([(.int .u64 c1)]).toArray 22 (0, 0))) (a0 : Int) :
    Calls Tryz.prog 225 #[.int .u64 a0, .pointer (some ⟨c0_b, 0, none⟩), .pointer (some ⟨c1_b, 0, none⟩)] w0 (znf Tryz.prog zne n (D.zgi c0 c1 a0) F w0) := by
 refine enter Tryz.func225 rfl 10 rfl rfl fun fr r => ?_
 have hB := Below.refl w0.heap.size w0
 have l_c0_b := lt_of_block c0_h
 have l_c1_b := lt_of_block c1_h
 refine wsr ?_
 refine za5 (.cells (zna false zne.zero 0 0 0 0 .nilFunc) 39 (0, 0)) r (fun R => zag tz39) rfl fun fr b1 w2 n3 r => ?_
 obtain ⟨e_b1, z_w2, h_b1, hB, zB⟩ := n3.all hB
 refine wn (wsr (za0 (.func (.func c0_f) c0_1.toArray c0_2.toArray) r (fun R => za3 r rfl (keep hB c0_h) to200 rfl) rfl fun fr r => za0 (U a0) r (fun R => zaa r rfl) rfl fun fr r => za0 (U c1) r (fun R => za3 r rfl (keep hB c1_h) to22 rfl) rfl fun fr r => za0 _ r (fun R => zni r rfl rfl rfl rfl) rfl fun fr r => ?_))
 refine za7 r (c0_n.at_.2 n (Nat.lt_succ_self n) (a0 == c1) w2 (Same.below hB hF) hB.size) (fun R hc => zde r rfl rfl c0_n.at_.1 hc) rfl ?_
 rintro _ w4 ⟨v5, rfl, hb, hr6⟩
 refine ⟨_, rfl, fun fr r => ?_⟩
 have z_w4 := hb.size
 have h_b1 := keep hb h_b1
 obtain ⟨hB, zB⟩ := bon hb hB
 refine zae (.cells v5.cells 39 (0, 0)) r (fun R => zaf r hr6.shape rfl rfl h_b1 ts39 rfl) rfl fun fr w7 u8 r => ?_
 have z_w7 := u8.size
 have h_b1 := u8.at_
 obtain ⟨hB, zB⟩ := u8.on hB (by omega)
 refine wn (wp_ret ?_)
 have hs := hr6.shape.cells
 refine zad r rfl rfl h_b1 (k := 8) hs.1 ta39 ?_
 rw [← hs.2.2]
 exact znf.fin hB hr6 u8 (fun b hb => .inl hb) (fun h => by have := hF _ h; omega) (by omega) (by omega) (by omega)

def D.zbD (a0 : Int) (a1 : Int) (a2 : Int) (a3 : (Bool → T Res)) : T Res := (D.zfO (⟨2, a0, a1, a2⟩ : Access) (fun x => (D.zgi a3 a1 x)))

theorem zd3 {n : Nat} {F : Nat → Prop} {w0 : World} (hF : ∀ b, F b → b < w0.heap.size)
    (a0 : Int) (a1 : Int) (a2 : Int) {a3_f : FuncId} {a3_1 a3_2 : List Value} {a3 : (Bool → T Res)} (a3_n : FnT Tryz.prog zne boolE (n) F w0 (.func (.func a3_f) a3_1.toArray a3_2.toArray) a3) :
    Calls Tryz.prog 125 #[.int .i64 a0, .int .u64 a1, .int .u64 a2, .func (.func a3_f) a3_1.toArray a3_2.toArray] w0 (znf Tryz.prog zne n (D.zbD a0 a1 a2 a3) F w0) := by
 refine enter Tryz.func125 rfl 15 rfl rfl fun fr r => ?_
 have hB := Below.refl w0.heap.size w0
 refine wsr ?_
 refine za5 (.cells #[(U a1)] 22 (0, 0)) r (fun R => znm r (v := (U a1)) rfl) rfl fun fr b1 w2 n3 r => ?_
 obtain ⟨e_b1, z_w2, h_b1, hB, zB⟩ := n3.all hB
 refine za5 (.cells #[.func (.func a3_f) a3_1.toArray a3_2.toArray] 200 (0, 0)) r (fun R => znm r (v := (.func (.func a3_f) a3_1.toArray a3_2.toArray)) rfl) rfl fun fr b4 w5 n6 r => ?_
 have h_b1 := keep n6.below h_b1
 obtain ⟨e_b4, z_w5, h_b4, hB, zB⟩ := n6.all hB
 refine za5 (.cells (zna false zne.zero 0 0 0 0 .nilFunc) 39 (0, 0)) r (fun R => zag tz39) rfl fun fr b7 w8 n9 r => ?_
 have h_b1 := keep n9.below h_b1
 have h_b4 := keep n9.below h_b4
 obtain ⟨e_b7, z_w8, h_b7, hB, zB⟩ := n9.all hB
 refine wn (wsr (za0 (I a0) r (fun R => zaa r rfl) rfl fun fr r => za0 (U a1) r (fun R => za3 r rfl h_b1 to22 rfl) rfl fun fr r => za0 (U a2) r (fun R => zaa r rfl) rfl fun fr r => za0 (.agg (znk (⟨2, a0, a1, a2⟩ : Access)).toArray) r (fun R => zaM r (by kernel_rfl)) rfl fun fr r => za0 (.func (.func 225) #[] #[.pointer (some ⟨b4, 0, none⟩), .pointer (some ⟨b1, 0, none⟩)]) r (fun R => zan r rfl) rfl fun fr r => ?_))
 have hF1 := fgrow hF hB b7
 have f10 : ((fun b => F b ∨ (w0.heap.size ≤ b ∧ b < w8.heap.size ∧ b ≠ b7))) b4 := (.inr ⟨by omega, by omega, by omega⟩)
 have f11 : ((fun b => F b ∨ (w0.heap.size ≤ b ∧ b < w8.heap.size ∧ b ≠ b7))) b1 := (.inr ⟨by omega, by omega, by omega⟩)
 refine za7 r (zcC (F := (fun b => F b ∨ (w0.heap.size ≤ b ∧ b < w8.heap.size ∧ b ≠ b7))) (n := n) hF1 (⟨2, a0, a1, a2⟩ : Access) ⟨225, [], [.pointer (some ⟨b4, 0, none⟩), .pointer (some ⟨b1, 0, none⟩)], cl225, rfl, fun m hm x w' hs hz => zhO (fun b hb => Nat.lt_of_lt_of_le (hF1 b hb) hz) f10 (hs.at_ f10 h_b4) (a3_n.mono (by omega) (fun b h => .inl h) ((Same.below hB hF).trans (hs.sub (fun b h => .inl h))) (Nat.le_trans hB.size hz)) a1 f11 (hs.at_ f11 h_b1) x⟩) (fun R hc => zac r rfl cl212 hc) rfl ?_
 rintro _ w12 ⟨v13, rfl, hb, hr14⟩
 refine ⟨_, rfl, fun fr r => ?_⟩
 have z_w12 := hb.size
 have h_b1 := keep hb h_b1
 have h_b4 := keep hb h_b4
 have h_b7 := keep hb h_b7
 obtain ⟨hB, zB⟩ := bon hb hB
 refine zae (.cells v13.cells 39 (0, 0)) r (fun R => zaf r hr14.shape rfl rfl h_b7 ts39 rfl) rfl fun fr w15 u16 r => ?_
 have z_w15 := u16.size
 have h_b1 := u16.keep h_b1 (by omega)
 have h_b4 := u16.keep h_b4 (by omega)
 have h_b7 := u16.at_
 obtain ⟨hB, zB⟩ := u16.on hB (by omega)
 refine wn (wp_ret ?_)
 have hs := hr14.shape.cells
 refine zad r rfl rfl h_b7 (k := 8) hs.1 ta39 ?_
 rw [← hs.2.2]
 exact rfin hF hB hr14 u16 (by omega) (by omega) (by omega)

def D.zdo (a0 : Int) (a1 : (Int → T Int)) : T Int := (D.zgM (⟨0, a0, 0, 0⟩ : Access) a1)

theorem zeW {n : Nat} {F : Nat → Prop} {w0 : World} (hF : ∀ b, F b → b < w0.heap.size)
    (a0 : Int) {a1_f : FuncId} {a1_1 a1_2 : List Value} {a1 : (Int → T Int)} (a1_n : FnT Tryz.prog encWord u64 (n) F w0 (.func (.func a1_f) a1_1.toArray a1_2.toArray) a1) :
    Calls Tryz.prog 326 #[.int .i64 a0, .func (.func a1_f) a1_1.toArray a1_2.toArray] w0 (znf Tryz.prog encWord n (D.zdo a0 a1) F w0) := by
 refine enter Tryz.func326 rfl 9 rfl rfl fun fr r => ?_
 have hB := Below.refl w0.heap.size w0
 refine wsr ?_
 refine za5 (.cells (zna false encWord.zero 0 0 0 0 .nilFunc) 283 (0, 0)) r (fun R => zag tz283) rfl fun fr b1 w2 n3 r => ?_
 obtain ⟨e_b1, z_w2, h_b1, hB, zB⟩ := n3.all hB
 refine wn (wsr (za0 (I a0) r (fun R => zaa r rfl) rfl fun fr r => za0 (.agg (znk (⟨0, a0, 0, 0⟩ : Access)).toArray) r (fun R => zaM r (by kernel_rfl)) rfl fun fr r => za0 (.func (.func a1_f) a1_1.toArray a1_2.toArray) r (fun R => zaa r rfl) rfl fun fr r => ?_))
 have hF1 := fgrow hF hB b1
 refine za7 r (zfS (F := (fun b => F b ∨ (w0.heap.size ≤ b ∧ b < w2.heap.size ∧ b ≠ b1))) (n := n) hF1 (⟨0, a0, 0, 0⟩ : Access) (a1_n.mono (by omega) (fun b h => .inl h) (Same.below hB hF) hB.size)) (fun R hc => zac r rfl cl370 hc) rfl ?_
 rintro _ w4 ⟨v5, rfl, hb, hr6⟩
 refine ⟨_, rfl, fun fr r => ?_⟩
 have z_w4 := hb.size
 have h_b1 := keep hb h_b1
 obtain ⟨hB, zB⟩ := bon hb hB
 refine zae (.cells v5.cells 283 (0, 0)) r (fun R => zaf r hr6.shape rfl rfl h_b1 ts283 rfl) rfl fun fr w7 u8 r => ?_
 have z_w7 := u8.size
 have h_b1 := u8.at_
 obtain ⟨hB, zB⟩ := u8.on hB (by omega)
 refine wn (wp_ret ?_)
 have hs := hr6.shape.cells
 refine zad r rfl rfl h_b1 (k := 7) hs.1 ta283 ?_
 rw [← hs.2.2]
 exact rfin hF hB hr6 u8 (by omega) (by omega) (by omega)

end Go.Proofs.YtjkinpbfmihhdaaGreat

/- Written by a program of ours (wip/gen.py): the list of free nodes -/
set_option linter.unusedVariables false
set_option maxRecDepth 20000
set_option maxHeartbeats 2000000
namespace Go.Proofs.YtjkinpbfmihhdaaGreat
open Go.RowKit
theorem cl160 : znb Tryz.prog 160 = true := by kernel_rfl

theorem cl161 : znb Tryz.prog 161 = true := by kernel_rfl

theorem cl162 : znb Tryz.prog 162 = true := by kernel_rfl

theorem cl163 : znb Tryz.prog 163 = true := by kernel_rfl

theorem cl191 : znb Tryz.prog 191 = true := by kernel_rfl

theorem cl198 : znb Tryz.prog 198 = true := by kernel_rfl

theorem cl200 : znb Tryz.prog 200 = true := by kernel_rfl

theorem cl210 : znb Tryz.prog 210 = true := by kernel_rfl

theorem cl229 : znb Tryz.prog 229 = true := by kernel_rfl

theorem cl288 : znb Tryz.prog 288 = true := by kernel_rfl

theorem cl289 : znb Tryz.prog 289 = true := by kernel_rfl

theorem cl290 : znb Tryz.prog 290 = true := by kernel_rfl

theorem cl291 : znb Tryz.prog 291 = true := by kernel_rfl

theorem cl292 : znb Tryz.prog 292 = true := by kernel_rfl

theorem cl296 : znb Tryz.prog 296 = true := by kernel_rfl

theorem cl315 : znb Tryz.prog 315 = true := by kernel_rfl

theorem cl316 : znb Tryz.prog 316 = true := by kernel_rfl

theorem cl318 : znb Tryz.prog 318 = true := by kernel_rfl

theorem cl343 : znb Tryz.prog 343 = true := by kernel_rfl

theorem cl355 : znb Tryz.prog 355 = true := by kernel_rfl

theorem cl379 : znb Tryz.prog 379 = true := by kernel_rfl

theorem cl380 : znb Tryz.prog 380 = true := by kernel_rfl

theorem cl381 : znb Tryz.prog 381 = true := by kernel_rfl

theorem ti22 : intTy Tryz.prog 22 .u64 = true := by kernel_rfl

theorem ti3 : intTy Tryz.prog 3 .i64 = true := by kernel_rfl

theorem ts223 : sized Tryz.prog 223 2 = true := by kernel_rfl

theorem tz223 : zeroOf Tryz.prog 223 = some (.agg (znh (⟨0, 0⟩ : Field)).toArray) := by kernel_rfl

theorem tz3 : zeroOf Tryz.prog 3 = some (.int .i64 0) := by kernel_rfl

def D.zbI (a0 : Int) : Int := (IntKind.u64.wrap (IntKind.i64.wrap (a0 + 1)))

theorem zgV (w0 : World) 
    (a0 : Int) :
    Calls Tryz.prog 316 #[.int .i64 a0] w0 (PureRes (.int .u64 (D.zbI a0)) w0) := by
 refine enter Tryz.func316 rfl 6 rfl rfl fun fr r => ?_
 have hB := Below.refl w0.heap.size w0
 refine wsr (za0 (U 0) r (fun R => za8 r rfl) rfl fun fr r => wn (wsr (za0 (I a0) r (fun R => zaa r rfl) rfl fun fr r => za0 _ r (fun R => zni r rfl rfl rfl rfl) rfl fun fr r => za0 (U (V (W (a0 + 1)))) r (fun R => zbo r rfl ti3 ti22) rfl fun fr r => za0 (U (V (W (a0 + 1)))) r (fun R => za8 r rfl) rfl fun fr r => wn (wp_ret ?_))))
 refine zay r rfl rfl ?_
 exact ⟨rfl, hB⟩

def D.zg5 (r_free_fresh : Plan → Int → T Unit) (c0 : Plan) (c1 : Int) : T Unit := (r_free_fresh c0 (IntKind.i64.wrap (c1 + 1)))

def D.zbU (r_free_fresh : Plan → Int → T Unit) (a0 : Plan) (a1 : Int) : T Unit := (bif (a1 == a0.nodes) then (D.zht (D.zb0 a0) (D.zbI 0)) else (let x19 : Int := (bif ((IntKind.i64.wrap (a1 + 1)) == a0.nodes) then 0 else (D.zbI (IntKind.i64.wrap (a1 + 1)))); (D.zdM (D.zb3 a0 a1) x19 (fun _ => (D.zg5 r_free_fresh a0 a1)))))

def D.zd8 : Nat → Plan → Int → T Unit
  | 0, _, _ => .cut
  | k + 1, a0, a1 => D.zbU (D.zd8 k) a0 a1

def zeI (r : Plan → Int → T Unit) (n : Nat) : Prop := ∀ (F : Nat → Prop) (w0 : World), (∀ b, F b → b < w0.heap.size) → ∀ (a0 : Plan) (a1 : Int), Calls Tryz.prog 210 #[.agg (znc a0).toArray, .int .i64 a1] w0 (znf Tryz.prog znj n (r a0 a1) F w0)

theorem ziV {n : Nat} {F : Nat → Prop} {r_free_fresh : Plan → Int → T Unit} {w0 : World} (hF : ∀ b, F b → b < w0.heap.size) (ih_free_fresh : ∀ m, m ≤ n → zeI r_free_fresh m)
    (c0 : Plan) {c0_b : Nat} (c0_F : F c0_b) (c0_h : w0.heap[c0_b]? = some (.cells ((znc c0)).toArray 25 (0, 0))) (c1 : Int) {c1_b : Nat} (c1_F : F c1_b) (c1_h : w0.heap[c1_b]? = some (.cells ([(.int .i64 c1)]).toArray 3 (0, 0))) :
    Calls Tryz.prog 318 #[.pointer (some ⟨c0_b, 0, none⟩), .pointer (some ⟨c1_b, 0, none⟩)] w0 (znf Tryz.prog znj n (D.zg5 r_free_fresh c0 c1) F w0) := by
 refine enter Tryz.func318 rfl 7 rfl rfl fun fr r => ?_
 have hB := Below.refl w0.heap.size w0
 have l_c0_b := lt_of_block c0_h
 have l_c1_b := lt_of_block c1_h
 refine wsr ?_
 refine za5 (.cells (zna false znj.zero 0 0 0 0 .nilFunc) 186 (0, 0)) r (fun R => zag tz186) rfl fun fr b1 w2 n3 r => ?_
 obtain ⟨e_b1, z_w2, h_b1, hB, zB⟩ := n3.all hB
 refine wn (wsr (za0 (.agg (znc c0).toArray) r (fun R => za6 r (cs := (znc c0)) (n := 6) rfl (keep hB c0_h) ta25 rfl) rfl fun fr r => za0 (I c1) r (fun R => za3 r rfl (keep hB c1_h) to3 rfl) rfl fun fr r => za0 _ r (fun R => zni r rfl rfl rfl rfl) rfl fun fr r => ?_))
 have hF1 := fgrow hF hB b1
 refine za7 r ((ih_free_fresh n (by omega)) (fun b => F b ∨ (w0.heap.size ≤ b ∧ b < w2.heap.size ∧ b ≠ b1)) _ hF1 c0 (W (c1 + 1))) (fun R hc => zac r rfl cl210 hc) rfl ?_
 rintro _ w4 ⟨v5, rfl, hb, hr6⟩
 refine ⟨_, rfl, fun fr r => ?_⟩
 have z_w4 := hb.size
 have h_b1 := keep hb h_b1
 obtain ⟨hB, zB⟩ := bon hb hB
 refine zae (.cells v5.cells 186 (0, 0)) r (fun R => zaf r hr6.shape rfl rfl h_b1 ts186 rfl) rfl fun fr w7 u8 r => ?_
 have z_w7 := u8.size
 have h_b1 := u8.at_
 obtain ⟨hB, zB⟩ := u8.on hB (by omega)
 refine wn (wp_ret ?_)
 have hs := hr6.shape.cells
 refine zad r rfl rfl h_b1 (k := 6) hs.1 ta186 ?_
 rw [← hs.2.2]
 exact rfin hF hB hr6 u8 (by omega) (by omega) (by omega)

theorem zjX {n : Nat} {F : Nat → Prop} {r_free_fresh : Plan → Int → T Unit} {w0 : World} (hF : ∀ b, F b → b < w0.heap.size) (ih_free_fresh : ∀ m, m < n → zeI r_free_fresh m)
    (a0 : Plan) (a1 : Int) :
    Calls Tryz.prog 210 #[.agg (znc a0).toArray, .int .i64 a1] w0 (znf Tryz.prog znj n (D.zbU r_free_fresh a0 a1) F w0) := by
 refine enter Tryz.func210 rfl 28 rfl rfl fun fr r => ?_
 have hB := Below.refl w0.heap.size w0
 refine wsr ?_
 refine za5 (.cells ((znc a0)).toArray 25 (0, 0)) r (fun R => znm r (v := (.agg (znc a0).toArray)) rfl) rfl fun fr b1 w2 n3 r => ?_
 obtain ⟨e_b1, z_w2, h_b1, hB, zB⟩ := n3.all hB
 refine za5 (.cells #[(I a1)] 3 (0, 0)) r (fun R => znm r (v := (I a1)) rfl) rfl fun fr b4 w5 n6 r => ?_
 have h_b1 := keep n6.below h_b1
 obtain ⟨e_b4, z_w5, h_b4, hB, zB⟩ := n6.all hB
 refine za5 (.cells (zna false znj.zero 0 0 0 0 .nilFunc) 186 (0, 0)) r (fun R => zag tz186) rfl fun fr b7 w8 n9 r => ?_
 have h_b1 := keep n9.below h_b1
 have h_b4 := keep n9.below h_b4
 obtain ⟨e_b7, z_w8, h_b7, hB, zB⟩ := n9.all hB
 refine wn (wp_seq (wsr (za0 (I a1) r (fun R => za3 r rfl h_b4 to3 rfl) rfl fun fr r => za0 _ r (fun R => za4 r (o := 0) rfl zfQ) rfl fun fr r => za0 (I a0.nodes) r (fun R => za3 r rfl h_b1 to3 rfl) rfl fun fr r => za0 _ r (fun R => zni r rfl rfl rfl rfl) rfl fun fr r => wn ?_)))
 refine wp_cond_split (t := (a1 == a0.nodes)) (r.ev rfl) (fun h10 => ?_) (fun h10 => ?_)
 ·
  refine wsr (za0 (.agg (znc a0).toArray) r (fun R => za6 r (cs := (znc a0)) (n := 6) rfl h_b1 ta25 rfl) rfl fun fr r => ?_)
  refine za7 r (zcH w8 a0) (fun R hc => zac r rfl cl162 hc) rfl ?_
  rintro _ w11 ⟨rfl, hb⟩
  refine ⟨_, rfl, fun fr r => ?_⟩
  have z_w11 := hb.size
  have h_b1 := keep hb h_b1
  have h_b4 := keep hb h_b4
  have h_b7 := keep hb h_b7
  obtain ⟨hB, zB⟩ := bon hb hB
  refine za7 r (zgV w11 0) (fun R hc => zac r rfl cl316 hc) rfl ?_
  rintro _ w12 ⟨rfl, hb⟩
  refine ⟨_, rfl, fun fr r => ?_⟩
  have z_w12 := hb.size
  have h_b1 := keep hb h_b1
  have h_b4 := keep hb h_b4
  have h_b7 := keep hb h_b7
  obtain ⟨hB, zB⟩ := bon hb hB
  have hF1 := fgrow hF hB b7
  refine za7 r (zj5 (F := (fun b => F b ∨ (w0.heap.size ≤ b ∧ b < w12.heap.size ∧ b ≠ b7))) (n := n) hF1 (D.zb0 a0) (D.zbI 0)) (fun R hc => zac r rfl cl315 hc) rfl ?_
  rintro _ w13 ⟨v14, rfl, hb, hr15⟩
  refine ⟨_, rfl, fun fr r => ?_⟩
  have z_w13 := hb.size
  have h_b1 := keep hb h_b1
  have h_b4 := keep hb h_b4
  have h_b7 := keep hb h_b7
  obtain ⟨hB, zB⟩ := bon hb hB
  refine zae (.cells v14.cells 186 (0, 0)) r (fun R => zaf r hr15.shape rfl rfl h_b7 ts186 rfl) rfl fun fr w16 u17 r => ?_
  have z_w16 := u17.size
  have h_b1 := u17.keep h_b1 (by omega)
  have h_b4 := u17.keep h_b4 (by omega)
  have h_b7 := u17.at_
  obtain ⟨hB, zB⟩ := u17.on hB (by omega)
  refine wn (wp_ret ?_)
  have hd : D.zbU r_free_fresh a0 a1 = (D.zht (D.zb0 a0) (D.zbI 0)) := (zap h10).trans (rfl)
  have hs := hr15.shape.cells
  refine zad r rfl rfl h_b7 (k := 6) hs.1 ta186 ?_
  rw [← hs.2.2, hd]
  exact rfin hF hB hr15 u17 (by omega) (by omega) (by omega)
 ·
  refine wp_skip (wsr (za0 (I a1) r (fun R => za3 r rfl h_b4 to3 rfl) rfl fun fr r => za0 _ r (fun R => zni r rfl rfl rfl rfl) rfl fun fr r => ?_))
  refine za7 r (zgV w8 (W (a1 + 1))) (fun R hc => zac r rfl cl316 hc) rfl ?_
  rintro _ w18 ⟨rfl, hb⟩
  refine ⟨_, rfl, fun fr r => ?_⟩
  have z_w18 := hb.size
  have h_b1 := keep hb h_b1
  have h_b4 := keep hb h_b4
  have h_b7 := keep hb h_b7
  obtain ⟨hB, zB⟩ := bon hb hB
  refine za0 (U (D.zbI (W (a1 + 1)))) r (fun R => za8 r rfl) rfl fun fr r => wn (wp_seq (wsr (za0 (I a1) r (fun R => za3 r rfl h_b4 to3 rfl) rfl fun fr r => za0 _ r (fun R => zni r rfl rfl rfl rfl) rfl fun fr r => za0 _ r (fun R => za4 r (o := 0) rfl zfQ) rfl fun fr r => za0 (I a0.nodes) r (fun R => za3 r rfl h_b1 to3 rfl) rfl fun fr r => za0 _ r (fun R => zni r rfl rfl rfl rfl) rfl fun fr r => wn ?_)))
  obtain ⟨x19, hx19⟩ : ∃ x : Int, x = (bif ((W (a1 + 1)) == a0.nodes) then 0 else (D.zbI (W (a1 + 1)))) := ⟨_, rfl⟩
  refine zmy (N := 28) [(0, (.agg (znc a0).toArray)), (1, (I a1)), (2, (.pointer (some ⟨b1, 0, none⟩))), (3, (.pointer (some ⟨b4, 0, none⟩))), (4, (.pointer (some ⟨b7, 0, none⟩))), (5, (U x19))] (fun w => Below w0.heap.size w0 w ∧ w18.heap.size ≤ w.heap.size ∧ w.heap[b1]? = some (.cells ((znc a0)).toArray 25 (0, 0)) ∧ w.heap[b4]? = some (.cells #[(I a1)] 3 (0, 0)) ∧ w.heap[b7]? = some (.cells (zna false znj.zero 0 0 0 0 .nilFunc) 186 (0, 0))) ?_ ?_
  ·
   refine wp_cond_split (t := ((W (a1 + 1)) == a0.nodes)) (r.ev rfl) (fun h20 => ?_) (fun h20 => ?_)
   ·
    refine wp_region_lit (za0 (U 0) r (fun R => za8 r rfl) rfl fun fr r => wn ?_)
    exact ⟨rfl, _, r, (za2 rfl (za2 rfl (za2 rfl (za2 rfl (za2 rfl (za2 (by rw [hx19, zap h20]; rfl) zaT)))))), hB, (by omega), h_b1, h_b4, h_b7⟩
   ·
    refine wp_skip ?_
    exact ⟨rfl, _, r, (za2 rfl (za2 rfl (za2 rfl (za2 rfl (za2 rfl (za2 (by rw [hx19, zak h20]; rfl) zaT)))))), hB, (by omega), h_b1, h_b4, h_b7⟩
  ·
   rintro fr w21 g r ⟨hB, z_w21, h_b1, h_b4, h_b7⟩
   have zB := hB.size
   refine wsr (za0 (.agg (znc a0).toArray) r (fun R => za6 r (cs := (znc a0)) (n := 6) rfl h_b1 ta25 rfl) rfl fun fr r => za0 (I a1) r (fun R => za3 r rfl h_b4 to3 rfl) rfl fun fr r => ?_)
   refine za7 r (zdr w21 a0 a1) (fun R hc => zac r rfl cl163 hc) rfl ?_
   rintro _ w22 ⟨rfl, hb⟩
   refine ⟨_, rfl, fun fr r => ?_⟩
   have z_w22 := hb.size
   have h_b1 := keep hb h_b1
   have h_b4 := keep hb h_b4
   have h_b7 := keep hb h_b7
   obtain ⟨hB, zB⟩ := bon hb hB
   refine za0 (U x19) r (fun R => zaa r rfl) rfl fun fr r => za0 (.func (.func 318) #[] #[.pointer (some ⟨b1, 0, none⟩), .pointer (some ⟨b4, 0, none⟩)]) r (fun R => zan r rfl) rfl fun fr r => ?_
   have hF1 := fgrow hF hB b7
   have f23 : ((fun b => F b ∨ (w0.heap.size ≤ b ∧ b < w22.heap.size ∧ b ≠ b7))) b1 := (.inr ⟨by omega, by omega, by omega⟩)
   have f24 : ((fun b => F b ∨ (w0.heap.size ≤ b ∧ b < w22.heap.size ∧ b ≠ b7))) b4 := (.inr ⟨by omega, by omega, by omega⟩)
   refine za7 r (zfo (F := (fun b => F b ∨ (w0.heap.size ≤ b ∧ b < w22.heap.size ∧ b ≠ b7))) (n := n) hF1 (D.zb3 a0 a1) x19 ⟨318, [], [.pointer (some ⟨b1, 0, none⟩), .pointer (some ⟨b4, 0, none⟩)], cl318, rfl, fun m hm _ w' hs hz => ziV (fun b hb => Nat.lt_of_lt_of_le (hF1 b hb) hz) (fun m' hm' => ih_free_fresh m' (by omega)) a0 f23 (hs.at_ f23 h_b1) a1 f24 (hs.at_ f24 h_b4)⟩) (fun R hc => zac r rfl cl317 hc) rfl ?_
   rintro _ w25 ⟨v26, rfl, hb, hr27⟩
   refine ⟨_, rfl, fun fr r => ?_⟩
   have z_w25 := hb.size
   have h_b1 := keep hb h_b1
   have h_b4 := keep hb h_b4
   have h_b7 := keep hb h_b7
   obtain ⟨hB, zB⟩ := bon hb hB
   refine zae (.cells v26.cells 186 (0, 0)) r (fun R => zaf r hr27.shape rfl rfl h_b7 ts186 rfl) rfl fun fr w28 u29 r => ?_
   have z_w28 := u29.size
   have h_b1 := u29.keep h_b1 (by omega)
   have h_b4 := u29.keep h_b4 (by omega)
   have h_b7 := u29.at_
   obtain ⟨hB, zB⟩ := u29.on hB (by omega)
   refine wn (wp_ret ?_)
   have hd : D.zbU r_free_fresh a0 a1 = (D.zdM (D.zb3 a0 a1) x19 (fun _ => (D.zg5 r_free_fresh a0 a1))) := by subst hx19; exact (zak h10).trans (rfl)
   have hs := hr27.shape.cells
   refine zad r rfl rfl h_b7 (k := 6) hs.1 ta186 ?_
   rw [← hs.2.2, hd]
   exact rfin hF hB hr27 u29 (by omega) (by omega) (by omega)

theorem zjS {n : Nat} {k : Nat} (hk : n < k) : zeI (D.zd8 k) n := by
  induction n using Nat.strongRecOn generalizing k with
  | _ n ih =>
    obtain ⟨k, rfl⟩ : ∃ q, k = q + 1 := ⟨k - 1, by omega⟩
    intro F w0 hF
    have h := @zjX n F (D.zd8 k) w0 hF (fun m hm => ih m hm (by omega))
    exact h

def D.ze5 (j : Nat) (a0 : Plan) : T Unit := (D.zd8 j a0 0)

theorem zjT {n : Nat} {F : Nat → Prop} {j : Nat} {w0 : World} (hF : ∀ b, F b → b < w0.heap.size) (hj : n < j)
    (a0 : Plan) :
    Calls Tryz.prog 111 #[.agg (znc a0).toArray] w0 (znf Tryz.prog znj n (D.ze5 j a0) F w0) := by
 refine enter Tryz.func111 rfl 5 rfl rfl fun fr r => ?_
 have hB := Below.refl w0.heap.size w0
 refine wsr ?_
 refine za5 (.cells ((znc a0)).toArray 25 (0, 0)) r (fun R => znm r (v := (.agg (znc a0).toArray)) rfl) rfl fun fr b1 w2 n3 r => ?_
 obtain ⟨e_b1, z_w2, h_b1, hB, zB⟩ := n3.all hB
 refine za5 (.cells (zna false znj.zero 0 0 0 0 .nilFunc) 186 (0, 0)) r (fun R => zag tz186) rfl fun fr b4 w5 n6 r => ?_
 have h_b1 := keep n6.below h_b1
 obtain ⟨e_b4, z_w5, h_b4, hB, zB⟩ := n6.all hB
 refine wn (wsr (za0 (.agg (znc a0).toArray) r (fun R => za6 r (cs := (znc a0)) (n := 6) rfl h_b1 ta25 rfl) rfl fun fr r => ?_))
 have hF1 := fgrow hF hB b4
 refine za7 r ((zjS (k := j) (n := n) (by omega)) (fun b => F b ∨ (w0.heap.size ≤ b ∧ b < w5.heap.size ∧ b ≠ b4)) _ hF1 a0 0) (fun R hc => zac r rfl cl210 hc) rfl ?_
 rintro _ w7 ⟨v8, rfl, hb, hr9⟩
 refine ⟨_, rfl, fun fr r => ?_⟩
 have z_w7 := hb.size
 have h_b1 := keep hb h_b1
 have h_b4 := keep hb h_b4
 obtain ⟨hB, zB⟩ := bon hb hB
 refine zae (.cells v8.cells 186 (0, 0)) r (fun R => zaf r hr9.shape rfl rfl h_b4 ts186 rfl) rfl fun fr w10 u11 r => ?_
 have z_w10 := u11.size
 have h_b1 := u11.keep h_b1 (by omega)
 have h_b4 := u11.at_
 obtain ⟨hB, zB⟩ := u11.on hB (by omega)
 refine wn (wp_ret ?_)
 have hs := hr9.shape.cells
 refine zad r rfl rfl h_b4 (k := 6) hs.1 ta186 ?_
 rw [← hs.2.2]
 exact rfin hF hB hr9 u11 (by omega) (by omega) (by omega)

def D.zaX  : Field := (⟨0, 21⟩ : Field)

theorem zgT (w0 : World) 
     :
    Calls Tryz.prog 160 #[] w0 (PureRes (.agg (znh D.zaX).toArray) w0) := by
 refine enter Tryz.func160 rfl 2 rfl rfl fun fr r => ?_
 have hB := Below.refl w0.heap.size w0
 refine wsr ?_
 refine za5 (.cells ((znh (⟨0, 0⟩ : Field))).toArray 223 (0, 0)) r (fun R => zag tz223) rfl fun fr b1 w2 n3 r => ?_
 obtain ⟨e_b1, z_w2, h_b1, hB, zB⟩ := n3.all hB
 refine wn (wsr (za0 (.agg (znh (⟨0, 21⟩ : Field)).toArray) r (fun R => zaM r (by kernel_rfl)) rfl fun fr r => ?_))
 refine zae (.cells ((znh (⟨0, 21⟩ : Field))).toArray 223 (0, 0)) r (fun R => zaN r (o := 0) (v := (.agg (znh (⟨0, 21⟩ : Field)).toArray)) rfl rfl h_b1 ts223 (Nat.le_of_ble_eq_true rfl) rfl rfl) rfl fun fr w4 u5 r => ?_
 have z_w4 := u5.size
 have h_b1 := u5.at_
 obtain ⟨hB, zB⟩ := u5.on hB (by omega)
 refine wn (wp_ret ?_)
 refine zad r rfl rfl h_b1 (k := 2) rfl ta223 ?_
 exact ⟨rfl, hB⟩

def D.zd5  : Field := (⟨21, 43⟩ : Field)

theorem zj9 (w0 : World) 
     :
    Calls Tryz.prog 355 #[] w0 (PureRes (.agg (znh D.zd5).toArray) w0) := by
 refine enter Tryz.func355 rfl 2 rfl rfl fun fr r => ?_
 have hB := Below.refl w0.heap.size w0
 refine wsr ?_
 refine za5 (.cells ((znh (⟨0, 0⟩ : Field))).toArray 223 (0, 0)) r (fun R => zag tz223) rfl fun fr b1 w2 n3 r => ?_
 obtain ⟨e_b1, z_w2, h_b1, hB, zB⟩ := n3.all hB
 refine wn (wsr (za0 (.agg (znh (⟨21, 43⟩ : Field)).toArray) r (fun R => zaM r (by kernel_rfl)) rfl fun fr r => ?_))
 refine zae (.cells ((znh (⟨21, 43⟩ : Field))).toArray 223 (0, 0)) r (fun R => zaN r (o := 0) (v := (.agg (znh (⟨21, 43⟩ : Field)).toArray)) rfl rfl h_b1 ts223 (Nat.le_of_ble_eq_true rfl) rfl rfl) rfl fun fr w4 u5 r => ?_
 have z_w4 := u5.size
 have h_b1 := u5.at_
 obtain ⟨hB, zB⟩ := u5.on hB (by omega)
 refine wn (wp_ret ?_)
 refine zad r rfl rfl h_b1 (k := 2) rfl ta223 ?_
 exact ⟨rfl, hB⟩

def D.zcD (a0 : Int) (a1 : Int) : Int := (D.zaH D.zd5 (D.zaH D.zaX 0 a1) (IntKind.u64.wrap ((D.zah D.zd5 a0) + 1)))

theorem zhf (w0 : World) 
    (a0 : Int) (a1 : Int) :
    Calls Tryz.prog 291 #[.int .u64 a0, .int .u64 a1] w0 (PureRes (.int .u64 (D.zcD a0 a1)) w0) := by
 refine enter Tryz.func291 rfl 14 rfl rfl fun fr r => ?_
 have hB := Below.refl w0.heap.size w0
 refine wsr (za0 (U 0) r (fun R => za8 r rfl) rfl fun fr r => wn (wsr ?_))
 refine za7 r (zj9 w0 ) (fun R hc => zac r rfl cl355 hc) rfl ?_
 rintro _ w1 ⟨rfl, hb⟩
 refine ⟨_, rfl, fun fr r => ?_⟩
 have z_w1 := hb.size
 obtain ⟨hB, zB⟩ := bon hb hB
 refine za7 r (zgT w1 ) (fun R hc => zac r rfl cl160 hc) rfl ?_
 rintro _ w2 ⟨rfl, hb⟩
 refine ⟨_, rfl, fun fr r => ?_⟩
 have z_w2 := hb.size
 obtain ⟨hB, zB⟩ := bon hb hB
 refine za0 (U a1) r (fun R => zaa r rfl) rfl fun fr r => ?_
 refine za7 r (ze4 w2 D.zaX 0 a1) (fun R hc => zac r rfl cl296 hc) rfl ?_
 rintro _ w3 ⟨rfl, hb⟩
 refine ⟨_, rfl, fun fr r => ?_⟩
 have z_w3 := hb.size
 obtain ⟨hB, zB⟩ := bon hb hB
 refine za7 r (zj9 w3 ) (fun R hc => zac r rfl cl355 hc) rfl ?_
 rintro _ w4 ⟨rfl, hb⟩
 refine ⟨_, rfl, fun fr r => ?_⟩
 have z_w4 := hb.size
 obtain ⟨hB, zB⟩ := bon hb hB
 refine za0 (U a0) r (fun R => zaa r rfl) rfl fun fr r => ?_
 refine za7 r (zdc w4 D.zd5 a0) (fun R hc => zac r rfl cl161 hc) rfl ?_
 rintro _ w5 ⟨rfl, hb⟩
 refine ⟨_, rfl, fun fr r => ?_⟩
 have z_w5 := hb.size
 obtain ⟨hB, zB⟩ := bon hb hB
 refine za0 _ r (fun R => zni r rfl rfl rfl rfl) rfl fun fr r => ?_
 refine za7 r (ze4 w5 D.zd5 (D.zaH D.zaX 0 a1) (V ((D.zah D.zd5 a0) + 1))) (fun R hc => zac r rfl cl296 hc) rfl ?_
 rintro _ w6 ⟨rfl, hb⟩
 refine ⟨_, rfl, fun fr r => ?_⟩
 have z_w6 := hb.size
 obtain ⟨hB, zB⟩ := bon hb hB
 refine za0 (U (D.zaH D.zd5 (D.zaH D.zaX 0 a1) (V ((D.zah D.zd5 a0) + 1)))) r (fun R => za8 r rfl) rfl fun fr r => wn (wp_ret ?_)
 refine zay r rfl rfl ?_
 exact ⟨rfl, hB⟩

def D.zcN (r_free_Pop : Plan → T Int) (c0 : Plan) (c1 : Int) (a0 : Bool) : T Int := (bif (!a0) then (r_free_Pop c0) else (D.zaW c1))

def D.zef (r_free_Pop : Plan → T Int) (c0 : Plan) (c1 : Int) (c2 : Int) (a0 : Int) : T Int := (D.zfF (D.zb0 c0) c1 (D.zcD c1 a0) (fun x => (D.zcN r_free_Pop c0 c2 x)))

def D.zdE (r_free_Pop : Plan → T Int) (c0 : Plan) (a0 : Int) : T Int := (bif (decide ((IntKind.i64.wrap ((IntKind.i64.wrap (D.zah D.zaX a0)) - 1)) < 0)) then (D.zaW (-1)) else (D.zb7 (D.zb3 c0 (IntKind.i64.wrap ((IntKind.i64.wrap (D.zah D.zaX a0)) - 1))) (fun x => (D.zef r_free_Pop c0 a0 (IntKind.i64.wrap ((IntKind.i64.wrap (D.zah D.zaX a0)) - 1)) x))))

def D.zd7 (r_free_Pop : Plan → T Int) (a0 : Plan) : T Int := (D.zb7 (D.zb0 a0) (fun x => (D.zdE r_free_Pop a0 x)))

def D.zbZ : Nat → Plan → T Int
  | 0, _ => .cut
  | k + 1, a0 => D.zd7 (D.zbZ k) a0

def zdI (r : Plan → T Int) (n : Nat) : Prop := ∀ (F : Nat → Prop) (w0 : World), (∀ b, F b → b < w0.heap.size) → ∀ (a0 : Plan), Calls Tryz.prog 191 #[.agg (znc a0).toArray] w0 (znf Tryz.prog zng n (r a0) F w0)

theorem zij {n : Nat} {F : Nat → Prop} {r_free_Pop : Plan → T Int} {w0 : World} (hF : ∀ b, F b → b < w0.heap.size) (ih_free_Pop : ∀ m, m ≤ n → zdI r_free_Pop m)
    (c0 : Plan) {c0_b : Nat} (c0_F : F c0_b) (c0_h : w0.heap[c0_b]? = some (.cells ((znc c0)).toArray 25 (0, 0))) (c1 : Int) {c1_b : Nat} (c1_F : F c1_b) (c1_h : w0.heap[c1_b]? = some (.cells ([(.int .i64 c1)]).toArray 3 (0, 0))) (a0 : Bool) :
    Calls Tryz.prog 292 #[.bool a0, .pointer (some ⟨c0_b, 0, none⟩), .pointer (some ⟨c1_b, 0, none⟩)] w0 (znf Tryz.prog zng n (D.zcN r_free_Pop c0 c1 a0) F w0) := by
 refine enter Tryz.func292 rfl 11 rfl rfl fun fr r => ?_
 have hB := Below.refl w0.heap.size w0
 have l_c0_b := lt_of_block c0_h
 have l_c1_b := lt_of_block c1_h
 refine wsr ?_
 refine za5 (.cells (zna false zng.zero 0 0 0 0 .nilFunc) 167 (0, 0)) r (fun R => zag tz167) rfl fun fr b1 w2 n3 r => ?_
 obtain ⟨e_b1, z_w2, h_b1, hB, zB⟩ := n3.all hB
 refine wn (wp_seq (wsr (za0 (.bool a0) r (fun R => zaa r rfl) rfl fun fr r => za0 (.bool (!a0)) r (fun R => y_un r (u := (.bool a0)) rfl rfl) rfl fun fr r => wn ?_)))
 refine wp_cond_split (t := (!a0)) (r.ev rfl) (fun h4 => ?_) (fun h4 => ?_)
 ·
  refine wsr (za0 (.agg (znc c0).toArray) r (fun R => za6 r (cs := (znc c0)) (n := 6) rfl (keep hB c0_h) ta25 rfl) rfl fun fr r => ?_)
  have hF1 := fgrow hF hB b1
  refine za7 r ((ih_free_Pop n (by omega)) (fun b => F b ∨ (w0.heap.size ≤ b ∧ b < w2.heap.size ∧ b ≠ b1)) _ hF1 c0) (fun R hc => zac r rfl cl191 hc) rfl ?_
  rintro _ w5 ⟨v6, rfl, hb, hr7⟩
  refine ⟨_, rfl, fun fr r => ?_⟩
  have z_w5 := hb.size
  have h_b1 := keep hb h_b1
  obtain ⟨hB, zB⟩ := bon hb hB
  refine zae (.cells v6.cells 167 (0, 0)) r (fun R => zaf r hr7.shape rfl rfl h_b1 ts167 rfl) rfl fun fr w8 u9 r => ?_
  have z_w8 := u9.size
  have h_b1 := u9.at_
  obtain ⟨hB, zB⟩ := u9.on hB (by omega)
  refine wn (wp_ret ?_)
  have hd : D.zcN r_free_Pop c0 c1 a0 = (r_free_Pop c0) := (zap h4).trans (rfl)
  have hs := hr7.shape.cells
  refine zad r rfl rfl h_b1 (k := 7) hs.1 ta167 ?_
  rw [← hs.2.2, hd]
  exact rfin hF hB hr7 u9 (by omega) (by omega) (by omega)
 ·
  refine wp_skip (wsr (za0 (I c1) r (fun R => za3 r rfl (keep hB c1_h) to3 rfl) rfl fun fr r => ?_))
  have hF1 := fgrow hF hB b1
  refine za7 r (zbi (F := (fun b => F b ∨ (w0.heap.size ≤ b ∧ b < w2.heap.size ∧ b ≠ b1))) (n := n) hF1 c1) (fun R hc => zac r rfl cl229 hc) rfl ?_
  rintro _ w10 ⟨v11, rfl, hb, hr12⟩
  refine ⟨_, rfl, fun fr r => ?_⟩
  have z_w10 := hb.size
  have h_b1 := keep hb h_b1
  obtain ⟨hB, zB⟩ := bon hb hB
  refine zae (.cells v11.cells 167 (0, 0)) r (fun R => zaf r hr12.shape rfl rfl h_b1 ts167 rfl) rfl fun fr w13 u14 r => ?_
  have z_w13 := u14.size
  have h_b1 := u14.at_
  obtain ⟨hB, zB⟩ := u14.on hB (by omega)
  refine wn (wp_ret ?_)
  have hd : D.zcN r_free_Pop c0 c1 a0 = (D.zaW c1) := (zak h4).trans (rfl)
  have hs := hr12.shape.cells
  refine zad r rfl rfl h_b1 (k := 7) hs.1 ta167 ?_
  rw [← hs.2.2, hd]
  exact rfin hF hB hr12 u14 (by omega) (by omega) (by omega)

theorem ziT {n : Nat} {F : Nat → Prop} {r_free_Pop : Plan → T Int} {w0 : World} (hF : ∀ b, F b → b < w0.heap.size) (ih_free_Pop : ∀ m, m < n → zdI r_free_Pop m)
    (c0 : Plan) {c0_b : Nat} (c0_F : F c0_b) (c0_h : w0.heap[c0_b]? = some (.cells ((znc c0)).toArray 25 (0, 0))) (c1 : Int) {c1_b : Nat} (c1_F : F c1_b) (c1_h : w0.heap[c1_b]? = some (.cells ([(.int .u64 c1)]).toArray 22 (0, 0))) (c2 : Int) {c2_b : Nat} (c2_F : F c2_b) (c2_h : w0.heap[c2_b]? = some (.cells ([(.int .i64 c2)]).toArray 3 (0, 0))) (a0 : Int) :
    Calls Tryz.prog 289 #[.int .u64 a0, .pointer (some ⟨c0_b, 0, none⟩), .pointer (some ⟨c1_b, 0, none⟩), .pointer (some ⟨c2_b, 0, none⟩)] w0 (znf Tryz.prog zng n (D.zef r_free_Pop c0 c1 c2 a0) F w0) := by
 refine enter Tryz.func289 rfl 14 rfl rfl fun fr r => ?_
 have hB := Below.refl w0.heap.size w0
 have l_c0_b := lt_of_block c0_h
 have l_c1_b := lt_of_block c1_h
 have l_c2_b := lt_of_block c2_h
 refine wsr ?_
 refine za5 (.cells (zna false zng.zero 0 0 0 0 .nilFunc) 167 (0, 0)) r (fun R => zag tz167) rfl fun fr b1 w2 n3 r => ?_
 obtain ⟨e_b1, z_w2, h_b1, hB, zB⟩ := n3.all hB
 refine wn (wp_seq ?_)
 refine zaG 7 [.val (.agg (znc c0).toArray), .val (I (D.zb0 c0)), .val (U c1), .val (U c1), .val (U a0), .val (U (D.zcD c1 a0)), .val (.func (.func 292) #[] #[.pointer (some ⟨c0_b, 0, none⟩), .pointer (some ⟨c2_b, 0, none⟩)])] mixed r (by kernel_rfl) (za1 (by exact trivial) (za1 (by exact trivial) (za1 (by exact trivial) (za1 (by exact trivial) (za1 (by exact trivial) (za1 (by exact trivial) (za1 (by exact trivial) zaz))))))) ?_ ?_
 ·
  refine ec r (fun _ u _ b d s => za6 s (cs := (znc c0)) (n := 6) rfl (keep2 hB b c0_h) ta25 rfl bz) (ec r (fun fr1 u w' hb' hd r' => zac r' (args := [(.agg (znc c0).toArray)]) (lc hd.1 l0) cl162 ((zcH _ c0).mono (by rintro _ w2 ⟨rfl, hb2⟩; exact ⟨_, rfl, hb2, rfl⟩))) (ec r (fun _ u _ b d s => za3 s rfl (keep2 hB b c1_h) to22 rfl bz) (ec r (fun _ u _ b d s => za3 s rfl (keep2 hB b c1_h) to22 rfl bz) (ec r (fun _ u _ b d s => zaa s rfl bz) (ec r (fun fr1 u w' hb' hd r' => zac r' (args := [(U c1), (U a0)]) (lc hd.1 (lc hd.2.1 l0)) cl291 ((zhf _ c1 a0).mono (by rintro _ w2 ⟨rfl, hb2⟩; exact ⟨_, rfl, hb2, rfl⟩))) (ec r (fun _ u _ b d s => zan s (v := (.func (.func 292) #[] #[.pointer (some ⟨c0_b, 0, none⟩), .pointer (some ⟨c2_b, 0, none⟩)])) rfl bz) ?_))))))
  exact zaR
 ·
  intro fr u w4 hb hΦ hne r
  have r := r.congr (sc (hΦ 6 (by decide)) (sc (hΦ 5 (by decide)) (sc (hΦ 4 (by decide)) (sc (hΦ 3 (by decide)) (sc (hΦ 2 (by decide)) (sc (hΦ 1 (by decide)) (sc (hΦ 0 (by decide)) rfl)))))))
  have z_w4 := hb.size
  have h_b1 := keep hb h_b1
  obtain ⟨hB, zB⟩ := bon hb hB
  have hF1 := fgrow hF hB b1
  have f5 : ((fun b => F b ∨ (w0.heap.size ≤ b ∧ b < w4.heap.size ∧ b ≠ b1))) c0_b := (.inl c0_F)
  have f6 : ((fun b => F b ∨ (w0.heap.size ≤ b ∧ b < w4.heap.size ∧ b ≠ b1))) c2_b := (.inl c2_F)
  refine za7 r (zgb (F := (fun b => F b ∨ (w0.heap.size ≤ b ∧ b < w4.heap.size ∧ b ≠ b1))) (n := n) hF1 (D.zb0 c0) c1 (D.zcD c1 a0) ⟨292, [], [.pointer (some ⟨c0_b, 0, none⟩), .pointer (some ⟨c2_b, 0, none⟩)], cl292, rfl, fun m hm x w' hs hz => zij (fun b hb => Nat.lt_of_lt_of_le (hF1 b hb) hz) (fun m' hm' => ih_free_Pop m' (by omega)) c0 f5 (hs.at_ f5 (keep hB c0_h)) c2 f6 (hs.at_ f6 (keep hB c2_h)) x⟩) (fun R hc => zac r rfl cl290 hc) rfl ?_
  rintro _ w7 ⟨v8, rfl, hb, hr9⟩
  refine ⟨_, rfl, fun fr r => ?_⟩
  have z_w7 := hb.size
  have h_b1 := keep hb h_b1
  obtain ⟨hB, zB⟩ := bon hb hB
  refine zae (.cells v8.cells 167 (0, 0)) r (fun R => zaf r hr9.shape rfl rfl h_b1 ts167 rfl) rfl fun fr w10 u11 r => ?_
  have z_w10 := u11.size
  have h_b1 := u11.at_
  obtain ⟨hB, zB⟩ := u11.on hB (by omega)
  refine wn (wp_ret ?_)
  have hs := hr9.shape.cells
  refine zad r rfl rfl h_b1 (k := 7) hs.1 ta167 ?_
  rw [← hs.2.2]
  exact rfin hF hB hr9 u11 (by omega) (by omega) (by omega)

theorem zjY {n : Nat} {F : Nat → Prop} {r_free_Pop : Plan → T Int} {w0 : World} (hF : ∀ b, F b → b < w0.heap.size) (ih_free_Pop : ∀ m, m < n → zdI r_free_Pop m)
    (c0 : Plan) {c0_b : Nat} (c0_F : F c0_b) (c0_h : w0.heap[c0_b]? = some (.cells ((znc c0)).toArray 25 (0, 0))) (a0 : Int) :
    Calls Tryz.prog 288 #[.int .u64 a0, .pointer (some ⟨c0_b, 0, none⟩)] w0 (znf Tryz.prog zng n (D.zdE r_free_Pop c0 a0) F w0) := by
 refine enter Tryz.func288 rfl 18 rfl rfl fun fr r => ?_
 have hB := Below.refl w0.heap.size w0
 have l_c0_b := lt_of_block c0_h
 refine wsr ?_
 refine za5 (.cells #[(U a0)] 22 (0, 0)) r (fun R => znm r (v := (U a0)) rfl) rfl fun fr b1 w2 n3 r => ?_
 obtain ⟨e_b1, z_w2, h_b1, hB, zB⟩ := n3.all hB
 refine za5 (.cells (zna false zng.zero 0 0 0 0 .nilFunc) 167 (0, 0)) r (fun R => zag tz167) rfl fun fr b4 w5 n6 r => ?_
 have h_b1 := keep n6.below h_b1
 obtain ⟨e_b4, z_w5, h_b4, hB, zB⟩ := n6.all hB
 refine wn (wp_seq ?_)
 refine zaG 6 [.val (.agg (znh D.zaX).toArray), .val (U a0), .val (U (D.zah D.zaX a0)), .val (I (W (D.zah D.zaX a0))), .val (I (W ((W (D.zah D.zaX a0)) - 1))), .new w5.heap.size (.cells #[(I 0)] 3 (0, 0))] mixed r (by kernel_rfl) (za1 (by exact trivial) (za1 (by exact trivial) (za1 (by exact trivial) (za1 (by exact trivial) (za1 (by exact trivial) (za1 (Nat.le_refl _) zaz)))))) ?_ ?_
 ·
  refine ec r (fun fr1 u w' hb' hd r' => zac r' (args := []) (l0) cl160 ((zgT _ ).mono (by rintro _ w2 ⟨rfl, hb2⟩; exact ⟨_, rfl, hb2, rfl⟩))) (ec r (fun _ u _ b d s => za3 s rfl (keep b h_b1) to22 rfl bz) (ec r (fun fr1 u w' hb' hd r' => zac r' (args := [(.agg (znh D.zaX).toArray), (U a0)]) (lc hd.1 (lc hd.2.1 l0)) cl161 ((zdc _ D.zaX a0).mono (by rintro _ w2 ⟨rfl, hb2⟩; exact ⟨_, rfl, hb2, rfl⟩))) (ec r (fun _ u _ b d s => zbo s (n := (D.zah D.zaX a0)) d.1 ti22 ti3 bz) (ec r (fun _ u _ b d s => zni s d.1 rfl rfl rfl bz) (ec r (fun fr1 u w' hb' hd r' => zag tz3 (fun b w2 n2 => ⟨n2.below, b, rfl, Nat.le_of_eq n2.eq.symm, n2.at_⟩)) ?_)))))
  exact zaR
 ·
  intro fr u w7 hb hΦ hne r
  obtain ⟨b8, g5, e_b8, h_b8⟩ := hΦ 5 (by decide)
  have l_b8 := lt_of_block h_b8
  have r := r.congr (sc g5 (sc (hΦ 4 (by decide)) (sc (hΦ 3 (by decide)) (sc (hΦ 2 (by decide)) (sc (hΦ 1 (by decide)) (sc (hΦ 0 (by decide)) rfl))))))
  have z_w7 := hb.size
  have h_b1 := keep hb h_b1
  have h_b4 := keep hb h_b4
  obtain ⟨hB, zB⟩ := bon hb hB
  refine zae (.cells #[(I (W ((W (D.zah D.zaX a0)) - 1)))] 3 (0, 0)) r (fun R => zaN r (o := 0) (v := (I (W ((W (D.zah D.zaX a0)) - 1)))) rfl rfl h_b8 ts3 (Nat.le_of_ble_eq_true rfl) rfl rfl) rfl fun fr w9 u10 r => ?_
  have z_w9 := u10.size
  have h_b1 := u10.keep h_b1 (by omega)
  have h_b4 := u10.keep h_b4 (by omega)
  have h_b8 := u10.at_
  obtain ⟨hB, zB⟩ := u10.on hB (by omega)
  refine wn (wp_seq (wsr (za0 (I (W ((W (D.zah D.zaX a0)) - 1))) r (fun R => za3 r rfl h_b8 to3 rfl) rfl fun fr r => za0 _ r (fun R => zni r rfl rfl rfl rfl) rfl fun fr r => wn ?_)))
  refine wp_cond_split (t := (decide ((W ((W (D.zah D.zaX a0)) - 1)) < 0))) (r.ev rfl) (fun h11 => ?_) (fun h11 => ?_)
  ·
   refine wsr ?_
   have hF1 := fgrow hF hB b4
   refine za7 r (zbi (F := (fun b => F b ∨ (w0.heap.size ≤ b ∧ b < w9.heap.size ∧ b ≠ b4))) (n := n) hF1 (-1)) (fun R hc => zac r rfl cl229 hc) rfl ?_
   rintro _ w12 ⟨v13, rfl, hb, hr14⟩
   refine ⟨_, rfl, fun fr r => ?_⟩
   have z_w12 := hb.size
   have h_b1 := keep hb h_b1
   have h_b4 := keep hb h_b4
   have h_b8 := keep hb h_b8
   obtain ⟨hB, zB⟩ := bon hb hB
   refine zae (.cells v13.cells 167 (0, 0)) r (fun R => zaf r hr14.shape rfl rfl h_b4 ts167 rfl) rfl fun fr w15 u16 r => ?_
   have z_w15 := u16.size
   have h_b1 := u16.keep h_b1 (by omega)
   have h_b8 := u16.keep h_b8 (by omega)
   have h_b4 := u16.at_
   obtain ⟨hB, zB⟩ := u16.on hB (by omega)
   refine wn (wp_ret ?_)
   have hd : D.zdE r_free_Pop c0 a0 = (D.zaW (-1)) := (zap h11).trans (rfl)
   have hs := hr14.shape.cells
   refine zad r rfl rfl h_b4 (k := 7) hs.1 ta167 ?_
   rw [← hs.2.2, hd]
   exact rfin hF hB hr14 u16 (by omega) (by omega) (by omega)
  ·
   refine wp_skip (wsr (za0 (.agg (znc c0).toArray) r (fun R => za6 r (cs := (znc c0)) (n := 6) rfl (keep hB c0_h) ta25 rfl) rfl fun fr r => za0 (I (W ((W (D.zah D.zaX a0)) - 1))) r (fun R => za3 r rfl h_b8 to3 rfl) rfl fun fr r => ?_))
   refine za7 r (zdr w9 c0 (W ((W (D.zah D.zaX a0)) - 1))) (fun R hc => zac r rfl cl163 hc) rfl ?_
   rintro _ w17 ⟨rfl, hb⟩
   refine ⟨_, rfl, fun fr r => ?_⟩
   have z_w17 := hb.size
   have h_b1 := keep hb h_b1
   have h_b4 := keep hb h_b4
   have h_b8 := keep hb h_b8
   obtain ⟨hB, zB⟩ := bon hb hB
   refine za0 (.func (.func 289) #[] #[.pointer (some ⟨c0_b, 0, none⟩), .pointer (some ⟨b1, 0, none⟩), .pointer (some ⟨b8, 0, none⟩)]) r (fun R => zan r rfl) rfl fun fr r => ?_
   have hF1 := fgrow hF hB b4
   have f18 : ((fun b => F b ∨ (w0.heap.size ≤ b ∧ b < w17.heap.size ∧ b ≠ b4))) c0_b := (.inl c0_F)
   have f19 : ((fun b => F b ∨ (w0.heap.size ≤ b ∧ b < w17.heap.size ∧ b ≠ b4))) b1 := (.inr ⟨by omega, by omega, by omega⟩)
   have f20 : ((fun b => F b ∨ (w0.heap.size ≤ b ∧ b < w17.heap.size ∧ b ≠ b4))) b8 := (.inr ⟨by omega, by omega, by omega⟩)
   refine za7 r (zbz (F := (fun b => F b ∨ (w0.heap.size ≤ b ∧ b < w17.heap.size ∧ b ≠ b4))) (n := n) hF1 (D.zb3 c0 (W ((W (D.zah D.zaX a0)) - 1))) ⟨289, [], [.pointer (some ⟨c0_b, 0, none⟩), .pointer (some ⟨b1, 0, none⟩), .pointer (some ⟨b8, 0, none⟩)], cl289, rfl, fun m hm x w' hs hz => ziT (fun b hb => Nat.lt_of_lt_of_le (hF1 b hb) hz) (fun m' hm' => ih_free_Pop m' (by omega)) c0 f18 (hs.at_ f18 (keep hB c0_h)) a0 f19 (hs.at_ f19 h_b1) (W ((W (D.zah D.zaX a0)) - 1)) f20 (hs.at_ f20 h_b8) x⟩) (fun R hc => zac r rfl cl198 hc) rfl ?_
   rintro _ w21 ⟨v22, rfl, hb, hr23⟩
   refine ⟨_, rfl, fun fr r => ?_⟩
   have z_w21 := hb.size
   have h_b1 := keep hb h_b1
   have h_b4 := keep hb h_b4
   have h_b8 := keep hb h_b8
   obtain ⟨hB, zB⟩ := bon hb hB
   refine zae (.cells v22.cells 167 (0, 0)) r (fun R => zaf r hr23.shape rfl rfl h_b4 ts167 rfl) rfl fun fr w24 u25 r => ?_
   have z_w24 := u25.size
   have h_b1 := u25.keep h_b1 (by omega)
   have h_b8 := u25.keep h_b8 (by omega)
   have h_b4 := u25.at_
   obtain ⟨hB, zB⟩ := u25.on hB (by omega)
   refine wn (wp_ret ?_)
   have hd : D.zdE r_free_Pop c0 a0 = (D.zb7 (D.zb3 c0 (W ((W (D.zah D.zaX a0)) - 1))) (fun x => (D.zef r_free_Pop c0 a0 (W ((W (D.zah D.zaX a0)) - 1)) x))) := (zak h11).trans (rfl)
   have hs := hr23.shape.cells
   refine zad r rfl rfl h_b4 (k := 7) hs.1 ta167 ?_
   rw [← hs.2.2, hd]
   exact rfin hF hB hr23 u25 (by omega) (by omega) (by omega)

theorem zle {n : Nat} {F : Nat → Prop} {r_free_Pop : Plan → T Int} {w0 : World} (hF : ∀ b, F b → b < w0.heap.size) (ih_free_Pop : ∀ m, m < n → zdI r_free_Pop m)
    (a0 : Plan) :
    Calls Tryz.prog 191 #[.agg (znc a0).toArray] w0 (znf Tryz.prog zng n (D.zd7 r_free_Pop a0) F w0) := by
 refine enter Tryz.func191 rfl 7 rfl rfl fun fr r => ?_
 have hB := Below.refl w0.heap.size w0
 refine wsr ?_
 refine za5 (.cells ((znc a0)).toArray 25 (0, 0)) r (fun R => znm r (v := (.agg (znc a0).toArray)) rfl) rfl fun fr b1 w2 n3 r => ?_
 obtain ⟨e_b1, z_w2, h_b1, hB, zB⟩ := n3.all hB
 refine za5 (.cells (zna false zng.zero 0 0 0 0 .nilFunc) 167 (0, 0)) r (fun R => zag tz167) rfl fun fr b4 w5 n6 r => ?_
 have h_b1 := keep n6.below h_b1
 obtain ⟨e_b4, z_w5, h_b4, hB, zB⟩ := n6.all hB
 refine wn (wsr (za0 (.agg (znc a0).toArray) r (fun R => za6 r (cs := (znc a0)) (n := 6) rfl h_b1 ta25 rfl) rfl fun fr r => ?_))
 refine za7 r (zcH w5 a0) (fun R hc => zac r rfl cl162 hc) rfl ?_
 rintro _ w7 ⟨rfl, hb⟩
 refine ⟨_, rfl, fun fr r => ?_⟩
 have z_w7 := hb.size
 have h_b1 := keep hb h_b1
 have h_b4 := keep hb h_b4
 obtain ⟨hB, zB⟩ := bon hb hB
 refine za0 (.func (.func 288) #[] #[.pointer (some ⟨b1, 0, none⟩)]) r (fun R => zan r rfl) rfl fun fr r => ?_
 have hF1 := fgrow hF hB b4
 have f8 : ((fun b => F b ∨ (w0.heap.size ≤ b ∧ b < w7.heap.size ∧ b ≠ b4))) b1 := (.inr ⟨by omega, by omega, by omega⟩)
 refine za7 r (zbz (F := (fun b => F b ∨ (w0.heap.size ≤ b ∧ b < w7.heap.size ∧ b ≠ b4))) (n := n) hF1 (D.zb0 a0) ⟨288, [], [.pointer (some ⟨b1, 0, none⟩)], cl288, rfl, fun m hm x w' hs hz => zjY (fun b hb => Nat.lt_of_lt_of_le (hF1 b hb) hz) (fun m' hm' => ih_free_Pop m' (by omega)) a0 f8 (hs.at_ f8 h_b1) x⟩) (fun R hc => zac r rfl cl198 hc) rfl ?_
 rintro _ w9 ⟨v10, rfl, hb, hr11⟩
 refine ⟨_, rfl, fun fr r => ?_⟩
 have z_w9 := hb.size
 have h_b1 := keep hb h_b1
 have h_b4 := keep hb h_b4
 obtain ⟨hB, zB⟩ := bon hb hB
 refine zae (.cells v10.cells 167 (0, 0)) r (fun R => zaf r hr11.shape rfl rfl h_b4 ts167 rfl) rfl fun fr w12 u13 r => ?_
 have z_w12 := u13.size
 have h_b1 := u13.keep h_b1 (by omega)
 have h_b4 := u13.at_
 obtain ⟨hB, zB⟩ := u13.on hB (by omega)
 refine wn (wp_ret ?_)
 have hs := hr11.shape.cells
 refine zad r rfl rfl h_b4 (k := 7) hs.1 ta167 ?_
 rw [← hs.2.2]
 exact rfin hF hB hr11 u13 (by omega) (by omega) (by omega)

theorem zjc {n : Nat} {k : Nat} (hk : n < k) : zdI (D.zbZ k) n := by
  induction n using Nat.strongRecOn generalizing k with
  | _ n ih =>
    obtain ⟨k, rfl⟩ : ∃ q, k = q + 1 := ⟨k - 1, by omega⟩
    intro F w0 hF
    have h := @zle n F (D.zbZ k) w0 hF (fun m hm => ih m hm (by omega))
    exact h

def D.zcp (r_free_Push : Plan → Int → T Int) (c0 : Plan) (c1 : Int) (a0 : Bool) : T Int := (bif (!a0) then (r_free_Push c0 c1) else (D.zaW c1))

def D.zey (r_free_Push : Plan → Int → T Int) (c0 : Plan) (c1 : Int) (c2 : Int) : T Int := (D.zfF (D.zb0 c0) c1 (D.zcD c1 (D.zbI c2)) (fun x => (D.zcp r_free_Push c0 c2 x)))

def D.zeR (r_free_Push : Plan → Int → T Int) (c0 : Plan) (c1 : Int) (a0 : Int) : T Int := (D.zba (D.zb3 c0 c1) (D.zah D.zaX a0) (fun _ => (D.zey r_free_Push c0 a0 c1)))

def D.zcM (r_free_Push : Plan → Int → T Int) (a0 : Plan) (a1 : Int) : T Int := (bif ((D.zb3 a0 a1) == (-1)) then (D.zaW (-1)) else (D.zb7 (D.zb0 a0) (fun x => (D.zeR r_free_Push a0 a1 x))))

def D.zcY : Nat → Plan → Int → T Int
  | 0, _, _ => .cut
  | k + 1, a0, a1 => D.zcM (D.zcY k) a0 a1

def zdi (r : Plan → Int → T Int) (n : Nat) : Prop := ∀ (F : Nat → Prop) (w0 : World), (∀ b, F b → b < w0.heap.size) → ∀ (a0 : Plan) (a1 : Int), Calls Tryz.prog 343 #[.agg (znc a0).toArray, .int .i64 a1] w0 (znf Tryz.prog zng n (r a0 a1) F w0)

theorem zhY {n : Nat} {F : Nat → Prop} {r_free_Push : Plan → Int → T Int} {w0 : World} (hF : ∀ b, F b → b < w0.heap.size) (ih_free_Push : ∀ m, m ≤ n → zdi r_free_Push m)
    (c0 : Plan) {c0_b : Nat} (c0_F : F c0_b) (c0_h : w0.heap[c0_b]? = some (.cells ((znc c0)).toArray 25 (0, 0))) (c1 : Int) {c1_b : Nat} (c1_F : F c1_b) (c1_h : w0.heap[c1_b]? = some (.cells ([(.int .i64 c1)]).toArray 3 (0, 0))) (a0 : Bool) :
    Calls Tryz.prog 381 #[.bool a0, .pointer (some ⟨c0_b, 0, none⟩), .pointer (some ⟨c1_b, 0, none⟩)] w0 (znf Tryz.prog zng n (D.zcp r_free_Push c0 c1 a0) F w0) := by
 refine enter Tryz.func381 rfl 12 rfl rfl fun fr r => ?_
 have hB := Below.refl w0.heap.size w0
 have l_c0_b := lt_of_block c0_h
 have l_c1_b := lt_of_block c1_h
 refine wsr ?_
 refine za5 (.cells (zna false zng.zero 0 0 0 0 .nilFunc) 167 (0, 0)) r (fun R => zag tz167) rfl fun fr b1 w2 n3 r => ?_
 obtain ⟨e_b1, z_w2, h_b1, hB, zB⟩ := n3.all hB
 refine wn (wp_seq (wsr (za0 (.bool a0) r (fun R => zaa r rfl) rfl fun fr r => za0 (.bool (!a0)) r (fun R => y_un r (u := (.bool a0)) rfl rfl) rfl fun fr r => wn ?_)))
 refine wp_cond_split (t := (!a0)) (r.ev rfl) (fun h4 => ?_) (fun h4 => ?_)
 ·
  refine wsr (za0 (.agg (znc c0).toArray) r (fun R => za6 r (cs := (znc c0)) (n := 6) rfl (keep hB c0_h) ta25 rfl) rfl fun fr r => za0 (I c1) r (fun R => za3 r rfl (keep hB c1_h) to3 rfl) rfl fun fr r => ?_)
  have hF1 := fgrow hF hB b1
  refine za7 r ((ih_free_Push n (by omega)) (fun b => F b ∨ (w0.heap.size ≤ b ∧ b < w2.heap.size ∧ b ≠ b1)) _ hF1 c0 c1) (fun R hc => zac r rfl cl343 hc) rfl ?_
  rintro _ w5 ⟨v6, rfl, hb, hr7⟩
  refine ⟨_, rfl, fun fr r => ?_⟩
  have z_w5 := hb.size
  have h_b1 := keep hb h_b1
  obtain ⟨hB, zB⟩ := bon hb hB
  refine zae (.cells v6.cells 167 (0, 0)) r (fun R => zaf r hr7.shape rfl rfl h_b1 ts167 rfl) rfl fun fr w8 u9 r => ?_
  have z_w8 := u9.size
  have h_b1 := u9.at_
  obtain ⟨hB, zB⟩ := u9.on hB (by omega)
  refine wn (wp_ret ?_)
  have hd : D.zcp r_free_Push c0 c1 a0 = (r_free_Push c0 c1) := (zap h4).trans (rfl)
  have hs := hr7.shape.cells
  refine zad r rfl rfl h_b1 (k := 7) hs.1 ta167 ?_
  rw [← hs.2.2, hd]
  exact rfin hF hB hr7 u9 (by omega) (by omega) (by omega)
 ·
  refine wp_skip (wsr (za0 (I c1) r (fun R => za3 r rfl (keep hB c1_h) to3 rfl) rfl fun fr r => ?_))
  have hF1 := fgrow hF hB b1
  refine za7 r (zbi (F := (fun b => F b ∨ (w0.heap.size ≤ b ∧ b < w2.heap.size ∧ b ≠ b1))) (n := n) hF1 c1) (fun R hc => zac r rfl cl229 hc) rfl ?_
  rintro _ w10 ⟨v11, rfl, hb, hr12⟩
  refine ⟨_, rfl, fun fr r => ?_⟩
  have z_w10 := hb.size
  have h_b1 := keep hb h_b1
  obtain ⟨hB, zB⟩ := bon hb hB
  refine zae (.cells v11.cells 167 (0, 0)) r (fun R => zaf r hr12.shape rfl rfl h_b1 ts167 rfl) rfl fun fr w13 u14 r => ?_
  have z_w13 := u14.size
  have h_b1 := u14.at_
  obtain ⟨hB, zB⟩ := u14.on hB (by omega)
  refine wn (wp_ret ?_)
  have hd : D.zcp r_free_Push c0 c1 a0 = (D.zaW c1) := (zak h4).trans (rfl)
  have hs := hr12.shape.cells
  refine zad r rfl rfl h_b1 (k := 7) hs.1 ta167 ?_
  rw [← hs.2.2, hd]
  exact rfin hF hB hr12 u14 (by omega) (by omega) (by omega)

theorem ziE {n : Nat} {F : Nat → Prop} {r_free_Push : Plan → Int → T Int} {w0 : World} (hF : ∀ b, F b → b < w0.heap.size) (ih_free_Push : ∀ m, m < n → zdi r_free_Push m)
    (c0 : Plan) {c0_b : Nat} (c0_F : F c0_b) (c0_h : w0.heap[c0_b]? = some (.cells ((znc c0)).toArray 25 (0, 0))) (c1 : Int) {c1_b : Nat} (c1_F : F c1_b) (c1_h : w0.heap[c1_b]? = some (.cells ([(.int .u64 c1)]).toArray 22 (0, 0))) (c2 : Int) {c2_b : Nat} (c2_F : F c2_b) (c2_h : w0.heap[c2_b]? = some (.cells ([(.int .i64 c2)]).toArray 3 (0, 0))) :
    Calls Tryz.prog 380 #[.pointer (some ⟨c0_b, 0, none⟩), .pointer (some ⟨c1_b, 0, none⟩), .pointer (some ⟨c2_b, 0, none⟩)] w0 (znf Tryz.prog zng n (D.zey r_free_Push c0 c1 c2) F w0) := by
 refine enter Tryz.func380 rfl 13 rfl rfl fun fr r => ?_
 have hB := Below.refl w0.heap.size w0
 have l_c0_b := lt_of_block c0_h
 have l_c1_b := lt_of_block c1_h
 have l_c2_b := lt_of_block c2_h
 refine wsr ?_
 refine za5 (.cells (zna false zng.zero 0 0 0 0 .nilFunc) 167 (0, 0)) r (fun R => zag tz167) rfl fun fr b1 w2 n3 r => ?_
 obtain ⟨e_b1, z_w2, h_b1, hB, zB⟩ := n3.all hB
 refine wn (wp_seq ?_)
 refine zaG 8 [.val (.agg (znc c0).toArray), .val (I (D.zb0 c0)), .val (U c1), .val (U c1), .val (I c2), .val (U (D.zbI c2)), .val (U (D.zcD c1 (D.zbI c2))), .val (.func (.func 381) #[] #[.pointer (some ⟨c0_b, 0, none⟩), .pointer (some ⟨c2_b, 0, none⟩)])] mixed r (by kernel_rfl) (za1 (by exact trivial) (za1 (by exact trivial) (za1 (by exact trivial) (za1 (by exact trivial) (za1 (by exact trivial) (za1 (by exact trivial) (za1 (by exact trivial) (za1 (by exact trivial) zaz)))))))) ?_ ?_
 ·
  refine ec r (fun _ u _ b d s => za6 s (cs := (znc c0)) (n := 6) rfl (keep2 hB b c0_h) ta25 rfl bz) (ec r (fun fr1 u w' hb' hd r' => zac r' (args := [(.agg (znc c0).toArray)]) (lc hd.1 l0) cl162 ((zcH _ c0).mono (by rintro _ w2 ⟨rfl, hb2⟩; exact ⟨_, rfl, hb2, rfl⟩))) (ec r (fun _ u _ b d s => za3 s rfl (keep2 hB b c1_h) to22 rfl bz) (ec r (fun _ u _ b d s => za3 s rfl (keep2 hB b c1_h) to22 rfl bz) (ec r (fun _ u _ b d s => za3 s rfl (keep2 hB b c2_h) to3 rfl bz) (ec r (fun fr1 u w' hb' hd r' => zac r' (args := [(I c2)]) (lc hd.1 l0) cl316 ((zgV _ c2).mono (by rintro _ w2 ⟨rfl, hb2⟩; exact ⟨_, rfl, hb2, rfl⟩))) (ec r (fun fr1 u w' hb' hd r' => zac r' (args := [(U c1), (U (D.zbI c2))]) (lc hd.1 (lc hd.2.1 l0)) cl291 ((zhf _ c1 (D.zbI c2)).mono (by rintro _ w2 ⟨rfl, hb2⟩; exact ⟨_, rfl, hb2, rfl⟩))) (ec r (fun _ u _ b d s => zan s (v := (.func (.func 381) #[] #[.pointer (some ⟨c0_b, 0, none⟩), .pointer (some ⟨c2_b, 0, none⟩)])) rfl bz) ?_)))))))
  exact zaR
 ·
  intro fr u w4 hb hΦ hne r
  have r := r.congr (sc (hΦ 7 (by decide)) (sc (hΦ 6 (by decide)) (sc (hΦ 5 (by decide)) (sc (hΦ 4 (by decide)) (sc (hΦ 3 (by decide)) (sc (hΦ 2 (by decide)) (sc (hΦ 1 (by decide)) (sc (hΦ 0 (by decide)) rfl))))))))
  have z_w4 := hb.size
  have h_b1 := keep hb h_b1
  obtain ⟨hB, zB⟩ := bon hb hB
  have hF1 := fgrow hF hB b1
  have f5 : ((fun b => F b ∨ (w0.heap.size ≤ b ∧ b < w4.heap.size ∧ b ≠ b1))) c0_b := (.inl c0_F)
  have f6 : ((fun b => F b ∨ (w0.heap.size ≤ b ∧ b < w4.heap.size ∧ b ≠ b1))) c2_b := (.inl c2_F)
  refine za7 r (zgb (F := (fun b => F b ∨ (w0.heap.size ≤ b ∧ b < w4.heap.size ∧ b ≠ b1))) (n := n) hF1 (D.zb0 c0) c1 (D.zcD c1 (D.zbI c2)) ⟨381, [], [.pointer (some ⟨c0_b, 0, none⟩), .pointer (some ⟨c2_b, 0, none⟩)], cl381, rfl, fun m hm x w' hs hz => zhY (fun b hb => Nat.lt_of_lt_of_le (hF1 b hb) hz) (fun m' hm' => ih_free_Push m' (by omega)) c0 f5 (hs.at_ f5 (keep hB c0_h)) c2 f6 (hs.at_ f6 (keep hB c2_h)) x⟩) (fun R hc => zac r rfl cl290 hc) rfl ?_
  rintro _ w7 ⟨v8, rfl, hb, hr9⟩
  refine ⟨_, rfl, fun fr r => ?_⟩
  have z_w7 := hb.size
  have h_b1 := keep hb h_b1
  obtain ⟨hB, zB⟩ := bon hb hB
  refine zae (.cells v8.cells 167 (0, 0)) r (fun R => zaf r hr9.shape rfl rfl h_b1 ts167 rfl) rfl fun fr w10 u11 r => ?_
  have z_w10 := u11.size
  have h_b1 := u11.at_
  obtain ⟨hB, zB⟩ := u11.on hB (by omega)
  refine wn (wp_ret ?_)
  have hs := hr9.shape.cells
  refine zad r rfl rfl h_b1 (k := 7) hs.1 ta167 ?_
  rw [← hs.2.2]
  exact rfin hF hB hr9 u11 (by omega) (by omega) (by omega)

theorem zjH {n : Nat} {F : Nat → Prop} {r_free_Push : Plan → Int → T Int} {w0 : World} (hF : ∀ b, F b → b < w0.heap.size) (ih_free_Push : ∀ m, m < n → zdi r_free_Push m)
    (c0 : Plan) {c0_b : Nat} (c0_F : F c0_b) (c0_h : w0.heap[c0_b]? = some (.cells ((znc c0)).toArray 25 (0, 0))) (c1 : Int) {c1_b : Nat} (c1_F : F c1_b) (c1_h : w0.heap[c1_b]? = some (.cells ([(.int .i64 c1)]).toArray 3 (0, 0))) (a0 : Int) :
    Calls Tryz.prog 379 #[.int .u64 a0, .pointer (some ⟨c0_b, 0, none⟩), .pointer (some ⟨c1_b, 0, none⟩)] w0 (znf Tryz.prog zng n (D.zeR r_free_Push c0 c1 a0) F w0) := by
 refine enter Tryz.func379 rfl 13 rfl rfl fun fr r => ?_
 have hB := Below.refl w0.heap.size w0
 have l_c0_b := lt_of_block c0_h
 have l_c1_b := lt_of_block c1_h
 refine wsr ?_
 refine za5 (.cells #[(U a0)] 22 (0, 0)) r (fun R => znm r (v := (U a0)) rfl) rfl fun fr b1 w2 n3 r => ?_
 obtain ⟨e_b1, z_w2, h_b1, hB, zB⟩ := n3.all hB
 refine za5 (.cells (zna false zng.zero 0 0 0 0 .nilFunc) 167 (0, 0)) r (fun R => zag tz167) rfl fun fr b4 w5 n6 r => ?_
 have h_b1 := keep n6.below h_b1
 obtain ⟨e_b4, z_w5, h_b4, hB, zB⟩ := n6.all hB
 refine wn (wp_seq ?_)
 refine zaG 7 [.val (.agg (znc c0).toArray), .val (I c1), .val (I (D.zb3 c0 c1)), .val (.agg (znh D.zaX).toArray), .val (U a0), .val (U (D.zah D.zaX a0)), .val (.func (.func 380) #[] #[.pointer (some ⟨c0_b, 0, none⟩), .pointer (some ⟨b1, 0, none⟩), .pointer (some ⟨c1_b, 0, none⟩)])] mixed r (by kernel_rfl) (za1 (by exact trivial) (za1 (by exact trivial) (za1 (by exact trivial) (za1 (by exact trivial) (za1 (by exact trivial) (za1 (by exact trivial) (za1 (by exact trivial) zaz))))))) ?_ ?_
 ·
  refine ec r (fun _ u _ b d s => za6 s (cs := (znc c0)) (n := 6) rfl (keep2 hB b c0_h) ta25 rfl bz) (ec r (fun _ u _ b d s => za3 s rfl (keep2 hB b c1_h) to3 rfl bz) (ec r (fun fr1 u w' hb' hd r' => zac r' (args := [(.agg (znc c0).toArray), (I c1)]) (lc hd.1 (lc hd.2.1 l0)) cl163 ((zdr _ c0 c1).mono (by rintro _ w2 ⟨rfl, hb2⟩; exact ⟨_, rfl, hb2, rfl⟩))) (ec r (fun fr1 u w' hb' hd r' => zac r' (args := []) (l0) cl160 ((zgT _ ).mono (by rintro _ w2 ⟨rfl, hb2⟩; exact ⟨_, rfl, hb2, rfl⟩))) (ec r (fun _ u _ b d s => za3 s rfl (keep b h_b1) to22 rfl bz) (ec r (fun fr1 u w' hb' hd r' => zac r' (args := [(.agg (znh D.zaX).toArray), (U a0)]) (lc hd.1 (lc hd.2.1 l0)) cl161 ((zdc _ D.zaX a0).mono (by rintro _ w2 ⟨rfl, hb2⟩; exact ⟨_, rfl, hb2, rfl⟩))) (ec r (fun _ u _ b d s => zan s (v := (.func (.func 380) #[] #[.pointer (some ⟨c0_b, 0, none⟩), .pointer (some ⟨b1, 0, none⟩), .pointer (some ⟨c1_b, 0, none⟩)])) rfl bz) ?_))))))
  exact zaR
 ·
  intro fr u w7 hb hΦ hne r
  have r := r.congr (sc (hΦ 6 (by decide)) (sc (hΦ 5 (by decide)) (sc (hΦ 4 (by decide)) (sc (hΦ 3 (by decide)) (sc (hΦ 2 (by decide)) (sc (hΦ 1 (by decide)) (sc (hΦ 0 (by decide)) rfl)))))))
  have z_w7 := hb.size
  have h_b1 := keep hb h_b1
  have h_b4 := keep hb h_b4
  obtain ⟨hB, zB⟩ := bon hb hB
  have hF1 := fgrow hF hB b4
  have f8 : ((fun b => F b ∨ (w0.heap.size ≤ b ∧ b < w7.heap.size ∧ b ≠ b4))) c0_b := (.inl c0_F)
  have f9 : ((fun b => F b ∨ (w0.heap.size ≤ b ∧ b < w7.heap.size ∧ b ≠ b4))) b1 := (.inr ⟨by omega, by omega, by omega⟩)
  have f10 : ((fun b => F b ∨ (w0.heap.size ≤ b ∧ b < w7.heap.size ∧ b ≠ b4))) c1_b := (.inl c1_F)
  refine za7 r (zbE (F := (fun b => F b ∨ (w0.heap.size ≤ b ∧ b < w7.heap.size ∧ b ≠ b4))) (n := n) hF1 (D.zb3 c0 c1) (D.zah D.zaX a0) ⟨380, [], [.pointer (some ⟨c0_b, 0, none⟩), .pointer (some ⟨b1, 0, none⟩), .pointer (some ⟨c1_b, 0, none⟩)], cl380, rfl, fun m hm _ w' hs hz => ziE (fun b hb => Nat.lt_of_lt_of_le (hF1 b hb) hz) (fun m' hm' => ih_free_Push m' (by omega)) c0 f8 (hs.at_ f8 (keep hB c0_h)) a0 f9 (hs.at_ f9 h_b1) c1 f10 (hs.at_ f10 (keep hB c1_h))⟩) (fun R hc => zac r rfl cl200 hc) rfl ?_
  rintro _ w11 ⟨v12, rfl, hb, hr13⟩
  refine ⟨_, rfl, fun fr r => ?_⟩
  have z_w11 := hb.size
  have h_b1 := keep hb h_b1
  have h_b4 := keep hb h_b4
  obtain ⟨hB, zB⟩ := bon hb hB
  refine zae (.cells v12.cells 167 (0, 0)) r (fun R => zaf r hr13.shape rfl rfl h_b4 ts167 rfl) rfl fun fr w14 u15 r => ?_
  have z_w14 := u15.size
  have h_b1 := u15.keep h_b1 (by omega)
  have h_b4 := u15.at_
  obtain ⟨hB, zB⟩ := u15.on hB (by omega)
  refine wn (wp_ret ?_)
  have hs := hr13.shape.cells
  refine zad r rfl rfl h_b4 (k := 7) hs.1 ta167 ?_
  rw [← hs.2.2]
  exact rfin hF hB hr13 u15 (by omega) (by omega) (by omega)

theorem zko {n : Nat} {F : Nat → Prop} {r_free_Push : Plan → Int → T Int} {w0 : World} (hF : ∀ b, F b → b < w0.heap.size) (ih_free_Push : ∀ m, m < n → zdi r_free_Push m)
    (a0 : Plan) (a1 : Int) :
    Calls Tryz.prog 343 #[.agg (znc a0).toArray, .int .i64 a1] w0 (znf Tryz.prog zng n (D.zcM r_free_Push a0 a1) F w0) := by
 refine enter Tryz.func343 rfl 14 rfl rfl fun fr r => ?_
 have hB := Below.refl w0.heap.size w0
 refine wsr ?_
 refine za5 (.cells ((znc a0)).toArray 25 (0, 0)) r (fun R => znm r (v := (.agg (znc a0).toArray)) rfl) rfl fun fr b1 w2 n3 r => ?_
 obtain ⟨e_b1, z_w2, h_b1, hB, zB⟩ := n3.all hB
 refine za5 (.cells #[(I a1)] 3 (0, 0)) r (fun R => znm r (v := (I a1)) rfl) rfl fun fr b4 w5 n6 r => ?_
 have h_b1 := keep n6.below h_b1
 obtain ⟨e_b4, z_w5, h_b4, hB, zB⟩ := n6.all hB
 refine za5 (.cells (zna false zng.zero 0 0 0 0 .nilFunc) 167 (0, 0)) r (fun R => zag tz167) rfl fun fr b7 w8 n9 r => ?_
 have h_b1 := keep n9.below h_b1
 have h_b4 := keep n9.below h_b4
 obtain ⟨e_b7, z_w8, h_b7, hB, zB⟩ := n9.all hB
 refine wn (wp_seq (wsr (za0 (.agg (znc a0).toArray) r (fun R => za6 r (cs := (znc a0)) (n := 6) rfl h_b1 ta25 rfl) rfl fun fr r => za0 (I a1) r (fun R => za3 r rfl h_b4 to3 rfl) rfl fun fr r => ?_)))
 refine za7 r (zdr w8 a0 a1) (fun R hc => zac r rfl cl163 hc) rfl ?_
 rintro _ w10 ⟨rfl, hb⟩
 refine ⟨_, rfl, fun fr r => ?_⟩
 have z_w10 := hb.size
 have h_b1 := keep hb h_b1
 have h_b4 := keep hb h_b4
 have h_b7 := keep hb h_b7
 obtain ⟨hB, zB⟩ := bon hb hB
 refine za0 _ r (fun R => zni r rfl rfl rfl rfl) rfl fun fr r => wn ?_
 refine wp_cond_split (t := ((D.zb3 a0 a1) == (-1))) (r.ev rfl) (fun h11 => ?_) (fun h11 => ?_)
 ·
  refine wsr ?_
  have hF1 := fgrow hF hB b7
  refine za7 r (zbi (F := (fun b => F b ∨ (w0.heap.size ≤ b ∧ b < w10.heap.size ∧ b ≠ b7))) (n := n) hF1 (-1)) (fun R hc => zac r rfl cl229 hc) rfl ?_
  rintro _ w12 ⟨v13, rfl, hb, hr14⟩
  refine ⟨_, rfl, fun fr r => ?_⟩
  have z_w12 := hb.size
  have h_b1 := keep hb h_b1
  have h_b4 := keep hb h_b4
  have h_b7 := keep hb h_b7
  obtain ⟨hB, zB⟩ := bon hb hB
  refine zae (.cells v13.cells 167 (0, 0)) r (fun R => zaf r hr14.shape rfl rfl h_b7 ts167 rfl) rfl fun fr w15 u16 r => ?_
  have z_w15 := u16.size
  have h_b1 := u16.keep h_b1 (by omega)
  have h_b4 := u16.keep h_b4 (by omega)
  have h_b7 := u16.at_
  obtain ⟨hB, zB⟩ := u16.on hB (by omega)
  refine wn (wp_ret ?_)
  have hd : D.zcM r_free_Push a0 a1 = (D.zaW (-1)) := (zap h11).trans (rfl)
  have hs := hr14.shape.cells
  refine zad r rfl rfl h_b7 (k := 7) hs.1 ta167 ?_
  rw [← hs.2.2, hd]
  exact rfin hF hB hr14 u16 (by omega) (by omega) (by omega)
 ·
  refine wp_skip (wsr (za0 (.agg (znc a0).toArray) r (fun R => za6 r (cs := (znc a0)) (n := 6) rfl h_b1 ta25 rfl) rfl fun fr r => ?_))
  refine za7 r (zcH w10 a0) (fun R hc => zac r rfl cl162 hc) rfl ?_
  rintro _ w17 ⟨rfl, hb⟩
  refine ⟨_, rfl, fun fr r => ?_⟩
  have z_w17 := hb.size
  have h_b1 := keep hb h_b1
  have h_b4 := keep hb h_b4
  have h_b7 := keep hb h_b7
  obtain ⟨hB, zB⟩ := bon hb hB
  refine za0 (.func (.func 379) #[] #[.pointer (some ⟨b1, 0, none⟩), .pointer (some ⟨b4, 0, none⟩)]) r (fun R => zan r rfl) rfl fun fr r => ?_
  have hF1 := fgrow hF hB b7
  have f18 : ((fun b => F b ∨ (w0.heap.size ≤ b ∧ b < w17.heap.size ∧ b ≠ b7))) b1 := (.inr ⟨by omega, by omega, by omega⟩)
  have f19 : ((fun b => F b ∨ (w0.heap.size ≤ b ∧ b < w17.heap.size ∧ b ≠ b7))) b4 := (.inr ⟨by omega, by omega, by omega⟩)
  refine za7 r (zbz (F := (fun b => F b ∨ (w0.heap.size ≤ b ∧ b < w17.heap.size ∧ b ≠ b7))) (n := n) hF1 (D.zb0 a0) ⟨379, [], [.pointer (some ⟨b1, 0, none⟩), .pointer (some ⟨b4, 0, none⟩)], cl379, rfl, fun m hm x w' hs hz => zjH (fun b hb => Nat.lt_of_lt_of_le (hF1 b hb) hz) (fun m' hm' => ih_free_Push m' (by omega)) a0 f18 (hs.at_ f18 h_b1) a1 f19 (hs.at_ f19 h_b4) x⟩) (fun R hc => zac r rfl cl198 hc) rfl ?_
  rintro _ w20 ⟨v21, rfl, hb, hr22⟩
  refine ⟨_, rfl, fun fr r => ?_⟩
  have z_w20 := hb.size
  have h_b1 := keep hb h_b1
  have h_b4 := keep hb h_b4
  have h_b7 := keep hb h_b7
  obtain ⟨hB, zB⟩ := bon hb hB
  refine zae (.cells v21.cells 167 (0, 0)) r (fun R => zaf r hr22.shape rfl rfl h_b7 ts167 rfl) rfl fun fr w23 u24 r => ?_
  have z_w23 := u24.size
  have h_b1 := u24.keep h_b1 (by omega)
  have h_b4 := u24.keep h_b4 (by omega)
  have h_b7 := u24.at_
  obtain ⟨hB, zB⟩ := u24.on hB (by omega)
  refine wn (wp_ret ?_)
  have hd : D.zcM r_free_Push a0 a1 = (D.zb7 (D.zb0 a0) (fun x => (D.zeR r_free_Push a0 a1 x))) := (zak h11).trans (rfl)
  have hs := hr22.shape.cells
  refine zad r rfl rfl h_b7 (k := 7) hs.1 ta167 ?_
  rw [← hs.2.2, hd]
  exact rfin hF hB hr22 u24 (by omega) (by omega) (by omega)

theorem zkp {n : Nat} {k : Nat} (hk : n < k) : zdi (D.zcY k) n := by
  induction n using Nat.strongRecOn generalizing k with
  | _ n ih =>
    obtain ⟨k, rfl⟩ : ∃ q, k = q + 1 := ⟨k - 1, by omega⟩
    intro F w0 hF
    have h := @zko n F (D.zcY k) w0 hF (fun m hm => ih m hm (by omega))
    exact h

end Go.Proofs.YtjkinpbfmihhdaaGreat
