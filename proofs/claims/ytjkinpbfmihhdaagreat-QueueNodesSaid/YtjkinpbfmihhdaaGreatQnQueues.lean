/- Ours. -/
import Derived.Test.YtjkinpbfmihhdaaGreatQnM11
set_option linter.all false
set_option maxRecDepth 20000
set_option maxHeartbeats 2000000
namespace Go.Proofs.YtjkinpbfmihhdaaGreat
open Go.RowKit
theorem zp8 : znv Tryz.prog 146 = true := by kernel_rfl
theorem zoZ : znv Tryz.prog 147 = true := by kernel_rfl
theorem zpJ : znv Tryz.prog 148 = true := by kernel_rfl
theorem zrO : znv Tryz.prog 149 = true := by kernel_rfl
theorem zr4 : znv Tryz.prog 151 = true := by kernel_rfl
theorem zoQ : znv Tryz.prog 152 = true := by kernel_rfl
theorem zoq : znv Tryz.prog 153 = true := by kernel_rfl
theorem zqZ : znv Tryz.prog 237 = true := by kernel_rfl
theorem zoP : znv Tryz.prog 238 = true := by kernel_rfl
theorem zs3 : znv Tryz.prog 239 = true := by kernel_rfl
theorem zrx : znv Tryz.prog 240 = true := by kernel_rfl
theorem zoW : znv Tryz.prog 241 = true := by kernel_rfl
theorem zq4 : znv Tryz.prog 243 = true := by kernel_rfl
theorem zrE : znv Tryz.prog 244 = true := by kernel_rfl
theorem zsf : znv Tryz.prog 245 = true := by kernel_rfl
theorem zqQ : znv Tryz.prog 246 = true := by kernel_rfl
theorem zoR : znv Tryz.prog 247 = true := by kernel_rfl
theorem zrp : znv Tryz.prog 248 = true := by kernel_rfl
theorem zqD : znv Tryz.prog 249 = true := by kernel_rfl
theorem zqX : znv Tryz.prog 250 = true := by kernel_rfl
theorem zsm : znv Tryz.prog 251 = true := by kernel_rfl
theorem zqA : znv Tryz.prog 252 = true := by kernel_rfl
theorem zrl : znv Tryz.prog 253 = true := by kernel_rfl
theorem zqN : znv Tryz.prog 254 = true := by kernel_rfl
theorem zqw : znv Tryz.prog 255 = true := by kernel_rfl
theorem zrJ : znv Tryz.prog 256 = true := by kernel_rfl
theorem zqU : znv Tryz.prog 257 = true := by kernel_rfl
theorem zrY : znv Tryz.prog 258 = true := by kernel_rfl
theorem zrw : znv Tryz.prog 329 = true := by kernel_rfl
theorem zpE : znv Tryz.prog 330 = true := by kernel_rfl
theorem zrr : znv Tryz.prog 331 = true := by kernel_rfl
theorem zr0 : znv Tryz.prog 332 = true := by kernel_rfl
theorem zrb : znv Tryz.prog 333 = true := by kernel_rfl
theorem zs7 : znv Tryz.prog 334 = true := by kernel_rfl
theorem zqz : znv Tryz.prog 335 = true := by kernel_rfl
theorem zr1 : znv Tryz.prog 336 = true := by kernel_rfl
theorem zrD : znv Tryz.prog 375 = true := by kernel_rfl
theorem cl72 : znv Tryz.prog 72 = true := by kernel_rfl
theorem cl93 : znv Tryz.prog 93 = true := by kernel_rfl
theorem zdN : znH Tryz.prog 219 0 0 = true := by kernel_rfl
theorem zjJ : znH Tryz.prog 219 1 8 = true := by kernel_rfl
theorem zhh : znH Tryz.prog 219 2 9 = true := by kernel_rfl
theorem zo5 : tyA Tryz.prog 219 10 = true := by kernel_rfl
theorem zpr : sized Tryz.prog 219 10 = true := by kernel_rfl
theorem zp5 : zeroOf Tryz.prog 219 = some (.agg (znJ (⟨(⟨(⟨0, 0, 0, 0, 0, 0⟩ : Plan), 0, 0⟩ : Seat), 0, 0⟩ : Where)).toArray) := by kernel_rfl
def D.zbL (a0 : Seat) (a1 : Int) : Where := (⟨a0, (D.zb4 a0.p a1 0), (D.zb4 a0.p a1 1)⟩ : Where)
theorem zhZ (w0 : World) 
    (a0 : Seat) (a1 : Int) :
    Calls Tryz.prog 146 #[.agg (znR a0).toArray, .int .i64 a1] w0 (znL (.agg (znJ (D.zbL a0 a1)).toArray) w0) := by
 refine enter Tryz.func146 rfl 15 rfl rfl fun fr r => ?_
 have hB := Below.refl w0.heap.size w0
 refine wsr ?_
 refine za5 (.cells ((znR a0)).toArray 29 (0, 0)) r (fun R => znF r (v := (.agg (znR a0).toArray)) rfl) rfl fun fr b1 w2 n3 r => ?_
 obtain ⟨e_b1, z_w2, h_b1, hB, zB⟩ := n3.all hB
 refine za5 (.cells ((znJ (⟨(⟨(⟨0, 0, 0, 0, 0, 0⟩ : Plan), 0, 0⟩ : Seat), 0, 0⟩ : Where))).toArray 219 (0, 0)) r (fun R => zag zp5) rfl fun fr b4 w5 n6 r => ?_
 have h_b1 := keep n6.below h_b1
 obtain ⟨e_b4, z_w5, h_b4, hB, zB⟩ := n6.all hB
 refine wn (wp_seq ?_)
 refine zaI 10 [.val (.agg (znR a0).toArray), .val (zp b1), .val (.agg (znu a0.p).toArray), .val (I a1), .val (I (D.zb4 a0.p a1 0)), .val (zp b1), .val (.agg (znu a0.p).toArray), .val (I a1), .val (I (D.zb4 a0.p a1 1)), .val (.agg (znJ (⟨a0, (D.zb4 a0.p a1 0), (D.zb4 a0.p a1 1)⟩ : Where)).toArray)] mixed r (by kernel_rfl) (za2 (by exact trivial) (za2 (by exact trivial) (za2 (by exact trivial) (za2 (by exact trivial) (za2 (by exact trivial) (za2 (by exact trivial) (za2 (by exact trivial) (za2 (by exact trivial) (za2 (by exact trivial) (za2 (by exact trivial) zaC)))))))))) ?_ ?_
 ·
  refine ec r (fun _ u _ b d s => za6 s (cs := (znR a0)) (n := 8) rfl (keep b h_b1) ta29 rfl bz) (ec r (fun _ u _ b d s => za4 s (b := b1) (o := 0) rfl zgs bz) (ec r (fun _ u _ b d s => za6 s (cs := (znu a0.p)) (n := 6) d.1 (keep b h_b1) ta25 rfl bz) (ec r (fun _ u _ b d s => za9 s rfl bz) (ec r (fun fr1 u w' hb' hd r' => zac r' (args := [(.agg (znu a0.p).toArray), (I a1), (I 0)]) (lc hd.1 (lc hd.2.1 (lc rfl l0))) cl72 ((zeu _ a0.p a1 0).mono (by rintro _ w2 ⟨rfl, hb2⟩; exact ⟨_, rfl, hb2, rfl⟩))) (ec r (fun _ u _ b d s => za4 s (b := b1) (o := 0) rfl zgs bz) (ec r (fun _ u _ b d s => za6 s (cs := (znu a0.p)) (n := 6) d.1 (keep b h_b1) ta25 rfl bz) (ec r (fun _ u _ b d s => za9 s rfl bz) (ec r (fun fr1 u w' hb' hd r' => zac r' (args := [(.agg (znu a0.p).toArray), (I a1), (I 1)]) (lc hd.1 (lc hd.2.1 (lc rfl l0))) cl72 ((zeu _ a0.p a1 1).mono (by rintro _ w2 ⟨rfl, hb2⟩; exact ⟨_, rfl, hb2, rfl⟩))) (ec r (fun fr1 u w' hb' hd r' => zaQ r' (v := (.agg (znJ (⟨a0, (D.zb4 a0.p a1 0), (D.zb4 a0.p a1 1)⟩ : Where)).toArray)) (bs3 (congrArg (fun z => (0, z)) hd.1) (congrArg (fun z => (1, z)) hd.2.1) (congrArg (fun z => (2, z)) hd.2.2.1) (by kernel_rfl)) bz) ?_)))))))))
  exact zaV
 ·
  intro fr u w7 hb hΦ hne r
  have r := r.congr (sc (hΦ 9 (by decide)) (sc (hΦ 8 (by decide)) (sc (hΦ 7 (by decide)) (sc (hΦ 6 (by decide)) (sc (hΦ 5 (by decide)) (sc (hΦ 4 (by decide)) (sc (hΦ 3 (by decide)) (sc (hΦ 2 (by decide)) (sc (hΦ 1 (by decide)) (sc (hΦ 0 (by decide)) rfl))))))))))
  have z_w7 := hb.size
  have h_b1 := keep hb h_b1
  have h_b4 := keep hb h_b4
  obtain ⟨hB, zB⟩ := bon hb hB
  refine zae (.cells ((znJ (⟨a0, (D.zb4 a0.p a1 0), (D.zb4 a0.p a1 1)⟩ : Where))).toArray 219 (0, 0)) r (fun R => zaS r (o := 0) (v := (.agg (znJ (⟨a0, (D.zb4 a0.p a1 0), (D.zb4 a0.p a1 1)⟩ : Where)).toArray)) rfl rfl h_b4 zpr (Nat.le_of_ble_eq_true rfl) rfl (ziB rfl)) rfl fun fr w8 u9 r => ?_
  have z_w8 := u9.size
  have h_b1 := u9.keep h_b1 (by omega)
  have h_b4 := u9.at_
  obtain ⟨hB, zB⟩ := u9.on hB (by omega)
  refine wn (wp_ret ?_)
  refine zad r rfl rfl h_b4 (k := 10) rfl zo5 ?_
  exact ⟨rfl, hB⟩
def D.zdG (a0 : Int) : T Res := (D.zfQ (⟨a0, 0⟩ : Res))
theorem zf7 {n : Nat} {F : Nat → Prop} {w0 : World} (hF : ∀ b, F b → b < w0.heap.size)
    (a0 : Int) :
    Calls Tryz.prog 241 #[.int .i64 a0] w0 (zny Tryz.prog znx n (D.zdG a0) F w0) := by
 refine enter Tryz.func241 rfl 6 rfl rfl fun fr r => ?_
 have hB := Below.refl w0.heap.size w0
 refine wsr ?_
 refine za5 (.cells (znt false znx.zero 0 0 0 0 .nilFunc) 39 (0, 0)) r (fun R => zag tz39) rfl fun fr b1 w2 n3 r => ?_
 obtain ⟨e_b1, z_w2, h_b1, hB, zB⟩ := n3.all hB
 refine wn (wsr (za0 (I a0) r (fun R => za9 r rfl) rfl fun fr r => za0 (.agg (resC (⟨a0, 0⟩ : Res)).toArray) r (fun R => zaQ r (by kernel_rfl)) rfl fun fr r => ?_))
 have hF1 := znI hF hB b1
 refine za8 r (zgw (F := (fun b => F b ∨ (w0.heap.size ≤ b ∧ b < w2.heap.size ∧ b ≠ b1))) (n := n) hF1 (⟨a0, 0⟩ : Res)) (fun R hc => zac r rfl zqm hc) rfl ?_
 rintro _ w4 ⟨v5, rfl, hb, hr6⟩
 refine ⟨_, rfl, fun fr r => ?_⟩
 have z_w4 := hb.size
 have h_b1 := keep hb h_b1
 obtain ⟨hB, zB⟩ := bon hb hB
 refine zae (.cells v5.cells 39 (0, 0)) r (fun R => zaf r hr6.shape rfl rfl h_b1 ts39 rfl) rfl fun fr w7 u8 r => ?_
 have z_w7 := u8.size
 have h_b1 := u8.at_
 obtain ⟨hB, zB⟩ := u8.on hB (by omega)
 refine wn (wp_ret ?_)
 have hs := hr6.shape.cells
 refine zad r rfl rfl h_b1 (k := 8) hs.1 ta39 ?_
 rw [← hs.2.2]
 exact rfin hF hB hr6 u8 (by omega) (by omega) (by omega)
def D.zaX (c0 : (Int → T Res)) (a0 : Grant) : T Res := (bif (a0.e != 0) then (D.zdG a0.e) else (c0 a0.node))
theorem zfC {n : Nat} {F : Nat → Prop} {w0 : World} (hF : ∀ b, F b → b < w0.heap.size)
    {c0f : FuncId} {c0_1 c0_2 : List Value} {c0 : (Int → T Res)} {c0b : Nat} (c0F : F c0b) (c0h : w0.heap[c0b]? = some (.cells #[.func (.func c0f) c0_1.toArray c0_2.toArray] 204 (0, 0))) (c0n : FnT Tryz.prog znx i64 (n + 1) F w0 (.func (.func c0f) c0_1.toArray c0_2.toArray) c0) (a0 : Grant) :
    Calls Tryz.prog 251 #[.agg (grantC a0).toArray, zp c0b] w0 (zny Tryz.prog znx n (D.zaX c0 a0) F w0) := by
 refine enter Tryz.func251 rfl 14 rfl rfl fun fr r => ?_
 have hB := Below.refl w0.heap.size w0
 have lc0b := lt_of_block c0h
 refine wsr ?_
 refine za5 (.cells ((grantC a0)).toArray 153 (0, 0)) r (fun R => znF r (v := (.agg (grantC a0).toArray)) rfl) rfl fun fr b1 w2 n3 r => ?_
 obtain ⟨e_b1, z_w2, h_b1, hB, zB⟩ := n3.all hB
 refine za5 (.cells (znt false znx.zero 0 0 0 0 .nilFunc) 39 (0, 0)) r (fun R => zag tz39) rfl fun fr b4 w5 n6 r => ?_
 have h_b1 := keep n6.below h_b1
 obtain ⟨e_b4, z_w5, h_b4, hB, zB⟩ := n6.all hB
 refine wn (wp_seq (wsr (za0 _ r (fun R => za4 r (o := 0) rfl zmd) rfl fun fr r => za0 (I a0.e) r (fun R => za3 r rfl h_b1 to30 rfl) rfl fun fr r => za0 _ r (fun R => znA r rfl rfl rfl rfl) rfl fun fr r => wn ?_)))
 refine wp_cond_split (t := (a0.e != 0)) (r.ev rfl) (fun h7 => ?_) (fun h7 => ?_)
 ·
  refine wsr (za0 _ r (fun R => za4 r (o := 0) rfl zmd) rfl fun fr r => za0 (I a0.e) r (fun R => za3 r rfl h_b1 to30 rfl) rfl fun fr r => ?_)
  have hF1 := znI hF hB b4
  refine za8 r (zf7 (F := (fun b => F b ∨ (w0.heap.size ≤ b ∧ b < w5.heap.size ∧ b ≠ b4))) (n := n) hF1 a0.e) (fun R hc => zac r rfl zoW hc) rfl ?_
  rintro _ w8 ⟨v9, rfl, hb, hr10⟩
  refine ⟨_, rfl, fun fr r => ?_⟩
  have z_w8 := hb.size
  have h_b1 := keep hb h_b1
  have h_b4 := keep hb h_b4
  obtain ⟨hB, zB⟩ := bon hb hB
  refine zae (.cells v9.cells 39 (0, 0)) r (fun R => zaf r hr10.shape rfl rfl h_b4 ts39 rfl) rfl fun fr w11 u12 r => ?_
  have z_w11 := u12.size
  have h_b1 := u12.keep h_b1 (by omega)
  have h_b4 := u12.at_
  obtain ⟨hB, zB⟩ := u12.on hB (by omega)
  refine wn (wp_ret ?_)
  have hd : D.zaX c0 a0 = (D.zdG a0.e) := (zaq h7).trans (rfl)
  have hs := hr10.shape.cells
  refine zad r rfl rfl h_b4 (k := 8) hs.1 ta39 ?_
  rw [← hs.2.2, hd]
  exact rfin hF hB hr10 u12 (by omega) (by omega) (by omega)
 ·
  refine wp_skip (wsr (za0 (.func (.func c0f) c0_1.toArray c0_2.toArray) r (fun R => za3 r rfl (keep hB c0h) zpm rfl) rfl fun fr r => za0 _ r (fun R => za4 r (o := 0) rfl zn9) rfl fun fr r => za0 (I a0.node) r (fun R => za3 r rfl h_b1 to3 rfl) rfl fun fr r => ?_))
  refine za8 r (c0n.at_.2 n (Nat.lt_succ_self n) a0.node w5 (Same.below hB hF) hB.size) (fun R hc => zdi r rfl rfl c0n.at_.1 hc) rfl ?_
  rintro _ w13 ⟨v14, rfl, hb, hr15⟩
  refine ⟨_, rfl, fun fr r => ?_⟩
  have z_w13 := hb.size
  have h_b1 := keep hb h_b1
  have h_b4 := keep hb h_b4
  obtain ⟨hB, zB⟩ := bon hb hB
  refine zae (.cells v14.cells 39 (0, 0)) r (fun R => zaf r hr15.shape rfl rfl h_b4 ts39 rfl) rfl fun fr w16 u17 r => ?_
  have z_w16 := u17.size
  have h_b1 := u17.keep h_b1 (by omega)
  have h_b4 := u17.at_
  obtain ⟨hB, zB⟩ := u17.on hB (by omega)
  refine wn (wp_ret ?_)
  have hd : D.zaX c0 a0 = (c0 a0.node) := (zak h7).trans (rfl)
  have hs := hr15.shape.cells
  refine zad r rfl rfl h_b4 (k := 8) hs.1 ta39 ?_
  rw [← hs.2.2, hd]
  exact zny.fin hB hr15 u17 (fun b hb => .inl hb) (fun h => by have := hF _ h; omega) (by omega) (by omega) (by omega)
def D.zbR (j : Nat) (a0 : Where) (a1 : (Int → T Res)) : T Res := (T.bind (D.ze2 j a0.seat.p a0.seat.thread 1) (fun x => (D.zaX a1 x)))
theorem zeo {n : Nat} {F : Nat → Prop} {j : Nat} {w0 : World} (hF : ∀ b, F b → b < w0.heap.size) (hj : n < j)
    (a0 : Where) {a1f : FuncId} {a1_1 a1_2 : List Value} {a1 : (Int → T Res)} (a1n : FnT Tryz.prog znx i64 (n + 1) F w0 (.func (.func a1f) a1_1.toArray a1_2.toArray) a1) :
    Calls Tryz.prog 148 #[.agg (znJ a0).toArray, .func (.func a1f) a1_1.toArray a1_2.toArray] w0 (zny Tryz.prog znx n (D.zbR j a0 a1) F w0) := by
 refine enter Tryz.func148 rfl 14 rfl rfl fun fr r => ?_
 have hB := Below.refl w0.heap.size w0
 refine wsr ?_
 refine za5 (.cells ((znJ a0)).toArray 219 (0, 0)) r (fun R => znF r (v := (.agg (znJ a0).toArray)) rfl) rfl fun fr b1 w2 n3 r => ?_
 obtain ⟨e_b1, z_w2, h_b1, hB, zB⟩ := n3.all hB
 refine za5 (.cells #[.func (.func a1f) a1_1.toArray a1_2.toArray] 204 (0, 0)) r (fun R => znF r (v := (.func (.func a1f) a1_1.toArray a1_2.toArray)) rfl) rfl fun fr b4 w5 n6 r => ?_
 have h_b1 := keep n6.below h_b1
 obtain ⟨e_b4, z_w5, h_b4, hB, zB⟩ := n6.all hB
 refine za5 (.cells (znt false znx.zero 0 0 0 0 .nilFunc) 39 (0, 0)) r (fun R => zag tz39) rfl fun fr b7 w8 n9 r => ?_
 have h_b1 := keep n9.below h_b1
 have h_b4 := keep n9.below h_b4
 obtain ⟨e_b7, z_w8, h_b7, hB, zB⟩ := n9.all hB
 refine wn (wsr (za0 _ r (fun R => za4 r (o := 0) rfl zdN) rfl fun fr r => za0 _ r (fun R => za4 r (o := 0) rfl zgs) rfl fun fr r => za0 (.agg (znu a0.seat.p).toArray) r (fun R => za6 r (cs := (znu a0.seat.p)) (n := 6) rfl h_b1 ta25 rfl) rfl fun fr r => za0 _ r (fun R => za4 r (o := 0) rfl zdN) rfl fun fr r => za0 _ r (fun R => za4 r (o := 0) rfl zkq) rfl fun fr r => za0 (I a0.seat.thread) r (fun R => za3 r rfl h_b1 to3 rfl) rfl fun fr r => ?_))
 have hF1 := znI hF hB b7
 refine za8 r (zkJ (j := j) (F := (fun b => F b ∨ (w0.heap.size ≤ b ∧ b < w8.heap.size ∧ b ≠ b7))) (n := n) hF1 (by omega) a0.seat.p a0.seat.thread 1) (fun R hc => zac r rfl cl89 hc) rfl ?_
 rintro _ w10 ⟨v11, rfl, hb, hr12⟩
 refine ⟨_, rfl, fun fr r => ?_⟩
 have z_w10 := hb.size
 have h_b1 := keep hb h_b1
 have h_b4 := keep hb h_b4
 have h_b7 := keep hb h_b7
 obtain ⟨hB, zB⟩ := bon hb hB
 refine za0 (.func (.func 251) #[] #[zp b4]) r (fun R => zao r rfl) rfl fun fr r => ?_
 have hF1 := znI hF hB b7
 have f13 : ((fun b => F b ∨ (w0.heap.size ≤ b ∧ b < w10.heap.size ∧ b ≠ b7))) b4 := (.inr ⟨by omega, by omega, by omega⟩)
 refine za8 r (zfn (F := (fun b => F b ∨ (w0.heap.size ≤ b ∧ b < w10.heap.size ∧ b ≠ b7))) (n := n) hF1 (Rep.mono (by rintro b (h | h); (rcases h with h | ⟨h1, h2, h3⟩; exact .inl h; exact .inr ⟨h1, by omega, h3⟩); exact .inr ⟨by omega, by omega, by omega⟩) (Same.refl _ _) (by omega) n _ _ hr12) ⟨251, [], [zp b4], zsm, rfl, fun m hm x w' hs hz => zfC (fun b hb => Nat.lt_of_lt_of_le (hF1 b hb) hz) f13 (hs.at_ f13 h_b4) (a1n.mono (by omega) (fun b h => .inl h) ((Same.below hB hF).trans (hs.sub (fun b h => .inl h))) (Nat.le_trans hB.size hz)) x⟩) (fun R hc => zac r rfl zqf hc) rfl ?_
 rintro _ w14 ⟨v15, rfl, hb, hr16⟩
 refine ⟨_, rfl, fun fr r => ?_⟩
 have z_w14 := hb.size
 have h_b1 := keep hb h_b1
 have h_b4 := keep hb h_b4
 have h_b7 := keep hb h_b7
 obtain ⟨hB, zB⟩ := bon hb hB
 refine zae (.cells v15.cells 39 (0, 0)) r (fun R => zaf r hr16.shape rfl rfl h_b7 ts39 rfl) rfl fun fr w17 u18 r => ?_
 have z_w17 := u18.size
 have h_b1 := u18.keep h_b1 (by omega)
 have h_b4 := u18.keep h_b4 (by omega)
 have h_b7 := u18.at_
 obtain ⟨hB, zB⟩ := u18.on hB (by omega)
 refine wn (wp_ret ?_)
 have hs := hr16.shape.cells
 refine zad r rfl rfl h_b7 (k := 8) hs.1 ta39 ?_
 rw [← hs.2.2]
 exact rfin hF hB hr16 u18 (by omega) (by omega) (by omega)
def D.zbC (a0 : Int) : Int := (IntKind.u64.wrap (IntKind.i64.wrap (a0 + 1)))
theorem zfa (w0 : World) 
    (a0 : Int) :
    Calls Tryz.prog 238 #[.int .i64 a0] w0 (znL (.int .u64 (D.zbC a0)) w0) := by
 refine enter Tryz.func238 rfl 6 rfl rfl fun fr r => ?_
 have hB := Below.refl w0.heap.size w0
 refine wsr (za0 (U 0) r (fun R => za7 r rfl) rfl fun fr r => wn (wsr (za0 (I a0) r (fun R => za9 r rfl) rfl fun fr r => za0 _ r (fun R => znA r rfl rfl rfl rfl) rfl fun fr r => za0 (U (V (W (a0 + 1)))) r (fun R => zb8 r rfl ti3 ti22) rfl fun fr r => za0 (U (V (W (a0 + 1)))) r (fun R => za7 r rfl) rfl fun fr r => wn (wp_ret ?_))))
 refine zaz r rfl rfl ?_
 exact ⟨rfl, hB⟩
def D.zer  : T Res := (D.zdG 0)
theorem zhI {n : Nat} {F : Nat → Prop} {w0 : World} (hF : ∀ b, F b → b < w0.heap.size)
     :
    Calls Tryz.prog 240 #[] w0 (zny Tryz.prog znx n D.zer F w0) := by
 refine enter Tryz.func240 rfl 2 rfl rfl fun fr r => ?_
 have hB := Below.refl w0.heap.size w0
 refine wsr ?_
 refine za5 (.cells (znt false znx.zero 0 0 0 0 .nilFunc) 39 (0, 0)) r (fun R => zag tz39) rfl fun fr b1 w2 n3 r => ?_
 obtain ⟨e_b1, z_w2, h_b1, hB, zB⟩ := n3.all hB
 refine wn (wsr ?_)
 have hF1 := znI hF hB b1
 refine za8 r (zf7 (F := (fun b => F b ∨ (w0.heap.size ≤ b ∧ b < w2.heap.size ∧ b ≠ b1))) (n := n) hF1 0) (fun R hc => zac r rfl zoW hc) rfl ?_
 rintro _ w4 ⟨v5, rfl, hb, hr6⟩
 refine ⟨_, rfl, fun fr r => ?_⟩
 have z_w4 := hb.size
 have h_b1 := keep hb h_b1
 obtain ⟨hB, zB⟩ := bon hb hB
 refine zae (.cells v5.cells 39 (0, 0)) r (fun R => zaf r hr6.shape rfl rfl h_b1 ts39 rfl) rfl fun fr w7 u8 r => ?_
 have z_w7 := u8.size
 have h_b1 := u8.at_
 obtain ⟨hB, zB⟩ := u8.on hB (by omega)
 refine wn (wp_ret ?_)
 have hs := hr6.shape.cells
 refine zad r rfl rfl h_b1 (k := 8) hs.1 ta39 ?_
 rw [← hs.2.2]
 exact rfin hF hB hr6 u8 (by omega) (by omega) (by omega)
def D.zff (c0 : Where) (c1 : Int) : T Res := (D.zdt c0.tail (D.zbC c1) (fun _ => D.zer))
theorem ziy {n : Nat} {F : Nat → Prop} {w0 : World} (hF : ∀ b, F b → b < w0.heap.size)
    (c0 : Where) {c0b : Nat} (c0F : F c0b) (c0h : w0.heap[c0b]? = some (.cells ((znJ c0)).toArray 219 (0, 0))) (c1 : Int) {c1b : Nat} (c1F : F c1b) (c1h : w0.heap[c1b]? = some (.cells ([(.int .i64 c1)]).toArray 3 (0, 0))) :
    Calls Tryz.prog 239 #[zp c0b, zp c1b] w0 (zny Tryz.prog znx n (D.zff c0 c1) F w0) := by
 refine enter Tryz.func239 rfl 8 rfl rfl fun fr r => ?_
 have hB := Below.refl w0.heap.size w0
 have lc0b := lt_of_block c0h
 have lc1b := lt_of_block c1h
 refine wsr ?_
 refine za5 (.cells (znt false znx.zero 0 0 0 0 .nilFunc) 39 (0, 0)) r (fun R => zag tz39) rfl fun fr b1 w2 n3 r => ?_
 obtain ⟨e_b1, z_w2, h_b1, hB, zB⟩ := n3.all hB
 refine wn (wp_seq ?_)
 refine zaI 4 [.val (.pointer (some ⟨c0b, 9, none⟩)), .val (I c0.tail), .val (I c1), .val (U (D.zbC c1))] mixed r (by kernel_rfl) (za2 (by exact trivial) (za2 (by exact trivial) (za2 (by exact trivial) (za2 (by exact trivial) zaC)))) ?_ ?_
 ·
  refine ec r (fun _ u _ b d s => za4 s (b := c0b) (o := 0) rfl zhh bz) (ec r (fun _ u _ b d s => za3 s d.1 (znU hB b c0h) to3 rfl bz) (ec r (fun _ u _ b d s => za3 s rfl (znU hB b c1h) to3 rfl bz) (ec r (fun fr1 u w' hb' hd r' => zac r' (args := [(I c1)]) (lc hd.1 l0) zoP ((zfa _ c1).mono (by rintro _ w2 ⟨rfl, hb2⟩; exact ⟨_, rfl, hb2, rfl⟩))) ?_)))
  exact zaV
 ·
  intro fr u w4 hb hΦ hne r
  have r := r.congr (sc (hΦ 3 (by decide)) (sc (hΦ 2 (by decide)) (sc (hΦ 1 (by decide)) (sc (hΦ 0 (by decide)) rfl))))
  have z_w4 := hb.size
  have h_b1 := keep hb h_b1
  obtain ⟨hB, zB⟩ := bon hb hB
  have hF1 := znI hF hB b1
  refine za8 r (zez (F := (fun b => F b ∨ (w0.heap.size ≤ b ∧ b < w4.heap.size ∧ b ≠ b1))) (n := n) hF1 c0.tail (D.zbC c1) ⟨240, [], [], zrx, rfl, fun m hm _ w' hs hz => zhI (fun b hb => Nat.lt_of_lt_of_le (hF1 b hb) hz) ⟩) (fun R hc => zac r rfl zp1 hc) rfl ?_
  rintro _ w5 ⟨v6, rfl, hb, hr7⟩
  refine ⟨_, rfl, fun fr r => ?_⟩
  have z_w5 := hb.size
  have h_b1 := keep hb h_b1
  obtain ⟨hB, zB⟩ := bon hb hB
  refine zae (.cells v6.cells 39 (0, 0)) r (fun R => zaf r hr7.shape rfl rfl h_b1 ts39 rfl) rfl fun fr w8 u9 r => ?_
  have z_w8 := u9.size
  have h_b1 := u9.at_
  obtain ⟨hB, zB⟩ := u9.on hB (by omega)
  refine wn (wp_ret ?_)
  have hs := hr7.shape.cells
  refine zad r rfl rfl h_b1 (k := 8) hs.1 ta39 ?_
  rw [← hs.2.2]
  exact rfin hF hB hr7 u9 (by omega) (by omega) (by omega)
def D.zf8 (c0 : Where) (a0 : Int) : T Res := (D.zdt c0.head (D.zbC a0) (fun _ => (D.zff c0 a0)))
theorem zjf {n : Nat} {F : Nat → Prop} {w0 : World} (hF : ∀ b, F b → b < w0.heap.size)
    (c0 : Where) {c0b : Nat} (c0F : F c0b) (c0h : w0.heap[c0b]? = some (.cells ((znJ c0)).toArray 219 (0, 0))) (a0 : Int) :
    Calls Tryz.prog 237 #[.int .i64 a0, zp c0b] w0 (zny Tryz.prog znx n (D.zf8 c0 a0) F w0) := by
 refine enter Tryz.func237 rfl 10 rfl rfl fun fr r => ?_
 have hB := Below.refl w0.heap.size w0
 have lc0b := lt_of_block c0h
 refine wsr ?_
 refine za5 (.cells #[(I a0)] 3 (0, 0)) r (fun R => znF r (v := (I a0)) rfl) rfl fun fr b1 w2 n3 r => ?_
 obtain ⟨e_b1, z_w2, h_b1, hB, zB⟩ := n3.all hB
 refine za5 (.cells (znt false znx.zero 0 0 0 0 .nilFunc) 39 (0, 0)) r (fun R => zag tz39) rfl fun fr b4 w5 n6 r => ?_
 have h_b1 := keep n6.below h_b1
 obtain ⟨e_b4, z_w5, h_b4, hB, zB⟩ := n6.all hB
 refine wn (wp_seq ?_)
 refine zaI 5 [.val (.pointer (some ⟨c0b, 8, none⟩)), .val (I c0.head), .val (I a0), .val (U (D.zbC a0)), .val (.func (.func 239) #[] #[zp c0b, zp b1])] mixed r (by kernel_rfl) (za2 (by exact trivial) (za2 (by exact trivial) (za2 (by exact trivial) (za2 (by exact trivial) (za2 (by exact trivial) zaC))))) ?_ ?_
 ·
  refine ec r (fun _ u _ b d s => za4 s (b := c0b) (o := 0) rfl zjJ bz) (ec r (fun _ u _ b d s => za3 s d.1 (znU hB b c0h) to3 rfl bz) (ec r (fun _ u _ b d s => za3 s rfl (keep b h_b1) to3 rfl bz) (ec r (fun fr1 u w' hb' hd r' => zac r' (args := [(I a0)]) (lc hd.1 l0) zoP ((zfa _ a0).mono (by rintro _ w2 ⟨rfl, hb2⟩; exact ⟨_, rfl, hb2, rfl⟩))) (ec r (fun _ u _ b d s => zao s (v := (.func (.func 239) #[] #[zp c0b, zp b1])) rfl bz) ?_))))
  exact zaV
 ·
  intro fr u w7 hb hΦ hne r
  have r := r.congr (sc (hΦ 4 (by decide)) (sc (hΦ 3 (by decide)) (sc (hΦ 2 (by decide)) (sc (hΦ 1 (by decide)) (sc (hΦ 0 (by decide)) rfl)))))
  have z_w7 := hb.size
  have h_b1 := keep hb h_b1
  have h_b4 := keep hb h_b4
  obtain ⟨hB, zB⟩ := bon hb hB
  have hF1 := znI hF hB b4
  have f8 : ((fun b => F b ∨ (w0.heap.size ≤ b ∧ b < w7.heap.size ∧ b ≠ b4))) c0b := (.inl c0F)
  have f9 : ((fun b => F b ∨ (w0.heap.size ≤ b ∧ b < w7.heap.size ∧ b ≠ b4))) b1 := (.inr ⟨by omega, by omega, by omega⟩)
  refine za8 r (zez (F := (fun b => F b ∨ (w0.heap.size ≤ b ∧ b < w7.heap.size ∧ b ≠ b4))) (n := n) hF1 c0.head (D.zbC a0) ⟨239, [], [zp c0b, zp b1], zs3, rfl, fun m hm _ w' hs hz => ziy (fun b hb => Nat.lt_of_lt_of_le (hF1 b hb) hz) c0 f8 (hs.at_ f8 (keep hB c0h)) a0 f9 (hs.at_ f9 h_b1)⟩) (fun R hc => zac r rfl zp1 hc) rfl ?_
  rintro _ w10 ⟨v11, rfl, hb, hr12⟩
  refine ⟨_, rfl, fun fr r => ?_⟩
  have z_w10 := hb.size
  have h_b1 := keep hb h_b1
  have h_b4 := keep hb h_b4
  obtain ⟨hB, zB⟩ := bon hb hB
  refine zae (.cells v11.cells 39 (0, 0)) r (fun R => zaf r hr12.shape rfl rfl h_b4 ts39 rfl) rfl fun fr w13 u14 r => ?_
  have z_w13 := u14.size
  have h_b1 := u14.keep h_b1 (by omega)
  have h_b4 := u14.at_
  obtain ⟨hB, zB⟩ := u14.on hB (by omega)
  refine wn (wp_ret ?_)
  have hs := hr12.shape.cells
  refine zad r rfl rfl h_b4 (k := 8) hs.1 ta39 ?_
  rw [← hs.2.2]
  exact rfin hF hB hr12 u14 (by omega) (by omega) (by omega)
def D.zcV (j : Nat) (a0 : Seat) (a1 : Int) : T Res := (D.zbR j (D.zbL a0 a1) (fun x => (D.zf8 (D.zbL a0 a1) x)))
theorem zkt {n : Nat} {F : Nat → Prop} {j : Nat} {w0 : World} (hF : ∀ b, F b → b < w0.heap.size) (hj : n < j)
    (a0 : Seat) (a1 : Int) :
    Calls Tryz.prog 145 #[.agg (znR a0).toArray, .int .i64 a1] w0 (zny Tryz.prog znx n (D.zcV j a0 a1) F w0) := by
 refine enter Tryz.func145 rfl 12 rfl rfl fun fr r => ?_
 have hB := Below.refl w0.heap.size w0
 refine wsr ?_
 refine za5 (.cells ((znR a0)).toArray 29 (0, 0)) r (fun R => znF r (v := (.agg (znR a0).toArray)) rfl) rfl fun fr b1 w2 n3 r => ?_
 obtain ⟨e_b1, z_w2, h_b1, hB, zB⟩ := n3.all hB
 refine za5 (.cells (znt false znx.zero 0 0 0 0 .nilFunc) 39 (0, 0)) r (fun R => zag tz39) rfl fun fr b4 w5 n6 r => ?_
 have h_b1 := keep n6.below h_b1
 obtain ⟨e_b4, z_w5, h_b4, hB, zB⟩ := n6.all hB
 refine wn (wsr (za0 (.agg (znR a0).toArray) r (fun R => za6 r (cs := (znR a0)) (n := 8) rfl h_b1 ta29 rfl) rfl fun fr r => za0 (I a1) r (fun R => za9 r rfl) rfl fun fr r => ?_))
 refine za8 r (zhZ w5 a0 a1) (fun R hc => zac r rfl zp8 hc) rfl ?_
 rintro _ w7 ⟨rfl, hb⟩
 refine ⟨_, rfl, fun fr r => ?_⟩
 have z_w7 := hb.size
 have h_b1 := keep hb h_b1
 have h_b4 := keep hb h_b4
 obtain ⟨hB, zB⟩ := bon hb hB
 refine za5 (.cells ((znJ (⟨(⟨(⟨0, 0, 0, 0, 0, 0⟩ : Plan), 0, 0⟩ : Seat), 0, 0⟩ : Where))).toArray 219 (0, 0)) r (fun R => zag zp5) rfl fun fr b8 w9 n10 r => ?_
 have h_b1 := keep n10.below h_b1
 have h_b4 := keep n10.below h_b4
 obtain ⟨e_b8, z_w9, h_b8, hB, zB⟩ := n10.all hB
 refine zae (.cells ((znJ (D.zbL a0 a1))).toArray 219 (0, 0)) r (fun R => zaS r (o := 0) (v := (.agg (znJ (D.zbL a0 a1)).toArray)) rfl rfl h_b8 zpr (Nat.le_of_ble_eq_true rfl) rfl (ziB rfl)) rfl fun fr w11 u12 r => ?_
 have z_w11 := u12.size
 have h_b1 := u12.keep h_b1 (by omega)
 have h_b4 := u12.keep h_b4 (by omega)
 have h_b8 := u12.at_
 obtain ⟨hB, zB⟩ := u12.on hB (by omega)
 refine wn (wsr (za0 (.agg (znJ (D.zbL a0 a1)).toArray) r (fun R => za6 r (cs := (znJ (D.zbL a0 a1))) (n := 10) rfl h_b8 zo5 rfl) rfl fun fr r => za0 (.func (.func 237) #[] #[zp b8]) r (fun R => zao r rfl) rfl fun fr r => ?_))
 have hF1 := znI hF hB b4
 have f13 : ((fun b => F b ∨ (w0.heap.size ≤ b ∧ b < w11.heap.size ∧ b ≠ b4))) b8 := (.inr ⟨by omega, by omega, by omega⟩)
 refine za8 r (zeo (j := j) (F := (fun b => F b ∨ (w0.heap.size ≤ b ∧ b < w11.heap.size ∧ b ≠ b4))) (n := n) hF1 (by omega) (D.zbL a0 a1) ⟨237, [], [zp b8], zqZ, rfl, fun m hm x w' hs hz => zjf (fun b hb => Nat.lt_of_lt_of_le (hF1 b hb) hz) (D.zbL a0 a1) f13 (hs.at_ f13 h_b8) x⟩) (fun R hc => zac r rfl zpJ hc) rfl ?_
 rintro _ w14 ⟨v15, rfl, hb, hr16⟩
 refine ⟨_, rfl, fun fr r => ?_⟩
 have z_w14 := hb.size
 have h_b1 := keep hb h_b1
 have h_b4 := keep hb h_b4
 have h_b8 := keep hb h_b8
 obtain ⟨hB, zB⟩ := bon hb hB
 refine zae (.cells v15.cells 39 (0, 0)) r (fun R => zaf r hr16.shape rfl rfl h_b4 ts39 rfl) rfl fun fr w17 u18 r => ?_
 have z_w17 := u18.size
 have h_b1 := u18.keep h_b1 (by omega)
 have h_b8 := u18.keep h_b8 (by omega)
 have h_b4 := u18.at_
 obtain ⟨hB, zB⟩ := u18.on hB (by omega)
 refine wn (wp_ret ?_)
 have hs := hr16.shape.cells
 refine zad r rfl rfl h_b4 (k := 8) hs.1 ta39 ?_
 rw [← hs.2.2]
 exact rfin hF hB hr16 u18 (by omega) (by omega) (by omega)
def D.zay (a0 : Int) : Int := (IntKind.i64.wrap ((IntKind.i64.wrap a0) - 1))
theorem zda (w0 : World) 
    (a0 : Int) :
    Calls Tryz.prog 153 #[.int .u64 a0] w0 (znL (.int .i64 (D.zay a0)) w0) := by
 refine enter Tryz.func153 rfl 6 rfl rfl fun fr r => ?_
 have hB := Below.refl w0.heap.size w0
 refine wsr (za0 (I 0) r (fun R => za7 r rfl) rfl fun fr r => wn (wsr (za0 (U a0) r (fun R => za9 r rfl) rfl fun fr r => za0 (I (W a0)) r (fun R => zb8 r rfl ti22 ti3) rfl fun fr r => za0 _ r (fun R => znA r rfl rfl rfl rfl) rfl fun fr r => za0 (I (W ((W a0) - 1))) r (fun R => za7 r rfl) rfl fun fr r => wn (wp_ret ?_))))
 refine zaz r rfl rfl ?_
 exact ⟨rfl, hB⟩
def D.zbB (c0 : (Unit → T Res)) : T Res := (c0 ())
theorem zh2 {n : Nat} {F : Nat → Prop} {w0 : World} (hF : ∀ b, F b → b < w0.heap.size)
    {c0f : FuncId} {c0_1 c0_2 : List Value} {c0 : (Unit → T Res)} {c0b : Nat} (c0F : F c0b) (c0h : w0.heap[c0b]? = some (.cells #[.func (.func c0f) c0_1.toArray c0_2.toArray] 197 (0, 0))) (c0n : FnT Tryz.prog znx unitE (n + 1) F w0 (.func (.func c0f) c0_1.toArray c0_2.toArray) c0) :
    Calls Tryz.prog 329 #[.agg #[], zp c0b] w0 (zny Tryz.prog znx n (D.zbB c0) F w0) := by
 refine enter Tryz.func329 rfl 6 rfl rfl fun fr r => ?_
 have hB := Below.refl w0.heap.size w0
 have lc0b := lt_of_block c0h
 refine wsr ?_
 refine za5 (.cells #[] 181 (0, 0)) r (fun R => znF r (v := (.agg #[])) rfl) rfl fun fr b1 w2 n3 r => ?_
 obtain ⟨e_b1, z_w2, h_b1, hB, zB⟩ := n3.all hB
 refine za5 (.cells (znt false znx.zero 0 0 0 0 .nilFunc) 39 (0, 0)) r (fun R => zag tz39) rfl fun fr b4 w5 n6 r => ?_
 have h_b1 := keep n6.below h_b1
 obtain ⟨e_b4, z_w5, h_b4, hB, zB⟩ := n6.all hB
 refine wn (wsr (za0 (.func (.func c0f) c0_1.toArray c0_2.toArray) r (fun R => za3 r rfl (keep hB c0h) zpj rfl) rfl fun fr r => ?_))
 refine za8 r (c0n.at_.2 n (Nat.lt_succ_self n) () w5 (Same.below hB hF) hB.size) (fun R hc => zfF r rfl c0n.at_.1 hc) rfl ?_
 rintro _ w7 ⟨v8, rfl, hb, hr9⟩
 refine ⟨_, rfl, fun fr r => ?_⟩
 have z_w7 := hb.size
 have h_b1 := keep hb h_b1
 have h_b4 := keep hb h_b4
 obtain ⟨hB, zB⟩ := bon hb hB
 refine zae (.cells v8.cells 39 (0, 0)) r (fun R => zaf r hr9.shape rfl rfl h_b4 ts39 rfl) rfl fun fr w10 u11 r => ?_
 have z_w10 := u11.size
 have h_b1 := u11.keep h_b1 (by omega)
 have h_b4 := u11.at_
 obtain ⟨hB, zB⟩ := u11.on hB (by omega)
 refine wn (wp_ret ?_)
 have hs := hr9.shape.cells
 refine zad r rfl rfl h_b4 (k := 8) hs.1 ta39 ?_
 rw [← hs.2.2]
 exact zny.fin hB hr9 u11 (fun b hb => .inl hb) (fun h => by have := hF _ h; omega) (by omega) (by omega) (by omega)
def D.zbF (a0 : Where) (a1 : Int) (a2 : Int) (a3 : (Unit → T Res)) : T Res := (T.bind (D.zeb a0.seat.p a0.seat.thread a1 a2) (fun _ => (D.zbB a3)))
theorem zdl {n : Nat} {F : Nat → Prop} {w0 : World} (hF : ∀ b, F b → b < w0.heap.size)
    (a0 : Where) (a1 : Int) (a2 : Int) {a3f : FuncId} {a3_1 a3_2 : List Value} {a3 : (Unit → T Res)} (a3n : FnT Tryz.prog znx unitE (n + 1) F w0 (.func (.func a3f) a3_1.toArray a3_2.toArray) a3) :
    Calls Tryz.prog 247 #[.agg (znJ a0).toArray, .int .i64 a1, .int .i64 a2, .func (.func a3f) a3_1.toArray a3_2.toArray] w0 (zny Tryz.prog znx n (D.zbF a0 a1 a2 a3) F w0) := by
 refine enter Tryz.func247 rfl 20 rfl rfl fun fr r => ?_
 have hB := Below.refl w0.heap.size w0
 refine wsr ?_
 refine za5 (.cells ((znJ a0)).toArray 219 (0, 0)) r (fun R => znF r (v := (.agg (znJ a0).toArray)) rfl) rfl fun fr b1 w2 n3 r => ?_
 obtain ⟨e_b1, z_w2, h_b1, hB, zB⟩ := n3.all hB
 refine za5 (.cells #[.func (.func a3f) a3_1.toArray a3_2.toArray] 197 (0, 0)) r (fun R => znF r (v := (.func (.func a3f) a3_1.toArray a3_2.toArray)) rfl) rfl fun fr b4 w5 n6 r => ?_
 have h_b1 := keep n6.below h_b1
 obtain ⟨e_b4, z_w5, h_b4, hB, zB⟩ := n6.all hB
 refine za5 (.cells (znt false znx.zero 0 0 0 0 .nilFunc) 39 (0, 0)) r (fun R => zag tz39) rfl fun fr b7 w8 n9 r => ?_
 have h_b1 := keep n9.below h_b1
 have h_b4 := keep n9.below h_b4
 obtain ⟨e_b7, z_w8, h_b7, hB, zB⟩ := n9.all hB
 refine wn (wsr (za0 _ r (fun R => za4 r (o := 0) rfl zdN) rfl fun fr r => za0 _ r (fun R => za4 r (o := 0) rfl zgs) rfl fun fr r => za0 (.agg (znu a0.seat.p).toArray) r (fun R => za6 r (cs := (znu a0.seat.p)) (n := 6) rfl h_b1 ta25 rfl) rfl fun fr r => za0 _ r (fun R => za4 r (o := 0) rfl zdN) rfl fun fr r => za0 _ r (fun R => za4 r (o := 0) rfl zkq) rfl fun fr r => za0 (I a0.seat.thread) r (fun R => za3 r rfl h_b1 to3 rfl) rfl fun fr r => za0 (I a1) r (fun R => za9 r rfl) rfl fun fr r => za0 (I a2) r (fun R => za9 r rfl) rfl fun fr r => ?_))
 have hF1 := znI hF hB b7
 refine za8 r (zii (F := (fun b => F b ∨ (w0.heap.size ≤ b ∧ b < w8.heap.size ∧ b ≠ b7))) (n := n) hF1 a0.seat.p a0.seat.thread a1 a2) (fun R hc => zac r rfl zpL hc) rfl ?_
 rintro _ w10 ⟨v11, rfl, hb, hr12⟩
 refine ⟨_, rfl, fun fr r => ?_⟩
 have z_w10 := hb.size
 have h_b1 := keep hb h_b1
 have h_b4 := keep hb h_b4
 have h_b7 := keep hb h_b7
 obtain ⟨hB, zB⟩ := bon hb hB
 refine za0 (.func (.func 329) #[] #[zp b4]) r (fun R => zao r rfl) rfl fun fr r => ?_
 have hF1 := znI hF hB b7
 have f13 : ((fun b => F b ∨ (w0.heap.size ≤ b ∧ b < w10.heap.size ∧ b ≠ b7))) b4 := (.inr ⟨by omega, by omega, by omega⟩)
 refine za8 r (zfI (F := (fun b => F b ∨ (w0.heap.size ≤ b ∧ b < w10.heap.size ∧ b ≠ b7))) (n := n) hF1 (Rep.mono (by rintro b (h | h); (rcases h with h | ⟨h1, h2, h3⟩; exact .inl h; exact .inr ⟨h1, by omega, h3⟩); exact .inr ⟨by omega, by omega, by omega⟩) (Same.refl _ _) (by omega) n _ _ hr12) ⟨329, [], [zp b4], zrw, rfl, fun m hm _ w' hs hz => zh2 (fun b hb => Nat.lt_of_lt_of_le (hF1 b hb) hz) f13 (hs.at_ f13 h_b4) (a3n.mono (by omega) (fun b h => .inl h) ((Same.below hB hF).trans (hs.sub (fun b h => .inl h))) (Nat.le_trans hB.size hz))⟩) (fun R hc => zac r rfl zpC hc) rfl ?_
 rintro _ w14 ⟨v15, rfl, hb, hr16⟩
 refine ⟨_, rfl, fun fr r => ?_⟩
 have z_w14 := hb.size
 have h_b1 := keep hb h_b1
 have h_b4 := keep hb h_b4
 have h_b7 := keep hb h_b7
 obtain ⟨hB, zB⟩ := bon hb hB
 refine zae (.cells v15.cells 39 (0, 0)) r (fun R => zaf r hr16.shape rfl rfl h_b7 ts39 rfl) rfl fun fr w17 u18 r => ?_
 have z_w17 := u18.size
 have h_b1 := u18.keep h_b1 (by omega)
 have h_b4 := u18.keep h_b4 (by omega)
 have h_b7 := u18.at_
 obtain ⟨hB, zB⟩ := u18.on hB (by omega)
 refine wn (wp_ret ?_)
 have hs := hr16.shape.cells
 refine zad r rfl rfl h_b7 (k := 8) hs.1 ta39 ?_
 rw [← hs.2.2]
 exact rfin hF hB hr16 u18 (by omega) (by omega) (by omega)
def D.zce  : T Res := (D.zdG 0)
theorem zet {n : Nat} {F : Nat → Prop} {w0 : World} (hF : ∀ b, F b → b < w0.heap.size)
     :
    Calls Tryz.prog 258 #[] w0 (zny Tryz.prog znx n D.zce F w0) := by
 refine enter Tryz.func258 rfl 2 rfl rfl fun fr r => ?_
 have hB := Below.refl w0.heap.size w0
 refine wsr ?_
 refine za5 (.cells (znt false znx.zero 0 0 0 0 .nilFunc) 39 (0, 0)) r (fun R => zag tz39) rfl fun fr b1 w2 n3 r => ?_
 obtain ⟨e_b1, z_w2, h_b1, hB, zB⟩ := n3.all hB
 refine wn (wsr ?_)
 have hF1 := znI hF hB b1
 refine za8 r (zf7 (F := (fun b => F b ∨ (w0.heap.size ≤ b ∧ b < w2.heap.size ∧ b ≠ b1))) (n := n) hF1 0) (fun R hc => zac r rfl zoW hc) rfl ?_
 rintro _ w4 ⟨v5, rfl, hb, hr6⟩
 refine ⟨_, rfl, fun fr r => ?_⟩
 have z_w4 := hb.size
 have h_b1 := keep hb h_b1
 obtain ⟨hB, zB⟩ := bon hb hB
 refine zae (.cells v5.cells 39 (0, 0)) r (fun R => zaf r hr6.shape rfl rfl h_b1 ts39 rfl) rfl fun fr w7 u8 r => ?_
 have z_w7 := u8.size
 have h_b1 := u8.at_
 obtain ⟨hB, zB⟩ := u8.on hB (by omega)
 refine wn (wp_ret ?_)
 have hs := hr6.shape.cells
 refine zad r rfl rfl h_b1 (k := 8) hs.1 ta39 ?_
 rw [← hs.2.2]
 exact rfin hF hB hr6 u8 (by omega) (by omega) (by omega)
def D.zbV (c0 : Where) (a0 : Bool) : T Res := (D.zbF c0 0 (-1) (fun _ => D.zce))
theorem zeZ {n : Nat} {F : Nat → Prop} {w0 : World} (hF : ∀ b, F b → b < w0.heap.size)
    (c0 : Where) {c0b : Nat} (c0F : F c0b) (c0h : w0.heap[c0b]? = some (.cells ((znJ c0)).toArray 219 (0, 0))) (a0 : Bool) :
    Calls Tryz.prog 257 #[.bool a0, zp c0b] w0 (zny Tryz.prog znx n (D.zbV c0 a0) F w0) := by
 refine enter Tryz.func257 rfl 6 rfl rfl fun fr r => ?_
 have hB := Below.refl w0.heap.size w0
 have lc0b := lt_of_block c0h
 refine wsr ?_
 refine za5 (.cells (znt false znx.zero 0 0 0 0 .nilFunc) 39 (0, 0)) r (fun R => zag tz39) rfl fun fr b1 w2 n3 r => ?_
 obtain ⟨e_b1, z_w2, h_b1, hB, zB⟩ := n3.all hB
 refine wn (wsr (za0 (.agg (znJ c0).toArray) r (fun R => za6 r (cs := (znJ c0)) (n := 10) rfl (keep hB c0h) zo5 rfl) rfl fun fr r => ?_))
 have hF1 := znI hF hB b1
 refine za8 r (zdl (F := (fun b => F b ∨ (w0.heap.size ≤ b ∧ b < w2.heap.size ∧ b ≠ b1))) (n := n) hF1 c0 0 (-1) ⟨258, [], [], zrY, rfl, fun m hm _ w' hs hz => zet (fun b hb => Nat.lt_of_lt_of_le (hF1 b hb) hz) ⟩) (fun R hc => zac r rfl zoR hc) rfl ?_
 rintro _ w4 ⟨v5, rfl, hb, hr6⟩
 refine ⟨_, rfl, fun fr r => ?_⟩
 have z_w4 := hb.size
 have h_b1 := keep hb h_b1
 obtain ⟨hB, zB⟩ := bon hb hB
 refine zae (.cells v5.cells 39 (0, 0)) r (fun R => zaf r hr6.shape rfl rfl h_b1 ts39 rfl) rfl fun fr w7 u8 r => ?_
 have z_w7 := u8.size
 have h_b1 := u8.at_
 obtain ⟨hB, zB⟩ := u8.on hB (by omega)
 refine wn (wp_ret ?_)
 have hs := hr6.shape.cells
 refine zad r rfl rfl h_b1 (k := 8) hs.1 ta39 ?_
 rw [← hs.2.2]
 exact rfin hF hB hr6 u8 (by omega) (by omega) (by omega)
def D.zbp (j : Nat) (r_queue_where_put : Where → Int → T Res) (c0 : Where) (c1 : Int) (c2 : Int) (a0 : Bool) : T Res := (bif (!a0) then (r_queue_where_put c0 c1) else (D.zbH c0.tail c2 (D.zbC c1) (fun x => (D.zbV c0 x))))
def D.zcJ (j : Nat) (r_queue_where_put : Where → Int → T Res) (c0 : Where) (c1 : Int) (a0 : Bool) : T Res := (r_queue_where_put c0 c1)
def D.zbA (j : Nat) (r_queue_where_put : Where → Int → T Res) (c0 : Int) (c1 : Where) (c2 : Int) (c3 : Int) (c4 : Int) (a0 : Int) : T Res := (bif (a0 != c0) then (r_queue_where_put c1 c2) else (bif (c3 != 0) then (D.zbH c1.tail c0 c3 (fun x => (D.zcJ j r_queue_where_put c1 c2 x))) else (D.zbH c4 0 (D.zbC c2) (fun x => (D.zbp j r_queue_where_put c1 c2 c0 x)))))
def D.zdy (j : Nat) (r_queue_where_put : Where → Int → T Res) (c0 : Where) (c1 : Int) (c2 : Int) (c3 : Int) (a0 : Int) : T Res := (D.zc8 c0.tail (fun x => (D.zbA j r_queue_where_put c1 c0 c2 a0 c3 x)))
def D.zdf (j : Nat) (r_queue_where_put : Where → Int → T Res) (c0 : Where) (c1 : Int) (a0 : Int) : T Res := (D.zc8 (D.zaw c0.seat.p (D.zay a0) 2) (fun x => (D.zdy j r_queue_where_put c0 a0 c1 (D.zaw c0.seat.p (D.zay a0) 2) x)))
def D.zct (j : Nat) (r_queue_where_put : Where → Int → T Res) (a0 : Where) (a1 : Int) : T Res := (T.bind (D.zd6 j a0.seat.p a0.seat.thread 0 a0.tail 0) (fun x => (D.zdf j r_queue_where_put a0 a1 x)))
def D.zcC (j : Nat) : Nat → Where → Int → T Res
  | 0, _, _ => .cut
  | k + 1, a0, a1 => D.zct j (D.zcC j k) a0 a1
def zbu (r : Where → Int → T Res) (n : Nat) : Prop := ∀ (F : Nat → Prop) (w0 : World), (∀ b, F b → b < w0.heap.size) → ∀ (a0 : Where) (a1 : Int), Calls Tryz.prog 152 #[.agg (znJ a0).toArray, .int .i64 a1] w0 (zny Tryz.prog znx n (r a0 a1) F w0)
theorem zfl {n : Nat} {F : Nat → Prop} {j : Nat} {r_queue_where_put : Where → Int → T Res} {w0 : World} (hF : ∀ b, F b → b < w0.heap.size) (hj : n < j) (ih_queue_where_put : ∀ m, m ≤ n → zbu r_queue_where_put m)
    (c0 : Where) {c0b : Nat} (c0F : F c0b) (c0h : w0.heap[c0b]? = some (.cells ((znJ c0)).toArray 219 (0, 0))) (c1 : Int) {c1b : Nat} (c1F : F c1b) (c1h : w0.heap[c1b]? = some (.cells ([(.int .i64 c1)]).toArray 3 (0, 0))) (c2 : Int) {c2b : Nat} (c2F : F c2b) (c2h : w0.heap[c2b]? = some (.cells ([(.int .u64 c2)]).toArray 22 (0, 0))) (a0 : Bool) :
    Calls Tryz.prog 256 #[.bool a0, zp c0b, zp c1b, zp c2b] w0 (zny Tryz.prog znx n (D.zbp j r_queue_where_put c0 c1 c2 a0) F w0) := by
 refine enter Tryz.func256 rfl 18 rfl rfl fun fr r => ?_
 have hB := Below.refl w0.heap.size w0
 have lc0b := lt_of_block c0h
 have lc1b := lt_of_block c1h
 have lc2b := lt_of_block c2h
 refine wsr ?_
 refine za5 (.cells (znt false znx.zero 0 0 0 0 .nilFunc) 39 (0, 0)) r (fun R => zag tz39) rfl fun fr b1 w2 n3 r => ?_
 obtain ⟨e_b1, z_w2, h_b1, hB, zB⟩ := n3.all hB
 refine wn (wp_seq (wsr (za0 (.bool a0) r (fun R => za9 r rfl) rfl fun fr r => za0 (.bool (!a0)) r (fun R => y_un r (u := (.bool a0)) rfl rfl) rfl fun fr r => wn ?_)))
 refine wp_cond_split (t := (!a0)) (r.ev rfl) (fun h4 => ?_) (fun h4 => ?_)
 ·
  refine wsr (za0 (.agg (znJ c0).toArray) r (fun R => za6 r (cs := (znJ c0)) (n := 10) rfl (keep hB c0h) zo5 rfl) rfl fun fr r => za0 (I c1) r (fun R => za3 r rfl (keep hB c1h) to3 rfl) rfl fun fr r => ?_)
  have hF1 := znI hF hB b1
  refine za8 r ((ih_queue_where_put n (by omega)) (fun b => F b ∨ (w0.heap.size ≤ b ∧ b < w2.heap.size ∧ b ≠ b1)) _ hF1 c0 c1) (fun R hc => zac r rfl zoQ hc) rfl ?_
  rintro _ w5 ⟨v6, rfl, hb, hr7⟩
  refine ⟨_, rfl, fun fr r => ?_⟩
  have z_w5 := hb.size
  have h_b1 := keep hb h_b1
  obtain ⟨hB, zB⟩ := bon hb hB
  refine zae (.cells v6.cells 39 (0, 0)) r (fun R => zaf r hr7.shape rfl rfl h_b1 ts39 rfl) rfl fun fr w8 u9 r => ?_
  have z_w8 := u9.size
  have h_b1 := u9.at_
  obtain ⟨hB, zB⟩ := u9.on hB (by omega)
  refine wn (wp_ret ?_)
  have hd : D.zbp j r_queue_where_put c0 c1 c2 a0 = (r_queue_where_put c0 c1) := (zaq h4).trans (rfl)
  have hs := hr7.shape.cells
  refine zad r rfl rfl h_b1 (k := 8) hs.1 ta39 ?_
  rw [← hs.2.2, hd]
  exact rfin hF hB hr7 u9 (by omega) (by omega) (by omega)
 ·
  refine wp_skip (wp_seq ?_)
  refine zaI 6 [.val (.pointer (some ⟨c0b, 9, none⟩)), .val (I c0.tail), .val (U c2), .val (I c1), .val (U (D.zbC c1)), .val (.func (.func 257) #[] #[zp c0b])] mixed r (by kernel_rfl) (za2 (by exact trivial) (za2 (by exact trivial) (za2 (by exact trivial) (za2 (by exact trivial) (za2 (by exact trivial) (za2 (by exact trivial) zaC)))))) ?_ ?_
  ·
   refine ec r (fun _ u _ b d s => za4 s (b := c0b) (o := 0) rfl zhh bz) (ec r (fun _ u _ b d s => za3 s d.1 (znU hB b c0h) to3 rfl bz) (ec r (fun _ u _ b d s => za3 s rfl (znU hB b c2h) to22 rfl bz) (ec r (fun _ u _ b d s => za3 s rfl (znU hB b c1h) to3 rfl bz) (ec r (fun fr1 u w' hb' hd r' => zac r' (args := [(I c1)]) (lc hd.1 l0) zoP ((zfa _ c1).mono (by rintro _ w2 ⟨rfl, hb2⟩; exact ⟨_, rfl, hb2, rfl⟩))) (ec r (fun _ u _ b d s => zao s (v := (.func (.func 257) #[] #[zp c0b])) rfl bz) ?_)))))
   exact zaV
  ·
   intro fr u w10 hb hΦ hne r
   have r := r.congr (sc (hΦ 5 (by decide)) (sc (hΦ 4 (by decide)) (sc (hΦ 3 (by decide)) (sc (hΦ 2 (by decide)) (sc (hΦ 1 (by decide)) (sc (hΦ 0 (by decide)) rfl))))))
   have z_w10 := hb.size
   have h_b1 := keep hb h_b1
   obtain ⟨hB, zB⟩ := bon hb hB
   have hF1 := znI hF hB b1
   have f11 : ((fun b => F b ∨ (w0.heap.size ≤ b ∧ b < w10.heap.size ∧ b ≠ b1))) c0b := (.inl c0F)
   refine za8 r (zd4 (F := (fun b => F b ∨ (w0.heap.size ≤ b ∧ b < w10.heap.size ∧ b ≠ b1))) (n := n) hF1 c0.tail c2 (D.zbC c1) ⟨257, [], [zp c0b], zqU, rfl, fun m hm x w' hs hz => zeZ (fun b hb => Nat.lt_of_lt_of_le (hF1 b hb) hz) c0 f11 (hs.at_ f11 (keep hB c0h)) x⟩) (fun R hc => zac r rfl zoC hc) rfl ?_
   rintro _ w12 ⟨v13, rfl, hb, hr14⟩
   refine ⟨_, rfl, fun fr r => ?_⟩
   have z_w12 := hb.size
   have h_b1 := keep hb h_b1
   obtain ⟨hB, zB⟩ := bon hb hB
   refine zae (.cells v13.cells 39 (0, 0)) r (fun R => zaf r hr14.shape rfl rfl h_b1 ts39 rfl) rfl fun fr w15 u16 r => ?_
   have z_w15 := u16.size
   have h_b1 := u16.at_
   obtain ⟨hB, zB⟩ := u16.on hB (by omega)
   refine wn (wp_ret ?_)
   have hd : D.zbp j r_queue_where_put c0 c1 c2 a0 = (D.zbH c0.tail c2 (D.zbC c1) (fun x => (D.zbV c0 x))) := (zak h4).trans (rfl)
   have hs := hr14.shape.cells
   refine zad r rfl rfl h_b1 (k := 8) hs.1 ta39 ?_
   rw [← hs.2.2, hd]
   exact rfin hF hB hr14 u16 (by omega) (by omega) (by omega)
theorem zfm {n : Nat} {F : Nat → Prop} {j : Nat} {r_queue_where_put : Where → Int → T Res} {w0 : World} (hF : ∀ b, F b → b < w0.heap.size) (hj : n < j) (ih_queue_where_put : ∀ m, m ≤ n → zbu r_queue_where_put m)
    (c0 : Where) {c0b : Nat} (c0F : F c0b) (c0h : w0.heap[c0b]? = some (.cells ((znJ c0)).toArray 219 (0, 0))) (c1 : Int) {c1b : Nat} (c1F : F c1b) (c1h : w0.heap[c1b]? = some (.cells ([(.int .i64 c1)]).toArray 3 (0, 0))) (a0 : Bool) :
    Calls Tryz.prog 255 #[.bool a0, zp c0b, zp c1b] w0 (zny Tryz.prog znx n (D.zcJ j r_queue_where_put c0 c1 a0) F w0) := by
 refine enter Tryz.func255 rfl 8 rfl rfl fun fr r => ?_
 have hB := Below.refl w0.heap.size w0
 have lc0b := lt_of_block c0h
 have lc1b := lt_of_block c1h
 refine wsr ?_
 refine za5 (.cells (znt false znx.zero 0 0 0 0 .nilFunc) 39 (0, 0)) r (fun R => zag tz39) rfl fun fr b1 w2 n3 r => ?_
 obtain ⟨e_b1, z_w2, h_b1, hB, zB⟩ := n3.all hB
 refine wn (wsr (za0 (.agg (znJ c0).toArray) r (fun R => za6 r (cs := (znJ c0)) (n := 10) rfl (keep hB c0h) zo5 rfl) rfl fun fr r => za0 (I c1) r (fun R => za3 r rfl (keep hB c1h) to3 rfl) rfl fun fr r => ?_))
 have hF1 := znI hF hB b1
 refine za8 r ((ih_queue_where_put n (by omega)) (fun b => F b ∨ (w0.heap.size ≤ b ∧ b < w2.heap.size ∧ b ≠ b1)) _ hF1 c0 c1) (fun R hc => zac r rfl zoQ hc) rfl ?_
 rintro _ w4 ⟨v5, rfl, hb, hr6⟩
 refine ⟨_, rfl, fun fr r => ?_⟩
 have z_w4 := hb.size
 have h_b1 := keep hb h_b1
 obtain ⟨hB, zB⟩ := bon hb hB
 refine zae (.cells v5.cells 39 (0, 0)) r (fun R => zaf r hr6.shape rfl rfl h_b1 ts39 rfl) rfl fun fr w7 u8 r => ?_
 have z_w7 := u8.size
 have h_b1 := u8.at_
 obtain ⟨hB, zB⟩ := u8.on hB (by omega)
 refine wn (wp_ret ?_)
 have hs := hr6.shape.cells
 refine zad r rfl rfl h_b1 (k := 8) hs.1 ta39 ?_
 rw [← hs.2.2]
 exact rfin hF hB hr6 u8 (by omega) (by omega) (by omega)
theorem zfM {n : Nat} {F : Nat → Prop} {j : Nat} {r_queue_where_put : Where → Int → T Res} {w0 : World} (hF : ∀ b, F b → b < w0.heap.size) (hj : n < j) (ih_queue_where_put : ∀ m, m ≤ n → zbu r_queue_where_put m)
    (c0 : Int) {c0b : Nat} (c0F : F c0b) (c0h : w0.heap[c0b]? = some (.cells ([(.int .u64 c0)]).toArray 22 (0, 0))) (c1 : Where) {c1b : Nat} (c1F : F c1b) (c1h : w0.heap[c1b]? = some (.cells ((znJ c1)).toArray 219 (0, 0))) (c2 : Int) {c2b : Nat} (c2F : F c2b) (c2h : w0.heap[c2b]? = some (.cells ([(.int .i64 c2)]).toArray 3 (0, 0))) (c3 : Int) {c3b : Nat} (c3F : F c3b) (c3h : w0.heap[c3b]? = some (.cells ([(.int .u64 c3)]).toArray 22 (0, 0))) (c4 : Int) {c4b : Nat} (c4F : F c4b) (c4h : w0.heap[c4b]? = some (.cells ([(.int .i64 c4)]).toArray 3 (0, 0))) (a0 : Int) :
    Calls Tryz.prog 254 #[.int .u64 a0, zp c0b, zp c1b, zp c2b, zp c3b, zp c4b] w0 (zny Tryz.prog znx n (D.zbA j r_queue_where_put c0 c1 c2 c3 c4 a0) F w0) := by
 refine enter Tryz.func254 rfl 29 rfl rfl fun fr r => ?_
 have hB := Below.refl w0.heap.size w0
 have lc0b := lt_of_block c0h
 have lc1b := lt_of_block c1h
 have lc2b := lt_of_block c2h
 have lc3b := lt_of_block c3h
 have lc4b := lt_of_block c4h
 refine wsr ?_
 refine za5 (.cells (znt false znx.zero 0 0 0 0 .nilFunc) 39 (0, 0)) r (fun R => zag tz39) rfl fun fr b1 w2 n3 r => ?_
 obtain ⟨e_b1, z_w2, h_b1, hB, zB⟩ := n3.all hB
 refine wn (wp_seq (wp_block (wsr (za0 (U a0) r (fun R => za9 r rfl) rfl fun fr r => za0 (U c0) r (fun R => za3 r rfl (keep hB c0h) to22 rfl) rfl fun fr r => za0 _ r (fun R => znA r rfl rfl rfl rfl) rfl fun fr r => za0 (.bool (a0 != c0)) r (fun R => za7 r rfl) rfl fun fr r => wn ?_))))
 refine wp_cond_split (t := (a0 != c0)) (r.ev rfl) (fun h4 => ?_) (fun h4 => ?_)
 ·
  refine wsr (za0 (.agg (znJ c1).toArray) r (fun R => za6 r (cs := (znJ c1)) (n := 10) rfl (keep hB c1h) zo5 rfl) rfl fun fr r => za0 (I c2) r (fun R => za3 r rfl (keep hB c2h) to3 rfl) rfl fun fr r => ?_)
  have hF1 := znI hF hB b1
  refine za8 r ((ih_queue_where_put n (by omega)) (fun b => F b ∨ (w0.heap.size ≤ b ∧ b < w2.heap.size ∧ b ≠ b1)) _ hF1 c1 c2) (fun R hc => zac r rfl zoQ hc) rfl ?_
  rintro _ w5 ⟨v6, rfl, hb, hr7⟩
  refine ⟨_, rfl, fun fr r => ?_⟩
  have z_w5 := hb.size
  have h_b1 := keep hb h_b1
  obtain ⟨hB, zB⟩ := bon hb hB
  refine zae (.cells v6.cells 39 (0, 0)) r (fun R => zaf r hr7.shape rfl rfl h_b1 ts39 rfl) rfl fun fr w8 u9 r => ?_
  have z_w8 := u9.size
  have h_b1 := u9.at_
  obtain ⟨hB, zB⟩ := u9.on hB (by omega)
  refine wn (wp_ret ?_)
  have hd : D.zbA j r_queue_where_put c0 c1 c2 c3 c4 a0 = (r_queue_where_put c1 c2) := (zaq h4).trans (rfl)
  have hs := hr7.shape.cells
  refine zad r rfl rfl h_b1 (k := 8) hs.1 ta39 ?_
  rw [← hs.2.2, hd]
  exact rfin hF hB hr7 u9 (by omega) (by omega) (by omega)
 ·
  refine wsr (za0 (U c3) r (fun R => za3 r rfl (keep hB c3h) to22 rfl) rfl fun fr r => za0 _ r (fun R => znA r rfl rfl rfl rfl) rfl fun fr r => za0 (.bool (c3 != 0)) r (fun R => za7 r rfl) rfl fun fr r => wn ?_)
  refine wp_cond_split (t := (c3 != 0)) (r.ev rfl) (fun h10 => ?_) (fun h10 => ?_)
  ·
   refine wsr (za0 _ r (fun R => za4 r (o := 0) rfl zhh) rfl fun fr r => za0 (I c1.tail) r (fun R => za3 r rfl (keep hB c1h) to3 rfl) rfl fun fr r => za0 (U c0) r (fun R => za3 r rfl (keep hB c0h) to22 rfl) rfl fun fr r => za0 (U c3) r (fun R => za3 r rfl (keep hB c3h) to22 rfl) rfl fun fr r => za0 (.func (.func 255) #[] #[zp c1b, zp c2b]) r (fun R => zao r rfl) rfl fun fr r => ?_)
   have hF1 := znI hF hB b1
   have f11 : ((fun b => F b ∨ (w0.heap.size ≤ b ∧ b < w2.heap.size ∧ b ≠ b1))) c1b := (.inl c1F)
   have f12 : ((fun b => F b ∨ (w0.heap.size ≤ b ∧ b < w2.heap.size ∧ b ≠ b1))) c2b := (.inl c2F)
   refine za8 r (zd4 (F := (fun b => F b ∨ (w0.heap.size ≤ b ∧ b < w2.heap.size ∧ b ≠ b1))) (n := n) hF1 c1.tail c0 c3 ⟨255, [], [zp c1b, zp c2b], zqw, rfl, fun m hm x w' hs hz => zfm (j := j) (fun b hb => Nat.lt_of_lt_of_le (hF1 b hb) hz) (by omega) (fun m' hm' => ih_queue_where_put m' (by omega)) c1 f11 (hs.at_ f11 (keep hB c1h)) c2 f12 (hs.at_ f12 (keep hB c2h)) x⟩) (fun R hc => zac r rfl zoC hc) rfl ?_
   rintro _ w13 ⟨v14, rfl, hb, hr15⟩
   refine ⟨_, rfl, fun fr r => ?_⟩
   have z_w13 := hb.size
   have h_b1 := keep hb h_b1
   obtain ⟨hB, zB⟩ := bon hb hB
   refine zae (.cells v14.cells 39 (0, 0)) r (fun R => zaf r hr15.shape rfl rfl h_b1 ts39 rfl) rfl fun fr w16 u17 r => ?_
   have z_w16 := u17.size
   have h_b1 := u17.at_
   obtain ⟨hB, zB⟩ := u17.on hB (by omega)
   refine wn (wp_ret ?_)
   have hd : D.zbA j r_queue_where_put c0 c1 c2 c3 c4 a0 = (D.zbH c1.tail c0 c3 (fun x => (D.zcJ j r_queue_where_put c1 c2 x))) := (zak h4).trans ((zaq h10).trans (rfl))
   have hs := hr15.shape.cells
   refine zad r rfl rfl h_b1 (k := 8) hs.1 ta39 ?_
   rw [← hs.2.2, hd]
   exact rfin hF hB hr15 u17 (by omega) (by omega) (by omega)
  ·
   refine wp_skip (wp_seq ?_)
   refine zaI 4 [.val (I c4), .val (I c2), .val (U (D.zbC c2)), .val (.func (.func 256) #[] #[zp c1b, zp c2b, zp c0b])] mixed r (by kernel_rfl) (za2 (by exact trivial) (za2 (by exact trivial) (za2 (by exact trivial) (za2 (by exact trivial) zaC)))) ?_ ?_
   ·
    refine ec r (fun _ u _ b d s => za3 s rfl (znU hB b c4h) to3 rfl bz) (ec r (fun _ u _ b d s => za3 s rfl (znU hB b c2h) to3 rfl bz) (ec r (fun fr1 u w' hb' hd r' => zac r' (args := [(I c2)]) (lc hd.1 l0) zoP ((zfa _ c2).mono (by rintro _ w2 ⟨rfl, hb2⟩; exact ⟨_, rfl, hb2, rfl⟩))) (ec r (fun _ u _ b d s => zao s (v := (.func (.func 256) #[] #[zp c1b, zp c2b, zp c0b])) rfl bz) ?_)))
    exact zaV
   ·
    intro fr u w18 hb hΦ hne r
    have r := r.congr (sc (hΦ 3 (by decide)) (sc (hΦ 2 (by decide)) (sc (hΦ 1 (by decide)) (sc (hΦ 0 (by decide)) rfl))))
    have z_w18 := hb.size
    have h_b1 := keep hb h_b1
    obtain ⟨hB, zB⟩ := bon hb hB
    have hF1 := znI hF hB b1
    have f19 : ((fun b => F b ∨ (w0.heap.size ≤ b ∧ b < w18.heap.size ∧ b ≠ b1))) c1b := (.inl c1F)
    have f20 : ((fun b => F b ∨ (w0.heap.size ≤ b ∧ b < w18.heap.size ∧ b ≠ b1))) c2b := (.inl c2F)
    have f21 : ((fun b => F b ∨ (w0.heap.size ≤ b ∧ b < w18.heap.size ∧ b ≠ b1))) c0b := (.inl c0F)
    refine za8 r (zd4 (F := (fun b => F b ∨ (w0.heap.size ≤ b ∧ b < w18.heap.size ∧ b ≠ b1))) (n := n) hF1 c4 0 (D.zbC c2) ⟨256, [], [zp c1b, zp c2b, zp c0b], zrJ, rfl, fun m hm x w' hs hz => zfl (j := j) (fun b hb => Nat.lt_of_lt_of_le (hF1 b hb) hz) (by omega) (fun m' hm' => ih_queue_where_put m' (by omega)) c1 f19 (hs.at_ f19 (keep hB c1h)) c2 f20 (hs.at_ f20 (keep hB c2h)) c0 f21 (hs.at_ f21 (keep hB c0h)) x⟩) (fun R hc => zac r rfl zoC hc) rfl ?_
    rintro _ w22 ⟨v23, rfl, hb, hr24⟩
    refine ⟨_, rfl, fun fr r => ?_⟩
    have z_w22 := hb.size
    have h_b1 := keep hb h_b1
    obtain ⟨hB, zB⟩ := bon hb hB
    refine zae (.cells v23.cells 39 (0, 0)) r (fun R => zaf r hr24.shape rfl rfl h_b1 ts39 rfl) rfl fun fr w25 u26 r => ?_
    have z_w25 := u26.size
    have h_b1 := u26.at_
    obtain ⟨hB, zB⟩ := u26.on hB (by omega)
    refine wn (wp_ret ?_)
    have hd : D.zbA j r_queue_where_put c0 c1 c2 c3 c4 a0 = (D.zbH c4 0 (D.zbC c2) (fun x => (D.zbp j r_queue_where_put c1 c2 c0 x))) := (zak h4).trans ((zak h10).trans (rfl))
    have hs := hr24.shape.cells
    refine zad r rfl rfl h_b1 (k := 8) hs.1 ta39 ?_
    rw [← hs.2.2, hd]
    exact rfin hF hB hr24 u26 (by omega) (by omega) (by omega)
theorem zgv {n : Nat} {F : Nat → Prop} {j : Nat} {r_queue_where_put : Where → Int → T Res} {w0 : World} (hF : ∀ b, F b → b < w0.heap.size) (hj : n < j) (ih_queue_where_put : ∀ m, m < n → zbu r_queue_where_put m)
    (c0 : Where) {c0b : Nat} (c0F : F c0b) (c0h : w0.heap[c0b]? = some (.cells ((znJ c0)).toArray 219 (0, 0))) (c1 : Int) {c1b : Nat} (c1F : F c1b) (c1h : w0.heap[c1b]? = some (.cells ([(.int .u64 c1)]).toArray 22 (0, 0))) (c2 : Int) {c2b : Nat} (c2F : F c2b) (c2h : w0.heap[c2b]? = some (.cells ([(.int .i64 c2)]).toArray 3 (0, 0))) (c3 : Int) {c3b : Nat} (c3F : F c3b) (c3h : w0.heap[c3b]? = some (.cells ([(.int .i64 c3)]).toArray 3 (0, 0))) (a0 : Int) :
    Calls Tryz.prog 253 #[.int .u64 a0, zp c0b, zp c1b, zp c2b, zp c3b] w0 (zny Tryz.prog znx n (D.zdy j r_queue_where_put c0 c1 c2 c3 a0) F w0) := by
 refine enter Tryz.func253 rfl 11 rfl rfl fun fr r => ?_
 have hB := Below.refl w0.heap.size w0
 have lc0b := lt_of_block c0h
 have lc1b := lt_of_block c1h
 have lc2b := lt_of_block c2h
 have lc3b := lt_of_block c3h
 refine wsr ?_
 refine za5 (.cells #[(U a0)] 22 (0, 0)) r (fun R => znF r (v := (U a0)) rfl) rfl fun fr b1 w2 n3 r => ?_
 obtain ⟨e_b1, z_w2, h_b1, hB, zB⟩ := n3.all hB
 refine za5 (.cells (znt false znx.zero 0 0 0 0 .nilFunc) 39 (0, 0)) r (fun R => zag tz39) rfl fun fr b4 w5 n6 r => ?_
 have h_b1 := keep n6.below h_b1
 obtain ⟨e_b4, z_w5, h_b4, hB, zB⟩ := n6.all hB
 refine wn (wsr (za0 _ r (fun R => za4 r (o := 0) rfl zhh) rfl fun fr r => za0 (I c0.tail) r (fun R => za3 r rfl (keep hB c0h) to3 rfl) rfl fun fr r => za0 (.func (.func 254) #[] #[zp c1b, zp c0b, zp c2b, zp b1, zp c3b]) r (fun R => zao r rfl) rfl fun fr r => ?_))
 have hF1 := znI hF hB b4
 have f7 : ((fun b => F b ∨ (w0.heap.size ≤ b ∧ b < w5.heap.size ∧ b ≠ b4))) c1b := (.inl c1F)
 have f8 : ((fun b => F b ∨ (w0.heap.size ≤ b ∧ b < w5.heap.size ∧ b ≠ b4))) c0b := (.inl c0F)
 have f9 : ((fun b => F b ∨ (w0.heap.size ≤ b ∧ b < w5.heap.size ∧ b ≠ b4))) c2b := (.inl c2F)
 have f10 : ((fun b => F b ∨ (w0.heap.size ≤ b ∧ b < w5.heap.size ∧ b ≠ b4))) b1 := (.inr ⟨by omega, by omega, by omega⟩)
 have f11 : ((fun b => F b ∨ (w0.heap.size ≤ b ∧ b < w5.heap.size ∧ b ≠ b4))) c3b := (.inl c3F)
 refine za8 r (zcG (F := (fun b => F b ∨ (w0.heap.size ≤ b ∧ b < w5.heap.size ∧ b ≠ b4))) (n := n) hF1 c0.tail ⟨254, [], [zp c1b, zp c0b, zp c2b, zp b1, zp c3b], zqN, rfl, fun m hm x w' hs hz => zfM (j := j) (fun b hb => Nat.lt_of_lt_of_le (hF1 b hb) hz) (by omega) (fun m' hm' => ih_queue_where_put m' (by omega)) c1 f7 (hs.at_ f7 (keep hB c1h)) c0 f8 (hs.at_ f8 (keep hB c0h)) c2 f9 (hs.at_ f9 (keep hB c2h)) a0 f10 (hs.at_ f10 h_b1) c3 f11 (hs.at_ f11 (keep hB c3h)) x⟩) (fun R hc => zac r rfl zos hc) rfl ?_
 rintro _ w12 ⟨v13, rfl, hb, hr14⟩
 refine ⟨_, rfl, fun fr r => ?_⟩
 have z_w12 := hb.size
 have h_b1 := keep hb h_b1
 have h_b4 := keep hb h_b4
 obtain ⟨hB, zB⟩ := bon hb hB
 refine zae (.cells v13.cells 39 (0, 0)) r (fun R => zaf r hr14.shape rfl rfl h_b4 ts39 rfl) rfl fun fr w15 u16 r => ?_
 have z_w15 := u16.size
 have h_b1 := u16.keep h_b1 (by omega)
 have h_b4 := u16.at_
 obtain ⟨hB, zB⟩ := u16.on hB (by omega)
 refine wn (wp_ret ?_)
 have hs := hr14.shape.cells
 refine zad r rfl rfl h_b4 (k := 8) hs.1 ta39 ?_
 rw [← hs.2.2]
 exact rfin hF hB hr14 u16 (by omega) (by omega) (by omega)
theorem zhb {n : Nat} {F : Nat → Prop} {j : Nat} {r_queue_where_put : Where → Int → T Res} {w0 : World} (hF : ∀ b, F b → b < w0.heap.size) (hj : n < j) (ih_queue_where_put : ∀ m, m < n → zbu r_queue_where_put m)
    (c0 : Where) {c0b : Nat} (c0F : F c0b) (c0h : w0.heap[c0b]? = some (.cells ((znJ c0)).toArray 219 (0, 0))) (c1 : Int) {c1b : Nat} (c1F : F c1b) (c1h : w0.heap[c1b]? = some (.cells ([(.int .i64 c1)]).toArray 3 (0, 0))) (a0 : Int) :
    Calls Tryz.prog 252 #[.int .u64 a0, zp c0b, zp c1b] w0 (zny Tryz.prog znx n (D.zdf j r_queue_where_put c0 c1 a0) F w0) := by
 refine enter Tryz.func252 rfl 15 rfl rfl fun fr r => ?_
 have hB := Below.refl w0.heap.size w0
 have lc0b := lt_of_block c0h
 have lc1b := lt_of_block c1h
 refine wsr ?_
 refine za5 (.cells #[(U a0)] 22 (0, 0)) r (fun R => znF r (v := (U a0)) rfl) rfl fun fr b1 w2 n3 r => ?_
 obtain ⟨e_b1, z_w2, h_b1, hB, zB⟩ := n3.all hB
 refine za5 (.cells (znt false znx.zero 0 0 0 0 .nilFunc) 39 (0, 0)) r (fun R => zag tz39) rfl fun fr b4 w5 n6 r => ?_
 have h_b1 := keep n6.below h_b1
 obtain ⟨e_b4, z_w5, h_b4, hB, zB⟩ := n6.all hB
 refine wn (wp_seq ?_)
 refine zaI 7 [.val (zp c0b), .val (zp c0b), .val (.agg (znu c0.seat.p).toArray), .val (U a0), .val (I (D.zay a0)), .val (I (D.zaw c0.seat.p (D.zay a0) 2)), .new w5.heap.size (.cells #[(I 0)] 3 (0, 0))] mixed r (by kernel_rfl) (za2 (by exact trivial) (za2 (by exact trivial) (za2 (by exact trivial) (za2 (by exact trivial) (za2 (by exact trivial) (za2 (by exact trivial) (za2 (Nat.le_refl _) zaC))))))) ?_ ?_
 ·
  refine ec r (fun _ u _ b d s => za4 s (b := c0b) (o := 0) rfl zdN bz) (ec r (fun _ u _ b d s => za4 s (b := c0b) (o := 0) d.1 zgs bz) (ec r (fun _ u _ b d s => za6 s (cs := (znu c0.seat.p)) (n := 6) d.1 (znU hB b c0h) ta25 rfl bz) (ec r (fun _ u _ b d s => za3 s rfl (keep b h_b1) to22 rfl bz) (ec r (fun fr1 u w' hb' hd r' => zac r' (args := [(U a0)]) (lc hd.1 l0) zoq ((zda _ a0).mono (by rintro _ w2 ⟨rfl, hb2⟩; exact ⟨_, rfl, hb2, rfl⟩))) (ec r (fun fr1 u w' hb' hd r' => zac r' (args := [(.agg (znu c0.seat.p).toArray), (I (D.zay a0)), (I 2)]) (lc hd.1 (lc hd.2.1 (lc rfl l0))) zop ((zbP _ c0.seat.p (D.zay a0) 2).mono (by rintro _ w2 ⟨rfl, hb2⟩; exact ⟨_, rfl, hb2, rfl⟩))) (ec r (fun fr1 u w' hb' hd r' => zag tz3 (fun b w2 n2 => ⟨n2.below, b, rfl, Nat.le_of_eq n2.eq.symm, n2.at_⟩)) ?_))))))
  exact zaV
 ·
  intro fr u w7 hb hΦ hne r
  obtain ⟨b8, g6, e_b8, h_b8⟩ := hΦ 6 (by decide)
  have l_b8 := lt_of_block h_b8
  have r := r.congr (sc g6 (sc (hΦ 5 (by decide)) (sc (hΦ 4 (by decide)) (sc (hΦ 3 (by decide)) (sc (hΦ 2 (by decide)) (sc (hΦ 1 (by decide)) (sc (hΦ 0 (by decide)) rfl)))))))
  have z_w7 := hb.size
  have h_b1 := keep hb h_b1
  have h_b4 := keep hb h_b4
  obtain ⟨hB, zB⟩ := bon hb hB
  refine zae (.cells #[(I (D.zaw c0.seat.p (D.zay a0) 2))] 3 (0, 0)) r (fun R => zaS r (o := 0) (v := (I (D.zaw c0.seat.p (D.zay a0) 2))) rfl rfl h_b8 ts3 (Nat.le_of_ble_eq_true rfl) rfl rfl) rfl fun fr w9 u10 r => ?_
  have z_w9 := u10.size
  have h_b1 := u10.keep h_b1 (by omega)
  have h_b4 := u10.keep h_b4 (by omega)
  have h_b8 := u10.at_
  obtain ⟨hB, zB⟩ := u10.on hB (by omega)
  refine wn (wsr (za0 (I (D.zaw c0.seat.p (D.zay a0) 2)) r (fun R => za3 r rfl h_b8 to3 rfl) rfl fun fr r => za0 (.func (.func 253) #[] #[zp c0b, zp b1, zp c1b, zp b8]) r (fun R => zao r rfl) rfl fun fr r => ?_))
  have hF1 := znI hF hB b4
  have f11 : ((fun b => F b ∨ (w0.heap.size ≤ b ∧ b < w9.heap.size ∧ b ≠ b4))) c0b := (.inl c0F)
  have f12 : ((fun b => F b ∨ (w0.heap.size ≤ b ∧ b < w9.heap.size ∧ b ≠ b4))) b1 := (.inr ⟨by omega, by omega, by omega⟩)
  have f13 : ((fun b => F b ∨ (w0.heap.size ≤ b ∧ b < w9.heap.size ∧ b ≠ b4))) c1b := (.inl c1F)
  have f14 : ((fun b => F b ∨ (w0.heap.size ≤ b ∧ b < w9.heap.size ∧ b ≠ b4))) b8 := (.inr ⟨by omega, by omega, by omega⟩)
  refine za8 r (zcG (F := (fun b => F b ∨ (w0.heap.size ≤ b ∧ b < w9.heap.size ∧ b ≠ b4))) (n := n) hF1 (D.zaw c0.seat.p (D.zay a0) 2) ⟨253, [], [zp c0b, zp b1, zp c1b, zp b8], zrl, rfl, fun m hm x w' hs hz => zgv (j := j) (fun b hb => Nat.lt_of_lt_of_le (hF1 b hb) hz) (by omega) (fun m' hm' => ih_queue_where_put m' (by omega)) c0 f11 (hs.at_ f11 (keep hB c0h)) a0 f12 (hs.at_ f12 h_b1) c1 f13 (hs.at_ f13 (keep hB c1h)) (D.zaw c0.seat.p (D.zay a0) 2) f14 (hs.at_ f14 h_b8) x⟩) (fun R hc => zac r rfl zos hc) rfl ?_
  rintro _ w15 ⟨v16, rfl, hb, hr17⟩
  refine ⟨_, rfl, fun fr r => ?_⟩
  have z_w15 := hb.size
  have h_b1 := keep hb h_b1
  have h_b4 := keep hb h_b4
  have h_b8 := keep hb h_b8
  obtain ⟨hB, zB⟩ := bon hb hB
  refine zae (.cells v16.cells 39 (0, 0)) r (fun R => zaf r hr17.shape rfl rfl h_b4 ts39 rfl) rfl fun fr w18 u19 r => ?_
  have z_w18 := u19.size
  have h_b1 := u19.keep h_b1 (by omega)
  have h_b8 := u19.keep h_b8 (by omega)
  have h_b4 := u19.at_
  obtain ⟨hB, zB⟩ := u19.on hB (by omega)
  refine wn (wp_ret ?_)
  have hs := hr17.shape.cells
  refine zad r rfl rfl h_b4 (k := 8) hs.1 ta39 ?_
  rw [← hs.2.2]
  exact rfin hF hB hr17 u19 (by omega) (by omega) (by omega)
theorem zhO {n : Nat} {F : Nat → Prop} {j : Nat} {r_queue_where_put : Where → Int → T Res} {w0 : World} (hF : ∀ b, F b → b < w0.heap.size) (hj : n < j) (ih_queue_where_put : ∀ m, m < n → zbu r_queue_where_put m)
    (a0 : Where) (a1 : Int) :
    Calls Tryz.prog 152 #[.agg (znJ a0).toArray, .int .i64 a1] w0 (zny Tryz.prog znx n (D.zct j r_queue_where_put a0 a1) F w0) := by
 refine enter Tryz.func152 rfl 16 rfl rfl fun fr r => ?_
 have hB := Below.refl w0.heap.size w0
 refine wsr ?_
 refine za5 (.cells ((znJ a0)).toArray 219 (0, 0)) r (fun R => znF r (v := (.agg (znJ a0).toArray)) rfl) rfl fun fr b1 w2 n3 r => ?_
 obtain ⟨e_b1, z_w2, h_b1, hB, zB⟩ := n3.all hB
 refine za5 (.cells #[(I a1)] 3 (0, 0)) r (fun R => znF r (v := (I a1)) rfl) rfl fun fr b4 w5 n6 r => ?_
 have h_b1 := keep n6.below h_b1
 obtain ⟨e_b4, z_w5, h_b4, hB, zB⟩ := n6.all hB
 refine za5 (.cells (znt false znx.zero 0 0 0 0 .nilFunc) 39 (0, 0)) r (fun R => zag tz39) rfl fun fr b7 w8 n9 r => ?_
 have h_b1 := keep n9.below h_b1
 have h_b4 := keep n9.below h_b4
 obtain ⟨e_b7, z_w8, h_b7, hB, zB⟩ := n9.all hB
 refine wn (wsr (za0 _ r (fun R => za4 r (o := 0) rfl zdN) rfl fun fr r => za0 _ r (fun R => za4 r (o := 0) rfl zgs) rfl fun fr r => za0 (.agg (znu a0.seat.p).toArray) r (fun R => za6 r (cs := (znu a0.seat.p)) (n := 6) rfl h_b1 ta25 rfl) rfl fun fr r => za0 _ r (fun R => za4 r (o := 0) rfl zdN) rfl fun fr r => za0 _ r (fun R => za4 r (o := 0) rfl zkq) rfl fun fr r => za0 (I a0.seat.thread) r (fun R => za3 r rfl h_b1 to3 rfl) rfl fun fr r => za0 _ r (fun R => za4 r (o := 0) rfl zhh) rfl fun fr r => za0 (I a0.tail) r (fun R => za3 r rfl h_b1 to3 rfl) rfl fun fr r => ?_))
 have hF1 := znI hF hB b7
 refine za8 r (zgS (j := j) (F := (fun b => F b ∨ (w0.heap.size ≤ b ∧ b < w8.heap.size ∧ b ≠ b7))) (n := n) hF1 (by omega) a0.seat.p a0.seat.thread 0 a0.tail 0 (by first | assumption | decide)) (fun R hc => zac r rfl zq4 hc) rfl ?_
 rintro _ w10 ⟨v11, rfl, hb, hr12⟩
 refine ⟨_, rfl, fun fr r => ?_⟩
 have z_w10 := hb.size
 have h_b1 := keep hb h_b1
 have h_b4 := keep hb h_b4
 have h_b7 := keep hb h_b7
 obtain ⟨hB, zB⟩ := bon hb hB
 refine za0 (.func (.func 252) #[] #[zp b1, zp b4]) r (fun R => zao r rfl) rfl fun fr r => ?_
 have hF1 := znI hF hB b7
 have f13 : ((fun b => F b ∨ (w0.heap.size ≤ b ∧ b < w10.heap.size ∧ b ≠ b7))) b1 := (.inr ⟨by omega, by omega, by omega⟩)
 have f14 : ((fun b => F b ∨ (w0.heap.size ≤ b ∧ b < w10.heap.size ∧ b ≠ b7))) b4 := (.inr ⟨by omega, by omega, by omega⟩)
 refine za8 r (zds (F := (fun b => F b ∨ (w0.heap.size ≤ b ∧ b < w10.heap.size ∧ b ≠ b7))) (n := n) hF1 (Rep.mono (by rintro b (h | h); (rcases h with h | ⟨h1, h2, h3⟩; exact .inl h; exact .inr ⟨h1, by omega, h3⟩); exact .inr ⟨by omega, by omega, by omega⟩) (Same.refl _ _) (by omega) n _ _ hr12) ⟨252, [], [zp b1, zp b4], zqA, rfl, fun m hm x w' hs hz => zhb (j := j) (fun b hb => Nat.lt_of_lt_of_le (hF1 b hb) hz) (by omega) (fun m' hm' => ih_queue_where_put m' (by omega)) a0 f13 (hs.at_ f13 h_b1) a1 f14 (hs.at_ f14 h_b4) x⟩) (fun R hc => zac r rfl zpf hc) rfl ?_
 rintro _ w15 ⟨v16, rfl, hb, hr17⟩
 refine ⟨_, rfl, fun fr r => ?_⟩
 have z_w15 := hb.size
 have h_b1 := keep hb h_b1
 have h_b4 := keep hb h_b4
 have h_b7 := keep hb h_b7
 obtain ⟨hB, zB⟩ := bon hb hB
 refine zae (.cells v16.cells 39 (0, 0)) r (fun R => zaf r hr17.shape rfl rfl h_b7 ts39 rfl) rfl fun fr w18 u19 r => ?_
 have z_w18 := u19.size
 have h_b1 := u19.keep h_b1 (by omega)
 have h_b4 := u19.keep h_b4 (by omega)
 have h_b7 := u19.at_
 obtain ⟨hB, zB⟩ := u19.on hB (by omega)
 refine wn (wp_ret ?_)
 have hs := hr17.shape.cells
 refine zad r rfl rfl h_b7 (k := 8) hs.1 ta39 ?_
 rw [← hs.2.2]
 exact rfin hF hB hr17 u19 (by omega) (by omega) (by omega)
theorem zhQ {n : Nat} {j : Nat} (hj : n < j) {k : Nat} (hk : n < k) : zbu (D.zcC j k) n := by
  induction n using Nat.strongRecOn generalizing k with
  | _ n ih =>
    obtain ⟨k, rfl⟩ : ∃ q, k = q + 1 := ⟨k - 1, by omega⟩
    intro F w0 hF
    have h := @zhO n F j (D.zcC j k) w0 hF hj (fun m hm => ih m hm (by omega) (by omega))
    exact h
def D.zfS (j : Nat) (c0 : Where) (c1 : Int) : T Res := (D.zcC j j c0 c1)
theorem ziQ {n : Nat} {F : Nat → Prop} {j : Nat} {w0 : World} (hF : ∀ b, F b → b < w0.heap.size) (hj : n < j)
    (c0 : Where) {c0b : Nat} (c0F : F c0b) (c0h : w0.heap[c0b]? = some (.cells ((znJ c0)).toArray 219 (0, 0))) (c1 : Int) {c1b : Nat} (c1F : F c1b) (c1h : w0.heap[c1b]? = some (.cells ([(.int .i64 c1)]).toArray 3 (0, 0))) :
    Calls Tryz.prog 151 #[zp c0b, zp c1b] w0 (zny Tryz.prog znx n (D.zfS j c0 c1) F w0) := by
 refine enter Tryz.func151 rfl 6 rfl rfl fun fr r => ?_
 have hB := Below.refl w0.heap.size w0
 have lc0b := lt_of_block c0h
 have lc1b := lt_of_block c1h
 refine wsr ?_
 refine za5 (.cells (znt false znx.zero 0 0 0 0 .nilFunc) 39 (0, 0)) r (fun R => zag tz39) rfl fun fr b1 w2 n3 r => ?_
 obtain ⟨e_b1, z_w2, h_b1, hB, zB⟩ := n3.all hB
 refine wn (wsr (za0 (.agg (znJ c0).toArray) r (fun R => za6 r (cs := (znJ c0)) (n := 10) rfl (keep hB c0h) zo5 rfl) rfl fun fr r => za0 (I c1) r (fun R => za3 r rfl (keep hB c1h) to3 rfl) rfl fun fr r => ?_))
 have hF1 := znI hF hB b1
 refine za8 r ((zhQ (j := j) (k := j) (n := n) (by omega) (by omega)) (fun b => F b ∨ (w0.heap.size ≤ b ∧ b < w2.heap.size ∧ b ≠ b1)) _ hF1 c0 c1) (fun R hc => zac r rfl zoQ hc) rfl ?_
 rintro _ w4 ⟨v5, rfl, hb, hr6⟩
 refine ⟨_, rfl, fun fr r => ?_⟩
 have z_w4 := hb.size
 have h_b1 := keep hb h_b1
 obtain ⟨hB, zB⟩ := bon hb hB
 refine zae (.cells v5.cells 39 (0, 0)) r (fun R => zaf r hr6.shape rfl rfl h_b1 ts39 rfl) rfl fun fr w7 u8 r => ?_
 have z_w7 := u8.size
 have h_b1 := u8.at_
 obtain ⟨hB, zB⟩ := u8.on hB (by omega)
 refine wn (wp_ret ?_)
 have hs := hr6.shape.cells
 refine zad r rfl rfl h_b1 (k := 8) hs.1 ta39 ?_
 rw [← hs.2.2]
 exact rfin hF hB hr6 u8 (by omega) (by omega) (by omega)
def D.zdz (j : Nat) (c0 : Where) (c1 : Int) (a0 : Int) : T Res := (D.zdt (D.zaw c0.seat.p a0 1) c1 (fun _ => (D.zfS j c0 a0)))
theorem zk8 {n : Nat} {F : Nat → Prop} {j : Nat} {w0 : World} (hF : ∀ b, F b → b < w0.heap.size) (hj : n < j)
    (c0 : Where) {c0b : Nat} (c0F : F c0b) (c0h : w0.heap[c0b]? = some (.cells ((znJ c0)).toArray 219 (0, 0))) (c1 : Int) {c1b : Nat} (c1F : F c1b) (c1h : w0.heap[c1b]? = some (.cells ([(.int .u64 c1)]).toArray 22 (0, 0))) (a0 : Int) :
    Calls Tryz.prog 149 #[.int .i64 a0, zp c0b, zp c1b] w0 (zny Tryz.prog znx n (D.zdz j c0 c1 a0) F w0) := by
 refine enter Tryz.func149 rfl 13 rfl rfl fun fr r => ?_
 have hB := Below.refl w0.heap.size w0
 have lc0b := lt_of_block c0h
 have lc1b := lt_of_block c1h
 refine wsr ?_
 refine za5 (.cells #[(I a0)] 3 (0, 0)) r (fun R => znF r (v := (I a0)) rfl) rfl fun fr b1 w2 n3 r => ?_
 obtain ⟨e_b1, z_w2, h_b1, hB, zB⟩ := n3.all hB
 refine za5 (.cells (znt false znx.zero 0 0 0 0 .nilFunc) 39 (0, 0)) r (fun R => zag tz39) rfl fun fr b4 w5 n6 r => ?_
 have h_b1 := keep n6.below h_b1
 obtain ⟨e_b4, z_w5, h_b4, hB, zB⟩ := n6.all hB
 refine wn (wp_seq ?_)
 refine zaI 7 [.val (zp c0b), .val (zp c0b), .val (.agg (znu c0.seat.p).toArray), .val (I a0), .val (I (D.zaw c0.seat.p a0 1)), .val (U c1), .val (.func (.func 151) #[] #[zp c0b, zp b1])] mixed r (by kernel_rfl) (za2 (by exact trivial) (za2 (by exact trivial) (za2 (by exact trivial) (za2 (by exact trivial) (za2 (by exact trivial) (za2 (by exact trivial) (za2 (by exact trivial) zaC))))))) ?_ ?_
 ·
  refine ec r (fun _ u _ b d s => za4 s (b := c0b) (o := 0) rfl zdN bz) (ec r (fun _ u _ b d s => za4 s (b := c0b) (o := 0) d.1 zgs bz) (ec r (fun _ u _ b d s => za6 s (cs := (znu c0.seat.p)) (n := 6) d.1 (znU hB b c0h) ta25 rfl bz) (ec r (fun _ u _ b d s => za3 s rfl (keep b h_b1) to3 rfl bz) (ec r (fun fr1 u w' hb' hd r' => zac r' (args := [(.agg (znu c0.seat.p).toArray), (I a0), (I 1)]) (lc hd.1 (lc hd.2.1 (lc rfl l0))) zop ((zbP _ c0.seat.p a0 1).mono (by rintro _ w2 ⟨rfl, hb2⟩; exact ⟨_, rfl, hb2, rfl⟩))) (ec r (fun _ u _ b d s => za3 s rfl (znU hB b c1h) to22 rfl bz) (ec r (fun _ u _ b d s => zao s (v := (.func (.func 151) #[] #[zp c0b, zp b1])) rfl bz) ?_))))))
  exact zaV
 ·
  intro fr u w7 hb hΦ hne r
  have r := r.congr (sc (hΦ 6 (by decide)) (sc (hΦ 5 (by decide)) (sc (hΦ 4 (by decide)) (sc (hΦ 3 (by decide)) (sc (hΦ 2 (by decide)) (sc (hΦ 1 (by decide)) (sc (hΦ 0 (by decide)) rfl)))))))
  have z_w7 := hb.size
  have h_b1 := keep hb h_b1
  have h_b4 := keep hb h_b4
  obtain ⟨hB, zB⟩ := bon hb hB
  have hF1 := znI hF hB b4
  have f8 : ((fun b => F b ∨ (w0.heap.size ≤ b ∧ b < w7.heap.size ∧ b ≠ b4))) c0b := (.inl c0F)
  have f9 : ((fun b => F b ∨ (w0.heap.size ≤ b ∧ b < w7.heap.size ∧ b ≠ b4))) b1 := (.inr ⟨by omega, by omega, by omega⟩)
  refine za8 r (zez (F := (fun b => F b ∨ (w0.heap.size ≤ b ∧ b < w7.heap.size ∧ b ≠ b4))) (n := n) hF1 (D.zaw c0.seat.p a0 1) c1 ⟨151, [], [zp c0b, zp b1], zr4, rfl, fun m hm _ w' hs hz => ziQ (j := j) (fun b hb => Nat.lt_of_lt_of_le (hF1 b hb) hz) (by omega) c0 f8 (hs.at_ f8 (keep hB c0h)) a0 f9 (hs.at_ f9 h_b1)⟩) (fun R hc => zac r rfl zp1 hc) rfl ?_
  rintro _ w10 ⟨v11, rfl, hb, hr12⟩
  refine ⟨_, rfl, fun fr r => ?_⟩
  have z_w10 := hb.size
  have h_b1 := keep hb h_b1
  have h_b4 := keep hb h_b4
  obtain ⟨hB, zB⟩ := bon hb hB
  refine zae (.cells v11.cells 39 (0, 0)) r (fun R => zaf r hr12.shape rfl rfl h_b4 ts39 rfl) rfl fun fr w13 u14 r => ?_
  have z_w13 := u14.size
  have h_b1 := u14.keep h_b1 (by omega)
  have h_b4 := u14.at_
  obtain ⟨hB, zB⟩ := u14.on hB (by omega)
  refine wn (wp_ret ?_)
  have hs := hr12.shape.cells
  refine zad r rfl rfl h_b4 (k := 8) hs.1 ta39 ?_
  rw [← hs.2.2]
  exact rfin hF hB hr12 u14 (by omega) (by omega) (by omega)
def D.zbx (j : Nat) (a0 : Seat) (a1 : Int) (a2 : Int) : T Res := (D.zbR j (D.zbL a0 a1) (fun x => (D.zdz j (D.zbL a0 a1) a2 x)))
theorem ziT {n : Nat} {F : Nat → Prop} {j : Nat} {w0 : World} (hF : ∀ b, F b → b < w0.heap.size) (hj : n < j)
    (a0 : Seat) (a1 : Int) (a2 : Int) :
    Calls Tryz.prog 59 #[.agg (znR a0).toArray, .int .i64 a1, .int .u64 a2] w0 (zny Tryz.prog znx n (D.zbx j a0 a1 a2) F w0) := by
 refine enter Tryz.func59 rfl 14 rfl rfl fun fr r => ?_
 have hB := Below.refl w0.heap.size w0
 refine wsr ?_
 refine za5 (.cells ((znR a0)).toArray 29 (0, 0)) r (fun R => znF r (v := (.agg (znR a0).toArray)) rfl) rfl fun fr b1 w2 n3 r => ?_
 obtain ⟨e_b1, z_w2, h_b1, hB, zB⟩ := n3.all hB
 refine za5 (.cells #[(U a2)] 22 (0, 0)) r (fun R => znF r (v := (U a2)) rfl) rfl fun fr b4 w5 n6 r => ?_
 have h_b1 := keep n6.below h_b1
 obtain ⟨e_b4, z_w5, h_b4, hB, zB⟩ := n6.all hB
 refine za5 (.cells (znt false znx.zero 0 0 0 0 .nilFunc) 39 (0, 0)) r (fun R => zag tz39) rfl fun fr b7 w8 n9 r => ?_
 have h_b1 := keep n9.below h_b1
 have h_b4 := keep n9.below h_b4
 obtain ⟨e_b7, z_w8, h_b7, hB, zB⟩ := n9.all hB
 refine wn (wsr (za0 (.agg (znR a0).toArray) r (fun R => za6 r (cs := (znR a0)) (n := 8) rfl h_b1 ta29 rfl) rfl fun fr r => za0 (I a1) r (fun R => za9 r rfl) rfl fun fr r => ?_))
 refine za8 r (zhZ w8 a0 a1) (fun R hc => zac r rfl zp8 hc) rfl ?_
 rintro _ w10 ⟨rfl, hb⟩
 refine ⟨_, rfl, fun fr r => ?_⟩
 have z_w10 := hb.size
 have h_b1 := keep hb h_b1
 have h_b4 := keep hb h_b4
 have h_b7 := keep hb h_b7
 obtain ⟨hB, zB⟩ := bon hb hB
 refine za5 (.cells ((znJ (⟨(⟨(⟨0, 0, 0, 0, 0, 0⟩ : Plan), 0, 0⟩ : Seat), 0, 0⟩ : Where))).toArray 219 (0, 0)) r (fun R => zag zp5) rfl fun fr b11 w12 n13 r => ?_
 have h_b1 := keep n13.below h_b1
 have h_b4 := keep n13.below h_b4
 have h_b7 := keep n13.below h_b7
 obtain ⟨e_b11, z_w12, h_b11, hB, zB⟩ := n13.all hB
 refine zae (.cells ((znJ (D.zbL a0 a1))).toArray 219 (0, 0)) r (fun R => zaS r (o := 0) (v := (.agg (znJ (D.zbL a0 a1)).toArray)) rfl rfl h_b11 zpr (Nat.le_of_ble_eq_true rfl) rfl (ziB rfl)) rfl fun fr w14 u15 r => ?_
 have z_w14 := u15.size
 have h_b1 := u15.keep h_b1 (by omega)
 have h_b4 := u15.keep h_b4 (by omega)
 have h_b7 := u15.keep h_b7 (by omega)
 have h_b11 := u15.at_
 obtain ⟨hB, zB⟩ := u15.on hB (by omega)
 refine wn (wsr (za0 (.agg (znJ (D.zbL a0 a1)).toArray) r (fun R => za6 r (cs := (znJ (D.zbL a0 a1))) (n := 10) rfl h_b11 zo5 rfl) rfl fun fr r => za0 (.func (.func 149) #[] #[zp b11, zp b4]) r (fun R => zao r rfl) rfl fun fr r => ?_))
 have hF1 := znI hF hB b7
 have f16 : ((fun b => F b ∨ (w0.heap.size ≤ b ∧ b < w14.heap.size ∧ b ≠ b7))) b11 := (.inr ⟨by omega, by omega, by omega⟩)
 have f17 : ((fun b => F b ∨ (w0.heap.size ≤ b ∧ b < w14.heap.size ∧ b ≠ b7))) b4 := (.inr ⟨by omega, by omega, by omega⟩)
 refine za8 r (zeo (j := j) (F := (fun b => F b ∨ (w0.heap.size ≤ b ∧ b < w14.heap.size ∧ b ≠ b7))) (n := n) hF1 (by omega) (D.zbL a0 a1) ⟨149, [], [zp b11, zp b4], zrO, rfl, fun m hm x w' hs hz => zk8 (j := j) (fun b hb => Nat.lt_of_lt_of_le (hF1 b hb) hz) (by omega) (D.zbL a0 a1) f16 (hs.at_ f16 h_b11) a2 f17 (hs.at_ f17 h_b4) x⟩) (fun R hc => zac r rfl zpJ hc) rfl ?_
 rintro _ w18 ⟨v19, rfl, hb, hr20⟩
 refine ⟨_, rfl, fun fr r => ?_⟩
 have z_w18 := hb.size
 have h_b1 := keep hb h_b1
 have h_b4 := keep hb h_b4
 have h_b7 := keep hb h_b7
 have h_b11 := keep hb h_b11
 obtain ⟨hB, zB⟩ := bon hb hB
 refine zae (.cells v19.cells 39 (0, 0)) r (fun R => zaf r hr20.shape rfl rfl h_b7 ts39 rfl) rfl fun fr w21 u22 r => ?_
 have z_w21 := u22.size
 have h_b1 := u22.keep h_b1 (by omega)
 have h_b4 := u22.keep h_b4 (by omega)
 have h_b11 := u22.keep h_b11 (by omega)
 have h_b7 := u22.at_
 obtain ⟨hB, zB⟩ := u22.on hB (by omega)
 refine wn (wp_ret ?_)
 have hs := hr20.shape.cells
 refine zad r rfl rfl h_b7 (k := 8) hs.1 ta39 ?_
 rw [← hs.2.2]
 exact rfin hF hB hr20 u22 (by omega) (by omega) (by omega)
def D.zeM (fu : Nat) (a0 : Plan) (a1 : Mem) (a2 : Int) (a3 : Int) : Option (List Int) := ((D.zb0 fu a1 a2 (D.zb4 a0 a3 0)).bind (fun (x6 : Int) => (loopThen (fun (x9 : List Int × Int) => (bif (decide ((x9.1.length : Int) < a0.nodes)) then ((D.zb0 fu a1 a2 (D.zaw a0 (D.zay x9.2) 2)).bind (fun (x14 : Int) => (bif (x14 == 0) then (some (Lp.brk (x9.1, x14))) else ((D.zb0 fu a1 a2 (D.zaw a0 (D.zay x14) 1)).bind (fun (x17 : Int) => ((appD x9.1 ([x17])).bind (fun (x21 : List Int) => (some (Lp.next (x21, x14)))))))))) else (some (Lp.brk (x9.1, x9.2))))) fu ([], x6) (fun (x25 : List Int × Int) => (some x25.1)))))
theorem zid {fu : Nat} (w0 : World) (a0 : Plan) {a1g : MG} (a1 : Mem) (a1h : MemAt a1g a1 w0) (a2 : Int) (a3 : Int) {res : List Int} (hD : D.zeM fu a0 a1 a2 a3 = some res) :
    Calls Tryz.prog 62 #[.agg (znu a0).toArray, zp a1g.mb, .int .i64 a2, .int .i64 a3] w0 (fun e w' => ∃ (v0 : Value), e = .returned v0 ∧ Done No No [rowK 22 1 u64 v0 res] w0 w') := by
 refine enter Tryz.func62 rfl 42 rfl rfl fun fr r => ?_
 have hP : Post No [] w0 w0 := Post.nil w0
 have hP : Post No [memR a1g a1] w0 w0 := hP.addRo zd2 a1h rfl a1h.lt
 unfold D.zeM at hD
 refine wsr ?_
 refine za5 (.cells ((znu a0)).toArray 25 (0, 0)) r (fun R => znF r (v := (.agg (znu a0).toArray)) rfl) rfl fun fr b1 w2 n3 r => ?_
 have hP : Post No [memR a1g a1, znw b1 ((znu a0)).toArray 25] w0 w2 := hP.new n3
 refine za0 (Value.slice none 0 0) r (fun R => za7 r rfl) rfl fun fr r => wn (wsr (za0 (Value.slice none 0 0) r (fun R => za7 r rfl) rfl fun fr r => wn (wsr (za0 (zp a1g.mb) r (fun R => za9 r rfl) rfl fun fr r => za0 (I a2) r (fun R => za9 r rfl) rfl fun fr r => za0 (.agg (znu a0).toArray) r (fun R => za6 r (cs := (znu a0)) (n := 6) rfl (hP.cell (i := 1) rfl) ta25 rfl) rfl fun fr r => za0 (I a3) r (fun R => za9 r rfl) rfl fun fr r => ?_))))
 refine za8 r (zeu w2 a0 a3 0) (fun R hc => zac r rfl cl72 hc) rfl ?_
 rintro _ w5 ⟨rfl, hb⟩
 refine ⟨_, rfl, fun fr r => ?_⟩
 have hP : Post No [memR a1g a1, znw b1 ((znu a0)).toArray 25] w0 w5 := hP.below hb
 obtain ⟨x6, hx6, hD⟩ := zap hD
 refine za8 r (zbr w5 a1 (hP.memr (i := 0) rfl) a2 (D.zb4 a0 a3 0) hx6) (fun R hc => zac r rfl cl51 hc) rfl ?_
 rintro _ w7 ⟨rfl, hb⟩
 refine ⟨_, rfl, fun fr r => ?_⟩
 have hP : Post No [memR a1g a1, znw b1 ((znu a0)).toArray 25] w0 w7 := hP.below hb
 refine za0 (U x6) r (fun R => za7 r rfl) rfl fun fr r => wn (wp_seq ?_)
 have hP : Post No [memR a1g a1, znw b1 ((znu a0)).toArray 25, rowK 22 1 u64 (Value.slice none 0 0) ([])] w0 w7 := hP.nilRow 22 1 u64
 refine zdd (X := List Int × Int) (G := Value) (x0 := ([], x6)) (fun x γ => [(0, (.agg (znu a0).toArray)), (1, (zp a1g.mb)), (2, (I a2)), (3, (I a3)), (4, (zp b1)), (8, (Value.slice none 0 0)), (9, γ), (10, (U x.2))]) (fun x γ w => Post No [memR a1g a1, znw b1 ((znu a0)).toArray 25, rowK 22 1 u64 γ x.1] w0 w) (Value.slice none 0 0) r (za1 rfl (za1 rfl (za1 rfl (za1 rfl (za1 rfl (za1 rfl (za1 rfl (za1 rfl zaJ)))))))) hP hD ?_ ?_
 ·
  rintro x9 γ10 fr w12 g y11 RPy11 nxy11 bky11 rty11 r hP hD
  have hP : Post No [memR a1g a1, znw b1 ((znu a0)).toArray 25, rowK 22 1 u64 γ10 x9.1] w0 w12 := hP
  refine wp_seq (wsr (za0 γ10 r (fun R => za9 r rfl) rfl fun fr r => za0 (I (x9.1.length : Int)) r (fun R => zcu r (hP.row (i := 2) rfl).ro is49 rfl) rfl fun fr r => za0 _ r (fun R => za4 r (o := 0) rfl zeD) rfl fun fr r => za0 (I a0.nodes) r (fun R => za3 r rfl (hP.cell (i := 1) rfl) to3 rfl) rfl fun fr r => za0 _ r (fun R => znA r rfl rfl rfl rfl) rfl fun fr r => wn ?_))
  refine wp_cond_split (t := (decide ((x9.1.length : Int) < a0.nodes))) (r.ev rfl) (fun h13 => ?_) (fun h13 => ?_)
  ·
   have hD := (zaq h13).symm.trans hD
   refine wp_skip (wp_block (wp_seq ?_))
   obtain ⟨x14, hx14, hD⟩ := zap hD
   refine zaI 7 [.val (zp a1g.mb), .val (I a2), .val (.agg (znu a0).toArray), .val (U x9.2), .val (I (D.zay x9.2)), .val (I (D.zaw a0 (D.zay x9.2) 2)), .val (U x14)] mixed r (by kernel_rfl) (za2 (by exact trivial) (za2 (by exact trivial) (za2 (by exact trivial) (za2 (by exact trivial) (za2 (by exact trivial) (za2 (by exact trivial) (za2 (by exact trivial) zaC))))))) ?_ ?_
   ·
    refine ec r (fun _ u _ b d s => za9 s rfl bz) (ec r (fun _ u _ b d s => za9 s rfl bz) (ec r (fun _ u _ b d s => za6 s (cs := (znu a0)) (n := 6) rfl ((hP.below (dr b)).cell (i := 1) rfl) ta25 rfl bz) (ec r (fun _ u _ b d s => za9 s rfl bz) (ec r (fun fr1 u w' hb' hd r' => zac r' (args := [(U x9.2)]) (lc hd.1 l0) zoq ((zda _ x9.2).mono (by rintro _ w2 ⟨rfl, hb2⟩; exact ⟨_, rfl, hb2, rfl⟩))) (ec r (fun fr1 u w' hb' hd r' => zac r' (args := [(.agg (znu a0).toArray), (I (D.zay x9.2)), (I 2)]) (lc hd.1 (lc hd.2.1 (lc rfl l0))) zop ((zbP _ a0 (D.zay x9.2) 2).mono (by rintro _ w2 ⟨rfl, hb2⟩; exact ⟨_, rfl, hb2, rfl⟩))) (ec r (fun fr1 u w' hb' hd r' => zac r' (args := [(zp a1g.mb), (I a2), (I (D.zaw a0 (D.zay x9.2) 2))]) (lc hd.1 (lc hd.2.1 (lc hd.2.2.1 l0))) cl51 ((zbr _ a1 ((hP.below (dr hb')).memr (i := 0) rfl) a2 (D.zaw a0 (D.zay x9.2) 2) hx14).mono (by rintro _ w2 ⟨rfl, hb2⟩; exact ⟨_, rfl, hb2, rfl⟩))) ?_))))))
    exact zaV
   ·
    intro fr u w15 hb hΦ hne r
    have r := r.congr (sc (hΦ 6 (by decide)) (sc (hΦ 5 (by decide)) (sc (hΦ 4 (by decide)) (sc (hΦ 3 (by decide)) (sc (hΦ 2 (by decide)) (sc (hΦ 1 (by decide)) (sc (hΦ 0 (by decide)) rfl)))))))
    have hP : Post No [memR a1g a1, znw b1 ((znu a0)).toArray 25, rowK 22 1 u64 γ10 x9.1] w0 w15 := hP.below hb
    refine za0 (U x14) r (fun R => za7 r rfl) rfl fun fr r => wn (wp_seq (wsr (za0 (U x14) r (fun R => za9 r rfl) rfl fun fr r => za0 _ r (fun R => znA r rfl rfl rfl rfl) rfl fun fr r => wn ?_)))
    refine wp_cond_split (t := (x14 == 0)) (r.ev rfl) (fun h16 => ?_) (fun h16 => ?_)
    ·
     have hD := (zaq h16).symm.trans hD
     refine wp_exit ?_
     exact bky11 (x9.1, x14) γ10 _ _ _ hD r (za1 rfl (za1 rfl (za1 rfl (za1 rfl (za1 rfl (za1 rfl (za1 rfl (za1 rfl zaJ)))))))) (hP.pick [0, 1, 2] rfl rfl)
    ·
     have hD := (zak h16).symm.trans hD
     refine wp_skip ?_
     obtain ⟨x17, hx17, hD⟩ := zap hD
     refine zl5 9 [.val γ10, .val (zp a1g.mb), .val (I a2), .val (.agg (znu a0).toArray), .val (U x14), .val (I (D.zay x14)), .val (I (D.zaw a0 (D.zay x14) 1)), .val (U x17), .pred (MkP (fun v : Value => v) (fun v : Value => [rowK 22 1 u64 v ([x17])])) (MkP.st _ _)] mixed r (by kernel_rfl) ?_ ?_
     ·
      refine fc r (fun fr1 g w' hb' hd r' => za9 r' rfl bz) ?_
      refine fc r (fun fr1 g w' hb' hd r' => za9 r' rfl bz) ?_
      refine fc r (fun fr1 g w' hb' hd r' => za9 r' rfl bz) ?_
      refine fc r (fun fr1 g w' hb' hd r' => za6 r' (cs := (znu a0)) (n := 6) rfl ((hP.below (dr hb')).cell (i := 1) rfl) ta25 rfl bz) ?_
      refine fc r (fun fr1 g w' hb' hd r' => za9 r' rfl bz) ?_
      refine fc r (fun fr1 g w' hb' hd r' => zac r' (args := [(U x14)]) (lc (hd 4 rfl).1 l0) zoq ((zda _ x14).mono (by rintro _ w2 ⟨rfl, hb2⟩; exact ⟨_, rfl, hb2, rfl⟩))) ?_
      refine fc r (fun fr1 g w' hb' hd r' => zac r' (args := [(.agg (znu a0).toArray), (I (D.zay x14)), (I 1)]) (lc (hd 3 rfl).1 (lc (hd 5 rfl).1 (lc rfl l0))) zop ((zbP _ a0 (D.zay x14) 1).mono (by rintro _ w2 ⟨rfl, hb2⟩; exact ⟨_, rfl, hb2, rfl⟩))) ?_
      refine fc r (fun fr1 g w' hb' hd r' => zac r' (args := [(zp a1g.mb), (I a2), (I (D.zaw a0 (D.zay x14) 1))]) (lc (hd 1 rfl).1 (lc (hd 2 rfl).1 (lc (hd 6 rfl).1 l0))) cl51 ((zbr _ a1 ((hP.below (dr hb')).memr (i := 0) rfl) a2 (D.zaw a0 (D.zay x14) 1) hx17).mono (by rintro _ w2 ⟨rfl, hb2⟩; exact ⟨_, rfl, hb2, rfl⟩))) ?_
      refine fc r (fun fr1 g w' hb' hd r' => zcv r' (c := (([x17]).flatMap u64).toArray) (E := 22) (bs1 (congrArg (fun z => (0, z)) (hd 7 rfl).1) (by kernel_rfl)) (fun b w2 n2 => ⟨n2.below, MkP.newRow n2 (fun _ => rfl) rfl⟩)) ?_
      exact zbD
     ·
      intro fr gg w20 hb hΦ hap r
      obtain ⟨v18, g8, hs8⟩ := (hΦ 8 rfl).1
      have r := r.congr (sc g8 (sc ((hΦ 7 rfl).1) (sc ((hΦ 6 rfl).1) (sc ((hΦ 5 rfl).1) (sc ((hΦ 4 rfl).1) (sc ((hΦ 3 rfl).1) (sc ((hΦ 2 rfl).1) (sc ((hΦ 1 rfl).1) (sc ((hΦ 0 rfl).1) rfl)))))))))
      have hP : Post No [memR a1g a1, znw b1 ((znu a0)).toArray 25, rowK 22 1 u64 γ10 x9.1, rowK 22 1 u64 v18 ([x17])] w0 w20 := hP.addL (l := [([rowK 22 1 u64 v18 ([x17])], (gg 8).lo, (gg 8).hi)]) hb ⟨hs8, (hΦ 8 rfl).2.1, zeh, trivial⟩
      obtain ⟨x21, hx21, hD⟩ := zap hD
      refine zk3 22 1 u64 γ10 r (fun R => ziF r rt49 (fun _ => rfl) (fun _ => rfl) (hP.row (i := 2) rfl) (hP.row (i := 3) rfl).ro hx21 rfl rfl) rfl fun fr v22 w23 ha24 r => ?_
      have hP : Post No [memR a1g a1, znw b1 ((znu a0)).toArray 25, rowK 22 1 u64 v22 x21, rowK 22 1 u64 v18 ([x17])] w0 w23 := hP.append (i := 2) rfl ha24
      refine za0 v22 r (fun R => za7 r rfl) rfl fun fr r => wn ?_
      exact nxy11 (x21, x14) v22 _ _ _ hD r (za1 rfl (za1 rfl (za1 rfl (za1 rfl (za1 rfl (za1 rfl (za1 rfl (za1 rfl zaJ)))))))) (hP.pick [0, 1, 2] rfl rfl)
  ·
   have hD := (zak h13).symm.trans hD
   refine wp_exit ?_
   exact bky11 (x9.1, x9.2) γ10 _ _ _ hD r (za1 rfl (za1 rfl (za1 rfl (za1 rfl (za1 rfl (za1 rfl (za1 rfl (za1 rfl zaJ)))))))) (hP.pick [0, 1, 2] rfl rfl)
 ·
  rintro x25 γ26 fr w27 g r hP hD
  have hP : Post No [memR a1g a1, znw b1 ((znu a0)).toArray 25, rowK 22 1 u64 γ26 x25.1] w0 w27 := hP
  refine wsr (za0 γ26 r (fun R => za9 r rfl) rfl fun fr r => za0 γ26 r (fun R => za7 r rfl) rfl fun fr r => wn (wp_ret ?_))
  have hv : x25.1 = res := Option.some.inj hD
  try dsimp only [Exit.then, Exit.inBlock]
  refine zaz (fn := Tryz.f62) r (t := 8) rfl (v := γ26) rfl ?_
  subst hv
  exact ⟨γ26, rfl, (hP.pick [2] rfl rfl).done (zbI rfl zca)⟩
def D.zcI (c0 : Where) (c1 : (Unit → T Res)) : T Res := (D.zbF c0 0 (-1) c1)
theorem zgd {n : Nat} {F : Nat → Prop} {w0 : World} (hF : ∀ b, F b → b < w0.heap.size)
    (c0 : Where) {c0b : Nat} (c0F : F c0b) (c0h : w0.heap[c0b]? = some (.cells ((znJ c0)).toArray 219 (0, 0))) {c1f : FuncId} {c1_1 c1_2 : List Value} {c1 : (Unit → T Res)} {c1b : Nat} (c1F : F c1b) (c1h : w0.heap[c1b]? = some (.cells #[.func (.func c1f) c1_1.toArray c1_2.toArray] 197 (0, 0))) (c1n : FnT Tryz.prog znx unitE (n + 1) F w0 (.func (.func c1f) c1_1.toArray c1_2.toArray) c1) :
    Calls Tryz.prog 375 #[zp c0b, zp c1b] w0 (zny Tryz.prog znx n (D.zcI c0 c1) F w0) := by
 refine enter Tryz.func375 rfl 6 rfl rfl fun fr r => ?_
 have hB := Below.refl w0.heap.size w0
 have lc0b := lt_of_block c0h
 have lc1b := lt_of_block c1h
 refine wsr ?_
 refine za5 (.cells (znt false znx.zero 0 0 0 0 .nilFunc) 39 (0, 0)) r (fun R => zag tz39) rfl fun fr b1 w2 n3 r => ?_
 obtain ⟨e_b1, z_w2, h_b1, hB, zB⟩ := n3.all hB
 refine wn (wsr (za0 (.agg (znJ c0).toArray) r (fun R => za6 r (cs := (znJ c0)) (n := 10) rfl (keep hB c0h) zo5 rfl) rfl fun fr r => za0 (.func (.func c1f) c1_1.toArray c1_2.toArray) r (fun R => za3 r rfl (keep hB c1h) zpj rfl) rfl fun fr r => ?_))
 have hF1 := znI hF hB b1
 refine za8 r (zdl (F := (fun b => F b ∨ (w0.heap.size ≤ b ∧ b < w2.heap.size ∧ b ≠ b1))) (n := n) hF1 c0 0 (-1) (c1n.mono (by omega) (fun b h => .inl h) (Same.below hB hF) hB.size)) (fun R hc => zac r rfl zoR hc) rfl ?_
 rintro _ w4 ⟨v5, rfl, hb, hr6⟩
 refine ⟨_, rfl, fun fr r => ?_⟩
 have z_w4 := hb.size
 have h_b1 := keep hb h_b1
 obtain ⟨hB, zB⟩ := bon hb hB
 refine zae (.cells v5.cells 39 (0, 0)) r (fun R => zaf r hr6.shape rfl rfl h_b1 ts39 rfl) rfl fun fr w7 u8 r => ?_
 have z_w7 := u8.size
 have h_b1 := u8.at_
 obtain ⟨hB, zB⟩ := u8.on hB (by omega)
 refine wn (wp_ret ?_)
 have hs := hr6.shape.cells
 refine zad r rfl rfl h_b1 (k := 8) hs.1 ta39 ?_
 rw [← hs.2.2]
 exact rfin hF hB hr6 u8 (by omega) (by omega) (by omega)
def D.zbN (a0 : Where) (a1 : (Unit → T Res)) : T Res := (D.zbF a0 1 (-1) (fun _ => (D.zcI a0 a1)))
theorem zeQ {n : Nat} {F : Nat → Prop} {w0 : World} (hF : ∀ b, F b → b < w0.heap.size)
    (a0 : Where) {a1f : FuncId} {a1_1 a1_2 : List Value} {a1 : (Unit → T Res)} (a1n : FnT Tryz.prog znx unitE (n + 1) F w0 (.func (.func a1f) a1_1.toArray a1_2.toArray) a1) :
    Calls Tryz.prog 330 #[.agg (znJ a0).toArray, .func (.func a1f) a1_1.toArray a1_2.toArray] w0 (zny Tryz.prog znx n (D.zbN a0 a1) F w0) := by
 refine enter Tryz.func330 rfl 8 rfl rfl fun fr r => ?_
 have hB := Below.refl w0.heap.size w0
 refine wsr ?_
 refine za5 (.cells ((znJ a0)).toArray 219 (0, 0)) r (fun R => znF r (v := (.agg (znJ a0).toArray)) rfl) rfl fun fr b1 w2 n3 r => ?_
 obtain ⟨e_b1, z_w2, h_b1, hB, zB⟩ := n3.all hB
 refine za5 (.cells #[.func (.func a1f) a1_1.toArray a1_2.toArray] 197 (0, 0)) r (fun R => znF r (v := (.func (.func a1f) a1_1.toArray a1_2.toArray)) rfl) rfl fun fr b4 w5 n6 r => ?_
 have h_b1 := keep n6.below h_b1
 obtain ⟨e_b4, z_w5, h_b4, hB, zB⟩ := n6.all hB
 refine za5 (.cells (znt false znx.zero 0 0 0 0 .nilFunc) 39 (0, 0)) r (fun R => zag tz39) rfl fun fr b7 w8 n9 r => ?_
 have h_b1 := keep n9.below h_b1
 have h_b4 := keep n9.below h_b4
 obtain ⟨e_b7, z_w8, h_b7, hB, zB⟩ := n9.all hB
 refine wn (wsr (za0 (.agg (znJ a0).toArray) r (fun R => za6 r (cs := (znJ a0)) (n := 10) rfl h_b1 zo5 rfl) rfl fun fr r => za0 (.func (.func 375) #[] #[zp b1, zp b4]) r (fun R => zao r rfl) rfl fun fr r => ?_))
 have hF1 := znI hF hB b7
 have f10 : ((fun b => F b ∨ (w0.heap.size ≤ b ∧ b < w8.heap.size ∧ b ≠ b7))) b1 := (.inr ⟨by omega, by omega, by omega⟩)
 have f11 : ((fun b => F b ∨ (w0.heap.size ≤ b ∧ b < w8.heap.size ∧ b ≠ b7))) b4 := (.inr ⟨by omega, by omega, by omega⟩)
 refine za8 r (zdl (F := (fun b => F b ∨ (w0.heap.size ≤ b ∧ b < w8.heap.size ∧ b ≠ b7))) (n := n) hF1 a0 1 (-1) ⟨375, [], [zp b1, zp b4], zrD, rfl, fun m hm _ w' hs hz => zgd (fun b hb => Nat.lt_of_lt_of_le (hF1 b hb) hz) a0 f10 (hs.at_ f10 h_b1) f11 (hs.at_ f11 h_b4) (a1n.mono (by omega) (fun b h => .inl h) ((Same.below hB hF).trans (hs.sub (fun b h => .inl h))) (Nat.le_trans hB.size hz))⟩) (fun R hc => zac r rfl zoR hc) rfl ?_
 rintro _ w12 ⟨v13, rfl, hb, hr14⟩
 refine ⟨_, rfl, fun fr r => ?_⟩
 have z_w12 := hb.size
 have h_b1 := keep hb h_b1
 have h_b4 := keep hb h_b4
 have h_b7 := keep hb h_b7
 obtain ⟨hB, zB⟩ := bon hb hB
 refine zae (.cells v13.cells 39 (0, 0)) r (fun R => zaf r hr14.shape rfl rfl h_b7 ts39 rfl) rfl fun fr w15 u16 r => ?_
 have z_w15 := u16.size
 have h_b1 := u16.keep h_b1 (by omega)
 have h_b4 := u16.keep h_b4 (by omega)
 have h_b7 := u16.at_
 obtain ⟨hB, zB⟩ := u16.on hB (by omega)
 refine wn (wp_ret ?_)
 have hs := hr14.shape.cells
 refine zad r rfl rfl h_b7 (k := 8) hs.1 ta39 ?_
 rw [← hs.2.2]
 exact rfin hF hB hr14 u16 (by omega) (by omega) (by omega)
def D.zcK  : T Res := (D.zdG 6)
theorem zgj {n : Nat} {F : Nat → Prop} {w0 : World} (hF : ∀ b, F b → b < w0.heap.size)
     :
    Calls Tryz.prog 331 #[] w0 (zny Tryz.prog znx n D.zcK F w0) := by
 refine enter Tryz.func331 rfl 2 rfl rfl fun fr r => ?_
 have hB := Below.refl w0.heap.size w0
 refine wsr ?_
 refine za5 (.cells (znt false znx.zero 0 0 0 0 .nilFunc) 39 (0, 0)) r (fun R => zag tz39) rfl fun fr b1 w2 n3 r => ?_
 obtain ⟨e_b1, z_w2, h_b1, hB, zB⟩ := n3.all hB
 refine wn (wsr ?_)
 have hF1 := znI hF hB b1
 refine za8 r (zf7 (F := (fun b => F b ∨ (w0.heap.size ≤ b ∧ b < w2.heap.size ∧ b ≠ b1))) (n := n) hF1 6) (fun R hc => zac r rfl zoW hc) rfl ?_
 rintro _ w4 ⟨v5, rfl, hb, hr6⟩
 refine ⟨_, rfl, fun fr r => ?_⟩
 have z_w4 := hb.size
 have h_b1 := keep hb h_b1
 obtain ⟨hB, zB⟩ := bon hb hB
 refine zae (.cells v5.cells 39 (0, 0)) r (fun R => zaf r hr6.shape rfl rfl h_b1 ts39 rfl) rfl fun fr w7 u8 r => ?_
 have z_w7 := u8.size
 have h_b1 := u8.at_
 obtain ⟨hB, zB⟩ := u8.on hB (by omega)
 refine wn (wp_ret ?_)
 have hs := hr6.shape.cells
 refine zad r rfl rfl h_b1 (k := 8) hs.1 ta39 ?_
 rw [← hs.2.2]
 exact rfin hF hB hr6 u8 (by omega) (by omega) (by omega)
def D.zcp (c0 : Int) (a0 : Int) : T Res := (D.zfQ (⟨0, c0⟩ : Res))
theorem zeO {n : Nat} {F : Nat → Prop} {w0 : World} (hF : ∀ b, F b → b < w0.heap.size)
    (c0 : Int) {c0b : Nat} (c0F : F c0b) (c0h : w0.heap[c0b]? = some (.cells ([(.int .u64 c0)]).toArray 22 (0, 0))) (a0 : Int) :
    Calls Tryz.prog 336 #[.int .i64 a0, zp c0b] w0 (zny Tryz.prog znx n (D.zcp c0 a0) F w0) := by
 refine enter Tryz.func336 rfl 7 rfl rfl fun fr r => ?_
 have hB := Below.refl w0.heap.size w0
 have lc0b := lt_of_block c0h
 refine wsr ?_
 refine za5 (.cells (znt false znx.zero 0 0 0 0 .nilFunc) 39 (0, 0)) r (fun R => zag tz39) rfl fun fr b1 w2 n3 r => ?_
 obtain ⟨e_b1, z_w2, h_b1, hB, zB⟩ := n3.all hB
 refine wn (wsr (za0 (U c0) r (fun R => za3 r rfl (keep hB c0h) to22 rfl) rfl fun fr r => za0 (.agg (resC (⟨0, c0⟩ : Res)).toArray) r (fun R => zaQ r (by kernel_rfl)) rfl fun fr r => ?_))
 have hF1 := znI hF hB b1
 refine za8 r (zgw (F := (fun b => F b ∨ (w0.heap.size ≤ b ∧ b < w2.heap.size ∧ b ≠ b1))) (n := n) hF1 (⟨0, c0⟩ : Res)) (fun R hc => zac r rfl zqm hc) rfl ?_
 rintro _ w4 ⟨v5, rfl, hb, hr6⟩
 refine ⟨_, rfl, fun fr r => ?_⟩
 have z_w4 := hb.size
 have h_b1 := keep hb h_b1
 obtain ⟨hB, zB⟩ := bon hb hB
 refine zae (.cells v5.cells 39 (0, 0)) r (fun R => zaf r hr6.shape rfl rfl h_b1 ts39 rfl) rfl fun fr w7 u8 r => ?_
 have z_w7 := u8.size
 have h_b1 := u8.at_
 obtain ⟨hB, zB⟩ := u8.on hB (by omega)
 refine wn (wp_ret ?_)
 have hs := hr6.shape.cells
 refine zad r rfl rfl h_b1 (k := 8) hs.1 ta39 ?_
 rw [← hs.2.2]
 exact rfin hF hB hr6 u8 (by omega) (by omega) (by omega)
def D.zc9 (j : Nat) (c0 : Where) (c1 : Int) (c2 : Int) : T Res := (T.bind (D.zek j c0.seat.p c0.seat.thread (D.zay c1)) (fun x => (D.zcp c2 x)))
theorem zfe {n : Nat} {F : Nat → Prop} {j : Nat} {w0 : World} (hF : ∀ b, F b → b < w0.heap.size) (hj : n < j)
    (c0 : Where) {c0b : Nat} (c0F : F c0b) (c0h : w0.heap[c0b]? = some (.cells ((znJ c0)).toArray 219 (0, 0))) (c1 : Int) {c1b : Nat} (c1F : F c1b) (c1h : w0.heap[c1b]? = some (.cells ([(.int .u64 c1)]).toArray 22 (0, 0))) (c2 : Int) {c2b : Nat} (c2F : F c2b) (c2h : w0.heap[c2b]? = some (.cells ([(.int .u64 c2)]).toArray 22 (0, 0))) :
    Calls Tryz.prog 335 #[zp c0b, zp c1b, zp c2b] w0 (zny Tryz.prog znx n (D.zc9 j c0 c1 c2) F w0) := by
 refine enter Tryz.func335 rfl 15 rfl rfl fun fr r => ?_
 have hB := Below.refl w0.heap.size w0
 have lc0b := lt_of_block c0h
 have lc1b := lt_of_block c1h
 have lc2b := lt_of_block c2h
 refine wsr ?_
 refine za5 (.cells (znt false znx.zero 0 0 0 0 .nilFunc) 39 (0, 0)) r (fun R => zag tz39) rfl fun fr b1 w2 n3 r => ?_
 obtain ⟨e_b1, z_w2, h_b1, hB, zB⟩ := n3.all hB
 refine wn (wp_seq ?_)
 have hF1 := znI hF hB b1
 refine zaI 10 [.val (zp c0b), .val (zp c0b), .val (.agg (znu c0.seat.p).toArray), .val (zp c0b), .val (.pointer (some ⟨c0b, 7, none⟩)), .val (I c0.seat.thread), .val (U c1), .val (I (D.zay c1)), .pred (PrepP Tryz.prog znz n (D.zek j c0.seat.p c0.seat.thread (D.zay c1)) ((fun b => F b ∨ (w0.heap.size ≤ b ∧ b < w2.heap.size ∧ b ≠ b1))) w2) (PrepP.st hF1), .val (.func (.func 336) #[] #[zp c2b])] mixed r (by kernel_rfl) (za2 (by exact trivial) (za2 (by exact trivial) (za2 (by exact trivial) (za2 (by exact trivial) (za2 (by exact trivial) (za2 (by exact trivial) (za2 (by exact trivial) (za2 (by exact trivial) (za2 (by exact trivial) (za2 (by exact trivial) zaC)))))))))) ?_ ?_
 ·
  refine ec r (fun _ u _ b d s => za4 s (b := c0b) (o := 0) rfl zdN bz) (ec r (fun _ u _ b d s => za4 s (b := c0b) (o := 0) d.1 zgs bz) (ec r (fun _ u _ b d s => za6 s (cs := (znu c0.seat.p)) (n := 6) d.1 (znU hB b c0h) ta25 rfl bz) (ec r (fun _ u _ b d s => za4 s (b := c0b) (o := 0) rfl zdN bz) (ec r (fun _ u _ b d s => za4 s (b := c0b) (o := 0) d.1 zkq bz) (ec r (fun _ u _ b d s => za3 s d.1 (znU hB b c0h) to3 rfl bz) (ec r (fun _ u _ b d s => za3 s rfl (znU hB b c1h) to22 rfl bz) (ec r (fun fr1 u w' hb' hd r' => zac r' (args := [(U c1)]) (lc hd.1 l0) zoq ((zda _ c1).mono (by rintro _ w2 ⟨rfl, hb2⟩; exact ⟨_, rfl, hb2, rfl⟩))) (ec r (fun fr1 u w' hb' hd r' => zac r' (args := [(.agg (znu c0.seat.p).toArray), (I c0.seat.thread), (I (D.zay c1))]) (lc hd.1 (lc hd.2.1 (lc hd.2.2.1 l0))) cl93 ((zj9 (j := j) (F := (fun b => F b ∨ (w0.heap.size ≤ b ∧ b < w2.heap.size ∧ b ≠ b1))) (n := n) (fun b h => Nat.lt_of_lt_of_le (hF1 b h) hb'.size) (by omega) c0.seat.p c0.seat.thread (D.zay c1)).mono (by rintro _ w2 ⟨y, rfl, hb2, hr2⟩; exact ⟨_, rfl, hb2, PrepP.of (drB hb') hb2 hr2⟩))) (ec r (fun _ u _ b d s => zao s (v := (.func (.func 336) #[] #[zp c2b])) rfl bz) ?_)))))))))
  exact zaV
 ·
  intro fr u w4 hb hΦ hne r
  obtain ⟨v5, hv8⟩ : ∃ v, v = u 8 := ⟨_, rfl⟩
  have g8 : u 8 = v5 := hv8.symm
  have hr6 := (hΦ 8 (by decide)).2
  rw [g8] at hr6
  have r := r.congr (sc (hΦ 9 (by decide)) (sc g8 (sc (hΦ 7 (by decide)) (sc (hΦ 6 (by decide)) (sc (hΦ 5 (by decide)) (sc (hΦ 4 (by decide)) (sc (hΦ 3 (by decide)) (sc (hΦ 2 (by decide)) (sc (hΦ 1 (by decide)) (sc (hΦ 0 (by decide)) rfl))))))))))
  have z_w4 := hb.size
  have h_b1 := keep hb h_b1
  obtain ⟨hB, zB⟩ := bon hb hB
  have hF1 := znI hF hB b1
  have f7 : ((fun b => F b ∨ (w0.heap.size ≤ b ∧ b < w4.heap.size ∧ b ≠ b1))) c2b := (.inl c2F)
  refine za8 r (zg1 (F := (fun b => F b ∨ (w0.heap.size ≤ b ∧ b < w4.heap.size ∧ b ≠ b1))) (n := n) hF1 (Rep.mono (by rintro b (h | h); (rcases h with h | ⟨h1, h2, h3⟩; exact .inl h; exact .inr ⟨h1, by omega, h3⟩); exact .inr ⟨by omega, by omega, by omega⟩) (Same.refl _ _) (by omega) n _ _ hr6) ⟨336, [], [zp c2b], zr1, rfl, fun m hm x w' hs hz => zeO (fun b hb => Nat.lt_of_lt_of_le (hF1 b hb) hz) c2 f7 (hs.at_ f7 (keep hB c2h)) x⟩) (fun R hc => zac r rfl zqg hc) rfl ?_
  rintro _ w8 ⟨v9, rfl, hb, hr10⟩
  refine ⟨_, rfl, fun fr r => ?_⟩
  have z_w8 := hb.size
  have h_b1 := keep hb h_b1
  obtain ⟨hB, zB⟩ := bon hb hB
  refine zae (.cells v9.cells 39 (0, 0)) r (fun R => zaf r hr10.shape rfl rfl h_b1 ts39 rfl) rfl fun fr w11 u12 r => ?_
  have z_w11 := u12.size
  have h_b1 := u12.at_
  obtain ⟨hB, zB⟩ := u12.on hB (by omega)
  refine wn (wp_ret ?_)
  have hs := hr10.shape.cells
  refine zad r rfl rfl h_b1 (k := 8) hs.1 ta39 ?_
  rw [← hs.2.2]
  exact rfin hF hB hr10 u12 (by omega) (by omega) (by omega)
def D.zc0 (j : Nat) (r_queue_where_take : Where → T Res) (c0 : Where) (c1 : Int) (c2 : Int) (a0 : Bool) : T Res := (bif (!a0) then (r_queue_where_take c0) else (D.zbN c0 (fun _ => (D.zc9 j c0 c1 c2))))
def D.zcL (j : Nat) (r_queue_where_take : Where → T Res) (c0 : Where) (c1 : Int) (c2 : Int) (a0 : Int) : T Res := (D.zbH c0.head c1 c2 (fun x => (D.zc0 j r_queue_where_take c0 c1 a0 x)))
def D.zdD (j : Nat) (r_queue_where_take : Where → T Res) (c0 : Where) (a0 : Bool) : T Res := (r_queue_where_take c0)
def D.zbq (j : Nat) (r_queue_where_take : Where → T Res) (a0 : Where) (a1 : Int) (a2 : Int) (a3 : Int) : T Res := (bif (a3 == 0) then (D.zbN a0 (fun _ => D.zcK)) else (bif (a1 == a2) then (D.zbH a0.tail a2 a3 (fun x => (D.zdD j r_queue_where_take a0 x))) else (D.zc8 (D.zaw a0.seat.p (D.zay a3) 1) (fun x => (D.zcL j r_queue_where_take a0 a1 a3 x)))))
def D.zbs (j : Nat) (r_queue_where_take : Where → T Res) (c0 : Int) (c1 : Where) (c2 : Int) (c3 : Int) (a0 : Int) : T Res := (bif (a0 != c0) then (r_queue_where_take c1) else (D.zbq j r_queue_where_take c1 c0 c2 c3))
def D.zc4 (j : Nat) (r_queue_where_take : Where → T Res) (c0 : Where) (c1 : Int) (c2 : Int) (c3 : Int) : T Res := (D.zc8 c0.head (fun x => (D.zbs j r_queue_where_take c1 c0 c2 c3 x)))
def D.zcY (j : Nat) (r_queue_where_take : Where → T Res) (c0 : Where) (c1 : Int) (c2 : Int) (a0 : Int) : T Res := (D.zbF c0 1 (D.zay a0) (fun _ => (D.zc4 j r_queue_where_take c0 c1 c2 a0)))
def D.zdo (j : Nat) (r_queue_where_take : Where → T Res) (c0 : Where) (c1 : Int) (a0 : Int) : T Res := (D.zc8 (D.zaw c0.seat.p (D.zay c1) 2) (fun x => (D.zcY j r_queue_where_take c0 c1 a0 x)))
def D.zd1 (j : Nat) (r_queue_where_take : Where → T Res) (c0 : Where) (a0 : Int) : T Res := (D.zc8 c0.tail (fun x => (D.zdo j r_queue_where_take c0 a0 x)))
def D.zcn (j : Nat) (r_queue_where_take : Where → T Res) (a0 : Where) : T Res := (T.bind (D.zd6 j a0.seat.p a0.seat.thread 0 a0.head 0) (fun x => (D.zd1 j r_queue_where_take a0 x)))
def D.zbJ (j : Nat) : Nat → Where → T Res
  | 0, _ => .cut
  | k + 1, a0 => D.zcn j (D.zbJ j k) a0
def zb3 (r : Where → T Res) (n : Nat) : Prop := ∀ (F : Nat → Prop) (w0 : World), (∀ b, F b → b < w0.heap.size) → ∀ (a0 : Where), Calls Tryz.prog 147 #[.agg (znJ a0).toArray] w0 (zny Tryz.prog znx n (r a0) F w0)
theorem zfL {n : Nat} {F : Nat → Prop} {j : Nat} {r_queue_where_take : Where → T Res} {w0 : World} (hF : ∀ b, F b → b < w0.heap.size) (hj : n < j) (ih_queue_where_take : ∀ m, m ≤ n → zb3 r_queue_where_take m)
    (c0 : Where) {c0b : Nat} (c0F : F c0b) (c0h : w0.heap[c0b]? = some (.cells ((znJ c0)).toArray 219 (0, 0))) (c1 : Int) {c1b : Nat} (c1F : F c1b) (c1h : w0.heap[c1b]? = some (.cells ([(.int .u64 c1)]).toArray 22 (0, 0))) (c2 : Int) {c2b : Nat} (c2F : F c2b) (c2h : w0.heap[c2b]? = some (.cells ([(.int .u64 c2)]).toArray 22 (0, 0))) (a0 : Bool) :
    Calls Tryz.prog 334 #[.bool a0, zp c0b, zp c1b, zp c2b] w0 (zny Tryz.prog znx n (D.zc0 j r_queue_where_take c0 c1 c2 a0) F w0) := by
 refine enter Tryz.func334 rfl 13 rfl rfl fun fr r => ?_
 have hB := Below.refl w0.heap.size w0
 have lc0b := lt_of_block c0h
 have lc1b := lt_of_block c1h
 have lc2b := lt_of_block c2h
 refine wsr ?_
 refine za5 (.cells (znt false znx.zero 0 0 0 0 .nilFunc) 39 (0, 0)) r (fun R => zag tz39) rfl fun fr b1 w2 n3 r => ?_
 obtain ⟨e_b1, z_w2, h_b1, hB, zB⟩ := n3.all hB
 refine wn (wp_seq (wsr (za0 (.bool a0) r (fun R => za9 r rfl) rfl fun fr r => za0 (.bool (!a0)) r (fun R => y_un r (u := (.bool a0)) rfl rfl) rfl fun fr r => wn ?_)))
 refine wp_cond_split (t := (!a0)) (r.ev rfl) (fun h4 => ?_) (fun h4 => ?_)
 ·
  refine wsr (za0 (.agg (znJ c0).toArray) r (fun R => za6 r (cs := (znJ c0)) (n := 10) rfl (keep hB c0h) zo5 rfl) rfl fun fr r => ?_)
  have hF1 := znI hF hB b1
  refine za8 r ((ih_queue_where_take n (by omega)) (fun b => F b ∨ (w0.heap.size ≤ b ∧ b < w2.heap.size ∧ b ≠ b1)) _ hF1 c0) (fun R hc => zac r rfl zoZ hc) rfl ?_
  rintro _ w5 ⟨v6, rfl, hb, hr7⟩
  refine ⟨_, rfl, fun fr r => ?_⟩
  have z_w5 := hb.size
  have h_b1 := keep hb h_b1
  obtain ⟨hB, zB⟩ := bon hb hB
  refine zae (.cells v6.cells 39 (0, 0)) r (fun R => zaf r hr7.shape rfl rfl h_b1 ts39 rfl) rfl fun fr w8 u9 r => ?_
  have z_w8 := u9.size
  have h_b1 := u9.at_
  obtain ⟨hB, zB⟩ := u9.on hB (by omega)
  refine wn (wp_ret ?_)
  have hd : D.zc0 j r_queue_where_take c0 c1 c2 a0 = (r_queue_where_take c0) := (zaq h4).trans (rfl)
  have hs := hr7.shape.cells
  refine zad r rfl rfl h_b1 (k := 8) hs.1 ta39 ?_
  rw [← hs.2.2, hd]
  exact rfin hF hB hr7 u9 (by omega) (by omega) (by omega)
 ·
  refine wp_skip (wsr (za0 (.agg (znJ c0).toArray) r (fun R => za6 r (cs := (znJ c0)) (n := 10) rfl (keep hB c0h) zo5 rfl) rfl fun fr r => za0 (.func (.func 335) #[] #[zp c0b, zp c1b, zp c2b]) r (fun R => zao r rfl) rfl fun fr r => ?_))
  have hF1 := znI hF hB b1
  have f10 : ((fun b => F b ∨ (w0.heap.size ≤ b ∧ b < w2.heap.size ∧ b ≠ b1))) c0b := (.inl c0F)
  have f11 : ((fun b => F b ∨ (w0.heap.size ≤ b ∧ b < w2.heap.size ∧ b ≠ b1))) c1b := (.inl c1F)
  have f12 : ((fun b => F b ∨ (w0.heap.size ≤ b ∧ b < w2.heap.size ∧ b ≠ b1))) c2b := (.inl c2F)
  refine za8 r (zeQ (F := (fun b => F b ∨ (w0.heap.size ≤ b ∧ b < w2.heap.size ∧ b ≠ b1))) (n := n) hF1 c0 ⟨335, [], [zp c0b, zp c1b, zp c2b], zqz, rfl, fun m hm _ w' hs hz => zfe (j := j) (fun b hb => Nat.lt_of_lt_of_le (hF1 b hb) hz) (by omega) c0 f10 (hs.at_ f10 (keep hB c0h)) c1 f11 (hs.at_ f11 (keep hB c1h)) c2 f12 (hs.at_ f12 (keep hB c2h))⟩) (fun R hc => zac r rfl zpE hc) rfl ?_
  rintro _ w13 ⟨v14, rfl, hb, hr15⟩
  refine ⟨_, rfl, fun fr r => ?_⟩
  have z_w13 := hb.size
  have h_b1 := keep hb h_b1
  obtain ⟨hB, zB⟩ := bon hb hB
  refine zae (.cells v14.cells 39 (0, 0)) r (fun R => zaf r hr15.shape rfl rfl h_b1 ts39 rfl) rfl fun fr w16 u17 r => ?_
  have z_w16 := u17.size
  have h_b1 := u17.at_
  obtain ⟨hB, zB⟩ := u17.on hB (by omega)
  refine wn (wp_ret ?_)
  have hd : D.zc0 j r_queue_where_take c0 c1 c2 a0 = (D.zbN c0 (fun _ => (D.zc9 j c0 c1 c2))) := (zak h4).trans (rfl)
  have hs := hr15.shape.cells
  refine zad r rfl rfl h_b1 (k := 8) hs.1 ta39 ?_
  rw [← hs.2.2, hd]
  exact rfin hF hB hr15 u17 (by omega) (by omega) (by omega)
theorem zgp {n : Nat} {F : Nat → Prop} {j : Nat} {r_queue_where_take : Where → T Res} {w0 : World} (hF : ∀ b, F b → b < w0.heap.size) (hj : n < j) (ih_queue_where_take : ∀ m, m < n → zb3 r_queue_where_take m)
    (c0 : Where) {c0b : Nat} (c0F : F c0b) (c0h : w0.heap[c0b]? = some (.cells ((znJ c0)).toArray 219 (0, 0))) (c1 : Int) {c1b : Nat} (c1F : F c1b) (c1h : w0.heap[c1b]? = some (.cells ([(.int .u64 c1)]).toArray 22 (0, 0))) (c2 : Int) {c2b : Nat} (c2F : F c2b) (c2h : w0.heap[c2b]? = some (.cells ([(.int .u64 c2)]).toArray 22 (0, 0))) (a0 : Int) :
    Calls Tryz.prog 333 #[.int .u64 a0, zp c0b, zp c1b, zp c2b] w0 (zny Tryz.prog znx n (D.zcL j r_queue_where_take c0 c1 c2 a0) F w0) := by
 refine enter Tryz.func333 rfl 12 rfl rfl fun fr r => ?_
 have hB := Below.refl w0.heap.size w0
 have lc0b := lt_of_block c0h
 have lc1b := lt_of_block c1h
 have lc2b := lt_of_block c2h
 refine wsr ?_
 refine za5 (.cells #[(U a0)] 22 (0, 0)) r (fun R => znF r (v := (U a0)) rfl) rfl fun fr b1 w2 n3 r => ?_
 obtain ⟨e_b1, z_w2, h_b1, hB, zB⟩ := n3.all hB
 refine za5 (.cells (znt false znx.zero 0 0 0 0 .nilFunc) 39 (0, 0)) r (fun R => zag tz39) rfl fun fr b4 w5 n6 r => ?_
 have h_b1 := keep n6.below h_b1
 obtain ⟨e_b4, z_w5, h_b4, hB, zB⟩ := n6.all hB
 refine wn (wsr (za0 _ r (fun R => za4 r (o := 0) rfl zjJ) rfl fun fr r => za0 (I c0.head) r (fun R => za3 r rfl (keep hB c0h) to3 rfl) rfl fun fr r => za0 (U c1) r (fun R => za3 r rfl (keep hB c1h) to22 rfl) rfl fun fr r => za0 (U c2) r (fun R => za3 r rfl (keep hB c2h) to22 rfl) rfl fun fr r => za0 (.func (.func 334) #[] #[zp c0b, zp c1b, zp b1]) r (fun R => zao r rfl) rfl fun fr r => ?_))
 have hF1 := znI hF hB b4
 have f7 : ((fun b => F b ∨ (w0.heap.size ≤ b ∧ b < w5.heap.size ∧ b ≠ b4))) c0b := (.inl c0F)
 have f8 : ((fun b => F b ∨ (w0.heap.size ≤ b ∧ b < w5.heap.size ∧ b ≠ b4))) c1b := (.inl c1F)
 have f9 : ((fun b => F b ∨ (w0.heap.size ≤ b ∧ b < w5.heap.size ∧ b ≠ b4))) b1 := (.inr ⟨by omega, by omega, by omega⟩)
 refine za8 r (zd4 (F := (fun b => F b ∨ (w0.heap.size ≤ b ∧ b < w5.heap.size ∧ b ≠ b4))) (n := n) hF1 c0.head c1 c2 ⟨334, [], [zp c0b, zp c1b, zp b1], zs7, rfl, fun m hm x w' hs hz => zfL (j := j) (fun b hb => Nat.lt_of_lt_of_le (hF1 b hb) hz) (by omega) (fun m' hm' => ih_queue_where_take m' (by omega)) c0 f7 (hs.at_ f7 (keep hB c0h)) c1 f8 (hs.at_ f8 (keep hB c1h)) a0 f9 (hs.at_ f9 h_b1) x⟩) (fun R hc => zac r rfl zoC hc) rfl ?_
 rintro _ w10 ⟨v11, rfl, hb, hr12⟩
 refine ⟨_, rfl, fun fr r => ?_⟩
 have z_w10 := hb.size
 have h_b1 := keep hb h_b1
 have h_b4 := keep hb h_b4
 obtain ⟨hB, zB⟩ := bon hb hB
 refine zae (.cells v11.cells 39 (0, 0)) r (fun R => zaf r hr12.shape rfl rfl h_b4 ts39 rfl) rfl fun fr w13 u14 r => ?_
 have z_w13 := u14.size
 have h_b1 := u14.keep h_b1 (by omega)
 have h_b4 := u14.at_
 obtain ⟨hB, zB⟩ := u14.on hB (by omega)
 refine wn (wp_ret ?_)
 have hs := hr12.shape.cells
 refine zad r rfl rfl h_b4 (k := 8) hs.1 ta39 ?_
 rw [← hs.2.2]
 exact rfin hF hB hr12 u14 (by omega) (by omega) (by omega)
theorem zge {n : Nat} {F : Nat → Prop} {j : Nat} {r_queue_where_take : Where → T Res} {w0 : World} (hF : ∀ b, F b → b < w0.heap.size) (hj : n < j) (ih_queue_where_take : ∀ m, m ≤ n → zb3 r_queue_where_take m)
    (c0 : Where) {c0b : Nat} (c0F : F c0b) (c0h : w0.heap[c0b]? = some (.cells ((znJ c0)).toArray 219 (0, 0))) (a0 : Bool) :
    Calls Tryz.prog 332 #[.bool a0, zp c0b] w0 (zny Tryz.prog znx n (D.zdD j r_queue_where_take c0 a0) F w0) := by
 refine enter Tryz.func332 rfl 6 rfl rfl fun fr r => ?_
 have hB := Below.refl w0.heap.size w0
 have lc0b := lt_of_block c0h
 refine wsr ?_
 refine za5 (.cells (znt false znx.zero 0 0 0 0 .nilFunc) 39 (0, 0)) r (fun R => zag tz39) rfl fun fr b1 w2 n3 r => ?_
 obtain ⟨e_b1, z_w2, h_b1, hB, zB⟩ := n3.all hB
 refine wn (wsr (za0 (.agg (znJ c0).toArray) r (fun R => za6 r (cs := (znJ c0)) (n := 10) rfl (keep hB c0h) zo5 rfl) rfl fun fr r => ?_))
 have hF1 := znI hF hB b1
 refine za8 r ((ih_queue_where_take n (by omega)) (fun b => F b ∨ (w0.heap.size ≤ b ∧ b < w2.heap.size ∧ b ≠ b1)) _ hF1 c0) (fun R hc => zac r rfl zoZ hc) rfl ?_
 rintro _ w4 ⟨v5, rfl, hb, hr6⟩
 refine ⟨_, rfl, fun fr r => ?_⟩
 have z_w4 := hb.size
 have h_b1 := keep hb h_b1
 obtain ⟨hB, zB⟩ := bon hb hB
 refine zae (.cells v5.cells 39 (0, 0)) r (fun R => zaf r hr6.shape rfl rfl h_b1 ts39 rfl) rfl fun fr w7 u8 r => ?_
 have z_w7 := u8.size
 have h_b1 := u8.at_
 obtain ⟨hB, zB⟩ := u8.on hB (by omega)
 refine wn (wp_ret ?_)
 have hs := hr6.shape.cells
 refine zad r rfl rfl h_b1 (k := 8) hs.1 ta39 ?_
 rw [← hs.2.2]
 exact rfin hF hB hr6 u8 (by omega) (by omega) (by omega)
theorem zhg {n : Nat} {F : Nat → Prop} {j : Nat} {r_queue_where_take : Where → T Res} {w0 : World} (hF : ∀ b, F b → b < w0.heap.size) (hj : n < j) (ih_queue_where_take : ∀ m, m < n → zb3 r_queue_where_take m)
    (a0 : Where) (a1 : Int) (a2 : Int) (a3 : Int) :
    Calls Tryz.prog 250 #[.agg (znJ a0).toArray, .int .u64 a1, .int .u64 a2, .int .u64 a3] w0 (zny Tryz.prog znx n (D.zbq j r_queue_where_take a0 a1 a2 a3) F w0) := by
 refine enter Tryz.func250 rfl 32 rfl rfl fun fr r => ?_
 have hB := Below.refl w0.heap.size w0
 refine wsr ?_
 refine za5 (.cells ((znJ a0)).toArray 219 (0, 0)) r (fun R => znF r (v := (.agg (znJ a0).toArray)) rfl) rfl fun fr b1 w2 n3 r => ?_
 obtain ⟨e_b1, z_w2, h_b1, hB, zB⟩ := n3.all hB
 refine za5 (.cells #[(U a1)] 22 (0, 0)) r (fun R => znF r (v := (U a1)) rfl) rfl fun fr b4 w5 n6 r => ?_
 have h_b1 := keep n6.below h_b1
 obtain ⟨e_b4, z_w5, h_b4, hB, zB⟩ := n6.all hB
 refine za5 (.cells #[(U a3)] 22 (0, 0)) r (fun R => znF r (v := (U a3)) rfl) rfl fun fr b7 w8 n9 r => ?_
 have h_b1 := keep n9.below h_b1
 have h_b4 := keep n9.below h_b4
 obtain ⟨e_b7, z_w8, h_b7, hB, zB⟩ := n9.all hB
 refine za5 (.cells (znt false znx.zero 0 0 0 0 .nilFunc) 39 (0, 0)) r (fun R => zag tz39) rfl fun fr b10 w11 n12 r => ?_
 have h_b1 := keep n12.below h_b1
 have h_b4 := keep n12.below h_b4
 have h_b7 := keep n12.below h_b7
 obtain ⟨e_b10, z_w11, h_b10, hB, zB⟩ := n12.all hB
 refine wn (wp_seq (wp_block (wsr (za0 (U a3) r (fun R => za3 r rfl h_b7 to22 rfl) rfl fun fr r => za0 _ r (fun R => znA r rfl rfl rfl rfl) rfl fun fr r => za0 (.bool (a3 == 0)) r (fun R => za7 r rfl) rfl fun fr r => wn ?_))))
 refine wp_cond_split (t := (a3 == 0)) (r.ev rfl) (fun h13 => ?_) (fun h13 => ?_)
 ·
  refine wsr (za0 (.agg (znJ a0).toArray) r (fun R => za6 r (cs := (znJ a0)) (n := 10) rfl h_b1 zo5 rfl) rfl fun fr r => ?_)
  have hF1 := znI hF hB b10
  refine za8 r (zeQ (F := (fun b => F b ∨ (w0.heap.size ≤ b ∧ b < w11.heap.size ∧ b ≠ b10))) (n := n) hF1 a0 ⟨331, [], [], zrr, rfl, fun m hm _ w' hs hz => zgj (fun b hb => Nat.lt_of_lt_of_le (hF1 b hb) hz) ⟩) (fun R hc => zac r rfl zpE hc) rfl ?_
  rintro _ w14 ⟨v15, rfl, hb, hr16⟩
  refine ⟨_, rfl, fun fr r => ?_⟩
  have z_w14 := hb.size
  have h_b1 := keep hb h_b1
  have h_b4 := keep hb h_b4
  have h_b7 := keep hb h_b7
  have h_b10 := keep hb h_b10
  obtain ⟨hB, zB⟩ := bon hb hB
  refine zae (.cells v15.cells 39 (0, 0)) r (fun R => zaf r hr16.shape rfl rfl h_b10 ts39 rfl) rfl fun fr w17 u18 r => ?_
  have z_w17 := u18.size
  have h_b1 := u18.keep h_b1 (by omega)
  have h_b4 := u18.keep h_b4 (by omega)
  have h_b7 := u18.keep h_b7 (by omega)
  have h_b10 := u18.at_
  obtain ⟨hB, zB⟩ := u18.on hB (by omega)
  refine wn (wp_ret ?_)
  have hd : D.zbq j r_queue_where_take a0 a1 a2 a3 = (D.zbN a0 (fun _ => D.zcK)) := (zaq h13).trans (rfl)
  have hs := hr16.shape.cells
  refine zad r rfl rfl h_b10 (k := 8) hs.1 ta39 ?_
  rw [← hs.2.2, hd]
  exact rfin hF hB hr16 u18 (by omega) (by omega) (by omega)
 ·
  refine wsr (za0 (U a1) r (fun R => za3 r rfl h_b4 to22 rfl) rfl fun fr r => za0 (U a2) r (fun R => za9 r rfl) rfl fun fr r => za0 _ r (fun R => znA r rfl rfl rfl rfl) rfl fun fr r => za0 (.bool (a1 == a2)) r (fun R => za7 r rfl) rfl fun fr r => wn ?_)
  refine wp_cond_split (t := (a1 == a2)) (r.ev rfl) (fun h19 => ?_) (fun h19 => ?_)
  ·
   refine wsr (za0 _ r (fun R => za4 r (o := 0) rfl zhh) rfl fun fr r => za0 (I a0.tail) r (fun R => za3 r rfl h_b1 to3 rfl) rfl fun fr r => za0 (U a2) r (fun R => za9 r rfl) rfl fun fr r => za0 (U a3) r (fun R => za3 r rfl h_b7 to22 rfl) rfl fun fr r => za0 (.func (.func 332) #[] #[zp b1]) r (fun R => zao r rfl) rfl fun fr r => ?_)
   have hF1 := znI hF hB b10
   have f20 : ((fun b => F b ∨ (w0.heap.size ≤ b ∧ b < w11.heap.size ∧ b ≠ b10))) b1 := (.inr ⟨by omega, by omega, by omega⟩)
   refine za8 r (zd4 (F := (fun b => F b ∨ (w0.heap.size ≤ b ∧ b < w11.heap.size ∧ b ≠ b10))) (n := n) hF1 a0.tail a2 a3 ⟨332, [], [zp b1], zr0, rfl, fun m hm x w' hs hz => zge (j := j) (fun b hb => Nat.lt_of_lt_of_le (hF1 b hb) hz) (by omega) (fun m' hm' => ih_queue_where_take m' (by omega)) a0 f20 (hs.at_ f20 h_b1) x⟩) (fun R hc => zac r rfl zoC hc) rfl ?_
   rintro _ w21 ⟨v22, rfl, hb, hr23⟩
   refine ⟨_, rfl, fun fr r => ?_⟩
   have z_w21 := hb.size
   have h_b1 := keep hb h_b1
   have h_b4 := keep hb h_b4
   have h_b7 := keep hb h_b7
   have h_b10 := keep hb h_b10
   obtain ⟨hB, zB⟩ := bon hb hB
   refine zae (.cells v22.cells 39 (0, 0)) r (fun R => zaf r hr23.shape rfl rfl h_b10 ts39 rfl) rfl fun fr w24 u25 r => ?_
   have z_w24 := u25.size
   have h_b1 := u25.keep h_b1 (by omega)
   have h_b4 := u25.keep h_b4 (by omega)
   have h_b7 := u25.keep h_b7 (by omega)
   have h_b10 := u25.at_
   obtain ⟨hB, zB⟩ := u25.on hB (by omega)
   refine wn (wp_ret ?_)
   have hd : D.zbq j r_queue_where_take a0 a1 a2 a3 = (D.zbH a0.tail a2 a3 (fun x => (D.zdD j r_queue_where_take a0 x))) := (zak h13).trans ((zaq h19).trans (rfl))
   have hs := hr23.shape.cells
   refine zad r rfl rfl h_b10 (k := 8) hs.1 ta39 ?_
   rw [← hs.2.2, hd]
   exact rfin hF hB hr23 u25 (by omega) (by omega) (by omega)
  ·
   refine wp_skip (wp_seq ?_)
   refine zaI 7 [.val (zp b1), .val (zp b1), .val (.agg (znu a0.seat.p).toArray), .val (U a3), .val (I (D.zay a3)), .val (I (D.zaw a0.seat.p (D.zay a3) 1)), .val (.func (.func 333) #[] #[zp b1, zp b4, zp b7])] mixed r (by kernel_rfl) (za2 (by exact trivial) (za2 (by exact trivial) (za2 (by exact trivial) (za2 (by exact trivial) (za2 (by exact trivial) (za2 (by exact trivial) (za2 (by exact trivial) zaC))))))) ?_ ?_
   ·
    refine ec r (fun _ u _ b d s => za4 s (b := b1) (o := 0) rfl zdN bz) (ec r (fun _ u _ b d s => za4 s (b := b1) (o := 0) d.1 zgs bz) (ec r (fun _ u _ b d s => za6 s (cs := (znu a0.seat.p)) (n := 6) d.1 (keep b h_b1) ta25 rfl bz) (ec r (fun _ u _ b d s => za3 s rfl (keep b h_b7) to22 rfl bz) (ec r (fun fr1 u w' hb' hd r' => zac r' (args := [(U a3)]) (lc hd.1 l0) zoq ((zda _ a3).mono (by rintro _ w2 ⟨rfl, hb2⟩; exact ⟨_, rfl, hb2, rfl⟩))) (ec r (fun fr1 u w' hb' hd r' => zac r' (args := [(.agg (znu a0.seat.p).toArray), (I (D.zay a3)), (I 1)]) (lc hd.1 (lc hd.2.1 (lc rfl l0))) zop ((zbP _ a0.seat.p (D.zay a3) 1).mono (by rintro _ w2 ⟨rfl, hb2⟩; exact ⟨_, rfl, hb2, rfl⟩))) (ec r (fun _ u _ b d s => zao s (v := (.func (.func 333) #[] #[zp b1, zp b4, zp b7])) rfl bz) ?_))))))
    exact zaV
   ·
    intro fr u w26 hb hΦ hne r
    have r := r.congr (sc (hΦ 6 (by decide)) (sc (hΦ 5 (by decide)) (sc (hΦ 4 (by decide)) (sc (hΦ 3 (by decide)) (sc (hΦ 2 (by decide)) (sc (hΦ 1 (by decide)) (sc (hΦ 0 (by decide)) rfl)))))))
    have z_w26 := hb.size
    have h_b1 := keep hb h_b1
    have h_b4 := keep hb h_b4
    have h_b7 := keep hb h_b7
    have h_b10 := keep hb h_b10
    obtain ⟨hB, zB⟩ := bon hb hB
    have hF1 := znI hF hB b10
    have f27 : ((fun b => F b ∨ (w0.heap.size ≤ b ∧ b < w26.heap.size ∧ b ≠ b10))) b1 := (.inr ⟨by omega, by omega, by omega⟩)
    have f28 : ((fun b => F b ∨ (w0.heap.size ≤ b ∧ b < w26.heap.size ∧ b ≠ b10))) b4 := (.inr ⟨by omega, by omega, by omega⟩)
    have f29 : ((fun b => F b ∨ (w0.heap.size ≤ b ∧ b < w26.heap.size ∧ b ≠ b10))) b7 := (.inr ⟨by omega, by omega, by omega⟩)
    refine za8 r (zcG (F := (fun b => F b ∨ (w0.heap.size ≤ b ∧ b < w26.heap.size ∧ b ≠ b10))) (n := n) hF1 (D.zaw a0.seat.p (D.zay a3) 1) ⟨333, [], [zp b1, zp b4, zp b7], zrb, rfl, fun m hm x w' hs hz => zgp (j := j) (fun b hb => Nat.lt_of_lt_of_le (hF1 b hb) hz) (by omega) (fun m' hm' => ih_queue_where_take m' (by omega)) a0 f27 (hs.at_ f27 h_b1) a1 f28 (hs.at_ f28 h_b4) a3 f29 (hs.at_ f29 h_b7) x⟩) (fun R hc => zac r rfl zos hc) rfl ?_
    rintro _ w30 ⟨v31, rfl, hb, hr32⟩
    refine ⟨_, rfl, fun fr r => ?_⟩
    have z_w30 := hb.size
    have h_b1 := keep hb h_b1
    have h_b4 := keep hb h_b4
    have h_b7 := keep hb h_b7
    have h_b10 := keep hb h_b10
    obtain ⟨hB, zB⟩ := bon hb hB
    refine zae (.cells v31.cells 39 (0, 0)) r (fun R => zaf r hr32.shape rfl rfl h_b10 ts39 rfl) rfl fun fr w33 u34 r => ?_
    have z_w33 := u34.size
    have h_b1 := u34.keep h_b1 (by omega)
    have h_b4 := u34.keep h_b4 (by omega)
    have h_b7 := u34.keep h_b7 (by omega)
    have h_b10 := u34.at_
    obtain ⟨hB, zB⟩ := u34.on hB (by omega)
    refine wn (wp_ret ?_)
    have hd : D.zbq j r_queue_where_take a0 a1 a2 a3 = (D.zc8 (D.zaw a0.seat.p (D.zay a3) 1) (fun x => (D.zcL j r_queue_where_take a0 a1 a3 x))) := (zak h13).trans ((zak h19).trans (rfl))
    have hs := hr32.shape.cells
    refine zad r rfl rfl h_b10 (k := 8) hs.1 ta39 ?_
    rw [← hs.2.2, hd]
    exact rfin hF hB hr32 u34 (by omega) (by omega) (by omega)
theorem zeE {n : Nat} {F : Nat → Prop} {j : Nat} {r_queue_where_take : Where → T Res} {w0 : World} (hF : ∀ b, F b → b < w0.heap.size) (hj : n < j) (ih_queue_where_take : ∀ m, m ≤ n → zb3 r_queue_where_take m)
    (c0 : Int) {c0b : Nat} (c0F : F c0b) (c0h : w0.heap[c0b]? = some (.cells ([(.int .u64 c0)]).toArray 22 (0, 0))) (c1 : Where) {c1b : Nat} (c1F : F c1b) (c1h : w0.heap[c1b]? = some (.cells ((znJ c1)).toArray 219 (0, 0))) (c2 : Int) {c2b : Nat} (c2F : F c2b) (c2h : w0.heap[c2b]? = some (.cells ([(.int .u64 c2)]).toArray 22 (0, 0))) (c3 : Int) {c3b : Nat} (c3F : F c3b) (c3h : w0.heap[c3b]? = some (.cells ([(.int .u64 c3)]).toArray 22 (0, 0))) (a0 : Int) :
    Calls Tryz.prog 249 #[.int .u64 a0, zp c0b, zp c1b, zp c2b, zp c3b] w0 (zny Tryz.prog znx n (D.zbs j r_queue_where_take c0 c1 c2 c3 a0) F w0) := by
 refine enter Tryz.func249 rfl 17 rfl rfl fun fr r => ?_
 have hB := Below.refl w0.heap.size w0
 have lc0b := lt_of_block c0h
 have lc1b := lt_of_block c1h
 have lc2b := lt_of_block c2h
 have lc3b := lt_of_block c3h
 refine wsr ?_
 refine za5 (.cells (znt false znx.zero 0 0 0 0 .nilFunc) 39 (0, 0)) r (fun R => zag tz39) rfl fun fr b1 w2 n3 r => ?_
 obtain ⟨e_b1, z_w2, h_b1, hB, zB⟩ := n3.all hB
 refine wn (wp_seq (wsr (za0 (U a0) r (fun R => za9 r rfl) rfl fun fr r => za0 (U c0) r (fun R => za3 r rfl (keep hB c0h) to22 rfl) rfl fun fr r => za0 _ r (fun R => znA r rfl rfl rfl rfl) rfl fun fr r => wn ?_)))
 refine wp_cond_split (t := (a0 != c0)) (r.ev rfl) (fun h4 => ?_) (fun h4 => ?_)
 ·
  refine wsr (za0 (.agg (znJ c1).toArray) r (fun R => za6 r (cs := (znJ c1)) (n := 10) rfl (keep hB c1h) zo5 rfl) rfl fun fr r => ?_)
  have hF1 := znI hF hB b1
  refine za8 r ((ih_queue_where_take n (by omega)) (fun b => F b ∨ (w0.heap.size ≤ b ∧ b < w2.heap.size ∧ b ≠ b1)) _ hF1 c1) (fun R hc => zac r rfl zoZ hc) rfl ?_
  rintro _ w5 ⟨v6, rfl, hb, hr7⟩
  refine ⟨_, rfl, fun fr r => ?_⟩
  have z_w5 := hb.size
  have h_b1 := keep hb h_b1
  obtain ⟨hB, zB⟩ := bon hb hB
  refine zae (.cells v6.cells 39 (0, 0)) r (fun R => zaf r hr7.shape rfl rfl h_b1 ts39 rfl) rfl fun fr w8 u9 r => ?_
  have z_w8 := u9.size
  have h_b1 := u9.at_
  obtain ⟨hB, zB⟩ := u9.on hB (by omega)
  refine wn (wp_ret ?_)
  have hd : D.zbs j r_queue_where_take c0 c1 c2 c3 a0 = (r_queue_where_take c1) := (zaq h4).trans (rfl)
  have hs := hr7.shape.cells
  refine zad r rfl rfl h_b1 (k := 8) hs.1 ta39 ?_
  rw [← hs.2.2, hd]
  exact rfin hF hB hr7 u9 (by omega) (by omega) (by omega)
 ·
  refine wp_skip (wsr (za0 (.agg (znJ c1).toArray) r (fun R => za6 r (cs := (znJ c1)) (n := 10) rfl (keep hB c1h) zo5 rfl) rfl fun fr r => za0 (U c0) r (fun R => za3 r rfl (keep hB c0h) to22 rfl) rfl fun fr r => za0 (U c2) r (fun R => za3 r rfl (keep hB c2h) to22 rfl) rfl fun fr r => za0 (U c3) r (fun R => za3 r rfl (keep hB c3h) to22 rfl) rfl fun fr r => ?_))
  have hF1 := znI hF hB b1
  refine za8 r (zhg (j := j) (F := (fun b => F b ∨ (w0.heap.size ≤ b ∧ b < w2.heap.size ∧ b ≠ b1))) (n := n) hF1 (by omega) (fun m' hm' => ih_queue_where_take m' (by omega)) c1 c0 c2 c3) (fun R hc => zac r rfl zqX hc) rfl ?_
  rintro _ w10 ⟨v11, rfl, hb, hr12⟩
  refine ⟨_, rfl, fun fr r => ?_⟩
  have z_w10 := hb.size
  have h_b1 := keep hb h_b1
  obtain ⟨hB, zB⟩ := bon hb hB
  refine zae (.cells v11.cells 39 (0, 0)) r (fun R => zaf r hr12.shape rfl rfl h_b1 ts39 rfl) rfl fun fr w13 u14 r => ?_
  have z_w13 := u14.size
  have h_b1 := u14.at_
  obtain ⟨hB, zB⟩ := u14.on hB (by omega)
  refine wn (wp_ret ?_)
  have hd : D.zbs j r_queue_where_take c0 c1 c2 c3 a0 = (D.zbq j r_queue_where_take c1 c0 c2 c3) := (zak h4).trans (rfl)
  have hs := hr12.shape.cells
  refine zad r rfl rfl h_b1 (k := 8) hs.1 ta39 ?_
  rw [← hs.2.2, hd]
  exact rfin hF hB hr12 u14 (by omega) (by omega) (by omega)
theorem zf2 {n : Nat} {F : Nat → Prop} {j : Nat} {r_queue_where_take : Where → T Res} {w0 : World} (hF : ∀ b, F b → b < w0.heap.size) (hj : n < j) (ih_queue_where_take : ∀ m, m < n → zb3 r_queue_where_take m)
    (c0 : Where) {c0b : Nat} (c0F : F c0b) (c0h : w0.heap[c0b]? = some (.cells ((znJ c0)).toArray 219 (0, 0))) (c1 : Int) {c1b : Nat} (c1F : F c1b) (c1h : w0.heap[c1b]? = some (.cells ([(.int .u64 c1)]).toArray 22 (0, 0))) (c2 : Int) {c2b : Nat} (c2F : F c2b) (c2h : w0.heap[c2b]? = some (.cells ([(.int .u64 c2)]).toArray 22 (0, 0))) (c3 : Int) {c3b : Nat} (c3F : F c3b) (c3h : w0.heap[c3b]? = some (.cells ([(.int .u64 c3)]).toArray 22 (0, 0))) :
    Calls Tryz.prog 248 #[zp c0b, zp c1b, zp c2b, zp c3b] w0 (zny Tryz.prog znx n (D.zc4 j r_queue_where_take c0 c1 c2 c3) F w0) := by
 refine enter Tryz.func248 rfl 9 rfl rfl fun fr r => ?_
 have hB := Below.refl w0.heap.size w0
 have lc0b := lt_of_block c0h
 have lc1b := lt_of_block c1h
 have lc2b := lt_of_block c2h
 have lc3b := lt_of_block c3h
 refine wsr ?_
 refine za5 (.cells (znt false znx.zero 0 0 0 0 .nilFunc) 39 (0, 0)) r (fun R => zag tz39) rfl fun fr b1 w2 n3 r => ?_
 obtain ⟨e_b1, z_w2, h_b1, hB, zB⟩ := n3.all hB
 refine wn (wsr (za0 _ r (fun R => za4 r (o := 0) rfl zjJ) rfl fun fr r => za0 (I c0.head) r (fun R => za3 r rfl (keep hB c0h) to3 rfl) rfl fun fr r => za0 (.func (.func 249) #[] #[zp c1b, zp c0b, zp c2b, zp c3b]) r (fun R => zao r rfl) rfl fun fr r => ?_))
 have hF1 := znI hF hB b1
 have f4 : ((fun b => F b ∨ (w0.heap.size ≤ b ∧ b < w2.heap.size ∧ b ≠ b1))) c1b := (.inl c1F)
 have f5 : ((fun b => F b ∨ (w0.heap.size ≤ b ∧ b < w2.heap.size ∧ b ≠ b1))) c0b := (.inl c0F)
 have f6 : ((fun b => F b ∨ (w0.heap.size ≤ b ∧ b < w2.heap.size ∧ b ≠ b1))) c2b := (.inl c2F)
 have f7 : ((fun b => F b ∨ (w0.heap.size ≤ b ∧ b < w2.heap.size ∧ b ≠ b1))) c3b := (.inl c3F)
 refine za8 r (zcG (F := (fun b => F b ∨ (w0.heap.size ≤ b ∧ b < w2.heap.size ∧ b ≠ b1))) (n := n) hF1 c0.head ⟨249, [], [zp c1b, zp c0b, zp c2b, zp c3b], zqD, rfl, fun m hm x w' hs hz => zeE (j := j) (fun b hb => Nat.lt_of_lt_of_le (hF1 b hb) hz) (by omega) (fun m' hm' => ih_queue_where_take m' (by omega)) c1 f4 (hs.at_ f4 (keep hB c1h)) c0 f5 (hs.at_ f5 (keep hB c0h)) c2 f6 (hs.at_ f6 (keep hB c2h)) c3 f7 (hs.at_ f7 (keep hB c3h)) x⟩) (fun R hc => zac r rfl zos hc) rfl ?_
 rintro _ w8 ⟨v9, rfl, hb, hr10⟩
 refine ⟨_, rfl, fun fr r => ?_⟩
 have z_w8 := hb.size
 have h_b1 := keep hb h_b1
 obtain ⟨hB, zB⟩ := bon hb hB
 refine zae (.cells v9.cells 39 (0, 0)) r (fun R => zaf r hr10.shape rfl rfl h_b1 ts39 rfl) rfl fun fr w11 u12 r => ?_
 have z_w11 := u12.size
 have h_b1 := u12.at_
 obtain ⟨hB, zB⟩ := u12.on hB (by omega)
 refine wn (wp_ret ?_)
 have hs := hr10.shape.cells
 refine zad r rfl rfl h_b1 (k := 8) hs.1 ta39 ?_
 rw [← hs.2.2]
 exact rfin hF hB hr10 u12 (by omega) (by omega) (by omega)
theorem zfo {n : Nat} {F : Nat → Prop} {j : Nat} {r_queue_where_take : Where → T Res} {w0 : World} (hF : ∀ b, F b → b < w0.heap.size) (hj : n < j) (ih_queue_where_take : ∀ m, m < n → zb3 r_queue_where_take m)
    (c0 : Where) {c0b : Nat} (c0F : F c0b) (c0h : w0.heap[c0b]? = some (.cells ((znJ c0)).toArray 219 (0, 0))) (c1 : Int) {c1b : Nat} (c1F : F c1b) (c1h : w0.heap[c1b]? = some (.cells ([(.int .u64 c1)]).toArray 22 (0, 0))) (c2 : Int) {c2b : Nat} (c2F : F c2b) (c2h : w0.heap[c2b]? = some (.cells ([(.int .u64 c2)]).toArray 22 (0, 0))) (a0 : Int) :
    Calls Tryz.prog 246 #[.int .u64 a0, zp c0b, zp c1b, zp c2b] w0 (zny Tryz.prog znx n (D.zcY j r_queue_where_take c0 c1 c2 a0) F w0) := by
 refine enter Tryz.func246 rfl 11 rfl rfl fun fr r => ?_
 have hB := Below.refl w0.heap.size w0
 have lc0b := lt_of_block c0h
 have lc1b := lt_of_block c1h
 have lc2b := lt_of_block c2h
 refine wsr ?_
 refine za5 (.cells #[(U a0)] 22 (0, 0)) r (fun R => znF r (v := (U a0)) rfl) rfl fun fr b1 w2 n3 r => ?_
 obtain ⟨e_b1, z_w2, h_b1, hB, zB⟩ := n3.all hB
 refine za5 (.cells (znt false znx.zero 0 0 0 0 .nilFunc) 39 (0, 0)) r (fun R => zag tz39) rfl fun fr b4 w5 n6 r => ?_
 have h_b1 := keep n6.below h_b1
 obtain ⟨e_b4, z_w5, h_b4, hB, zB⟩ := n6.all hB
 refine wn (wp_seq ?_)
 refine zaI 4 [.val (.agg (znJ c0).toArray), .val (U a0), .val (I (D.zay a0)), .val (.func (.func 248) #[] #[zp c0b, zp c1b, zp c2b, zp b1])] mixed r (by kernel_rfl) (za2 (by exact trivial) (za2 (by exact trivial) (za2 (by exact trivial) (za2 (by exact trivial) zaC)))) ?_ ?_
 ·
  refine ec r (fun _ u _ b d s => za6 s (cs := (znJ c0)) (n := 10) rfl (znU hB b c0h) zo5 rfl bz) (ec r (fun _ u _ b d s => za3 s rfl (keep b h_b1) to22 rfl bz) (ec r (fun fr1 u w' hb' hd r' => zac r' (args := [(U a0)]) (lc hd.1 l0) zoq ((zda _ a0).mono (by rintro _ w2 ⟨rfl, hb2⟩; exact ⟨_, rfl, hb2, rfl⟩))) (ec r (fun _ u _ b d s => zao s (v := (.func (.func 248) #[] #[zp c0b, zp c1b, zp c2b, zp b1])) rfl bz) ?_)))
  exact zaV
 ·
  intro fr u w7 hb hΦ hne r
  have r := r.congr (sc (hΦ 3 (by decide)) (sc (hΦ 2 (by decide)) (sc (hΦ 1 (by decide)) (sc (hΦ 0 (by decide)) rfl))))
  have z_w7 := hb.size
  have h_b1 := keep hb h_b1
  have h_b4 := keep hb h_b4
  obtain ⟨hB, zB⟩ := bon hb hB
  have hF1 := znI hF hB b4
  have f8 : ((fun b => F b ∨ (w0.heap.size ≤ b ∧ b < w7.heap.size ∧ b ≠ b4))) c0b := (.inl c0F)
  have f9 : ((fun b => F b ∨ (w0.heap.size ≤ b ∧ b < w7.heap.size ∧ b ≠ b4))) c1b := (.inl c1F)
  have f10 : ((fun b => F b ∨ (w0.heap.size ≤ b ∧ b < w7.heap.size ∧ b ≠ b4))) c2b := (.inl c2F)
  have f11 : ((fun b => F b ∨ (w0.heap.size ≤ b ∧ b < w7.heap.size ∧ b ≠ b4))) b1 := (.inr ⟨by omega, by omega, by omega⟩)
  refine za8 r (zdl (F := (fun b => F b ∨ (w0.heap.size ≤ b ∧ b < w7.heap.size ∧ b ≠ b4))) (n := n) hF1 c0 1 (D.zay a0) ⟨248, [], [zp c0b, zp c1b, zp c2b, zp b1], zrp, rfl, fun m hm _ w' hs hz => zf2 (j := j) (fun b hb => Nat.lt_of_lt_of_le (hF1 b hb) hz) (by omega) (fun m' hm' => ih_queue_where_take m' (by omega)) c0 f8 (hs.at_ f8 (keep hB c0h)) c1 f9 (hs.at_ f9 (keep hB c1h)) c2 f10 (hs.at_ f10 (keep hB c2h)) a0 f11 (hs.at_ f11 h_b1)⟩) (fun R hc => zac r rfl zoR hc) rfl ?_
  rintro _ w12 ⟨v13, rfl, hb, hr14⟩
  refine ⟨_, rfl, fun fr r => ?_⟩
  have z_w12 := hb.size
  have h_b1 := keep hb h_b1
  have h_b4 := keep hb h_b4
  obtain ⟨hB, zB⟩ := bon hb hB
  refine zae (.cells v13.cells 39 (0, 0)) r (fun R => zaf r hr14.shape rfl rfl h_b4 ts39 rfl) rfl fun fr w15 u16 r => ?_
  have z_w15 := u16.size
  have h_b1 := u16.keep h_b1 (by omega)
  have h_b4 := u16.at_
  obtain ⟨hB, zB⟩ := u16.on hB (by omega)
  refine wn (wp_ret ?_)
  have hs := hr14.shape.cells
  refine zad r rfl rfl h_b4 (k := 8) hs.1 ta39 ?_
  rw [← hs.2.2]
  exact rfin hF hB hr14 u16 (by omega) (by omega) (by omega)
theorem zg4 {n : Nat} {F : Nat → Prop} {j : Nat} {r_queue_where_take : Where → T Res} {w0 : World} (hF : ∀ b, F b → b < w0.heap.size) (hj : n < j) (ih_queue_where_take : ∀ m, m < n → zb3 r_queue_where_take m)
    (c0 : Where) {c0b : Nat} (c0F : F c0b) (c0h : w0.heap[c0b]? = some (.cells ((znJ c0)).toArray 219 (0, 0))) (c1 : Int) {c1b : Nat} (c1F : F c1b) (c1h : w0.heap[c1b]? = some (.cells ([(.int .u64 c1)]).toArray 22 (0, 0))) (a0 : Int) :
    Calls Tryz.prog 245 #[.int .u64 a0, zp c0b, zp c1b] w0 (zny Tryz.prog znx n (D.zdo j r_queue_where_take c0 c1 a0) F w0) := by
 refine enter Tryz.func245 rfl 13 rfl rfl fun fr r => ?_
 have hB := Below.refl w0.heap.size w0
 have lc0b := lt_of_block c0h
 have lc1b := lt_of_block c1h
 refine wsr ?_
 refine za5 (.cells #[(U a0)] 22 (0, 0)) r (fun R => znF r (v := (U a0)) rfl) rfl fun fr b1 w2 n3 r => ?_
 obtain ⟨e_b1, z_w2, h_b1, hB, zB⟩ := n3.all hB
 refine za5 (.cells (znt false znx.zero 0 0 0 0 .nilFunc) 39 (0, 0)) r (fun R => zag tz39) rfl fun fr b4 w5 n6 r => ?_
 have h_b1 := keep n6.below h_b1
 obtain ⟨e_b4, z_w5, h_b4, hB, zB⟩ := n6.all hB
 refine wn (wp_seq ?_)
 refine zaI 7 [.val (zp c0b), .val (zp c0b), .val (.agg (znu c0.seat.p).toArray), .val (U c1), .val (I (D.zay c1)), .val (I (D.zaw c0.seat.p (D.zay c1) 2)), .val (.func (.func 246) #[] #[zp c0b, zp c1b, zp b1])] mixed r (by kernel_rfl) (za2 (by exact trivial) (za2 (by exact trivial) (za2 (by exact trivial) (za2 (by exact trivial) (za2 (by exact trivial) (za2 (by exact trivial) (za2 (by exact trivial) zaC))))))) ?_ ?_
 ·
  refine ec r (fun _ u _ b d s => za4 s (b := c0b) (o := 0) rfl zdN bz) (ec r (fun _ u _ b d s => za4 s (b := c0b) (o := 0) d.1 zgs bz) (ec r (fun _ u _ b d s => za6 s (cs := (znu c0.seat.p)) (n := 6) d.1 (znU hB b c0h) ta25 rfl bz) (ec r (fun _ u _ b d s => za3 s rfl (znU hB b c1h) to22 rfl bz) (ec r (fun fr1 u w' hb' hd r' => zac r' (args := [(U c1)]) (lc hd.1 l0) zoq ((zda _ c1).mono (by rintro _ w2 ⟨rfl, hb2⟩; exact ⟨_, rfl, hb2, rfl⟩))) (ec r (fun fr1 u w' hb' hd r' => zac r' (args := [(.agg (znu c0.seat.p).toArray), (I (D.zay c1)), (I 2)]) (lc hd.1 (lc hd.2.1 (lc rfl l0))) zop ((zbP _ c0.seat.p (D.zay c1) 2).mono (by rintro _ w2 ⟨rfl, hb2⟩; exact ⟨_, rfl, hb2, rfl⟩))) (ec r (fun _ u _ b d s => zao s (v := (.func (.func 246) #[] #[zp c0b, zp c1b, zp b1])) rfl bz) ?_))))))
  exact zaV
 ·
  intro fr u w7 hb hΦ hne r
  have r := r.congr (sc (hΦ 6 (by decide)) (sc (hΦ 5 (by decide)) (sc (hΦ 4 (by decide)) (sc (hΦ 3 (by decide)) (sc (hΦ 2 (by decide)) (sc (hΦ 1 (by decide)) (sc (hΦ 0 (by decide)) rfl)))))))
  have z_w7 := hb.size
  have h_b1 := keep hb h_b1
  have h_b4 := keep hb h_b4
  obtain ⟨hB, zB⟩ := bon hb hB
  have hF1 := znI hF hB b4
  have f8 : ((fun b => F b ∨ (w0.heap.size ≤ b ∧ b < w7.heap.size ∧ b ≠ b4))) c0b := (.inl c0F)
  have f9 : ((fun b => F b ∨ (w0.heap.size ≤ b ∧ b < w7.heap.size ∧ b ≠ b4))) c1b := (.inl c1F)
  have f10 : ((fun b => F b ∨ (w0.heap.size ≤ b ∧ b < w7.heap.size ∧ b ≠ b4))) b1 := (.inr ⟨by omega, by omega, by omega⟩)
  refine za8 r (zcG (F := (fun b => F b ∨ (w0.heap.size ≤ b ∧ b < w7.heap.size ∧ b ≠ b4))) (n := n) hF1 (D.zaw c0.seat.p (D.zay c1) 2) ⟨246, [], [zp c0b, zp c1b, zp b1], zqQ, rfl, fun m hm x w' hs hz => zfo (j := j) (fun b hb => Nat.lt_of_lt_of_le (hF1 b hb) hz) (by omega) (fun m' hm' => ih_queue_where_take m' (by omega)) c0 f8 (hs.at_ f8 (keep hB c0h)) c1 f9 (hs.at_ f9 (keep hB c1h)) a0 f10 (hs.at_ f10 h_b1) x⟩) (fun R hc => zac r rfl zos hc) rfl ?_
  rintro _ w11 ⟨v12, rfl, hb, hr13⟩
  refine ⟨_, rfl, fun fr r => ?_⟩
  have z_w11 := hb.size
  have h_b1 := keep hb h_b1
  have h_b4 := keep hb h_b4
  obtain ⟨hB, zB⟩ := bon hb hB
  refine zae (.cells v12.cells 39 (0, 0)) r (fun R => zaf r hr13.shape rfl rfl h_b4 ts39 rfl) rfl fun fr w14 u15 r => ?_
  have z_w14 := u15.size
  have h_b1 := u15.keep h_b1 (by omega)
  have h_b4 := u15.at_
  obtain ⟨hB, zB⟩ := u15.on hB (by omega)
  refine wn (wp_ret ?_)
  have hs := hr13.shape.cells
  refine zad r rfl rfl h_b4 (k := 8) hs.1 ta39 ?_
  rw [← hs.2.2]
  exact rfin hF hB hr13 u15 (by omega) (by omega) (by omega)
theorem zgQ {n : Nat} {F : Nat → Prop} {j : Nat} {r_queue_where_take : Where → T Res} {w0 : World} (hF : ∀ b, F b → b < w0.heap.size) (hj : n < j) (ih_queue_where_take : ∀ m, m < n → zb3 r_queue_where_take m)
    (c0 : Where) {c0b : Nat} (c0F : F c0b) (c0h : w0.heap[c0b]? = some (.cells ((znJ c0)).toArray 219 (0, 0))) (a0 : Int) :
    Calls Tryz.prog 244 #[.int .u64 a0, zp c0b] w0 (zny Tryz.prog znx n (D.zd1 j r_queue_where_take c0 a0) F w0) := by
 refine enter Tryz.func244 rfl 8 rfl rfl fun fr r => ?_
 have hB := Below.refl w0.heap.size w0
 have lc0b := lt_of_block c0h
 refine wsr ?_
 refine za5 (.cells #[(U a0)] 22 (0, 0)) r (fun R => znF r (v := (U a0)) rfl) rfl fun fr b1 w2 n3 r => ?_
 obtain ⟨e_b1, z_w2, h_b1, hB, zB⟩ := n3.all hB
 refine za5 (.cells (znt false znx.zero 0 0 0 0 .nilFunc) 39 (0, 0)) r (fun R => zag tz39) rfl fun fr b4 w5 n6 r => ?_
 have h_b1 := keep n6.below h_b1
 obtain ⟨e_b4, z_w5, h_b4, hB, zB⟩ := n6.all hB
 refine wn (wsr (za0 _ r (fun R => za4 r (o := 0) rfl zhh) rfl fun fr r => za0 (I c0.tail) r (fun R => za3 r rfl (keep hB c0h) to3 rfl) rfl fun fr r => za0 (.func (.func 245) #[] #[zp c0b, zp b1]) r (fun R => zao r rfl) rfl fun fr r => ?_))
 have hF1 := znI hF hB b4
 have f7 : ((fun b => F b ∨ (w0.heap.size ≤ b ∧ b < w5.heap.size ∧ b ≠ b4))) c0b := (.inl c0F)
 have f8 : ((fun b => F b ∨ (w0.heap.size ≤ b ∧ b < w5.heap.size ∧ b ≠ b4))) b1 := (.inr ⟨by omega, by omega, by omega⟩)
 refine za8 r (zcG (F := (fun b => F b ∨ (w0.heap.size ≤ b ∧ b < w5.heap.size ∧ b ≠ b4))) (n := n) hF1 c0.tail ⟨245, [], [zp c0b, zp b1], zsf, rfl, fun m hm x w' hs hz => zg4 (j := j) (fun b hb => Nat.lt_of_lt_of_le (hF1 b hb) hz) (by omega) (fun m' hm' => ih_queue_where_take m' (by omega)) c0 f7 (hs.at_ f7 (keep hB c0h)) a0 f8 (hs.at_ f8 h_b1) x⟩) (fun R hc => zac r rfl zos hc) rfl ?_
 rintro _ w9 ⟨v10, rfl, hb, hr11⟩
 refine ⟨_, rfl, fun fr r => ?_⟩
 have z_w9 := hb.size
 have h_b1 := keep hb h_b1
 have h_b4 := keep hb h_b4
 obtain ⟨hB, zB⟩ := bon hb hB
 refine zae (.cells v10.cells 39 (0, 0)) r (fun R => zaf r hr11.shape rfl rfl h_b4 ts39 rfl) rfl fun fr w12 u13 r => ?_
 have z_w12 := u13.size
 have h_b1 := u13.keep h_b1 (by omega)
 have h_b4 := u13.at_
 obtain ⟨hB, zB⟩ := u13.on hB (by omega)
 refine wn (wp_ret ?_)
 have hs := hr11.shape.cells
 refine zad r rfl rfl h_b4 (k := 8) hs.1 ta39 ?_
 rw [← hs.2.2]
 exact rfin hF hB hr11 u13 (by omega) (by omega) (by omega)
theorem zhE {n : Nat} {F : Nat → Prop} {j : Nat} {r_queue_where_take : Where → T Res} {w0 : World} (hF : ∀ b, F b → b < w0.heap.size) (hj : n < j) (ih_queue_where_take : ∀ m, m < n → zb3 r_queue_where_take m)
    (a0 : Where) :
    Calls Tryz.prog 147 #[.agg (znJ a0).toArray] w0 (zny Tryz.prog znx n (D.zcn j r_queue_where_take a0) F w0) := by
 refine enter Tryz.func147 rfl 14 rfl rfl fun fr r => ?_
 have hB := Below.refl w0.heap.size w0
 refine wsr ?_
 refine za5 (.cells ((znJ a0)).toArray 219 (0, 0)) r (fun R => znF r (v := (.agg (znJ a0).toArray)) rfl) rfl fun fr b1 w2 n3 r => ?_
 obtain ⟨e_b1, z_w2, h_b1, hB, zB⟩ := n3.all hB
 refine za5 (.cells (znt false znx.zero 0 0 0 0 .nilFunc) 39 (0, 0)) r (fun R => zag tz39) rfl fun fr b4 w5 n6 r => ?_
 have h_b1 := keep n6.below h_b1
 obtain ⟨e_b4, z_w5, h_b4, hB, zB⟩ := n6.all hB
 refine wn (wsr (za0 _ r (fun R => za4 r (o := 0) rfl zdN) rfl fun fr r => za0 _ r (fun R => za4 r (o := 0) rfl zgs) rfl fun fr r => za0 (.agg (znu a0.seat.p).toArray) r (fun R => za6 r (cs := (znu a0.seat.p)) (n := 6) rfl h_b1 ta25 rfl) rfl fun fr r => za0 _ r (fun R => za4 r (o := 0) rfl zdN) rfl fun fr r => za0 _ r (fun R => za4 r (o := 0) rfl zkq) rfl fun fr r => za0 (I a0.seat.thread) r (fun R => za3 r rfl h_b1 to3 rfl) rfl fun fr r => za0 _ r (fun R => za4 r (o := 0) rfl zjJ) rfl fun fr r => za0 (I a0.head) r (fun R => za3 r rfl h_b1 to3 rfl) rfl fun fr r => ?_))
 have hF1 := znI hF hB b4
 refine za8 r (zgS (j := j) (F := (fun b => F b ∨ (w0.heap.size ≤ b ∧ b < w5.heap.size ∧ b ≠ b4))) (n := n) hF1 (by omega) a0.seat.p a0.seat.thread 0 a0.head 0 (by first | assumption | decide)) (fun R hc => zac r rfl zq4 hc) rfl ?_
 rintro _ w7 ⟨v8, rfl, hb, hr9⟩
 refine ⟨_, rfl, fun fr r => ?_⟩
 have z_w7 := hb.size
 have h_b1 := keep hb h_b1
 have h_b4 := keep hb h_b4
 obtain ⟨hB, zB⟩ := bon hb hB
 refine za0 (.func (.func 244) #[] #[zp b1]) r (fun R => zao r rfl) rfl fun fr r => ?_
 have hF1 := znI hF hB b4
 have f10 : ((fun b => F b ∨ (w0.heap.size ≤ b ∧ b < w7.heap.size ∧ b ≠ b4))) b1 := (.inr ⟨by omega, by omega, by omega⟩)
 refine za8 r (zds (F := (fun b => F b ∨ (w0.heap.size ≤ b ∧ b < w7.heap.size ∧ b ≠ b4))) (n := n) hF1 (Rep.mono (by rintro b (h | h); (rcases h with h | ⟨h1, h2, h3⟩; exact .inl h; exact .inr ⟨h1, by omega, h3⟩); exact .inr ⟨by omega, by omega, by omega⟩) (Same.refl _ _) (by omega) n _ _ hr9) ⟨244, [], [zp b1], zrE, rfl, fun m hm x w' hs hz => zgQ (j := j) (fun b hb => Nat.lt_of_lt_of_le (hF1 b hb) hz) (by omega) (fun m' hm' => ih_queue_where_take m' (by omega)) a0 f10 (hs.at_ f10 h_b1) x⟩) (fun R hc => zac r rfl zpf hc) rfl ?_
 rintro _ w11 ⟨v12, rfl, hb, hr13⟩
 refine ⟨_, rfl, fun fr r => ?_⟩
 have z_w11 := hb.size
 have h_b1 := keep hb h_b1
 have h_b4 := keep hb h_b4
 obtain ⟨hB, zB⟩ := bon hb hB
 refine zae (.cells v12.cells 39 (0, 0)) r (fun R => zaf r hr13.shape rfl rfl h_b4 ts39 rfl) rfl fun fr w14 u15 r => ?_
 have z_w14 := u15.size
 have h_b1 := u15.keep h_b1 (by omega)
 have h_b4 := u15.at_
 obtain ⟨hB, zB⟩ := u15.on hB (by omega)
 refine wn (wp_ret ?_)
 have hs := hr13.shape.cells
 refine zad r rfl rfl h_b4 (k := 8) hs.1 ta39 ?_
 rw [← hs.2.2]
 exact rfin hF hB hr13 u15 (by omega) (by omega) (by omega)
theorem zhx {n : Nat} {j : Nat} (hj : n < j) {k : Nat} (hk : n < k) : zb3 (D.zbJ j k) n := by
  induction n using Nat.strongRecOn generalizing k with
  | _ n ih =>
    obtain ⟨k, rfl⟩ : ∃ q, k = q + 1 := ⟨k - 1, by omega⟩
    intro F w0 hF
    have h := @zhE n F j (D.zbJ j k) w0 hF hj (fun m hm => ih m hm (by omega) (by omega))
    exact h
def D.zcj (j : Nat) (a0 : Seat) (a1 : Int) : T Res := (D.zbJ j j (D.zbL a0 a1))
theorem zkK {n : Nat} {F : Nat → Prop} {j : Nat} {w0 : World} (hF : ∀ b, F b → b < w0.heap.size) (hj : n < j)
    (a0 : Seat) (a1 : Int) :
    Calls Tryz.prog 57 #[.agg (znR a0).toArray, .int .i64 a1] w0 (zny Tryz.prog znx n (D.zcj j a0 a1) F w0) := by
 refine enter Tryz.func57 rfl 9 rfl rfl fun fr r => ?_
 have hB := Below.refl w0.heap.size w0
 refine wsr ?_
 refine za5 (.cells ((znR a0)).toArray 29 (0, 0)) r (fun R => znF r (v := (.agg (znR a0).toArray)) rfl) rfl fun fr b1 w2 n3 r => ?_
 obtain ⟨e_b1, z_w2, h_b1, hB, zB⟩ := n3.all hB
 refine za5 (.cells (znt false znx.zero 0 0 0 0 .nilFunc) 39 (0, 0)) r (fun R => zag tz39) rfl fun fr b4 w5 n6 r => ?_
 have h_b1 := keep n6.below h_b1
 obtain ⟨e_b4, z_w5, h_b4, hB, zB⟩ := n6.all hB
 refine wn (wsr (za0 (.agg (znR a0).toArray) r (fun R => za6 r (cs := (znR a0)) (n := 8) rfl h_b1 ta29 rfl) rfl fun fr r => za0 (I a1) r (fun R => za9 r rfl) rfl fun fr r => ?_))
 refine za8 r (zhZ w5 a0 a1) (fun R hc => zac r rfl zp8 hc) rfl ?_
 rintro _ w7 ⟨rfl, hb⟩
 refine ⟨_, rfl, fun fr r => ?_⟩
 have z_w7 := hb.size
 have h_b1 := keep hb h_b1
 have h_b4 := keep hb h_b4
 obtain ⟨hB, zB⟩ := bon hb hB
 have hF1 := znI hF hB b4
 refine za8 r ((zhx (j := j) (k := j) (n := n) (by omega) (by omega)) (fun b => F b ∨ (w0.heap.size ≤ b ∧ b < w7.heap.size ∧ b ≠ b4)) _ hF1 (D.zbL a0 a1)) (fun R hc => zac r rfl zoZ hc) rfl ?_
 rintro _ w8 ⟨v9, rfl, hb, hr10⟩
 refine ⟨_, rfl, fun fr r => ?_⟩
 have z_w8 := hb.size
 have h_b1 := keep hb h_b1
 have h_b4 := keep hb h_b4
 obtain ⟨hB, zB⟩ := bon hb hB
 refine zae (.cells v9.cells 39 (0, 0)) r (fun R => zaf r hr10.shape rfl rfl h_b4 ts39 rfl) rfl fun fr w11 u12 r => ?_
 have z_w11 := u12.size
 have h_b1 := u12.keep h_b1 (by omega)
 have h_b4 := u12.at_
 obtain ⟨hB, zB⟩ := u12.on hB (by omega)
 refine wn (wp_ret ?_)
 have hs := hr10.shape.cells
 refine zad r rfl rfl h_b4 (k := 8) hs.1 ta39 ?_
 rw [← hs.2.2]
 exact rfin hF hB hr10 u12 (by omega) (by omega) (by omega)
end Go.Proofs.YtjkinpbfmihhdaaGreat
