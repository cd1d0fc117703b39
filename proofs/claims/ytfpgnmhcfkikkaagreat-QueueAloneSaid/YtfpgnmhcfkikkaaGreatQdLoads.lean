/- Ours. -/
import Derived.Test.YtfpgnmhcfkikkaaGreatQdThens
set_option linter.all false
set_option maxRecDepth 20000
set_option maxHeartbeats 2000000
namespace Go.Proofs.YtfpgnmhcfkikkaaGreat
open Go.RowKit
section
variable {n : Nat} {F : Nat → Prop} {j : Nat} {w0 : World}
theorem CB:ak Tryz.prog 227:=by kernel_rfl
theorem Dr:ak Tryz.prog 276:=by kernel_rfl
theorem C5:ak Tryz.prog 299:=by kernel_rfl
theorem uI:ak Tryz.prog 315:=by kernel_rfl
theorem D2:ak Tryz.prog 317:=by kernel_rfl
theorem BO:ak Tryz.prog 318:=by kernel_rfl
theorem DI:ak Tryz.prog 382:=by kernel_rfl
theorem D7:ak Tryz.prog 383:=by kernel_rfl
theorem D1:ak Tryz.prog 385:=by kernel_rfl
theorem CR:ak Tryz.prog 429:=by kernel_rfl
theorem kg:tyO Tryz.prog 228:=by kernel_rfl
theorem qj:tyO Tryz.prog 254:=by kernel_rfl
theorem CS:tyO Tryz.prog 272:=by kernel_rfl
theorem Cx:tyO Tryz.prog 289:=by kernel_rfl
theorem BJ:tyO Tryz.prog 332:=by kernel_rfl
def D.qW (c0:(Unit→T Unit)) (a0:Int):T Unit:=(c0 ())
theorem xe (hF:kH F w0)
    {c0f:FuncId} {c0_1 c0_2:List Value} {c0:(Unit→T Unit)} {c0b:Nat} (c0F:F c0b) (c0h:w0.heap[c0b]?=some (.cells #[.func (.func c0f) c0_1.toArray c0_2.toArray] 332 (0,0))) (c0n:FnT Tryz.prog aO unitE (n+1) F w0 (.func (.func c0f) c0_1.toArray c0_2.toArray) c0) (a0:Int) :
    Calls Tryz.prog 385 #[.int .u64 a0,zp c0b] w0 (av Tryz.prog aO n (D.qW c0 a0) F w0):=by
 refine enter Tryz.func385 rfl 6 rfl rfl fun fr r=>?_;have hB:=Below.refl w0.heap.size w0
 have lc0b:=lt_of_block c0h;refine wsr ?_;refine ar (.cells (ai false aO.zero 0 0 0 0 .nilFunc) 195 (0,0)) r (fun R=>aq dN) rfl fun fr b1 w2 n3 r=>?_;obtain ⟨eb1,zw2,hb1,hB,zB⟩:=n3.all hB
 refine wn (wsr (kL (.func (.func c0f) c0_1.toArray c0_2.toArray) r rfl (keep hB c0h) BJ rfl rfl fun r=>?_));refine cE r (c0n.at_.2 n (Nat.lt_succ_self n) () w2 (Same.below hB hF) hB.size) (fun R hc=>gF r rfl c0n.at_.1 hc) rfl ?_
 rintro _ w4 ⟨v5,rfl,hb,hr6⟩;refine ⟨_,rfl,fun fr r=>?_⟩
 have zw4:=hb.size;have hb1:=keep hb hb1;obtain ⟨hB,zB⟩:=bon hb hB;refine kP r hr6.shape rfl rfl hb1 db rfl rfl fun w7 u8 r=>?_;have zw7:=u8.size
 have hb1:=u8.at_;obtain ⟨hB,zB⟩:=u8.on hB (by omega)
 refine wn (wp_ret ?_);have hs:=hr6.shape.cells;refine aH r rfl rfl hb1 (k:=6) hs.1 cQ ?_;rw [←hs.2.2];exact av.fin hB hr6 u8 (fun b hb=>.inl hb) (fun h=>by have:=hF _ h; omega) (by omega) (by omega) (by omega)
def D.lj (a0:Int) (a1:Int) (a2:(Unit→T Unit)):T Unit:=(D.rG (⟨1,a0,a1,0⟩:Access) (fun x=>(D.qW a2 x)))
theorem qV (hF:kH F w0)
    (a0:Int) (a1:Int) {a2f:FuncId} {a2_1 a2_2:List Value} {a2:(Unit→T Unit)} (a2n:FnT Tryz.prog aO unitE (n) F w0 (.func (.func a2f) a2_1.toArray a2_2.toArray) a2) :
    Calls Tryz.prog 315 #[.int .i64 a0,.int .u64 a1,.func (.func a2f) a2_1.toArray a2_2.toArray] w0 (av Tryz.prog aO n (D.lj a0 a1 a2) F w0):=by
 refine enter Tryz.func315 rfl 12 rfl rfl fun fr r=>?_;have hB:=Below.refl w0.heap.size w0
 refine wsr ?_;refine kX 332 (.func (.func a2f) a2_1.toArray a2_2.toArray) r rfl rfl fun b1 w2 n3 r=>?_;obtain ⟨eb1,zw2,hb1,hB,zB⟩:=n3.all hB
 refine ar (.cells (ai false aO.zero 0 0 0 0 .nilFunc) 195 (0,0)) r (fun R=>aq dN) rfl fun fr b4 w5 n6 r=>?_;have hb1:=keep n6.below hb1
 obtain ⟨eb4,zw5,hb4,hB,zB⟩:=n6.all hB;refine wn (wsr (kM (I a0) r rfl rfl fun r=>kM (U a1) r rfl rfl fun r=>kU (.agg (bb (⟨1,a0,a1,0⟩:Access)).toArray) r (by kernel_rfl) rfl fun r=>ae (.func (.func 385) #[] #[zp b1]) r (fun R=>aW r rfl) rfl fun fr r=>?_));have hF1:=aA hF hB b4
 have f7:((kW F w0 w5 b4)) b1:=(.inr ⟨by omega,by omega,by omega⟩)
 refine kD r (yB (F:=(kW F w0 w5 b4)) (n:=n) hF1 (⟨1,a0,a1,0⟩:Access) ⟨385,[],[zp b1],D1,rfl,fun m hm x w' hs hz=>xe (fun b hb=>Nat.lt_of_lt_of_le (hF1 b hb) hz) f7 (hs.at_ f7 hb1) (a2n.mono (by omega) (fun b h=>.inl h) ((Same.below hB hF).trans (hs.sub (fun b h=>.inl h))) (Nat.le_trans hB.size hz)) x⟩) rfl BV rfl fun w8 v9 hb hr10 r=>?_;have zw8:=hb.size
 have hb1:=keep hb hb1;have hb4:=keep hb hb4;obtain ⟨hB,zB⟩:=bon hb hB;refine kP r hr10.shape rfl rfl hb4 db rfl rfl fun w11 u12 r=>?_;have zw11:=u12.size
 have hb1:=u12.keep hb1 (by omega)
 have hb4:=u12.at_;obtain ⟨hB,zB⟩:=u12.on hB (by omega)
 exact wn (wp_ret (kR r hr10 rfl rfl hb4 rfl cQ hF hB u12 (by omega) (by omega) (by omega)))
def D.rY :T Unit:=D.ry
theorem yX (hF:kH F w0)
     :
    Calls Tryz.prog 382 #[] w0 (av Tryz.prog aO n D.rY F w0):=by
 refine enter Tryz.func382 rfl 3 rfl rfl fun fr r=>?_;have hB:=Below.refl w0.heap.size w0
 refine wsr ?_;refine ar (.cells (ai false aO.zero 0 0 0 0 .nilFunc) 195 (0,0)) r (fun R=>aq dN) rfl fun fr b1 w2 n3 r=>?_;obtain ⟨eb1,zw2,hb1,hB,zB⟩:=n3.all hB
 refine wn (wsr (kU (.agg #[]) r (by kernel_rfl) rfl fun r=>?_));have hF1:=aA hF hB b1
 refine kD r (xV (F:=(kW F w0 w2 b1)) (n:=n) hF1 ) rfl D7 rfl fun w4 v5 hb hr6 r=>?_;have zw4:=hb.size
 have hb1:=keep hb hb1;obtain ⟨hB,zB⟩:=bon hb hB;refine kP r hr6.shape rfl rfl hb1 db rfl rfl fun w7 u8 r=>?_;have zw7:=u8.size
 have hb1:=u8.at_;obtain ⟨hB,zB⟩:=u8.on hB (by omega)
 exact wn (wp_ret (kR r hr6 rfl rfl hb1 rfl cQ hF hB u8 (by omega) (by omega) (by omega)))
def D.jA (a0:Int) (a1:Int):T Unit:=(D.lj a0 a1 (fun _=>D.rY))
theorem sx (hF:kH F w0)
    (a0:Int) (a1:Int) :
    Calls Tryz.prog 313 #[.int .i64 a0,.int .u64 a1] w0 (av Tryz.prog aO n (D.jA a0 a1) F w0):=by
 refine enter Tryz.func313 rfl 8 rfl rfl fun fr r=>?_;have hB:=Below.refl w0.heap.size w0
 refine wsr ?_;refine ar (.cells (ai false aO.zero 0 0 0 0 .nilFunc) 195 (0,0)) r (fun R=>aq dN) rfl fun fr b1 w2 n3 r=>?_;obtain ⟨eb1,zw2,hb1,hB,zB⟩:=n3.all hB
 refine wn (wsr (kM (I a0) r rfl rfl fun r=>kM (U a1) r rfl rfl fun r=>?_));have hF1:=aA hF hB b1
 refine kD r (qV (F:=(kW F w0 w2 b1)) (n:=n) hF1 a0 a1 ⟨382,[],[],DI,rfl,fun m hm _ w' hs hz=>yX (fun b hb=>Nat.lt_of_lt_of_le (hF1 b hb) hz) ⟩) rfl uI rfl fun w4 v5 hb hr6 r=>?_;have zw4:=hb.size
 have hb1:=keep hb hb1;obtain ⟨hB,zB⟩:=bon hb hB;refine kP r hr6.shape rfl rfl hb1 db rfl rfl fun w7 u8 r=>?_;have zw7:=u8.size
 have hb1:=u8.at_;obtain ⟨hB,zB⟩:=u8.on hB (by omega)
 exact wn (wp_ret (kR r hr6 rfl rfl hb1 rfl cQ hF hB u8 (by omega) (by omega) (by omega)))
def D.cV (a0:Int) (a1:(Int→T Int)):T Int:=(D.lG (⟨0,a0,0,0⟩:Access) a1)
theorem eO (hF:kH F w0)
    (a0:Int) {a1f:FuncId} {a1_1 a1_2:List Value} {a1:(Int→T Int)} (a1n:FnT Tryz.prog ax u64 (n) F w0 (.func (.func a1f) a1_1.toArray a1_2.toArray) a1) :
    Calls Tryz.prog 127 #[.int .i64 a0,.func (.func a1f) a1_1.toArray a1_2.toArray] w0 (av Tryz.prog ax n (D.cV a0 a1) F w0):=by
 refine enter Tryz.func127 rfl 9 rfl rfl fun fr r=>?_;have hB:=Below.refl w0.heap.size w0
 refine wsr ?_;refine ar (.cells (ai false ax.zero 0 0 0 0 .nilFunc) 61 (0,0)) r (fun R=>aq tz61) rfl fun fr b1 w2 n3 r=>?_;obtain ⟨eb1,zw2,hb1,hB,zB⟩:=n3.all hB
 refine wn (wsr (kM (I a0) r rfl rfl fun r=>kU (.agg (bb (⟨0,a0,0,0⟩:Access)).toArray) r (by kernel_rfl) rfl fun r=>kM (.func (.func a1f) a1_1.toArray a1_2.toArray) r rfl rfl fun r=>?_));have hF1:=aA hF hB b1
 refine kD r (jm (F:=(kW F w0 w2 b1)) (n:=n) hF1 (⟨0,a0,0,0⟩:Access) (a1n.mono (by omega) (fun b h=>.inl h) (Same.below hB hF) hB.size)) rfl jZ rfl fun w4 v5 hb hr6 r=>?_;have zw4:=hb.size
 have hb1:=keep hb hb1;obtain ⟨hB,zB⟩:=bon hb hB;refine kP r hr6.shape rfl rfl hb1 ts61 rfl rfl fun w7 u8 r=>?_;have zw7:=u8.size
 have hb1:=u8.at_;obtain ⟨hB,zB⟩:=u8.on hB (by omega)
 exact wn (wp_ret (kR r hr6 rfl rfl hb1 rfl ta61 hF hB u8 (by omega) (by omega) (by omega)))
def D.hH (c0:(Bool→T Int)) (c1:Int) (a0:Int):T Int:=(c0 (a0==c1))
theorem xJ (hF:kH F w0)
    {c0f:FuncId} {c0_1 c0_2:List Value} {c0:(Bool→T Int)} {c0b:Nat} (c0F:F c0b) (c0h:w0.heap[c0b]?=some (.cells #[.func (.func c0f) c0_1.toArray c0_2.toArray] 294 (0,0))) (c0n:FnT Tryz.prog ax ah (n+1) F w0 (.func (.func c0f) c0_1.toArray c0_2.toArray) c0) (c1:Int) {c1b:Nat} (c1F:F c1b) (c1h:w0.heap[c1b]?=some (.cells ([(.int .u64 c1)]).toArray 40 (0,0))) (a0:Int) :
    Calls Tryz.prog 318 #[.int .u64 a0,zp c0b,zp c1b] w0 (av Tryz.prog ax n (D.hH c0 c1 a0) F w0):=by
 refine enter Tryz.func318 rfl 10 rfl rfl fun fr r=>?_;have hB:=Below.refl w0.heap.size w0
 have lc0b:=lt_of_block c0h;have lc1b:=lt_of_block c1h;refine wsr ?_;refine ar (.cells (ai false ax.zero 0 0 0 0 .nilFunc) 61 (0,0)) r (fun R=>aq tz61) rfl fun fr b1 w2 n3 r=>?_;obtain ⟨eb1,zw2,hb1,hB,zB⟩:=n3.all hB
 refine wn (wsr (kL (.func (.func c0f) c0_1.toArray c0_2.toArray) r rfl (keep hB c0h) qh rfl rfl fun r=>kM (U a0) r rfl rfl fun r=>kL (U c1) r rfl (keep hB c1h) to40 rfl rfl fun r=>kB r rfl rfl rfl rfl rfl fun r=>?_));refine cE r (c0n.at_.2 n (Nat.lt_succ_self n) (a0==c1) w2 (Same.below hB hF) hB.size) (fun R hc=>dx r rfl rfl c0n.at_.1 hc) rfl ?_
 rintro _ w4 ⟨v5,rfl,hb,hr6⟩;refine ⟨_,rfl,fun fr r=>?_⟩
 have zw4:=hb.size;have hb1:=keep hb hb1;obtain ⟨hB,zB⟩:=bon hb hB;refine kP r hr6.shape rfl rfl hb1 ts61 rfl rfl fun w7 u8 r=>?_;have zw7:=u8.size
 have hb1:=u8.at_;obtain ⟨hB,zB⟩:=u8.on hB (by omega)
 refine wn (wp_ret ?_);have hs:=hr6.shape.cells;refine aH r rfl rfl hb1 (k:=7) hs.1 ta61 ?_;rw [←hs.2.2];exact av.fin hB hr6 u8 (fun b hb=>.inl hb) (fun h=>by have:=hF _ h; omega) (by omega) (by omega) (by omega)
def D.o5 (a0:Int) (a1:Int) (a2:Int) (a3:(Bool→T Int)):T Int:=(D.lG (⟨2,a0,a1,a2⟩:Access) (fun x=>(D.hH a3 a1 x)))
theorem rl (hF:kH F w0)
    (a0:Int) (a1:Int) (a2:Int) {a3f:FuncId} {a3_1 a3_2:List Value} {a3:(Bool→T Int)} (a3n:FnT Tryz.prog ax ah (n) F w0 (.func (.func a3f) a3_1.toArray a3_2.toArray) a3) :
    Calls Tryz.prog 215 #[.int .i64 a0,.int .u64 a1,.int .u64 a2,.func (.func a3f) a3_1.toArray a3_2.toArray] w0 (av Tryz.prog ax n (D.o5 a0 a1 a2 a3) F w0):=by
 refine enter Tryz.func215 rfl 15 rfl rfl fun fr r=>?_;have hB:=Below.refl w0.heap.size w0
 refine wsr ?_;refine kX 40 (U a1) r rfl rfl fun b1 w2 n3 r=>?_;obtain ⟨eb1,zw2,hb1,hB,zB⟩:=n3.all hB
 refine kX 294 (.func (.func a3f) a3_1.toArray a3_2.toArray) r rfl rfl fun b4 w5 n6 r=>?_;have hb1:=keep n6.below hb1
 obtain ⟨eb4,zw5,hb4,hB,zB⟩:=n6.all hB;refine ar (.cells (ai false ax.zero 0 0 0 0 .nilFunc) 61 (0,0)) r (fun R=>aq tz61) rfl fun fr b7 w8 n9 r=>?_;have hb1:=keep n9.below hb1
 have hb4:=keep n9.below hb4;obtain ⟨eb7,zw8,hb7,hB,zB⟩:=n9.all hB;refine wn (wsr (kM (I a0) r rfl rfl fun r=>kL (U a1) r rfl hb1 to40 rfl rfl fun r=>kM (U a2) r rfl rfl fun r=>kU (.agg (bb (⟨2,a0,a1,a2⟩:Access)).toArray) r (by kernel_rfl) rfl fun r=>ae (.func (.func 318) #[] #[zp b4,zp b1]) r (fun R=>aW r rfl) rfl fun fr r=>?_));have hF1:=aA hF hB b7
 have f10:((kW F w0 w8 b7)) b4:=(.inr ⟨by omega,by omega,by omega⟩)
 have f11:((kW F w0 w8 b7)) b1:=(.inr ⟨by omega,by omega,by omega⟩)
 refine kD r (jm (F:=(kW F w0 w8 b7)) (n:=n) hF1 (⟨2,a0,a1,a2⟩:Access) ⟨318,[],[zp b4,zp b1],BO,rfl,fun m hm x w' hs hz=>xJ (fun b hb=>Nat.lt_of_lt_of_le (hF1 b hb) hz) f10 (hs.at_ f10 hb4) (a3n.mono (by omega) (fun b h=>.inl h) ((Same.below hB hF).trans (hs.sub (fun b h=>.inl h))) (Nat.le_trans hB.size hz)) a1 f11 (hs.at_ f11 hb1) x⟩) rfl jZ rfl fun w12 v13 hb hr14 r=>?_;have zw12:=hb.size
 have hb1:=keep hb hb1;have hb4:=keep hb hb4;have hb7:=keep hb hb7;obtain ⟨hB,zB⟩:=bon hb hB;refine kP r hr14.shape rfl rfl hb7 ts61 rfl rfl fun w15 u16 r=>?_;have zw15:=u16.size
 have hb1:=u16.keep hb1 (by omega)
 have hb4:=u16.keep hb4 (by omega)
 have hb7:=u16.at_;obtain ⟨hB,zB⟩:=u16.on hB (by omega)
 exact wn (wp_ret (kR r hr14 rfl rfl hb7 rfl ta61 hF hB u16 (by omega) (by omega) (by omega)))
def D.nR (a0:Int) (a1:(Int→T Grant)):T Grant:=(D.nZ (⟨0,a0,0,0⟩:Access) a1)
theorem xK (hF:kH F w0)
    (a0:Int) {a1f:FuncId} {a1_1 a1_2:List Value} {a1:(Int→T Grant)} (a1n:FnT Tryz.prog bf u64 (n) F w0 (.func (.func a1f) a1_1.toArray a1_2.toArray) a1) :
    Calls Tryz.prog 205 #[.int .i64 a0,.func (.func a1f) a1_1.toArray a1_2.toArray] w0 (av Tryz.prog bf n (D.nR a0 a1) F w0):=by
 refine enter Tryz.func205 rfl 9 rfl rfl fun fr r=>?_;have hB:=Below.refl w0.heap.size w0
 refine wsr ?_;refine ar (.cells (ai false bf.zero 0 0 0 0 .nilFunc) 45 (0,0)) r (fun R=>aq tz45) rfl fun fr b1 w2 n3 r=>?_;obtain ⟨eb1,zw2,hb1,hB,zB⟩:=n3.all hB
 refine wn (wsr (kM (I a0) r rfl rfl fun r=>kU (.agg (bb (⟨0,a0,0,0⟩:Access)).toArray) r (by kernel_rfl) rfl fun r=>kM (.func (.func a1f) a1_1.toArray a1_2.toArray) r rfl rfl fun r=>?_));have hF1:=aA hF hB b1
 refine kD r (nQ (F:=(kW F w0 w2 b1)) (n:=n) hF1 (⟨0,a0,0,0⟩:Access) (a1n.mono (by omega) (fun b h=>.inl h) (Same.below hB hF) hB.size)) rfl qi rfl fun w4 v5 hb hr6 r=>?_;have zw4:=hb.size
 have hb1:=keep hb hb1;obtain ⟨hB,zB⟩:=bon hb hB;refine kP r hr6.shape rfl rfl hb1 ts45 rfl rfl fun w7 u8 r=>?_;have zw7:=u8.size
 have hb1:=u8.at_;obtain ⟨hB,zB⟩:=u8.on hB (by omega)
 exact wn (wp_ret (kR r hr6 rfl rfl hb1 rfl ta45 hF hB u8 (by omega) (by omega) (by omega)))
def D.qQ (c0:(Unit→T Grant)) (a0:Int):T Grant:=(c0 ())
theorem wP (hF:kH F w0)
    {c0f:FuncId} {c0_1 c0_2:List Value} {c0:(Unit→T Grant)} {c0b:Nat} (c0F:F c0b) (c0h:w0.heap[c0b]?=some (.cells #[.func (.func c0f) c0_1.toArray c0_2.toArray] 289 (0,0))) (c0n:FnT Tryz.prog bf unitE (n+1) F w0 (.func (.func c0f) c0_1.toArray c0_2.toArray) c0) (a0:Int) :
    Calls Tryz.prog 317 #[.int .u64 a0,zp c0b] w0 (av Tryz.prog bf n (D.qQ c0 a0) F w0):=by
 refine enter Tryz.func317 rfl 6 rfl rfl fun fr r=>?_;have hB:=Below.refl w0.heap.size w0
 have lc0b:=lt_of_block c0h;refine wsr ?_;refine ar (.cells (ai false bf.zero 0 0 0 0 .nilFunc) 45 (0,0)) r (fun R=>aq tz45) rfl fun fr b1 w2 n3 r=>?_;obtain ⟨eb1,zw2,hb1,hB,zB⟩:=n3.all hB
 refine wn (wsr (kL (.func (.func c0f) c0_1.toArray c0_2.toArray) r rfl (keep hB c0h) Cx rfl rfl fun r=>?_));refine cE r (c0n.at_.2 n (Nat.lt_succ_self n) () w2 (Same.below hB hF) hB.size) (fun R hc=>gF r rfl c0n.at_.1 hc) rfl ?_
 rintro _ w4 ⟨v5,rfl,hb,hr6⟩;refine ⟨_,rfl,fun fr r=>?_⟩
 have zw4:=hb.size;have hb1:=keep hb hb1;obtain ⟨hB,zB⟩:=bon hb hB;refine kP r hr6.shape rfl rfl hb1 ts45 rfl rfl fun w7 u8 r=>?_;have zw7:=u8.size
 have hb1:=u8.at_;obtain ⟨hB,zB⟩:=u8.on hB (by omega)
 refine wn (wp_ret ?_);have hs:=hr6.shape.cells;refine aH r rfl rfl hb1 (k:=9) hs.1 ta45 ?_;rw [←hs.2.2];exact av.fin hB hr6 u8 (fun b hb=>.inl hb) (fun h=>by have:=hF _ h; omega) (by omega) (by omega) (by omega)
def D.nI (a0:Int) (a1:Int) (a2:(Unit→T Grant)):T Grant:=(D.nZ (⟨1,a0,a1,0⟩:Access) (fun x=>(D.qQ a2 x)))
theorem xB (hF:kH F w0)
    (a0:Int) (a1:Int) {a2f:FuncId} {a2_1 a2_2:List Value} {a2:(Unit→T Grant)} (a2n:FnT Tryz.prog bf unitE (n) F w0 (.func (.func a2f) a2_1.toArray a2_2.toArray) a2) :
    Calls Tryz.prog 207 #[.int .i64 a0,.int .u64 a1,.func (.func a2f) a2_1.toArray a2_2.toArray] w0 (av Tryz.prog bf n (D.nI a0 a1 a2) F w0):=by
 refine enter Tryz.func207 rfl 12 rfl rfl fun fr r=>?_;have hB:=Below.refl w0.heap.size w0
 refine wsr ?_;refine kX 289 (.func (.func a2f) a2_1.toArray a2_2.toArray) r rfl rfl fun b1 w2 n3 r=>?_;obtain ⟨eb1,zw2,hb1,hB,zB⟩:=n3.all hB
 refine ar (.cells (ai false bf.zero 0 0 0 0 .nilFunc) 45 (0,0)) r (fun R=>aq tz45) rfl fun fr b4 w5 n6 r=>?_;have hb1:=keep n6.below hb1
 obtain ⟨eb4,zw5,hb4,hB,zB⟩:=n6.all hB;refine wn (wsr (kM (I a0) r rfl rfl fun r=>kM (U a1) r rfl rfl fun r=>kU (.agg (bb (⟨1,a0,a1,0⟩:Access)).toArray) r (by kernel_rfl) rfl fun r=>ae (.func (.func 317) #[] #[zp b1]) r (fun R=>aW r rfl) rfl fun fr r=>?_));have hF1:=aA hF hB b4
 have f7:((kW F w0 w5 b4)) b1:=(.inr ⟨by omega,by omega,by omega⟩)
 refine kD r (nQ (F:=(kW F w0 w5 b4)) (n:=n) hF1 (⟨1,a0,a1,0⟩:Access) ⟨317,[],[zp b1],D2,rfl,fun m hm x w' hs hz=>wP (fun b hb=>Nat.lt_of_lt_of_le (hF1 b hb) hz) f7 (hs.at_ f7 hb1) (a2n.mono (by omega) (fun b h=>.inl h) ((Same.below hB hF).trans (hs.sub (fun b h=>.inl h))) (Nat.le_trans hB.size hz)) x⟩) rfl qi rfl fun w8 v9 hb hr10 r=>?_;have zw8:=hb.size
 have hb1:=keep hb hb1;have hb4:=keep hb hb4;obtain ⟨hB,zB⟩:=bon hb hB;refine kP r hr10.shape rfl rfl hb4 ts45 rfl rfl fun w11 u12 r=>?_;have zw11:=u12.size
 have hb1:=u12.keep hb1 (by omega)
 have hb4:=u12.at_;obtain ⟨hB,zB⟩:=u12.on hB (by omega)
 exact wn (wp_ret (kR r hr10 rfl rfl hb4 rfl ta45 hF hB u12 (by omega) (by omega) (by omega)))
def D.nT (a0:Int) (a1:(Int→T Bool)):T Bool:=(D.rH (⟨0,a0,0,0⟩:Access) a1)
theorem xY (hF:kH F w0)
    (a0:Int) {a1f:FuncId} {a1_1 a1_2:List Value} {a1:(Int→T Bool)} (a1n:FnT Tryz.prog bT u64 (n) F w0 (.func (.func a1f) a1_1.toArray a1_2.toArray) a1) :
    Calls Tryz.prog 417 #[.int .i64 a0,.func (.func a1f) a1_1.toArray a1_2.toArray] w0 (av Tryz.prog bT n (D.nT a0 a1) F w0):=by
 refine enter Tryz.func417 rfl 9 rfl rfl fun fr r=>?_;have hB:=Below.refl w0.heap.size w0
 refine wsr ?_;refine ar (.cells (ai false bT.zero 0 0 0 0 .nilFunc) 336 (0,0)) r (fun R=>aq iS) rfl fun fr b1 w2 n3 r=>?_;obtain ⟨eb1,zw2,hb1,hB,zB⟩:=n3.all hB
 refine wn (wsr (kM (I a0) r rfl rfl fun r=>kU (.agg (bb (⟨0,a0,0,0⟩:Access)).toArray) r (by kernel_rfl) rfl fun r=>kM (.func (.func a1f) a1_1.toArray a1_2.toArray) r rfl rfl fun r=>?_));have hF1:=aA hF hB b1
 refine kD r (yx (F:=(kW F w0 w2 b1)) (n:=n) hF1 (⟨0,a0,0,0⟩:Access) (a1n.mono (by omega) (fun b h=>.inl h) (Same.below hB hF) hB.size)) rfl CR rfl fun w4 v5 hb hr6 r=>?_;have zw4:=hb.size
 have hb1:=keep hb hb1;obtain ⟨hB,zB⟩:=bon hb hB;refine kP r hr6.shape rfl rfl hb1 fU rfl rfl fun w7 u8 r=>?_;have zw7:=u8.size
 have hb1:=u8.at_;obtain ⟨hB,zB⟩:=u8.on hB (by omega)
 exact wn (wp_ret (kR r hr6 rfl rfl hb1 rfl fT hF hB u8 (by omega) (by omega) (by omega)))
def D.ld (c0:(Unit→T Int)) (a0:Int):T Int:=(c0 ())
theorem xn (hF:kH F w0)
    {c0f:FuncId} {c0_1 c0_2:List Value} {c0:(Unit→T Int)} {c0b:Nat} (c0F:F c0b) (c0h:w0.heap[c0b]?=some (.cells #[.func (.func c0f) c0_1.toArray c0_2.toArray] 228 (0,0))) (c0n:FnT Tryz.prog ax unitE (n+1) F w0 (.func (.func c0f) c0_1.toArray c0_2.toArray) c0) (a0:Int) :
    Calls Tryz.prog 227 #[.int .u64 a0,zp c0b] w0 (av Tryz.prog ax n (D.ld c0 a0) F w0):=by
 refine enter Tryz.func227 rfl 6 rfl rfl fun fr r=>?_;have hB:=Below.refl w0.heap.size w0
 have lc0b:=lt_of_block c0h;refine wsr ?_;refine ar (.cells (ai false ax.zero 0 0 0 0 .nilFunc) 61 (0,0)) r (fun R=>aq tz61) rfl fun fr b1 w2 n3 r=>?_;obtain ⟨eb1,zw2,hb1,hB,zB⟩:=n3.all hB
 refine wn (wsr (kL (.func (.func c0f) c0_1.toArray c0_2.toArray) r rfl (keep hB c0h) kg rfl rfl fun r=>?_));refine cE r (c0n.at_.2 n (Nat.lt_succ_self n) () w2 (Same.below hB hF) hB.size) (fun R hc=>gF r rfl c0n.at_.1 hc) rfl ?_
 rintro _ w4 ⟨v5,rfl,hb,hr6⟩;refine ⟨_,rfl,fun fr r=>?_⟩
 have zw4:=hb.size;have hb1:=keep hb hb1;obtain ⟨hB,zB⟩:=bon hb hB;refine kP r hr6.shape rfl rfl hb1 ts61 rfl rfl fun w7 u8 r=>?_;have zw7:=u8.size
 have hb1:=u8.at_;obtain ⟨hB,zB⟩:=u8.on hB (by omega)
 refine wn (wp_ret ?_);have hs:=hr6.shape.cells;refine aH r rfl rfl hb1 (k:=7) hs.1 ta61 ?_;rw [←hs.2.2];exact av.fin hB hr6 u8 (fun b hb=>.inl hb) (fun h=>by have:=hF _ h; omega) (by omega) (by omega) (by omega)
def D.dl (a0:Int) (a1:Int) (a2:(Unit→T Int)):T Int:=(D.lG (⟨1,a0,a1,0⟩:Access) (fun x=>(D.ld a2 x)))
theorem fA (hF:kH F w0)
    (a0:Int) (a1:Int) {a2f:FuncId} {a2_1 a2_2:List Value} {a2:(Unit→T Int)} (a2n:FnT Tryz.prog ax unitE (n) F w0 (.func (.func a2f) a2_1.toArray a2_2.toArray) a2) :
    Calls Tryz.prog 129 #[.int .i64 a0,.int .u64 a1,.func (.func a2f) a2_1.toArray a2_2.toArray] w0 (av Tryz.prog ax n (D.dl a0 a1 a2) F w0):=by
 refine enter Tryz.func129 rfl 12 rfl rfl fun fr r=>?_;have hB:=Below.refl w0.heap.size w0
 refine wsr ?_;refine kX 228 (.func (.func a2f) a2_1.toArray a2_2.toArray) r rfl rfl fun b1 w2 n3 r=>?_;obtain ⟨eb1,zw2,hb1,hB,zB⟩:=n3.all hB
 refine ar (.cells (ai false ax.zero 0 0 0 0 .nilFunc) 61 (0,0)) r (fun R=>aq tz61) rfl fun fr b4 w5 n6 r=>?_;have hb1:=keep n6.below hb1
 obtain ⟨eb4,zw5,hb4,hB,zB⟩:=n6.all hB;refine wn (wsr (kM (I a0) r rfl rfl fun r=>kM (U a1) r rfl rfl fun r=>kU (.agg (bb (⟨1,a0,a1,0⟩:Access)).toArray) r (by kernel_rfl) rfl fun r=>ae (.func (.func 227) #[] #[zp b1]) r (fun R=>aW r rfl) rfl fun fr r=>?_));have hF1:=aA hF hB b4
 have f7:((kW F w0 w5 b4)) b1:=(.inr ⟨by omega,by omega,by omega⟩)
 refine kD r (jm (F:=(kW F w0 w5 b4)) (n:=n) hF1 (⟨1,a0,a1,0⟩:Access) ⟨227,[],[zp b1],CB,rfl,fun m hm x w' hs hz=>xn (fun b hb=>Nat.lt_of_lt_of_le (hF1 b hb) hz) f7 (hs.at_ f7 hb1) (a2n.mono (by omega) (fun b h=>.inl h) ((Same.below hB hF).trans (hs.sub (fun b h=>.inl h))) (Nat.le_trans hB.size hz)) x⟩) rfl jZ rfl fun w8 v9 hb hr10 r=>?_;have zw8:=hb.size
 have hb1:=keep hb hb1;have hb4:=keep hb hb4;obtain ⟨hB,zB⟩:=bon hb hB;refine kP r hr10.shape rfl rfl hb4 ts61 rfl rfl fun w11 u12 r=>?_;have zw11:=u12.size
 have hb1:=u12.keep hb1 (by omega)
 have hb4:=u12.at_;obtain ⟨hB,zB⟩:=u12.on hB (by omega)
 exact wn (wp_ret (kR r hr10 rfl rfl hb4 rfl ta61 hF hB u12 (by omega) (by omega) (by omega)))
def D.eP (a0:Int) (a1:(Int→T Res)):T Res:=(D.lI (⟨0,a0,0,0⟩:Access) a1)
theorem gW (hF:kH F w0)
    (a0:Int) {a1f:FuncId} {a1_1 a1_2:List Value} {a1:(Int→T Res)} (a1n:FnT Tryz.prog aj u64 (n) F w0 (.func (.func a1f) a1_1.toArray a1_2.toArray) a1) :
    Calls Tryz.prog 178 #[.int .i64 a0,.func (.func a1f) a1_1.toArray a1_2.toArray] w0 (av Tryz.prog aj n (D.eP a0 a1) F w0):=by
 refine enter Tryz.func178 rfl 9 rfl rfl fun fr r=>?_;have hB:=Below.refl w0.heap.size w0
 refine wsr ?_;refine ar (.cells (ai false aj.zero 0 0 0 0 .nilFunc) 84 (0,0)) r (fun R=>aq tz84) rfl fun fr b1 w2 n3 r=>?_;obtain ⟨eb1,zw2,hb1,hB,zB⟩:=n3.all hB
 refine wn (wsr (kM (I a0) r rfl rfl fun r=>kU (.agg (bb (⟨0,a0,0,0⟩:Access)).toArray) r (by kernel_rfl) rfl fun r=>kM (.func (.func a1f) a1_1.toArray a1_2.toArray) r rfl rfl fun r=>?_));have hF1:=aA hF hB b1
 refine kD r (gj (F:=(kW F w0 w2 b1)) (n:=n) hF1 (⟨0,a0,0,0⟩:Access) (a1n.mono (by omega) (fun b h=>.inl h) (Same.below hB hF) hB.size)) rfl gN rfl fun w4 v5 hb hr6 r=>?_;have zw4:=hb.size
 have hb1:=keep hb hb1;obtain ⟨hB,zB⟩:=bon hb hB;refine kP r hr6.shape rfl rfl hb1 ts84 rfl rfl fun w7 u8 r=>?_;have zw7:=u8.size
 have hb1:=u8.at_;obtain ⟨hB,zB⟩:=u8.on hB (by omega)
 exact wn (wp_ret (kR r hr6 rfl rfl hb1 rfl ta84 hF hB u8 (by omega) (by omega) (by omega)))
def D.ri (c0:(Bool→T Res)) (c1:Int) (a0:Int):T Res:=(c0 (a0==c1))
theorem xL (hF:kH F w0)
    {c0f:FuncId} {c0_1 c0_2:List Value} {c0:(Bool→T Res)} {c0b:Nat} (c0F:F c0b) (c0h:w0.heap[c0b]?=some (.cells #[.func (.func c0f) c0_1.toArray c0_2.toArray] 272 (0,0))) (c0n:FnT Tryz.prog aj ah (n+1) F w0 (.func (.func c0f) c0_1.toArray c0_2.toArray) c0) (c1:Int) {c1b:Nat} (c1F:F c1b) (c1h:w0.heap[c1b]?=some (.cells ([(.int .u64 c1)]).toArray 40 (0,0))) (a0:Int) :
    Calls Tryz.prog 299 #[.int .u64 a0,zp c0b,zp c1b] w0 (av Tryz.prog aj n (D.ri c0 c1 a0) F w0):=by
 refine enter Tryz.func299 rfl 10 rfl rfl fun fr r=>?_;have hB:=Below.refl w0.heap.size w0
 have lc0b:=lt_of_block c0h;have lc1b:=lt_of_block c1h;refine wsr ?_;refine ar (.cells (ai false aj.zero 0 0 0 0 .nilFunc) 84 (0,0)) r (fun R=>aq tz84) rfl fun fr b1 w2 n3 r=>?_;obtain ⟨eb1,zw2,hb1,hB,zB⟩:=n3.all hB
 refine wn (wsr (kL (.func (.func c0f) c0_1.toArray c0_2.toArray) r rfl (keep hB c0h) CS rfl rfl fun r=>kM (U a0) r rfl rfl fun r=>kL (U c1) r rfl (keep hB c1h) to40 rfl rfl fun r=>kB r rfl rfl rfl rfl rfl fun r=>?_));refine cE r (c0n.at_.2 n (Nat.lt_succ_self n) (a0==c1) w2 (Same.below hB hF) hB.size) (fun R hc=>dx r rfl rfl c0n.at_.1 hc) rfl ?_
 rintro _ w4 ⟨v5,rfl,hb,hr6⟩;refine ⟨_,rfl,fun fr r=>?_⟩
 have zw4:=hb.size;have hb1:=keep hb hb1;obtain ⟨hB,zB⟩:=bon hb hB;refine kP r hr6.shape rfl rfl hb1 ts84 rfl rfl fun w7 u8 r=>?_;have zw7:=u8.size
 have hb1:=u8.at_;obtain ⟨hB,zB⟩:=u8.on hB (by omega)
 refine wn (wp_ret ?_);have hs:=hr6.shape.cells;refine aH r rfl rfl hb1 (k:=8) hs.1 ta84 ?_;rw [←hs.2.2];exact av.fin hB hr6 u8 (fun b hb=>.inl hb) (fun h=>by have:=hF _ h; omega) (by omega) (by omega) (by omega)
def D.dQ (a0:Int) (a1:Int) (a2:Int) (a3:(Bool→T Res)):T Res:=(D.lI (⟨2,a0,a1,a2⟩:Access) (fun x=>(D.ri a3 a1 x)))
theorem jf (hF:kH F w0)
    (a0:Int) (a1:Int) (a2:Int) {a3f:FuncId} {a3_1 a3_2:List Value} {a3:(Bool→T Res)} (a3n:FnT Tryz.prog aj ah (n) F w0 (.func (.func a3f) a3_1.toArray a3_2.toArray) a3) :
    Calls Tryz.prog 180 #[.int .i64 a0,.int .u64 a1,.int .u64 a2,.func (.func a3f) a3_1.toArray a3_2.toArray] w0 (av Tryz.prog aj n (D.dQ a0 a1 a2 a3) F w0):=by
 refine enter Tryz.func180 rfl 15 rfl rfl fun fr r=>?_;have hB:=Below.refl w0.heap.size w0
 refine wsr ?_;refine kX 40 (U a1) r rfl rfl fun b1 w2 n3 r=>?_;obtain ⟨eb1,zw2,hb1,hB,zB⟩:=n3.all hB
 refine kX 272 (.func (.func a3f) a3_1.toArray a3_2.toArray) r rfl rfl fun b4 w5 n6 r=>?_;have hb1:=keep n6.below hb1
 obtain ⟨eb4,zw5,hb4,hB,zB⟩:=n6.all hB;refine ar (.cells (ai false aj.zero 0 0 0 0 .nilFunc) 84 (0,0)) r (fun R=>aq tz84) rfl fun fr b7 w8 n9 r=>?_;have hb1:=keep n9.below hb1
 have hb4:=keep n9.below hb4;obtain ⟨eb7,zw8,hb7,hB,zB⟩:=n9.all hB;refine wn (wsr (kM (I a0) r rfl rfl fun r=>kL (U a1) r rfl hb1 to40 rfl rfl fun r=>kM (U a2) r rfl rfl fun r=>kU (.agg (bb (⟨2,a0,a1,a2⟩:Access)).toArray) r (by kernel_rfl) rfl fun r=>ae (.func (.func 299) #[] #[zp b4,zp b1]) r (fun R=>aW r rfl) rfl fun fr r=>?_));have hF1:=aA hF hB b7
 have f10:((kW F w0 w8 b7)) b4:=(.inr ⟨by omega,by omega,by omega⟩)
 have f11:((kW F w0 w8 b7)) b1:=(.inr ⟨by omega,by omega,by omega⟩)
 refine kD r (gj (F:=(kW F w0 w8 b7)) (n:=n) hF1 (⟨2,a0,a1,a2⟩:Access) ⟨299,[],[zp b4,zp b1],C5,rfl,fun m hm x w' hs hz=>xL (fun b hb=>Nat.lt_of_lt_of_le (hF1 b hb) hz) f10 (hs.at_ f10 hb4) (a3n.mono (by omega) (fun b h=>.inl h) ((Same.below hB hF).trans (hs.sub (fun b h=>.inl h))) (Nat.le_trans hB.size hz)) a1 f11 (hs.at_ f11 hb1) x⟩) rfl gN rfl fun w12 v13 hb hr14 r=>?_;have zw12:=hb.size
 have hb1:=keep hb hb1;have hb4:=keep hb hb4;have hb7:=keep hb hb7;obtain ⟨hB,zB⟩:=bon hb hB;refine kP r hr14.shape rfl rfl hb7 ts84 rfl rfl fun w15 u16 r=>?_;have zw15:=u16.size
 have hb1:=u16.keep hb1 (by omega)
 have hb4:=u16.keep hb4 (by omega)
 have hb7:=u16.at_;obtain ⟨hB,zB⟩:=u16.on hB (by omega)
 exact wn (wp_ret (kR r hr14 rfl rfl hb7 rfl ta84 hF hB u16 (by omega) (by omega) (by omega)))
def D.ra (c0:(Unit→T Res)) (a0:Int):T Res:=(c0 ())
theorem xu (hF:kH F w0)
    {c0f:FuncId} {c0_1 c0_2:List Value} {c0:(Unit→T Res)} {c0b:Nat} (c0F:F c0b) (c0h:w0.heap[c0b]?=some (.cells #[.func (.func c0f) c0_1.toArray c0_2.toArray] 254 (0,0))) (c0n:FnT Tryz.prog aj unitE (n+1) F w0 (.func (.func c0f) c0_1.toArray c0_2.toArray) c0) (a0:Int) :
    Calls Tryz.prog 276 #[.int .u64 a0,zp c0b] w0 (av Tryz.prog aj n (D.ra c0 a0) F w0):=by
 refine enter Tryz.func276 rfl 6 rfl rfl fun fr r=>?_;have hB:=Below.refl w0.heap.size w0
 have lc0b:=lt_of_block c0h;refine wsr ?_;refine ar (.cells (ai false aj.zero 0 0 0 0 .nilFunc) 84 (0,0)) r (fun R=>aq tz84) rfl fun fr b1 w2 n3 r=>?_;obtain ⟨eb1,zw2,hb1,hB,zB⟩:=n3.all hB
 refine wn (wsr (kL (.func (.func c0f) c0_1.toArray c0_2.toArray) r rfl (keep hB c0h) qj rfl rfl fun r=>?_));refine cE r (c0n.at_.2 n (Nat.lt_succ_self n) () w2 (Same.below hB hF) hB.size) (fun R hc=>gF r rfl c0n.at_.1 hc) rfl ?_
 rintro _ w4 ⟨v5,rfl,hb,hr6⟩;refine ⟨_,rfl,fun fr r=>?_⟩
 have zw4:=hb.size;have hb1:=keep hb hb1;obtain ⟨hB,zB⟩:=bon hb hB;refine kP r hr6.shape rfl rfl hb1 ts84 rfl rfl fun w7 u8 r=>?_;have zw7:=u8.size
 have hb1:=u8.at_;obtain ⟨hB,zB⟩:=u8.on hB (by omega)
 refine wn (wp_ret ?_);have hs:=hr6.shape.cells;refine aH r rfl rfl hb1 (k:=8) hs.1 ta84 ?_;rw [←hs.2.2];exact av.fin hB hr6 u8 (fun b hb=>.inl hb) (fun h=>by have:=hF _ h; omega) (by omega) (by omega) (by omega)
def D.jh (a0:Int) (a1:Int) (a2:(Unit→T Res)):T Res:=(D.lI (⟨1,a0,a1,0⟩:Access) (fun x=>(D.ra a2 x)))
theorem nG (hF:kH F w0)
    (a0:Int) (a1:Int) {a2f:FuncId} {a2_1 a2_2:List Value} {a2:(Unit→T Res)} (a2n:FnT Tryz.prog aj unitE (n) F w0 (.func (.func a2f) a2_1.toArray a2_2.toArray) a2) :
    Calls Tryz.prog 162 #[.int .i64 a0,.int .u64 a1,.func (.func a2f) a2_1.toArray a2_2.toArray] w0 (av Tryz.prog aj n (D.jh a0 a1 a2) F w0):=by
 refine enter Tryz.func162 rfl 12 rfl rfl fun fr r=>?_;have hB:=Below.refl w0.heap.size w0
 refine wsr ?_;refine kX 254 (.func (.func a2f) a2_1.toArray a2_2.toArray) r rfl rfl fun b1 w2 n3 r=>?_;obtain ⟨eb1,zw2,hb1,hB,zB⟩:=n3.all hB
 refine ar (.cells (ai false aj.zero 0 0 0 0 .nilFunc) 84 (0,0)) r (fun R=>aq tz84) rfl fun fr b4 w5 n6 r=>?_;have hb1:=keep n6.below hb1
 obtain ⟨eb4,zw5,hb4,hB,zB⟩:=n6.all hB;refine wn (wsr (kM (I a0) r rfl rfl fun r=>kM (U a1) r rfl rfl fun r=>kU (.agg (bb (⟨1,a0,a1,0⟩:Access)).toArray) r (by kernel_rfl) rfl fun r=>ae (.func (.func 276) #[] #[zp b1]) r (fun R=>aW r rfl) rfl fun fr r=>?_));have hF1:=aA hF hB b4
 have f7:((kW F w0 w5 b4)) b1:=(.inr ⟨by omega,by omega,by omega⟩)
 refine kD r (gj (F:=(kW F w0 w5 b4)) (n:=n) hF1 (⟨1,a0,a1,0⟩:Access) ⟨276,[],[zp b1],Dr,rfl,fun m hm x w' hs hz=>xu (fun b hb=>Nat.lt_of_lt_of_le (hF1 b hb) hz) f7 (hs.at_ f7 hb1) (a2n.mono (by omega) (fun b h=>.inl h) ((Same.below hB hF).trans (hs.sub (fun b h=>.inl h))) (Nat.le_trans hB.size hz)) x⟩) rfl gN rfl fun w8 v9 hb hr10 r=>?_;have zw8:=hb.size
 have hb1:=keep hb hb1;have hb4:=keep hb hb4;obtain ⟨hB,zB⟩:=bon hb hB;refine kP r hr10.shape rfl rfl hb4 ts84 rfl rfl fun w11 u12 r=>?_;have zw11:=u12.size
 have hb1:=u12.keep hb1 (by omega)
 have hb4:=u12.at_;obtain ⟨hB,zB⟩:=u12.on hB (by omega)
 exact wn (wp_ret (kR r hr10 rfl rfl hb4 rfl ta84 hF hB u12 (by omega) (by omega) (by omega)))
def D.lg (a0:Int) (a1:(Int→T Int)):T Int:=(D.rq (⟨0,a0,0,0⟩:Access) a1)
theorem qR (hF:kH F w0)
    (a0:Int) {a1f:FuncId} {a1_1 a1_2:List Value} {a1:(Int→T Int)} (a1n:FnT Tryz.prog bD u64 (n) F w0 (.func (.func a1f) a1_1.toArray a1_2.toArray) a1) :
    Calls Tryz.prog 344 #[.int .i64 a0,.func (.func a1f) a1_1.toArray a1_2.toArray] w0 (av Tryz.prog bD n (D.lg a0 a1) F w0):=by
 refine enter Tryz.func344 rfl 9 rfl rfl fun fr r=>?_;have hB:=Below.refl w0.heap.size w0
 refine wsr ?_;refine ar (.cells (ai false bD.zero 0 0 0 0 .nilFunc) 319 (0,0)) r (fun R=>aq dX) rfl fun fr b1 w2 n3 r=>?_;obtain ⟨eb1,zw2,hb1,hB,zB⟩:=n3.all hB
 refine wn (wsr (kM (I a0) r rfl rfl fun r=>kU (.agg (bb (⟨0,a0,0,0⟩:Access)).toArray) r (by kernel_rfl) rfl fun r=>kM (.func (.func a1f) a1_1.toArray a1_2.toArray) r rfl rfl fun r=>?_));have hF1:=aA hF hB b1
 refine kD r (rf (F:=(kW F w0 w2 b1)) (n:=n) hF1 (⟨0,a0,0,0⟩:Access) (a1n.mono (by omega) (fun b h=>.inl h) (Same.below hB hF) hB.size)) rfl uy rfl fun w4 v5 hb hr6 r=>?_;have zw4:=hb.size
 have hb1:=keep hb hb1;obtain ⟨hB,zB⟩:=bon hb hB;refine kP r hr6.shape rfl rfl hb1 dC rfl rfl fun w7 u8 r=>?_;have zw7:=u8.size
 have hb1:=u8.at_;obtain ⟨hB,zB⟩:=u8.on hB (by omega)
 exact wn (wp_ret (kR r hr6 rfl rfl hb1 rfl dE hF hB u8 (by omega) (by omega) (by omega)))
end
end Go.Proofs.YtfpgnmhcfkikkaaGreat
