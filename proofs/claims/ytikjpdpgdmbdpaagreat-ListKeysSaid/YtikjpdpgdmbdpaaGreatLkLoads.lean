/- Ours. -/
import Derived.Test.YtikjpdpgdmbdpaaGreatLkThens
set_option linter.all false
set_option maxRecDepth 20000
set_option maxHeartbeats 2000000
namespace Go.Proofs.YtikjpdpgdmbdpaaGreat
open Go.RowKit
section
variable {n : Nat} {F : Nat → Prop} {j : Nat} {w0 : World}
theorem DJ:ag Tryz.prog 212:=by kernel_rfl
theorem ED:ag Tryz.prog 228:=by kernel_rfl
theorem vB:ag Tryz.prog 265:=by kernel_rfl
theorem DG:ag Tryz.prog 268:=by kernel_rfl
theorem EA:ag Tryz.prog 329:=by kernel_rfl
theorem DI:ag Tryz.prog 330:=by kernel_rfl
theorem Dw:ag Tryz.prog 338:=by kernel_rfl
theorem wC:ag Tryz.prog 339:=by kernel_rfl
theorem Ea:ag Tryz.prog 341:=by kernel_rfl
theorem Ez:ag Tryz.prog 410:=by kernel_rfl
theorem CE:tyO Tryz.prog 202:=by kernel_rfl
theorem CG:tyO Tryz.prog 215:=by kernel_rfl
theorem kz:tyO Tryz.prog 242:=by kernel_rfl
theorem De:tyO Tryz.prog 278:=by kernel_rfl
theorem DR:tyO Tryz.prog 289:=by kernel_rfl
def D.rG (c0:(Unit→T Unit)) (a0:Int):T Unit:=(c0 ())
theorem xY (hF:kH F w0)
    {c0f:FuncId} {c0_1 c0_2:List Value} {c0:(Unit→T Unit)} {c0b:Nat} (c0F:F c0b) (c0h:w0.heap[c0b]?=some (.cells #[.func (.func c0f) c0_1.toArray c0_2.toArray] 289 (0,0))) (c0n:FnT Tryz.prog az unitE (n+1) F w0 (.func (.func c0f) c0_1.toArray c0_2.toArray) c0) (a0:Int) :
    Calls Tryz.prog 341 #[.int .u64 a0,zp c0b] w0 (aB Tryz.prog az n (D.rG c0 a0) F w0):=by
 refine kN Tryz.func341 rfl 6 rfl rfl fun fr r hB=>?_;have lc0b:=lt_of_block c0h
 refine wsr ?_;refine ai (.cells (ae false az.zero 0 0 0 0 .nilFunc) 157 (0,0)) r (fun R=>ah cW) rfl fun fr b1 w2 n3 r=>?_;obtain ⟨eb1,zw2,hb1,hB,zB⟩:=n3.all hB
 refine wn (wsr (kL (.func (.func c0f) c0_1.toArray c0_2.toArray) r rfl (keep hB c0h) DR rfl rfl fun r=>?_));refine cz r (c0n.at_.2 n (Nat.lt_succ_self n) () w2 (Same.below hB hF) hB.size) (fun R hc=>gP r rfl c0n.at_.1 hc) rfl ?_
 rintro _ w4 ⟨v5,rfl,hb,hr6⟩;refine ⟨_,rfl,fun fr r=>?_⟩
 have zw4:=hb.size;have hb1:=keep hb hb1;obtain ⟨hB,zB⟩:=bon hb hB;refine kP r hr6.shape rfl rfl hb1 cF rfl rfl fun w7 u8 r=>?_;have zw7:=u8.size
 have hb1:=u8.at_;obtain ⟨hB,zB⟩:=u8.on hB (by omega)
 refine wn (wp_ret ?_);have hs:=hr6.shape.cells;refine aq r rfl rfl hb1 (k:=6) hs.1 cA ?_;rw [←hs.2.2];exact aB.fin hB hr6 u8 (fun b hb=>.inl hb) (fun h=>by have:=hF _ h; omega) (by omega) (by omega) (by omega)
def D.lA (a0:Int) (a1:Int) (a2:(Unit→T Unit)):T Unit:=(D.sA (⟨1,a0,a1,0⟩:Access) (fun x=>(D.rG a2 x)))
theorem rE (hF:kH F w0)
    (a0:Int) (a1:Int) {a2f:FuncId} {a2_1 a2_2:List Value} {a2:(Unit→T Unit)} (a2n:FnT Tryz.prog az unitE (n) F w0 (.func (.func a2f) a2_1.toArray a2_2.toArray) a2) :
    Calls Tryz.prog 265 #[.int .i64 a0,.int .u64 a1,.func (.func a2f) a2_1.toArray a2_2.toArray] w0 (aB Tryz.prog az n (D.lA a0 a1 a2) F w0):=by
 refine kN Tryz.func265 rfl 12 rfl rfl fun fr r hB=>?_;refine wsr ?_
 refine kX 289 (.func (.func a2f) a2_1.toArray a2_2.toArray) r rfl rfl fun b1 w2 n3 r=>?_;obtain ⟨eb1,zw2,hb1,hB,zB⟩:=n3.all hB
 refine ai (.cells (ae false az.zero 0 0 0 0 .nilFunc) 157 (0,0)) r (fun R=>ah cW) rfl fun fr b4 w5 n6 r=>?_;have hb1:=keep n6.below hb1
 obtain ⟨eb4,zw5,hb4,hB,zB⟩:=n6.all hB;refine wn (wsr (kM (I a0) r rfl rfl fun r=>kM (U a1) r rfl rfl fun r=>kU (.agg (bb (⟨1,a0,a1,0⟩:Access)).toArray) r (by kernel_rfl) rfl fun r=>ac (.func (.func 341) #[] #[zp b1]) r (fun R=>aT r rfl) rfl fun fr r=>?_));have hF1:=aM hF hB b4
 have f7:((kW F w0 w5 b4)) b1:=(.inr ⟨by omega,by omega,by omega⟩)
 refine kD r (s5 (F:=(kW F w0 w5 b4)) (n:=n) hF1 (⟨1,a0,a1,0⟩:Access) ⟨341,[],[zp b1],Ea,rfl,fun m hm x w' hs hz=>xY (fun b hb=>Nat.lt_of_lt_of_le (hF1 b hb) hz) f7 (hs.at_ f7 hb1) (a2n.mono (by omega) (fun b h=>.inl h) ((Same.below hB hF).trans (hs.sub (fun b h=>.inl h))) (Nat.le_trans hB.size hz)) x⟩) rfl vM rfl fun w8 v9 hb hr10 r=>?_;have zw8:=hb.size
 have hb1:=keep hb hb1;have hb4:=keep hb hb4;obtain ⟨hB,zB⟩:=bon hb hB;refine kP r hr10.shape rfl rfl hb4 cF rfl rfl fun w11 u12 r=>?_;have zw11:=u12.size
 have hb1:=u12.keep hb1 (by omega)
 have hb4:=u12.at_;obtain ⟨hB,zB⟩:=u12.on hB (by omega)
 exact wn (wp_ret (kR r hr10 rfl rfl hb4 rfl cA hF hB u12 (by omega) (by omega) (by omega)))
def D.sO :T Unit:=D.lD
theorem A0 (hF:kH F w0)
     :
    Calls Tryz.prog 338 #[] w0 (aB Tryz.prog az n D.sO F w0):=by
 refine kN Tryz.func338 rfl 3 rfl rfl fun fr r hB=>?_;refine wsr ?_
 refine ai (.cells (ae false az.zero 0 0 0 0 .nilFunc) 157 (0,0)) r (fun R=>ah cW) rfl fun fr b1 w2 n3 r=>?_;obtain ⟨eb1,zw2,hb1,hB,zB⟩:=n3.all hB
 refine wn (wsr (kU (.agg #[]) r (by kernel_rfl) rfl fun r=>?_));have hF1:=aM hF hB b1
 refine kD r (rK (F:=(kW F w0 w2 b1)) (n:=n) hF1 ) rfl wC rfl fun w4 v5 hb hr6 r=>?_;have zw4:=hb.size
 have hb1:=keep hb hb1;obtain ⟨hB,zB⟩:=bon hb hB;refine kP r hr6.shape rfl rfl hb1 cF rfl rfl fun w7 u8 r=>?_;have zw7:=u8.size
 have hb1:=u8.at_;obtain ⟨hB,zB⟩:=u8.on hB (by omega)
 exact wn (wp_ret (kR r hr6 rfl rfl hb1 rfl cA hF hB u8 (by omega) (by omega) (by omega)))
def D.jX (a0:Int) (a1:Int):T Unit:=(D.lA a0 a1 (fun _=>D.sO))
theorem tj (hF:kH F w0)
    (a0:Int) (a1:Int) :
    Calls Tryz.prog 263 #[.int .i64 a0,.int .u64 a1] w0 (aB Tryz.prog az n (D.jX a0 a1) F w0):=by
 refine kN Tryz.func263 rfl 8 rfl rfl fun fr r hB=>?_;refine wsr ?_
 refine ai (.cells (ae false az.zero 0 0 0 0 .nilFunc) 157 (0,0)) r (fun R=>ah cW) rfl fun fr b1 w2 n3 r=>?_;obtain ⟨eb1,zw2,hb1,hB,zB⟩:=n3.all hB
 refine wn (wsr (kM (I a0) r rfl rfl fun r=>kM (U a1) r rfl rfl fun r=>?_));have hF1:=aM hF hB b1
 refine kD r (rE (F:=(kW F w0 w2 b1)) (n:=n) hF1 a0 a1 ⟨338,[],[],Dw,rfl,fun m hm _ w' hs hz=>A0 (fun b hb=>Nat.lt_of_lt_of_le (hF1 b hb) hz) ⟩) rfl vB rfl fun w4 v5 hb hr6 r=>?_;have zw4:=hb.size
 have hb1:=keep hb hb1;obtain ⟨hB,zB⟩:=bon hb hB;refine kP r hr6.shape rfl rfl hb1 cF rfl rfl fun w7 u8 r=>?_;have zw7:=u8.size
 have hb1:=u8.at_;obtain ⟨hB,zB⟩:=u8.on hB (by omega)
 exact wn (wp_ret (kR r hr6 rfl rfl hb1 rfl cA hF hB u8 (by omega) (by omega) (by omega)))
def D.da (a0:Int) (a1:(Int→T Int)):T Int:=(D.lV (⟨0,a0,0,0⟩:Access) a1)
theorem eL (hF:kH F w0)
    (a0:Int) {a1f:FuncId} {a1_1 a1_2:List Value} {a1:(Int→T Int)} (a1n:FnT Tryz.prog ak u64 (n) F w0 (.func (.func a1f) a1_1.toArray a1_2.toArray) a1) :
    Calls Tryz.prog 164 #[.int .i64 a0,.func (.func a1f) a1_1.toArray a1_2.toArray] w0 (aB Tryz.prog ak n (D.da a0 a1) F w0):=by
 refine kN Tryz.func164 rfl 9 rfl rfl fun fr r hB=>?_;refine wsr ?_
 refine ai (.cells (ae false ak.zero 0 0 0 0 .nilFunc) 44 (0,0)) r (fun R=>ah tz44) rfl fun fr b1 w2 n3 r=>?_;obtain ⟨eb1,zw2,hb1,hB,zB⟩:=n3.all hB
 refine wn (wsr (kM (I a0) r rfl rfl fun r=>kU (.agg (bb (⟨0,a0,0,0⟩:Access)).toArray) r (by kernel_rfl) rfl fun r=>kM (.func (.func a1f) a1_1.toArray a1_2.toArray) r rfl rfl fun r=>?_));have hF1:=aM hF hB b1
 refine kD r (jy (F:=(kW F w0 w2 b1)) (n:=n) hF1 (⟨0,a0,0,0⟩:Access) (a1n.mono (by omega) (fun b h=>.inl h) (Same.below hB hF) hB.size)) rfl ku rfl fun w4 v5 hb hr6 r=>?_;have zw4:=hb.size
 have hb1:=keep hb hb1;obtain ⟨hB,zB⟩:=bon hb hB;refine kP r hr6.shape rfl rfl hb1 ts44 rfl rfl fun w7 u8 r=>?_;have zw7:=u8.size
 have hb1:=u8.at_;obtain ⟨hB,zB⟩:=u8.on hB (by omega)
 exact wn (wp_ret (kR r hr6 rfl rfl hb1 rfl ta44 hF hB u8 (by omega) (by omega) (by omega)))
def D.hU (c0:(Bool→T Int)) (c1:Int) (a0:Int):T Int:=(c0 (a0==c1))
theorem yF (hF:kH F w0)
    {c0f:FuncId} {c0_1 c0_2:List Value} {c0:(Bool→T Int)} {c0b:Nat} (c0F:F c0b) (c0h:w0.heap[c0b]?=some (.cells #[.func (.func c0f) c0_1.toArray c0_2.toArray] 283 (0,0))) (c0n:FnT Tryz.prog ak boolE (n+1) F w0 (.func (.func c0f) c0_1.toArray c0_2.toArray) c0) (c1:Int) {c1b:Nat} (c1F:F c1b) (c1h:w0.heap[c1b]?=some (.cells ([(.int .u64 c1)]).toArray 36 (0,0))) (a0:Int) :
    Calls Tryz.prog 330 #[.int .u64 a0,zp c0b,zp c1b] w0 (aB Tryz.prog ak n (D.hU c0 c1 a0) F w0):=by
 refine kN Tryz.func330 rfl 10 rfl rfl fun fr r hB=>?_;have lc0b:=lt_of_block c0h
 have lc1b:=lt_of_block c1h;refine wsr ?_;refine ai (.cells (ae false ak.zero 0 0 0 0 .nilFunc) 44 (0,0)) r (fun R=>ah tz44) rfl fun fr b1 w2 n3 r=>?_;obtain ⟨eb1,zw2,hb1,hB,zB⟩:=n3.all hB
 refine wn (wsr (kL (.func (.func c0f) c0_1.toArray c0_2.toArray) r rfl (keep hB c0h) qk rfl rfl fun r=>kM (U a0) r rfl rfl fun r=>kL (U c1) r rfl (keep hB c1h) to36 rfl rfl fun r=>kB r rfl rfl rfl rfl rfl fun r=>?_));refine cz r (c0n.at_.2 n (Nat.lt_succ_self n) (a0==c1) w2 (Same.below hB hF) hB.size) (fun R hc=>df r rfl rfl c0n.at_.1 hc) rfl ?_
 rintro _ w4 ⟨v5,rfl,hb,hr6⟩;refine ⟨_,rfl,fun fr r=>?_⟩
 have zw4:=hb.size;have hb1:=keep hb hb1;obtain ⟨hB,zB⟩:=bon hb hB;refine kP r hr6.shape rfl rfl hb1 ts44 rfl rfl fun w7 u8 r=>?_;have zw7:=u8.size
 have hb1:=u8.at_;obtain ⟨hB,zB⟩:=u8.on hB (by omega)
 refine wn (wp_ret ?_);have hs:=hr6.shape.cells;refine aq r rfl rfl hb1 (k:=7) hs.1 ta44 ?_;rw [←hs.2.2];exact aB.fin hB hr6 u8 (fun b hb=>.inl hb) (fun h=>by have:=hF _ h; omega) (by omega) (by omega) (by omega)
def D.oE (a0:Int) (a1:Int) (a2:Int) (a3:(Bool→T Int)):T Int:=(D.lV (⟨2,a0,a1,a2⟩:Access) (fun x=>(D.hU a3 a1 x)))
theorem rO (hF:kH F w0)
    (a0:Int) (a1:Int) (a2:Int) {a3f:FuncId} {a3_1 a3_2:List Value} {a3:(Bool→T Int)} (a3n:FnT Tryz.prog ak boolE (n) F w0 (.func (.func a3f) a3_1.toArray a3_2.toArray) a3) :
    Calls Tryz.prog 258 #[.int .i64 a0,.int .u64 a1,.int .u64 a2,.func (.func a3f) a3_1.toArray a3_2.toArray] w0 (aB Tryz.prog ak n (D.oE a0 a1 a2 a3) F w0):=by
 refine kN Tryz.func258 rfl 15 rfl rfl fun fr r hB=>?_;refine wsr ?_
 refine kX 36 (U a1) r rfl rfl fun b1 w2 n3 r=>?_;obtain ⟨eb1,zw2,hb1,hB,zB⟩:=n3.all hB
 refine kX 283 (.func (.func a3f) a3_1.toArray a3_2.toArray) r rfl rfl fun b4 w5 n6 r=>?_;have hb1:=keep n6.below hb1
 obtain ⟨eb4,zw5,hb4,hB,zB⟩:=n6.all hB;refine ai (.cells (ae false ak.zero 0 0 0 0 .nilFunc) 44 (0,0)) r (fun R=>ah tz44) rfl fun fr b7 w8 n9 r=>?_;have hb1:=keep n9.below hb1
 have hb4:=keep n9.below hb4;obtain ⟨eb7,zw8,hb7,hB,zB⟩:=n9.all hB;refine wn (wsr (kM (I a0) r rfl rfl fun r=>kL (U a1) r rfl hb1 to36 rfl rfl fun r=>kM (U a2) r rfl rfl fun r=>kU (.agg (bb (⟨2,a0,a1,a2⟩:Access)).toArray) r (by kernel_rfl) rfl fun r=>ac (.func (.func 330) #[] #[zp b4,zp b1]) r (fun R=>aT r rfl) rfl fun fr r=>?_));have hF1:=aM hF hB b7
 have f10:((kW F w0 w8 b7)) b4:=(.inr ⟨by omega,by omega,by omega⟩)
 have f11:((kW F w0 w8 b7)) b1:=(.inr ⟨by omega,by omega,by omega⟩)
 refine kD r (jy (F:=(kW F w0 w8 b7)) (n:=n) hF1 (⟨2,a0,a1,a2⟩:Access) ⟨330,[],[zp b4,zp b1],DI,rfl,fun m hm x w' hs hz=>yF (fun b hb=>Nat.lt_of_lt_of_le (hF1 b hb) hz) f10 (hs.at_ f10 hb4) (a3n.mono (by omega) (fun b h=>.inl h) ((Same.below hB hF).trans (hs.sub (fun b h=>.inl h))) (Nat.le_trans hB.size hz)) a1 f11 (hs.at_ f11 hb1) x⟩) rfl ku rfl fun w12 v13 hb hr14 r=>?_;have zw12:=hb.size
 have hb1:=keep hb hb1;have hb4:=keep hb hb4;have hb7:=keep hb hb7;obtain ⟨hB,zB⟩:=bon hb hB;refine kP r hr14.shape rfl rfl hb7 ts44 rfl rfl fun w15 u16 r=>?_;have zw15:=u16.size
 have hb1:=u16.keep hb1 (by omega)
 have hb4:=u16.keep hb4 (by omega)
 have hb7:=u16.at_;obtain ⟨hB,zB⟩:=u16.on hB (by omega)
 exact wn (wp_ret (kR r hr14 rfl rfl hb7 rfl ta44 hF hB u16 (by omega) (by omega) (by omega)))
def D.og (a0:Int) (a1:(Int→T Grant)):T Grant:=(D.ow (⟨0,a0,0,0⟩:Access) a1)
theorem yH (hF:kH F w0)
    (a0:Int) {a1f:FuncId} {a1_1 a1_2:List Value} {a1:(Int→T Grant)} (a1n:FnT Tryz.prog bm u64 (n) F w0 (.func (.func a1f) a1_1.toArray a1_2.toArray) a1) :
    Calls Tryz.prog 248 #[.int .i64 a0,.func (.func a1f) a1_1.toArray a1_2.toArray] w0 (aB Tryz.prog bm n (D.og a0 a1) F w0):=by
 refine kN Tryz.func248 rfl 9 rfl rfl fun fr r hB=>?_;refine wsr ?_
 refine ai (.cells (ae false bm.zero 0 0 0 0 .nilFunc) 41 (0,0)) r (fun R=>ah tz41) rfl fun fr b1 w2 n3 r=>?_;obtain ⟨eb1,zw2,hb1,hB,zB⟩:=n3.all hB
 refine wn (wsr (kM (I a0) r rfl rfl fun r=>kU (.agg (bb (⟨0,a0,0,0⟩:Access)).toArray) r (by kernel_rfl) rfl fun r=>kM (.func (.func a1f) a1_1.toArray a1_2.toArray) r rfl rfl fun r=>?_));have hF1:=aM hF hB b1
 refine kD r (oe (F:=(kW F w0 w2 b1)) (n:=n) hF1 (⟨0,a0,0,0⟩:Access) (a1n.mono (by omega) (fun b h=>.inl h) (Same.below hB hF) hB.size)) rfl qt rfl fun w4 v5 hb hr6 r=>?_;have zw4:=hb.size
 have hb1:=keep hb hb1;obtain ⟨hB,zB⟩:=bon hb hB;refine kP r hr6.shape rfl rfl hb1 ts41 rfl rfl fun w7 u8 r=>?_;have zw7:=u8.size
 have hb1:=u8.at_;obtain ⟨hB,zB⟩:=u8.on hB (by omega)
 exact wn (wp_ret (kR r hr6 rfl rfl hb1 rfl ta41 hF hB u8 (by omega) (by omega) (by omega)))
def D.rA (c0:(Unit→T Grant)) (a0:Int):T Grant:=(c0 ())
theorem xJ (hF:kH F w0)
    {c0f:FuncId} {c0_1 c0_2:List Value} {c0:(Unit→T Grant)} {c0b:Nat} (c0F:F c0b) (c0h:w0.heap[c0b]?=some (.cells #[.func (.func c0f) c0_1.toArray c0_2.toArray] 278 (0,0))) (c0n:FnT Tryz.prog bm unitE (n+1) F w0 (.func (.func c0f) c0_1.toArray c0_2.toArray) c0) (a0:Int) :
    Calls Tryz.prog 329 #[.int .u64 a0,zp c0b] w0 (aB Tryz.prog bm n (D.rA c0 a0) F w0):=by
 refine kN Tryz.func329 rfl 6 rfl rfl fun fr r hB=>?_;have lc0b:=lt_of_block c0h
 refine wsr ?_;refine ai (.cells (ae false bm.zero 0 0 0 0 .nilFunc) 41 (0,0)) r (fun R=>ah tz41) rfl fun fr b1 w2 n3 r=>?_;obtain ⟨eb1,zw2,hb1,hB,zB⟩:=n3.all hB
 refine wn (wsr (kL (.func (.func c0f) c0_1.toArray c0_2.toArray) r rfl (keep hB c0h) De rfl rfl fun r=>?_));refine cz r (c0n.at_.2 n (Nat.lt_succ_self n) () w2 (Same.below hB hF) hB.size) (fun R hc=>gP r rfl c0n.at_.1 hc) rfl ?_
 rintro _ w4 ⟨v5,rfl,hb,hr6⟩;refine ⟨_,rfl,fun fr r=>?_⟩
 have zw4:=hb.size;have hb1:=keep hb hb1;obtain ⟨hB,zB⟩:=bon hb hB;refine kP r hr6.shape rfl rfl hb1 ts41 rfl rfl fun w7 u8 r=>?_;have zw7:=u8.size
 have hb1:=u8.at_;obtain ⟨hB,zB⟩:=u8.on hB (by omega)
 refine wn (wp_ret ?_);have hs:=hr6.shape.cells;refine aq r rfl rfl hb1 (k:=9) hs.1 ta41 ?_;rw [←hs.2.2];exact aB.fin hB hr6 u8 (fun b hb=>.inl hb) (fun h=>by have:=hF _ h; omega) (by omega) (by omega) (by omega)
def D.nU (a0:Int) (a1:Int) (a2:(Unit→T Grant)):T Grant:=(D.ow (⟨1,a0,a1,0⟩:Access) (fun x=>(D.rA a2 x)))
theorem yp (hF:kH F w0)
    (a0:Int) (a1:Int) {a2f:FuncId} {a2_1 a2_2:List Value} {a2:(Unit→T Grant)} (a2n:FnT Tryz.prog bm unitE (n) F w0 (.func (.func a2f) a2_1.toArray a2_2.toArray) a2) :
    Calls Tryz.prog 250 #[.int .i64 a0,.int .u64 a1,.func (.func a2f) a2_1.toArray a2_2.toArray] w0 (aB Tryz.prog bm n (D.nU a0 a1 a2) F w0):=by
 refine kN Tryz.func250 rfl 12 rfl rfl fun fr r hB=>?_;refine wsr ?_
 refine kX 278 (.func (.func a2f) a2_1.toArray a2_2.toArray) r rfl rfl fun b1 w2 n3 r=>?_;obtain ⟨eb1,zw2,hb1,hB,zB⟩:=n3.all hB
 refine ai (.cells (ae false bm.zero 0 0 0 0 .nilFunc) 41 (0,0)) r (fun R=>ah tz41) rfl fun fr b4 w5 n6 r=>?_;have hb1:=keep n6.below hb1
 obtain ⟨eb4,zw5,hb4,hB,zB⟩:=n6.all hB;refine wn (wsr (kM (I a0) r rfl rfl fun r=>kM (U a1) r rfl rfl fun r=>kU (.agg (bb (⟨1,a0,a1,0⟩:Access)).toArray) r (by kernel_rfl) rfl fun r=>ac (.func (.func 329) #[] #[zp b1]) r (fun R=>aT r rfl) rfl fun fr r=>?_));have hF1:=aM hF hB b4
 have f7:((kW F w0 w5 b4)) b1:=(.inr ⟨by omega,by omega,by omega⟩)
 refine kD r (oe (F:=(kW F w0 w5 b4)) (n:=n) hF1 (⟨1,a0,a1,0⟩:Access) ⟨329,[],[zp b1],EA,rfl,fun m hm x w' hs hz=>xJ (fun b hb=>Nat.lt_of_lt_of_le (hF1 b hb) hz) f7 (hs.at_ f7 hb1) (a2n.mono (by omega) (fun b h=>.inl h) ((Same.below hB hF).trans (hs.sub (fun b h=>.inl h))) (Nat.le_trans hB.size hz)) x⟩) rfl qt rfl fun w8 v9 hb hr10 r=>?_;have zw8:=hb.size
 have hb1:=keep hb hb1;have hb4:=keep hb hb4;obtain ⟨hB,zB⟩:=bon hb hB;refine kP r hr10.shape rfl rfl hb4 ts41 rfl rfl fun w11 u12 r=>?_;have zw11:=u12.size
 have hb1:=u12.keep hb1 (by omega)
 have hb4:=u12.at_;obtain ⟨hB,zB⟩:=u12.on hB (by omega)
 exact wn (wp_ret (kR r hr10 rfl rfl hb4 rfl ta41 hF hB u12 (by omega) (by omega) (by omega)))
def D.ou (a0:Int) (a1:(Int→T Bool)):T Bool:=(D.sI (⟨0,a0,0,0⟩:Access) a1)
theorem yS (hF:kH F w0)
    (a0:Int) {a1f:FuncId} {a1_1 a1_2:List Value} {a1:(Int→T Bool)} (a1n:FnT Tryz.prog cc u64 (n) F w0 (.func (.func a1f) a1_1.toArray a1_2.toArray) a1) :
    Calls Tryz.prog 405 #[.int .i64 a0,.func (.func a1f) a1_1.toArray a1_2.toArray] w0 (aB Tryz.prog cc n (D.ou a0 a1) F w0):=by
 refine kN Tryz.func405 rfl 9 rfl rfl fun fr r hB=>?_;refine wsr ?_
 refine ai (.cells (ae false cc.zero 0 0 0 0 .nilFunc) 316 (0,0)) r (fun R=>ah j8) rfl fun fr b1 w2 n3 r=>?_;obtain ⟨eb1,zw2,hb1,hB,zB⟩:=n3.all hB
 refine wn (wsr (kM (I a0) r rfl rfl fun r=>kU (.agg (bb (⟨0,a0,0,0⟩:Access)).toArray) r (by kernel_rfl) rfl fun r=>kM (.func (.func a1f) a1_1.toArray a1_2.toArray) r rfl rfl fun r=>?_));have hF1:=aM hF hB b1
 refine kD r (zz (F:=(kW F w0 w2 b1)) (n:=n) hF1 (⟨0,a0,0,0⟩:Access) (a1n.mono (by omega) (fun b h=>.inl h) (Same.below hB hF) hB.size)) rfl Ez rfl fun w4 v5 hb hr6 r=>?_;have zw4:=hb.size
 have hb1:=keep hb hb1;obtain ⟨hB,zB⟩:=bon hb hB;refine kP r hr6.shape rfl rfl hb1 gh rfl rfl fun w7 u8 r=>?_;have zw7:=u8.size
 have hb1:=u8.at_;obtain ⟨hB,zB⟩:=u8.on hB (by omega)
 exact wn (wp_ret (kR r hr6 rfl rfl hb1 rfl gi hF hB u8 (by omega) (by omega) (by omega)))
def D.lm (c0:(Unit→T Int)) (a0:Int):T Int:=(c0 ())
theorem yf (hF:kH F w0)
    {c0f:FuncId} {c0_1 c0_2:List Value} {c0:(Unit→T Int)} {c0b:Nat} (c0F:F c0b) (c0h:w0.heap[c0b]?=some (.cells #[.func (.func c0f) c0_1.toArray c0_2.toArray] 242 (0,0))) (c0n:FnT Tryz.prog ak unitE (n+1) F w0 (.func (.func c0f) c0_1.toArray c0_2.toArray) c0) (a0:Int) :
    Calls Tryz.prog 268 #[.int .u64 a0,zp c0b] w0 (aB Tryz.prog ak n (D.lm c0 a0) F w0):=by
 refine kN Tryz.func268 rfl 6 rfl rfl fun fr r hB=>?_;have lc0b:=lt_of_block c0h
 refine wsr ?_;refine ai (.cells (ae false ak.zero 0 0 0 0 .nilFunc) 44 (0,0)) r (fun R=>ah tz44) rfl fun fr b1 w2 n3 r=>?_;obtain ⟨eb1,zw2,hb1,hB,zB⟩:=n3.all hB
 refine wn (wsr (kL (.func (.func c0f) c0_1.toArray c0_2.toArray) r rfl (keep hB c0h) kz rfl rfl fun r=>?_));refine cz r (c0n.at_.2 n (Nat.lt_succ_self n) () w2 (Same.below hB hF) hB.size) (fun R hc=>gP r rfl c0n.at_.1 hc) rfl ?_
 rintro _ w4 ⟨v5,rfl,hb,hr6⟩;refine ⟨_,rfl,fun fr r=>?_⟩
 have zw4:=hb.size;have hb1:=keep hb hb1;obtain ⟨hB,zB⟩:=bon hb hB;refine kP r hr6.shape rfl rfl hb1 ts44 rfl rfl fun w7 u8 r=>?_;have zw7:=u8.size
 have hb1:=u8.at_;obtain ⟨hB,zB⟩:=u8.on hB (by omega)
 refine wn (wp_ret ?_);have hs:=hr6.shape.cells;refine aq r rfl rfl hb1 (k:=7) hs.1 ta44 ?_;rw [←hs.2.2];exact aB.fin hB hr6 u8 (fun b hb=>.inl hb) (fun h=>by have:=hF _ h; omega) (by omega) (by omega) (by omega)
def D.dz (a0:Int) (a1:Int) (a2:(Unit→T Int)):T Int:=(D.lV (⟨1,a0,a1,0⟩:Access) (fun x=>(D.lm a2 x)))
theorem fD (hF:kH F w0)
    (a0:Int) (a1:Int) {a2f:FuncId} {a2_1 a2_2:List Value} {a2:(Unit→T Int)} (a2n:FnT Tryz.prog ak unitE (n) F w0 (.func (.func a2f) a2_1.toArray a2_2.toArray) a2) :
    Calls Tryz.prog 166 #[.int .i64 a0,.int .u64 a1,.func (.func a2f) a2_1.toArray a2_2.toArray] w0 (aB Tryz.prog ak n (D.dz a0 a1 a2) F w0):=by
 refine kN Tryz.func166 rfl 12 rfl rfl fun fr r hB=>?_;refine wsr ?_
 refine kX 242 (.func (.func a2f) a2_1.toArray a2_2.toArray) r rfl rfl fun b1 w2 n3 r=>?_;obtain ⟨eb1,zw2,hb1,hB,zB⟩:=n3.all hB
 refine ai (.cells (ae false ak.zero 0 0 0 0 .nilFunc) 44 (0,0)) r (fun R=>ah tz44) rfl fun fr b4 w5 n6 r=>?_;have hb1:=keep n6.below hb1
 obtain ⟨eb4,zw5,hb4,hB,zB⟩:=n6.all hB;refine wn (wsr (kM (I a0) r rfl rfl fun r=>kM (U a1) r rfl rfl fun r=>kU (.agg (bb (⟨1,a0,a1,0⟩:Access)).toArray) r (by kernel_rfl) rfl fun r=>ac (.func (.func 268) #[] #[zp b1]) r (fun R=>aT r rfl) rfl fun fr r=>?_));have hF1:=aM hF hB b4
 have f7:((kW F w0 w5 b4)) b1:=(.inr ⟨by omega,by omega,by omega⟩)
 refine kD r (jy (F:=(kW F w0 w5 b4)) (n:=n) hF1 (⟨1,a0,a1,0⟩:Access) ⟨268,[],[zp b1],DG,rfl,fun m hm x w' hs hz=>yf (fun b hb=>Nat.lt_of_lt_of_le (hF1 b hb) hz) f7 (hs.at_ f7 hb1) (a2n.mono (by omega) (fun b h=>.inl h) ((Same.below hB hF).trans (hs.sub (fun b h=>.inl h))) (Nat.le_trans hB.size hz)) x⟩) rfl ku rfl fun w8 v9 hb hr10 r=>?_;have zw8:=hb.size
 have hb1:=keep hb hb1;have hb4:=keep hb hb4;obtain ⟨hB,zB⟩:=bon hb hB;refine kP r hr10.shape rfl rfl hb4 ts44 rfl rfl fun w11 u12 r=>?_;have zw11:=u12.size
 have hb1:=u12.keep hb1 (by omega)
 have hb4:=u12.at_;obtain ⟨hB,zB⟩:=u12.on hB (by omega)
 exact wn (wp_ret (kR r hr10 rfl rfl hb4 rfl ta44 hF hB u12 (by omega) (by omega) (by omega)))
def D.eO (a0:Int) (a1:(Int→T Res)):T Res:=(D.lT (⟨0,a0,0,0⟩:Access) a1)
def D.rS (c0:(Bool→T Res)) (c1:Int) (a0:Int):T Res:=(c0 (a0==c1))
def D.eP (a0:Int) (a1:Int) (a2:Int) (a3:(Bool→T Res)):T Res:=(D.lT (⟨2,a0,a1,a2⟩:Access) (fun x=>(D.rS a3 a1 x)))
def D.rL (c0:(Unit→T Res)) (a0:Int):T Res:=(c0 ())
def D.dR (a0:Int) (a1:Int) (a2:(Unit→T Res)):T Res:=(D.lT (⟨1,a0,a1,0⟩:Access) (fun x=>(D.rL a2 x)))
def D.lu (a0:Int) (a1:(Int→T Int)):T Int:=(D.rU (⟨0,a0,0,0⟩:Access) a1)
theorem ry (hF:kH F w0)
    (a0:Int) {a1f:FuncId} {a1_1 a1_2:List Value} {a1:(Int→T Int)} (a1n:FnT Tryz.prog bB u64 (n) F w0 (.func (.func a1f) a1_1.toArray a1_2.toArray) a1) :
    Calls Tryz.prog 316 #[.int .i64 a0,.func (.func a1f) a1_1.toArray a1_2.toArray] w0 (aB Tryz.prog bB n (D.lu a0 a1) F w0):=by
 refine kN Tryz.func316 rfl 9 rfl rfl fun fr r hB=>?_;refine wsr ?_
 refine ai (.cells (ae false bB.zero 0 0 0 0 .nilFunc) 268 (0,0)) r (fun R=>ah dY) rfl fun fr b1 w2 n3 r=>?_;obtain ⟨eb1,zw2,hb1,hB,zB⟩:=n3.all hB
 refine wn (wsr (kM (I a0) r rfl rfl fun r=>kU (.agg (bb (⟨0,a0,0,0⟩:Access)).toArray) r (by kernel_rfl) rfl fun r=>kM (.func (.func a1f) a1_1.toArray a1_2.toArray) r rfl rfl fun r=>?_));have hF1:=aM hF hB b1
 refine kD r (rJ (F:=(kW F w0 w2 b1)) (n:=n) hF1 (⟨0,a0,0,0⟩:Access) (a1n.mono (by omega) (fun b h=>.inl h) (Same.below hB hF) hB.size)) rfl vh rfl fun w4 v5 hb hr6 r=>?_;have zw4:=hb.size
 have hb1:=keep hb hb1;obtain ⟨hB,zB⟩:=bon hb hB;refine kP r hr6.shape rfl rfl hb1 dH rfl rfl fun w7 u8 r=>?_;have zw7:=u8.size
 have hb1:=u8.at_;obtain ⟨hB,zB⟩:=u8.on hB (by omega)
 exact wn (wp_ret (kR r hr6 rfl rfl hb1 rfl dI hF hB u8 (by omega) (by omega) (by omega)))
end
end Go.Proofs.YtikjpdpgdmbdpaaGreat
