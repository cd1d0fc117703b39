/- Some of our texts, one behind the other. -/
import Derived.Test.YtikjpdpgdmbdpaaGreatLrThens
import Derived.Test.YtikjpdpgdmbdpaaGreatLrMems
set_option linter.all false
/- Ours. -/
set_option maxRecDepth 20000
set_option maxHeartbeats 2000000
namespace Go.Proofs.YtikjpdpgdmbdpaaGreat
open Go.RowKit
section
variable {n : Nat} {F : Nat → Prop} {j : Nat} {w0 : World}
theorem DS:ag Tryz.prog 212:=kz
theorem Ef:ag Tryz.prog 228:=kz
theorem xb:ag Tryz.prog 265:=kz
theorem G0:ag Tryz.prog 268:=kz
theorem Eb:ag Tryz.prog 329:=kz
theorem EE:ag Tryz.prog 330:=kz
theorem Ei:ag Tryz.prog 338:=kz
theorem xo:ag Tryz.prog 339:=kz
theorem DK:ag Tryz.prog 341:=kz
theorem FE:ag Tryz.prog 410:=kz
theorem EQ:tyO Tryz.prog 202:=kz
theorem EW:tyO Tryz.prog 215:=kz
theorem kQ:tyO Tryz.prog 242:=kz
theorem EZ:tyO Tryz.prog 278:=kz
theorem Ee:tyO Tryz.prog 289:=kz
def D.rW (c0:(Unit→T Unit)) (a0:Int):T Unit:=(c0 ())
theorem yO (hF:kH F w0)
    {c0f:FuncId} {c0_1 c0_2:List Value} {c0:(Unit→T Unit)} {c0b:Nat} (c0F:F c0b) (c0h:w0.heap[c0b]?=some (.cells #[.func (.func c0f) c0_1.toArray c0_2.toArray] 289 (0,0))) (c0n:FnT Tryz.prog aA unitE (n+1) F w0 (.func (.func c0f) c0_1.toArray c0_2.toArray) c0) (a0:Int) :
    Calls Tryz.prog 341 #[.int .u64 a0,zp c0b] w0 (aC Tryz.prog aA n (D.rW c0 a0) F w0):=by
 refine kN Tryz.func341 rfl 6 rfl rfl fun fr r hB=>?_;have lc0b:=lt_of_block c0h
 refine wsr ?_;refine ai (.cells (af false aA.zero 0 0 0 0 .nilFunc) 157 (0,0)) r (fun R=>ah cZ) rfl fun fr b1 w2 n3 r=>?_;obtain ⟨eb1,zw2,hb1,hB,zB⟩:=n3.all hB
 refine wn (wsr (kL (.func (.func c0f) c0_1.toArray c0_2.toArray) r rfl (keep hB c0h) Ee rfl rfl fun r=>?_));refine cA r (c0n.at_.2 n (Nat.lt_succ_self n) () w2 (Same.below hB hF) hB.size) (fun R hc=>gY r rfl c0n.at_.1 hc) rfl ?_
 rintro _ w4 ⟨v5,rfl,hb,hr6⟩;refine ⟨_,rfl,fun fr r=>?_⟩
 have zw4:=hb.size;have hb1:=keep hb hb1;obtain ⟨hB,zB⟩:=bon hb hB;refine kP r hr6.shape rfl rfl hb1 cI rfl rfl fun w7 u8 r=>?_;have zw7:=u8.size
 have hb1:=u8.at_;obtain ⟨hB,zB⟩:=u8.on hB kw
 refine wn (wp_ret ?_);have hs:=hr6.shape.cells;refine ar r rfl rfl hb1 (k:=6) hs.1 cC ?_;rw [←hs.2.2];exact aC.fin hB hr6 u8 (fun b hb=>.inl hb) (fun h=>by have:=hF _ h; omega) kw kw kw
def D.lD (a0:Int) (a1:Int) (a2:(Unit→T Unit)):T Unit:=(D.tq (⟨1,a0,a1,0⟩:Access) (fun x=>(D.rW a2 x)))
theorem rV (hF:kH F w0)
    (a0:Int) (a1:Int) {a2f:FuncId} {a2_1 a2_2:List Value} {a2:(Unit→T Unit)} (a2n:FnT Tryz.prog aA unitE (n) F w0 (.func (.func a2f) a2_1.toArray a2_2.toArray) a2) :
    Calls Tryz.prog 265 #[.int .i64 a0,.int .u64 a1,.func (.func a2f) a2_1.toArray a2_2.toArray] w0 (aC Tryz.prog aA n (D.lD a0 a1 a2) F w0):=by
 refine kN Tryz.func265 rfl 12 rfl rfl fun fr r hB=>?_;refine wsr ?_
 refine kX 289 (.func (.func a2f) a2_1.toArray a2_2.toArray) r rfl rfl fun b1 w2 n3 r=>?_;obtain ⟨eb1,zw2,hb1,hB,zB⟩:=n3.all hB
 refine ai (.cells (af false aA.zero 0 0 0 0 .nilFunc) 157 (0,0)) r (fun R=>ah cZ) rfl fun fr b4 w5 n6 r=>?_;have hb1:=keep n6.below hb1
 obtain ⟨eb4,zw5,hb4,hB,zB⟩:=n6.all hB;refine wn (wsr (kM (I a0) r rfl rfl fun r=>kM (U a1) r rfl rfl fun r=>kU (.agg (ba (⟨1,a0,a1,0⟩:Access)).toArray) r kz rfl fun r=>ac (.func (.func 341) #[] #[zp b1]) r (fun R=>aU r rfl) rfl fun fr r=>?_));have hF1:=aO hF hB b4
 have f7:((kW F w0 w5 b4)) b1:=(.inr ⟨kw,kw,kw⟩)
 refine kD r (sJ (F:=(kW F w0 w5 b4)) (n:=n) hF1 (⟨1,a0,a1,0⟩:Access) ⟨341,[],[zp b1],DK,rfl,fun m hm x w' hs hz=>yO (fun b hb=>Nat.lt_of_lt_of_le (hF1 b hb) hz) f7 (hs.at_ f7 hb1) (a2n.mono kw (fun b h=>.inl h) ((Same.below hB hF).trans (hs.sub (fun b h=>.inl h))) (Nat.le_trans hB.size hz)) x⟩) rfl wm rfl fun w8 v9 hb hr10 r=>?_;have zw8:=hb.size
 have hb1:=keep hb hb1;have hb4:=keep hb hb4;obtain ⟨hB,zB⟩:=bon hb hB;refine kP r hr10.shape rfl rfl hb4 cI rfl rfl fun w11 u12 r=>?_;have zw11:=u12.size
 have hb1:=u12.keep hb1 kw
 have hb4:=u12.at_;obtain ⟨hB,zB⟩:=u12.on hB kw
 exact wn (wp_ret (kR r hr10 rfl rfl hb4 rfl cC hF hB u12 kw kw kw))
def D.tT :T Unit:=D.lI
theorem AU (hF:kH F w0)
     :
    Calls Tryz.prog 338 #[] w0 (aC Tryz.prog aA n D.tT F w0):=by
 refine kN Tryz.func338 rfl 3 rfl rfl fun fr r hB=>?_;refine wsr ?_
 refine ai (.cells (af false aA.zero 0 0 0 0 .nilFunc) 157 (0,0)) r (fun R=>ah cZ) rfl fun fr b1 w2 n3 r=>?_;obtain ⟨eb1,zw2,hb1,hB,zB⟩:=n3.all hB
 refine wn (wsr (kU (.agg #[]) r kz rfl fun r=>?_));have hF1:=aO hF hB b1
 refine kD r (s9 (F:=(kW F w0 w2 b1)) (n:=n) hF1 ) rfl xo rfl fun w4 v5 hb hr6 r=>?_;have zw4:=hb.size
 have hb1:=keep hb hb1;obtain ⟨hB,zB⟩:=bon hb hB;refine kP r hr6.shape rfl rfl hb1 cI rfl rfl fun w7 u8 r=>?_;have zw7:=u8.size
 have hb1:=u8.at_;obtain ⟨hB,zB⟩:=u8.on hB kw
 exact wn (wp_ret (kR r hr6 rfl rfl hb1 rfl cC hF hB u8 kw kw kw))
def D.jR (a0:Int) (a1:Int):T Unit:=(D.lD a0 a1 (fun _=>D.tT))
theorem tF (hF:kH F w0)
    (a0:Int) (a1:Int) :
    Calls Tryz.prog 263 #[.int .i64 a0,.int .u64 a1] w0 (aC Tryz.prog aA n (D.jR a0 a1) F w0):=by
 refine kN Tryz.func263 rfl 8 rfl rfl fun fr r hB=>?_;refine wsr ?_
 refine ai (.cells (af false aA.zero 0 0 0 0 .nilFunc) 157 (0,0)) r (fun R=>ah cZ) rfl fun fr b1 w2 n3 r=>?_;obtain ⟨eb1,zw2,hb1,hB,zB⟩:=n3.all hB
 refine wn (wsr (kM (I a0) r rfl rfl fun r=>kM (U a1) r rfl rfl fun r=>?_));have hF1:=aO hF hB b1
 refine kD r (rV (F:=(kW F w0 w2 b1)) (n:=n) hF1 a0 a1 ⟨338,[],[],Ei,rfl,fun m hm _ w' hs hz=>AU (fun b hb=>Nat.lt_of_lt_of_le (hF1 b hb) hz) ⟩) rfl xb rfl fun w4 v5 hb hr6 r=>?_;have zw4:=hb.size
 have hb1:=keep hb hb1;obtain ⟨hB,zB⟩:=bon hb hB;refine kP r hr6.shape rfl rfl hb1 cI rfl rfl fun w7 u8 r=>?_;have zw7:=u8.size
 have hb1:=u8.at_;obtain ⟨hB,zB⟩:=u8.on hB kw
 exact wn (wp_ret (kR r hr6 rfl rfl hb1 rfl cC hF hB u8 kw kw kw))
def D.dx (a0:Int) (a1:(Int→T Int)):T Int:=(D.m4 (⟨0,a0,0,0⟩:Access) a1)
theorem fj (hF:kH F w0)
    (a0:Int) {a1f:FuncId} {a1_1 a1_2:List Value} {a1:(Int→T Int)} (a1n:FnT Tryz.prog ak u64 (n) F w0 (.func (.func a1f) a1_1.toArray a1_2.toArray) a1) :
    Calls Tryz.prog 164 #[.int .i64 a0,.func (.func a1f) a1_1.toArray a1_2.toArray] w0 (aC Tryz.prog ak n (D.dx a0 a1) F w0):=by
 refine kN Tryz.func164 rfl 9 rfl rfl fun fr r hB=>?_;refine wsr ?_
 refine ai (.cells (af false ak.zero 0 0 0 0 .nilFunc) 44 (0,0)) r (fun R=>ah tz44) rfl fun fr b1 w2 n3 r=>?_;obtain ⟨eb1,zw2,hb1,hB,zB⟩:=n3.all hB
 refine wn (wsr (kM (I a0) r rfl rfl fun r=>kU (.agg (ba (⟨0,a0,0,0⟩:Access)).toArray) r kz rfl fun r=>kM (.func (.func a1f) a1_1.toArray a1_2.toArray) r rfl rfl fun r=>?_));have hF1:=aO hF hB b1
 refine kD r (jv (F:=(kW F w0 w2 b1)) (n:=n) hF1 (⟨0,a0,0,0⟩:Access) (a1n.mono kw (fun b h=>.inl h) (Same.below hB hF) hB.size)) rfl kT rfl fun w4 v5 hb hr6 r=>?_;have zw4:=hb.size
 have hb1:=keep hb hb1;obtain ⟨hB,zB⟩:=bon hb hB;refine kP r hr6.shape rfl rfl hb1 ts44 rfl rfl fun w7 u8 r=>?_;have zw7:=u8.size
 have hb1:=u8.at_;obtain ⟨hB,zB⟩:=u8.on hB kw
 exact wn (wp_ret (kR r hr6 rfl rfl hb1 rfl ta44 hF hB u8 kw kw kw))
def D.ig (c0:(Bool→T Int)) (c1:Int) (a0:Int):T Int:=(c0 (a0==c1))
theorem zq (hF:kH F w0)
    {c0f:FuncId} {c0_1 c0_2:List Value} {c0:(Bool→T Int)} {c0b:Nat} (c0F:F c0b) (c0h:w0.heap[c0b]?=some (.cells #[.func (.func c0f) c0_1.toArray c0_2.toArray] 283 (0,0))) (c0n:FnT Tryz.prog ak aP (n+1) F w0 (.func (.func c0f) c0_1.toArray c0_2.toArray) c0) (c1:Int) {c1b:Nat} (c1F:F c1b) (c1h:w0.heap[c1b]?=some (.cells ([(.int .u64 c1)]).toArray 36 (0,0))) (a0:Int) :
    Calls Tryz.prog 330 #[.int .u64 a0,zp c0b,zp c1b] w0 (aC Tryz.prog ak n (D.ig c0 c1 a0) F w0):=by
 refine kN Tryz.func330 rfl 10 rfl rfl fun fr r hB=>?_;have lc0b:=lt_of_block c0h
 have lc1b:=lt_of_block c1h;refine wsr ?_;refine ai (.cells (af false ak.zero 0 0 0 0 .nilFunc) 44 (0,0)) r (fun R=>ah tz44) rfl fun fr b1 w2 n3 r=>?_;obtain ⟨eb1,zw2,hb1,hB,zB⟩:=n3.all hB
 refine wn (wsr (kL (.func (.func c0f) c0_1.toArray c0_2.toArray) r rfl (keep hB c0h) qF rfl rfl fun r=>kM (U a0) r rfl rfl fun r=>kL (U c1) r rfl (keep hB c1h) to36 rfl rfl fun r=>kB r rfl rfl rfl rfl rfl fun r=>?_));refine cA r (c0n.at_.2 n (Nat.lt_succ_self n) (a0==c1) w2 (Same.below hB hF) hB.size) (fun R hc=>dn r rfl rfl c0n.at_.1 hc) rfl ?_
 rintro _ w4 ⟨v5,rfl,hb,hr6⟩;refine ⟨_,rfl,fun fr r=>?_⟩
 have zw4:=hb.size;have hb1:=keep hb hb1;obtain ⟨hB,zB⟩:=bon hb hB;refine kP r hr6.shape rfl rfl hb1 ts44 rfl rfl fun w7 u8 r=>?_;have zw7:=u8.size
 have hb1:=u8.at_;obtain ⟨hB,zB⟩:=u8.on hB kw
 refine wn (wp_ret ?_);have hs:=hr6.shape.cells;refine ar r rfl rfl hb1 (k:=7) hs.1 ta44 ?_;rw [←hs.2.2];exact aC.fin hB hr6 u8 (fun b hb=>.inl hb) (fun h=>by have:=hF _ h; omega) kw kw kw
def D.oH (a0:Int) (a1:Int) (a2:Int) (a3:(Bool→T Int)):T Int:=(D.m4 (⟨2,a0,a1,a2⟩:Access) (fun x=>(D.ig a3 a1 x)))
theorem sr (hF:kH F w0)
    (a0:Int) (a1:Int) (a2:Int) {a3f:FuncId} {a3_1 a3_2:List Value} {a3:(Bool→T Int)} (a3n:FnT Tryz.prog ak aP (n) F w0 (.func (.func a3f) a3_1.toArray a3_2.toArray) a3) :
    Calls Tryz.prog 258 #[.int .i64 a0,.int .u64 a1,.int .u64 a2,.func (.func a3f) a3_1.toArray a3_2.toArray] w0 (aC Tryz.prog ak n (D.oH a0 a1 a2 a3) F w0):=by
 refine kN Tryz.func258 rfl 15 rfl rfl fun fr r hB=>?_;refine wsr ?_
 refine kX 36 (U a1) r rfl rfl fun b1 w2 n3 r=>?_;obtain ⟨eb1,zw2,hb1,hB,zB⟩:=n3.all hB
 refine kX 283 (.func (.func a3f) a3_1.toArray a3_2.toArray) r rfl rfl fun b4 w5 n6 r=>?_;have hb1:=keep n6.below hb1
 obtain ⟨eb4,zw5,hb4,hB,zB⟩:=n6.all hB;refine ai (.cells (af false ak.zero 0 0 0 0 .nilFunc) 44 (0,0)) r (fun R=>ah tz44) rfl fun fr b7 w8 n9 r=>?_;have hb1:=keep n9.below hb1
 have hb4:=keep n9.below hb4;obtain ⟨eb7,zw8,hb7,hB,zB⟩:=n9.all hB;refine wn (wsr (kM (I a0) r rfl rfl fun r=>kL (U a1) r rfl hb1 to36 rfl rfl fun r=>kM (U a2) r rfl rfl fun r=>kU (.agg (ba (⟨2,a0,a1,a2⟩:Access)).toArray) r kz rfl fun r=>ac (.func (.func 330) #[] #[zp b4,zp b1]) r (fun R=>aU r rfl) rfl fun fr r=>?_));have hF1:=aO hF hB b7
 have f10:((kW F w0 w8 b7)) b4:=(.inr ⟨kw,kw,kw⟩)
 have f11:((kW F w0 w8 b7)) b1:=(.inr ⟨kw,kw,kw⟩)
 refine kD r (jv (F:=(kW F w0 w8 b7)) (n:=n) hF1 (⟨2,a0,a1,a2⟩:Access) ⟨330,[],[zp b4,zp b1],EE,rfl,fun m hm x w' hs hz=>zq (fun b hb=>Nat.lt_of_lt_of_le (hF1 b hb) hz) f10 (hs.at_ f10 hb4) (a3n.mono kw (fun b h=>.inl h) ((Same.below hB hF).trans (hs.sub (fun b h=>.inl h))) (Nat.le_trans hB.size hz)) a1 f11 (hs.at_ f11 hb1) x⟩) rfl kT rfl fun w12 v13 hb hr14 r=>?_;have zw12:=hb.size
 have hb1:=keep hb hb1;have hb4:=keep hb hb4;have hb7:=keep hb hb7;obtain ⟨hB,zB⟩:=bon hb hB;refine kP r hr14.shape rfl rfl hb7 ts44 rfl rfl fun w15 u16 r=>?_;have zw15:=u16.size
 have hb1:=u16.keep hb1 kw
 have hb4:=u16.keep hb4 kw
 have hb7:=u16.at_;obtain ⟨hB,zB⟩:=u16.on hB kw
 exact wn (wp_ret (kR r hr14 rfl rfl hb7 rfl ta44 hF hB u16 kw kw kw))
def D.ol (a0:Int) (a1:(Int→T Grant)):T Grant:=(D.oL (⟨0,a0,0,0⟩:Access) a1)
theorem zz (hF:kH F w0)
    (a0:Int) {a1f:FuncId} {a1_1 a1_2:List Value} {a1:(Int→T Grant)} (a1n:FnT Tryz.prog bo u64 (n) F w0 (.func (.func a1f) a1_1.toArray a1_2.toArray) a1) :
    Calls Tryz.prog 248 #[.int .i64 a0,.func (.func a1f) a1_1.toArray a1_2.toArray] w0 (aC Tryz.prog bo n (D.ol a0 a1) F w0):=by
 refine kN Tryz.func248 rfl 9 rfl rfl fun fr r hB=>?_;refine wsr ?_
 refine ai (.cells (af false bo.zero 0 0 0 0 .nilFunc) 41 (0,0)) r (fun R=>ah tz41) rfl fun fr b1 w2 n3 r=>?_;obtain ⟨eb1,zw2,hb1,hB,zB⟩:=n3.all hB
 refine wn (wsr (kM (I a0) r rfl rfl fun r=>kU (.agg (ba (⟨0,a0,0,0⟩:Access)).toArray) r kz rfl fun r=>kM (.func (.func a1f) a1_1.toArray a1_2.toArray) r rfl rfl fun r=>?_));have hF1:=aO hF hB b1
 refine kD r (om (F:=(kW F w0 w2 b1)) (n:=n) hF1 (⟨0,a0,0,0⟩:Access) (a1n.mono kw (fun b h=>.inl h) (Same.below hB hF) hB.size)) rfl qC rfl fun w4 v5 hb hr6 r=>?_;have zw4:=hb.size
 have hb1:=keep hb hb1;obtain ⟨hB,zB⟩:=bon hb hB;refine kP r hr6.shape rfl rfl hb1 ts41 rfl rfl fun w7 u8 r=>?_;have zw7:=u8.size
 have hb1:=u8.at_;obtain ⟨hB,zB⟩:=u8.on hB kw
 exact wn (wp_ret (kR r hr6 rfl rfl hb1 rfl ta41 hF hB u8 kw kw kw))
def D.rS (c0:(Unit→T Grant)) (a0:Int):T Grant:=(c0 ())
theorem yI (hF:kH F w0)
    {c0f:FuncId} {c0_1 c0_2:List Value} {c0:(Unit→T Grant)} {c0b:Nat} (c0F:F c0b) (c0h:w0.heap[c0b]?=some (.cells #[.func (.func c0f) c0_1.toArray c0_2.toArray] 278 (0,0))) (c0n:FnT Tryz.prog bo unitE (n+1) F w0 (.func (.func c0f) c0_1.toArray c0_2.toArray) c0) (a0:Int) :
    Calls Tryz.prog 329 #[.int .u64 a0,zp c0b] w0 (aC Tryz.prog bo n (D.rS c0 a0) F w0):=by
 refine kN Tryz.func329 rfl 6 rfl rfl fun fr r hB=>?_;have lc0b:=lt_of_block c0h
 refine wsr ?_;refine ai (.cells (af false bo.zero 0 0 0 0 .nilFunc) 41 (0,0)) r (fun R=>ah tz41) rfl fun fr b1 w2 n3 r=>?_;obtain ⟨eb1,zw2,hb1,hB,zB⟩:=n3.all hB
 refine wn (wsr (kL (.func (.func c0f) c0_1.toArray c0_2.toArray) r rfl (keep hB c0h) EZ rfl rfl fun r=>?_));refine cA r (c0n.at_.2 n (Nat.lt_succ_self n) () w2 (Same.below hB hF) hB.size) (fun R hc=>gY r rfl c0n.at_.1 hc) rfl ?_
 rintro _ w4 ⟨v5,rfl,hb,hr6⟩;refine ⟨_,rfl,fun fr r=>?_⟩
 have zw4:=hb.size;have hb1:=keep hb hb1;obtain ⟨hB,zB⟩:=bon hb hB;refine kP r hr6.shape rfl rfl hb1 ts41 rfl rfl fun w7 u8 r=>?_;have zw7:=u8.size
 have hb1:=u8.at_;obtain ⟨hB,zB⟩:=u8.on hB kw
 refine wn (wp_ret ?_);have hs:=hr6.shape.cells;refine ar r rfl rfl hb1 (k:=9) hs.1 ta41 ?_;rw [←hs.2.2];exact aC.fin hB hr6 u8 (fun b hb=>.inl hb) (fun h=>by have:=hF _ h; omega) kw kw kw
def D.o4 (a0:Int) (a1:Int) (a2:(Unit→T Grant)):T Grant:=(D.oL (⟨1,a0,a1,0⟩:Access) (fun x=>(D.rS a2 x)))
theorem zk (hF:kH F w0)
    (a0:Int) (a1:Int) {a2f:FuncId} {a2_1 a2_2:List Value} {a2:(Unit→T Grant)} (a2n:FnT Tryz.prog bo unitE (n) F w0 (.func (.func a2f) a2_1.toArray a2_2.toArray) a2) :
    Calls Tryz.prog 250 #[.int .i64 a0,.int .u64 a1,.func (.func a2f) a2_1.toArray a2_2.toArray] w0 (aC Tryz.prog bo n (D.o4 a0 a1 a2) F w0):=by
 refine kN Tryz.func250 rfl 12 rfl rfl fun fr r hB=>?_;refine wsr ?_
 refine kX 278 (.func (.func a2f) a2_1.toArray a2_2.toArray) r rfl rfl fun b1 w2 n3 r=>?_;obtain ⟨eb1,zw2,hb1,hB,zB⟩:=n3.all hB
 refine ai (.cells (af false bo.zero 0 0 0 0 .nilFunc) 41 (0,0)) r (fun R=>ah tz41) rfl fun fr b4 w5 n6 r=>?_;have hb1:=keep n6.below hb1
 obtain ⟨eb4,zw5,hb4,hB,zB⟩:=n6.all hB;refine wn (wsr (kM (I a0) r rfl rfl fun r=>kM (U a1) r rfl rfl fun r=>kU (.agg (ba (⟨1,a0,a1,0⟩:Access)).toArray) r kz rfl fun r=>ac (.func (.func 329) #[] #[zp b1]) r (fun R=>aU r rfl) rfl fun fr r=>?_));have hF1:=aO hF hB b4
 have f7:((kW F w0 w5 b4)) b1:=(.inr ⟨kw,kw,kw⟩)
 refine kD r (om (F:=(kW F w0 w5 b4)) (n:=n) hF1 (⟨1,a0,a1,0⟩:Access) ⟨329,[],[zp b1],Eb,rfl,fun m hm x w' hs hz=>yI (fun b hb=>Nat.lt_of_lt_of_le (hF1 b hb) hz) f7 (hs.at_ f7 hb1) (a2n.mono kw (fun b h=>.inl h) ((Same.below hB hF).trans (hs.sub (fun b h=>.inl h))) (Nat.le_trans hB.size hz)) x⟩) rfl qC rfl fun w8 v9 hb hr10 r=>?_;have zw8:=hb.size
 have hb1:=keep hb hb1;have hb4:=keep hb hb4;obtain ⟨hB,zB⟩:=bon hb hB;refine kP r hr10.shape rfl rfl hb4 ts41 rfl rfl fun w11 u12 r=>?_;have zw11:=u12.size
 have hb1:=u12.keep hb1 kw
 have hb4:=u12.at_;obtain ⟨hB,zB⟩:=u12.on hB kw
 exact wn (wp_ret (kR r hr10 rfl rfl hb4 rfl ta41 hF hB u12 kw kw kw))
def D.oC (a0:Int) (a1:(Int→T Bool)):T Bool:=(D.sW (⟨0,a0,0,0⟩:Access) a1)
theorem zG (hF:kH F w0)
    (a0:Int) {a1f:FuncId} {a1_1 a1_2:List Value} {a1:(Int→T Bool)} (a1n:FnT Tryz.prog cd u64 (n) F w0 (.func (.func a1f) a1_1.toArray a1_2.toArray) a1) :
    Calls Tryz.prog 405 #[.int .i64 a0,.func (.func a1f) a1_1.toArray a1_2.toArray] w0 (aC Tryz.prog cd n (D.oC a0 a1) F w0):=by
 refine kN Tryz.func405 rfl 9 rfl rfl fun fr r hB=>?_;refine wsr ?_
 refine ai (.cells (af false cd.zero 0 0 0 0 .nilFunc) 316 (0,0)) r (fun R=>ah j8) rfl fun fr b1 w2 n3 r=>?_;obtain ⟨eb1,zw2,hb1,hB,zB⟩:=n3.all hB
 refine wn (wsr (kM (I a0) r rfl rfl fun r=>kU (.agg (ba (⟨0,a0,0,0⟩:Access)).toArray) r kz rfl fun r=>kM (.func (.func a1f) a1_1.toArray a1_2.toArray) r rfl rfl fun r=>?_));have hF1:=aO hF hB b1
 refine kD r (Ap (F:=(kW F w0 w2 b1)) (n:=n) hF1 (⟨0,a0,0,0⟩:Access) (a1n.mono kw (fun b h=>.inl h) (Same.below hB hF) hB.size)) rfl FE rfl fun w4 v5 hb hr6 r=>?_;have zw4:=hb.size
 have hb1:=keep hb hb1;obtain ⟨hB,zB⟩:=bon hb hB;refine kP r hr6.shape rfl rfl hb1 gC rfl rfl fun w7 u8 r=>?_;have zw7:=u8.size
 have hb1:=u8.at_;obtain ⟨hB,zB⟩:=u8.on hB kw
 exact wn (wp_ret (kR r hr6 rfl rfl hb1 rfl gz hF hB u8 kw kw kw))
def D.lz (c0:(Unit→T Int)) (a0:Int):T Int:=(c0 ())
theorem yV (hF:kH F w0)
    {c0f:FuncId} {c0_1 c0_2:List Value} {c0:(Unit→T Int)} {c0b:Nat} (c0F:F c0b) (c0h:w0.heap[c0b]?=some (.cells #[.func (.func c0f) c0_1.toArray c0_2.toArray] 242 (0,0))) (c0n:FnT Tryz.prog ak unitE (n+1) F w0 (.func (.func c0f) c0_1.toArray c0_2.toArray) c0) (a0:Int) :
    Calls Tryz.prog 268 #[.int .u64 a0,zp c0b] w0 (aC Tryz.prog ak n (D.lz c0 a0) F w0):=by
 refine kN Tryz.func268 rfl 6 rfl rfl fun fr r hB=>?_;have lc0b:=lt_of_block c0h
 refine wsr ?_;refine ai (.cells (af false ak.zero 0 0 0 0 .nilFunc) 44 (0,0)) r (fun R=>ah tz44) rfl fun fr b1 w2 n3 r=>?_;obtain ⟨eb1,zw2,hb1,hB,zB⟩:=n3.all hB
 refine wn (wsr (kL (.func (.func c0f) c0_1.toArray c0_2.toArray) r rfl (keep hB c0h) kQ rfl rfl fun r=>?_));refine cA r (c0n.at_.2 n (Nat.lt_succ_self n) () w2 (Same.below hB hF) hB.size) (fun R hc=>gY r rfl c0n.at_.1 hc) rfl ?_
 rintro _ w4 ⟨v5,rfl,hb,hr6⟩;refine ⟨_,rfl,fun fr r=>?_⟩
 have zw4:=hb.size;have hb1:=keep hb hb1;obtain ⟨hB,zB⟩:=bon hb hB;refine kP r hr6.shape rfl rfl hb1 ts44 rfl rfl fun w7 u8 r=>?_;have zw7:=u8.size
 have hb1:=u8.at_;obtain ⟨hB,zB⟩:=u8.on hB kw
 refine wn (wp_ret ?_);have hs:=hr6.shape.cells;refine ar r rfl rfl hb1 (k:=7) hs.1 ta44 ?_;rw [←hs.2.2];exact aC.fin hB hr6 u8 (fun b hb=>.inl hb) (fun h=>by have:=hF _ h; omega) kw kw kw
def D.dQ (a0:Int) (a1:Int) (a2:(Unit→T Int)):T Int:=(D.m4 (⟨1,a0,a1,0⟩:Access) (fun x=>(D.lz a2 x)))
theorem fN (hF:kH F w0)
    (a0:Int) (a1:Int) {a2f:FuncId} {a2_1 a2_2:List Value} {a2:(Unit→T Int)} (a2n:FnT Tryz.prog ak unitE (n) F w0 (.func (.func a2f) a2_1.toArray a2_2.toArray) a2) :
    Calls Tryz.prog 166 #[.int .i64 a0,.int .u64 a1,.func (.func a2f) a2_1.toArray a2_2.toArray] w0 (aC Tryz.prog ak n (D.dQ a0 a1 a2) F w0):=by
 refine kN Tryz.func166 rfl 12 rfl rfl fun fr r hB=>?_;refine wsr ?_
 refine kX 242 (.func (.func a2f) a2_1.toArray a2_2.toArray) r rfl rfl fun b1 w2 n3 r=>?_;obtain ⟨eb1,zw2,hb1,hB,zB⟩:=n3.all hB
 refine ai (.cells (af false ak.zero 0 0 0 0 .nilFunc) 44 (0,0)) r (fun R=>ah tz44) rfl fun fr b4 w5 n6 r=>?_;have hb1:=keep n6.below hb1
 obtain ⟨eb4,zw5,hb4,hB,zB⟩:=n6.all hB;refine wn (wsr (kM (I a0) r rfl rfl fun r=>kM (U a1) r rfl rfl fun r=>kU (.agg (ba (⟨1,a0,a1,0⟩:Access)).toArray) r kz rfl fun r=>ac (.func (.func 268) #[] #[zp b1]) r (fun R=>aU r rfl) rfl fun fr r=>?_));have hF1:=aO hF hB b4
 have f7:((kW F w0 w5 b4)) b1:=(.inr ⟨kw,kw,kw⟩)
 refine kD r (jv (F:=(kW F w0 w5 b4)) (n:=n) hF1 (⟨1,a0,a1,0⟩:Access) ⟨268,[],[zp b1],G0,rfl,fun m hm x w' hs hz=>yV (fun b hb=>Nat.lt_of_lt_of_le (hF1 b hb) hz) f7 (hs.at_ f7 hb1) (a2n.mono kw (fun b h=>.inl h) ((Same.below hB hF).trans (hs.sub (fun b h=>.inl h))) (Nat.le_trans hB.size hz)) x⟩) rfl kT rfl fun w8 v9 hb hr10 r=>?_;have zw8:=hb.size
 have hb1:=keep hb hb1;have hb4:=keep hb hb4;obtain ⟨hB,zB⟩:=bon hb hB;refine kP r hr10.shape rfl rfl hb4 ts44 rfl rfl fun w11 u12 r=>?_;have zw11:=u12.size
 have hb1:=u12.keep hb1 kw
 have hb4:=u12.at_;obtain ⟨hB,zB⟩:=u12.on hB kw
 exact wn (wp_ret (kR r hr10 rfl rfl hb4 rfl ta44 hF hB u12 kw kw kw))
def D.fR (a0:Int) (a1:(Int→T Res)):T Res:=(D.lZ (⟨0,a0,0,0⟩:Access) a1)
def D.sn (c0:(Bool→T Res)) (c1:Int) (a0:Int):T Res:=(c0 (a0==c1))
def D.fQ (a0:Int) (a1:Int) (a2:Int) (a3:(Bool→T Res)):T Res:=(D.lZ (⟨2,a0,a1,a2⟩:Access) (fun x=>(D.sn a3 a1 x)))
def D.sj (c0:(Unit→T Res)) (a0:Int):T Res:=(c0 ())
def D.eC (a0:Int) (a1:Int) (a2:(Unit→T Res)):T Res:=(D.lZ (⟨1,a0,a1,0⟩:Access) (fun x=>(D.sj a2 x)))
def D.lC (a0:Int) (a1:(Int→T Int)):T Int:=(D.sH (⟨0,a0,0,0⟩:Access) a1)
theorem rP (hF:kH F w0)
    (a0:Int) {a1f:FuncId} {a1_1 a1_2:List Value} {a1:(Int→T Int)} (a1n:FnT Tryz.prog bC u64 (n) F w0 (.func (.func a1f) a1_1.toArray a1_2.toArray) a1) :
    Calls Tryz.prog 316 #[.int .i64 a0,.func (.func a1f) a1_1.toArray a1_2.toArray] w0 (aC Tryz.prog bC n (D.lC a0 a1) F w0):=by
 refine kN Tryz.func316 rfl 9 rfl rfl fun fr r hB=>?_;refine wsr ?_
 refine ai (.cells (af false bC.zero 0 0 0 0 .nilFunc) 268 (0,0)) r (fun R=>ah eO) rfl fun fr b1 w2 n3 r=>?_;obtain ⟨eb1,zw2,hb1,hB,zB⟩:=n3.all hB
 refine wn (wsr (kM (I a0) r rfl rfl fun r=>kU (.agg (ba (⟨0,a0,0,0⟩:Access)).toArray) r kz rfl fun r=>kM (.func (.func a1f) a1_1.toArray a1_2.toArray) r rfl rfl fun r=>?_));have hF1:=aO hF hB b1
 refine kD r (s6 (F:=(kW F w0 w2 b1)) (n:=n) hF1 (⟨0,a0,0,0⟩:Access) (a1n.mono kw (fun b h=>.inl h) (Same.below hB hF) hB.size)) rfl wE rfl fun w4 v5 hb hr6 r=>?_;have zw4:=hb.size
 have hb1:=keep hb hb1;obtain ⟨hB,zB⟩:=bon hb hB;refine kP r hr6.shape rfl rfl hb1 dX rfl rfl fun w7 u8 r=>?_;have zw7:=u8.size
 have hb1:=u8.at_;obtain ⟨hB,zB⟩:=u8.on hB kw
 exact wn (wp_ret (kR r hr6 rfl rfl hb1 rfl dY hF hB u8 kw kw kw))
end
end Go.Proofs.YtikjpdpgdmbdpaaGreat

/- Ours. -/
set_option maxRecDepth 20000
set_option maxHeartbeats 2000000
namespace Go.Proofs.YtikjpdpgdmbdpaaGreat
open Go.RowKit
section
variable {n : Nat} {F : Nat → Prop} {j : Nat} {w0 : World}
theorem qJ:ag Tryz.prog 140:=kz
theorem kv:ag Tryz.prog 141:=kz
theorem kr:ag Tryz.prog 142:=kz
theorem mX:ag Tryz.prog 143:=kz
theorem qU:ag Tryz.prog 158:=kz
theorem wV:ag Tryz.prog 163:=kz
theorem fF:ag Tryz.prog 164:=kz
theorem gy:ag Tryz.prog 166:=kz
theorem DL:ag Tryz.prog 255:=kz
theorem eM:ag Tryz.prog 256:=kz
theorem DC:ag Tryz.prog 257:=kz
theorem wR:ag Tryz.prog 258:=kz
theorem wK:ag Tryz.prog 259:=kz
theorem Ep:ag Tryz.prog 260:=kz
theorem xl:ag Tryz.prog 263:=kz
theorem qE:ag Tryz.prog 264:=kz
theorem El:ag Tryz.prog 266:=kz
theorem xe:ag Tryz.prog 313:=kz
theorem wO:ag Tryz.prog 331:=kz
theorem nB:ag Tryz.prog 332:=kz
theorem DV:ag Tryz.prog 359:=kz
theorem EI:ag Tryz.prog 360:=kz
theorem Fp:ag Tryz.prog 361:=kz
theorem ti3:intTy Tryz.prog 3 .i64:=kz
theorem ti36:intTy Tryz.prog 36 .u64:=kz
theorem j6:sized Tryz.prog 219 2:=kz
theorem j7:zeroOf Tryz.prog 219=some (.agg (aD (⟨0,0⟩:Field)).toArray):=kz
theorem tz3:zeroOf Tryz.prog 3=some (.int .i64 0):=kz
def D.dE (a0:Int):Int:=(IntKind.u64.wrap (IntKind.i64.wrap (a0+1)))
theorem oW (w0:World) 
    (a0:Int) :
    Calls Tryz.prog 264 #[.int .i64 a0] w0 (bw (.int .u64 (D.dE a0)) w0):=by
 refine kN Tryz.func264 rfl 6 rfl rfl fun fr r hB=>?_;refine wsr (kA (U 0) r rfl rfl fun r=>wn (wsr (kM (I a0) r rfl rfl fun r=>kB r rfl rfl rfl rfl rfl fun r=>ac (U (V (W (a0+1)))) r (fun R=>cK r rfl ti3 ti36) rfl fun fr r=>kA (U (V (W (a0+1)))) r rfl rfl fun r=>wn (wp_ret ?_))))
 refine bg r rfl rfl ?_;exact ⟨rfl,hB⟩
def D.oO (r_free_fresh:Plan→Int→T Unit) (c0:Plan) (c1:Int):T Unit:=(r_free_fresh c0 (IntKind.i64.wrap (c1+1)))
def D.lF (r_free_fresh:Plan→Int→T Unit) (a0:Plan) (a1:Int):T Unit:=(bif (a1==a0.nodes) then (D.jR (D.cU a0) (D.dE 0)) else (let x19:Int:=(bif ((IntKind.i64.wrap (a1+1))==a0.nodes) then 0 else (D.dE (IntKind.i64.wrap (a1+1)))); (D.lD (D.dw a0 a1) x19 (fun _=>(D.oO r_free_fresh a0 a1)))))
def D.ma:Nat→Plan→Int→T Unit
  | 0,_,_=>.cut
  | k+1,a0,a1=>D.lF (D.ma k) a0 a1
def ow (r:Plan→Int→T Unit) (n:Nat):Prop:=∀ (F:Nat→Prop) (w0:World),(∀ b,F b→b<w0.heap.size)→∀ (a0:Plan) (a1:Int),Calls Tryz.prog 163 #[.agg (ae a0).toArray,.int .i64 a1] w0 (aC Tryz.prog aA n (r a0 a1) F w0)
theorem Aj {r_free_fresh:Plan→Int→T Unit} (hF:kH F w0) (ih_free_fresh:∀ m,m≤n→ow r_free_fresh m)
    (c0:Plan) {c0b:Nat} (c0F:F c0b) (c0h:w0.heap[c0b]?=some (.cells ((ae c0)).toArray 23 (0,0))) (c1:Int) {c1b:Nat} (c1F:F c1b) (c1h:w0.heap[c1b]?=some (.cells ([(.int .i64 c1)]).toArray 3 (0,0))) :
    Calls Tryz.prog 266 #[zp c0b,zp c1b] w0 (aC Tryz.prog aA n (D.oO r_free_fresh c0 c1) F w0):=by
 refine kN Tryz.func266 rfl 7 rfl rfl fun fr r hB=>?_;have lc0b:=lt_of_block c0h
 have lc1b:=lt_of_block c1h;refine wsr ?_;refine ai (.cells (af false aA.zero 0 0 0 0 .nilFunc) 157 (0,0)) r (fun R=>ah cZ) rfl fun fr b1 w2 n3 r=>?_;obtain ⟨E1,Z2,H1,hB,zB⟩:=n3.all hB
 refine wn (wsr (kG (ae c0) 6 r rfl (keep hB c0h) ta23 rfl rfl fun r=>kL (I c1) r rfl (keep hB c1h) to3 rfl rfl fun r=>kB r rfl rfl rfl rfl rfl fun r=>?_));have hF1:=aO hF hB b1
 refine kD r ((ih_free_fresh n kw) (kW F w0 w2 b1) _ hF1 c0 (W (c1+1))) rfl wV rfl fun w4 v5 hb hr6 r=>?_;have Z4:=hb.size
 have H1:=keep hb H1;obtain ⟨hB,zB⟩:=bon hb hB;refine kP r hr6.shape rfl rfl H1 cI rfl rfl fun w7 u8 r=>?_;have Z7:=u8.size
 have H1:=u8.at_;obtain ⟨hB,zB⟩:=u8.on hB kw
 exact wn (wp_ret (kR r hr6 rfl rfl H1 rfl cC hF hB u8 kw kw kw))
theorem AV {n:Nat} {F:Nat→Prop} {r_free_fresh:Plan→Int→T Unit} {w0:World} (hF:∀ b,F b→b<w0.heap.size) (ih_free_fresh:∀ m,m<n→ow r_free_fresh m)
    (a0:Plan) (a1:Int) :
    Calls Tryz.prog 163 #[.agg (ae a0).toArray,.int .i64 a1] w0 (aC Tryz.prog aA n (D.lF r_free_fresh a0 a1) F w0):=by
 refine kN Tryz.func163 rfl 28 rfl rfl fun fr r hB=>?_;refine wsr ?_
 refine kX 23 (.agg (ae a0).toArray) r rfl rfl fun b1 w2 n3 r=>?_;obtain ⟨E1,Z2,H1,hB,zB⟩:=n3.all hB
 refine kX 3 (I a1) r rfl rfl fun b4 w5 n6 r=>?_;have H1:=keep n6.below H1
 obtain ⟨E4,Z5,H4,hB,zB⟩:=n6.all hB;refine ai (.cells (af false aA.zero 0 0 0 0 .nilFunc) 157 (0,0)) r (fun R=>ah cZ) rfl fun fr b7 w8 n9 r=>?_;have H1:=keep n9.below H1
 have H4:=keep n9.below H4;obtain ⟨E7,Z8,H7,hB,zB⟩:=n9.all hB;refine wn (wp_seq (wsr (kL (I a1) r rfl H4 to3 rfl rfl fun r=>kF 0 r rfl gu rfl fun r=>kL (I a0.nodes) r rfl H1 to3 rfl rfl fun r=>kB r rfl rfl rfl rfl rfl fun r=>wn ?_)));refine wp_cond_split (t:=(a1==a0.nodes)) (r.ev rfl) (fun h10=>?_) (fun h10=>?_)
 ·
  refine wsr (kG (ae a0) 6 r rfl H1 ta23 rfl rfl fun r=>?_);refine kE r (ji w8 a0) rfl kr rfl fun w11 hb r=>?_
  have Z11:=hb.size;have H1:=keep hb H1;have H4:=keep hb H4;have H7:=keep hb H7;obtain ⟨hB,zB⟩:=bon hb hB;refine kE r (oW w11 0) rfl qE rfl fun w12 hb r=>?_;have Z12:=hb.size
  have H1:=keep hb H1;have H4:=keep hb H4;have H7:=keep hb H7;obtain ⟨hB,zB⟩:=bon hb hB;have hF1:=aO hF hB b7;refine kD r (tF (F:=(kW F w0 w12 b7)) (n:=n) hF1 (D.cU a0) (D.dE 0)) rfl xl rfl fun w13 v14 hb hr15 r=>?_;have Z13:=hb.size
  have H1:=keep hb H1;have H4:=keep hb H4;have H7:=keep hb H7;obtain ⟨hB,zB⟩:=bon hb hB;refine kP r hr15.shape rfl rfl H7 cI rfl rfl fun w16 u17 r=>?_;have Z16:=u17.size
  have H1:=u17.keep H1 kw
  have H4:=u17.keep H4 kw
  have H7:=u17.at_;obtain ⟨hB,zB⟩:=u17.on hB kw
  refine wn (wp_ret ?_);have hd:D.lF r_free_fresh a0 a1=(D.jR (D.cU a0) (D.dE 0)):=(az h10).trans (rfl);have hs:=hr15.shape.cells;refine ar r rfl rfl H7 (k:=6) hs.1 cC ?_;rw [←hs.2.2,hd];exact rfin hF hB hr15 u17 kw kw kw
 refine wp_skip (wsr (kL (I a1) r rfl H4 to3 rfl rfl fun r=>kB r rfl rfl rfl rfl rfl fun r=>?_));refine kE r (oW w8 (W (a1+1))) rfl qE rfl fun w18 hb r=>?_
 have Z18:=hb.size;have H1:=keep hb H1;have H4:=keep hb H4;have H7:=keep hb H7;obtain ⟨hB,zB⟩:=bon hb hB;refine kA (U (D.dE (W (a1+1)))) r rfl rfl fun r=>wn (wp_seq (wsr (kL (I a1) r rfl H4 to3 rfl rfl fun r=>kB r rfl rfl rfl rfl rfl fun r=>kF 0 r rfl gu rfl fun r=>kL (I a0.nodes) r rfl H1 to3 rfl rfl fun r=>kB r rfl rfl rfl rfl rfl fun r=>wn ?_)));obtain ⟨x19,hx19⟩:∃ x:Int,x=(bif ((W (a1+1))==a0.nodes) then 0 else (D.dE (W (a1+1)))):=⟨_,rfl⟩
 refine Cq (N:=28) [(0,(.agg (ae a0).toArray)),(1,(I a1)),(2,(zp b1)),(3,(zp b4)),(4,(zp b7)),(5,(U x19))] (fun w=>Below w0.heap.size w0 w∧w18.heap.size≤w.heap.size∧w.heap[b1]?=some (.cells ((ae a0)).toArray 23 (0,0))∧w.heap[b4]?=some (.cells #[(I a1)] 3 (0,0))∧w.heap[b7]?=some (.cells (af false aA.zero 0 0 0 0 .nilFunc) 157 (0,0))) ?_ ?_
 ·
  refine wp_cond_split (t:=((W (a1+1))==a0.nodes)) (r.ev rfl) (fun h20=>?_) (fun h20=>?_)
  ·
   refine wp_region_lit (kA (U 0) r rfl rfl fun r=>wn ?_);exact ⟨rfl,_,r,(aq rfl (aq rfl (aq rfl (aq rfl (aq rfl (aq (by rw [hx19,az h20]; rfl) aN)))))),hB,kw,H1,H4,H7⟩
  refine wp_skip ?_;exact ⟨rfl,_,r,(aq rfl (aq rfl (aq rfl (aq rfl (aq rfl (aq (by rw [hx19,aB h20]; rfl) aN)))))),hB,kw,H1,H4,H7⟩
 rintro fr w21 g r ⟨hB,Z21,H1,H4,H7⟩;have zB:=hB.size;refine wsr (kG (ae a0) 6 r rfl H1 ta23 rfl rfl fun r=>kL (I a1) r rfl H4 to3 rfl rfl fun r=>?_);refine kE r (lA w21 a0 a1) rfl mX rfl fun w22 hb r=>?_
 have Z22:=hb.size;have H1:=keep hb H1;have H4:=keep hb H4;have H7:=keep hb H7;obtain ⟨hB,zB⟩:=bon hb hB;refine kM (U x19) r rfl rfl fun r=>ac (.func (.func 266) #[] #[zp b1,zp b4]) r (fun R=>aU r rfl) rfl fun fr r=>?_;have hF1:=aO hF hB b7
 have f23:((kW F w0 w22 b7)) b1:=(.inr ⟨kw,kw,kw⟩)
 have f24:((kW F w0 w22 b7)) b4:=(.inr ⟨kw,kw,kw⟩)
 refine kD r (rV (F:=(kW F w0 w22 b7)) (n:=n) hF1 (D.dw a0 a1) x19 ⟨266,[],[zp b1,zp b4],El,rfl,fun m hm _ w' hs hz=>Aj (fun b hb=>Nat.lt_of_lt_of_le (hF1 b hb) hz) (fun m' hm'=>ih_free_fresh m' kw) a0 f23 (hs.at_ f23 H1) a1 f24 (hs.at_ f24 H4)⟩) rfl xb rfl fun w25 v26 hb hr27 r=>?_;have Z25:=hb.size
 have H1:=keep hb H1;have H4:=keep hb H4;have H7:=keep hb H7;obtain ⟨hB,zB⟩:=bon hb hB;refine kP r hr27.shape rfl rfl H7 cI rfl rfl fun w28 u29 r=>?_;have Z28:=u29.size
 have H1:=u29.keep H1 kw
 have H4:=u29.keep H4 kw
 have H7:=u29.at_;obtain ⟨hB,zB⟩:=u29.on hB kw
 refine wn (wp_ret ?_);have hd:D.lF r_free_fresh a0 a1=(D.lD (D.dw a0 a1) x19 (fun _=>(D.oO r_free_fresh a0 a1))):=by subst hx19; exact (aB h10).trans (rfl)
 have hs:=hr27.shape.cells;refine ar r rfl rfl H7 (k:=6) hs.1 cC ?_;rw [←hs.2.2,hd];exact rfin hF hB hr27 u29 kw kw kw
theorem AZ {n:Nat} {k:Nat} (hk:n<k):ow (D.ma k) n:=by
  induction n using Nat.strongRecOn generalizing k with
  | _ n ih=>
    obtain ⟨k,rfl⟩:∃ q,k=q+1:=⟨k - 1,kw⟩
    intro F w0 hF;have h:=@AV n F (D.ma k) w0 hF (fun m hm=>ih m hm kw)
    exact h
def D.gR (j:Nat) (a0:Plan):T Unit:=(D.ma j a0 0)
theorem Bc (hF:kH F w0) (hj:n<j)
    (a0:Plan) :
    Calls Tryz.prog 81 #[.agg (ae a0).toArray] w0 (aC Tryz.prog aA n (D.gR j a0) F w0):=by
 refine kN Tryz.func81 rfl 5 rfl rfl fun fr r hB=>?_;refine wsr ?_
 refine kX 23 (.agg (ae a0).toArray) r rfl rfl fun b1 w2 n3 r=>?_;obtain ⟨E1,Z2,H1,hB,zB⟩:=n3.all hB
 refine ai (.cells (af false aA.zero 0 0 0 0 .nilFunc) 157 (0,0)) r (fun R=>ah cZ) rfl fun fr b4 w5 n6 r=>?_;have H1:=keep n6.below H1
 obtain ⟨E4,Z5,H4,hB,zB⟩:=n6.all hB;refine wn (wsr (kG (ae a0) 6 r rfl H1 ta23 rfl rfl fun r=>?_));have hF1:=aO hF hB b4
 refine kD r ((AZ (k:=j) (n:=n) kw) (kW F w0 w5 b4) _ hF1 a0 0) rfl wV rfl fun w7 v8 hb hr9 r=>?_;have Z7:=hb.size
 have H1:=keep hb H1;have H4:=keep hb H4;obtain ⟨hB,zB⟩:=bon hb hB;refine kP r hr9.shape rfl rfl H4 cI rfl rfl fun w10 u11 r=>?_;have Z10:=u11.size
 have H1:=u11.keep H1 kw
 have H4:=u11.at_;obtain ⟨hB,zB⟩:=u11.on hB kw
 exact wn (wp_ret (kR r hr9 rfl rfl H4 rfl cC hF hB u11 kw kw kw))
def D.bW :Field:=(⟨0,21⟩:Field)
theorem oU (w0:World) 
     :
    Calls Tryz.prog 140 #[] w0 (bw (.agg (aD D.bW).toArray) w0):=by
 refine kN Tryz.func140 rfl 2 rfl rfl fun fr r hB=>?_;refine wsr ?_
 refine ai (.cells ((aD (⟨0,0⟩:Field))).toArray 219 (0,0)) r (fun R=>ah j7) rfl fun fr b1 w2 n3 r=>?_;obtain ⟨E1,Z2,H1,hB,zB⟩:=n3.all hB
 refine wn (wsr (kU (.agg (aD (⟨0,21⟩:Field)).toArray) r kz rfl fun r=>?_));refine bh (.cells ((aD (⟨0,21⟩:Field))).toArray 219 (0,0)) r (fun R=>aT r (o:=0) (v:=(.agg (aD (⟨0,21⟩:Field)).toArray)) rfl rfl H1 j6 (Nat.le_of_ble_eq_true rfl) rfl rfl) rfl fun fr w4 u5 r=>?_
 have Z4:=u5.size;have H1:=u5.at_;obtain ⟨hB,zB⟩:=u5.on hB kw
 refine wn (wp_ret ?_);refine ar r rfl rfl H1 (k:=2) rfl cQ ?_;exact ⟨rfl,hB⟩
def D.dW :Field:=(⟨21,43⟩:Field)
theorem tK (w0:World) 
     :
    Calls Tryz.prog 331 #[] w0 (bw (.agg (aD D.dW).toArray) w0):=by
 refine kN Tryz.func331 rfl 2 rfl rfl fun fr r hB=>?_;refine wsr ?_
 refine ai (.cells ((aD (⟨0,0⟩:Field))).toArray 219 (0,0)) r (fun R=>ah j7) rfl fun fr b1 w2 n3 r=>?_;obtain ⟨E1,Z2,H1,hB,zB⟩:=n3.all hB
 refine wn (wsr (kU (.agg (aD (⟨21,43⟩:Field)).toArray) r kz rfl fun r=>?_));refine bh (.cells ((aD (⟨21,43⟩:Field))).toArray 219 (0,0)) r (fun R=>aT r (o:=0) (v:=(.agg (aD (⟨21,43⟩:Field)).toArray)) rfl rfl H1 j6 (Nat.le_of_ble_eq_true rfl) rfl rfl) rfl fun fr w4 u5 r=>?_
 have Z4:=u5.size;have H1:=u5.at_;obtain ⟨hB,zB⟩:=u5.on hB kw
 refine wn (wp_ret ?_);refine ar r rfl rfl H1 (k:=2) rfl cQ ?_;exact ⟨rfl,hB⟩
def D.fo (a0:Int) (a1:Int):Int:=(D.cD D.dW (D.cD D.bW 0 a1) (IntKind.u64.wrap ((D.bB D.dW a0)+1)))
theorem sO (w0:World) 
    (a0:Int) (a1:Int) :
    Calls Tryz.prog 259 #[.int .u64 a0,.int .u64 a1] w0 (bw (.int .u64 (D.fo a0 a1)) w0):=by
 refine kN Tryz.func259 rfl 14 rfl rfl fun fr r hB=>?_;refine wsr (kA (U 0) r rfl rfl fun r=>wn (wsr ?_))
 refine kE r (tK w0 ) rfl wO rfl fun w1 hb r=>?_;have Z1:=hb.size
 obtain ⟨hB,zB⟩:=bon hb hB;refine kE r (oU w1 ) rfl qJ rfl fun w2 hb r=>?_;have Z2:=hb.size
 obtain ⟨hB,zB⟩:=bon hb hB;refine kM (U a1) r rfl rfl fun r=>?_;refine kE r (nZ w2 D.bW 0 a1) rfl nB rfl fun w3 hb r=>?_
 have Z3:=hb.size;obtain ⟨hB,zB⟩:=bon hb hB;refine kE r (tK w3 ) rfl wO rfl fun w4 hb r=>?_;have Z4:=hb.size
 obtain ⟨hB,zB⟩:=bon hb hB;refine kM (U a0) r rfl rfl fun r=>?_;refine kE r (lm w4 D.dW a0) rfl kv rfl fun w5 hb r=>?_
 have Z5:=hb.size;obtain ⟨hB,zB⟩:=bon hb hB;refine kB r rfl rfl rfl rfl rfl fun r=>?_;refine kE r (nZ w5 D.dW (D.cD D.bW 0 a1) (V ((D.bB D.dW a0)+1))) rfl nB rfl fun w6 hb r=>?_
 have Z6:=hb.size;obtain ⟨hB,zB⟩:=bon hb hB;refine kA (U (D.cD D.dW (D.cD D.bW 0 a1) (V ((D.bB D.dW a0)+1)))) r rfl rfl fun r=>wn (wp_ret ?_);refine bg r rfl rfl ?_
 exact ⟨rfl,hB⟩
def D.iy (r_free_Pop:Plan→T Int) (c0:Plan) (c1:Int) (a0:Bool):T Int:=(bif (!a0) then (r_free_Pop c0) else (D.cJ c1))
def D.jB (r_free_Pop:Plan→T Int) (c0:Plan) (c1:Int) (c2:Int) (a0:Int):T Int:=(D.oH (D.cU c0) c1 (D.fo c1 a0) (fun x=>(D.iy r_free_Pop c0 c2 x)))
def D.eI (r_free_Pop:Plan→T Int) (c0:Plan) (a0:Int):T Int:=(bif (decide ((IntKind.i64.wrap ((IntKind.i64.wrap (D.bB D.bW a0)) - 1))<0)) then (D.cJ (-1)) else (D.dx (D.dw c0 (IntKind.i64.wrap ((IntKind.i64.wrap (D.bB D.bW a0)) - 1))) (fun x=>(D.jB r_free_Pop c0 a0 (IntKind.i64.wrap ((IntKind.i64.wrap (D.bB D.bW a0)) - 1)) x))))
def D.iz (r_free_Pop:Plan→T Int) (a0:Plan):T Int:=(D.dx (D.cU a0) (fun x=>(D.eI r_free_Pop a0 x)))
def D.cB:Nat→Plan→T Int
  | 0,_=>.cut
  | k+1,a0=>D.iz (D.cB k) a0
def ju (r:Plan→T Int) (n:Nat):Prop:=∀ (F:Nat→Prop) (w0:World),(∀ b,F b→b<w0.heap.size)→∀ (a0:Plan),Calls Tryz.prog 158 #[.agg (ae a0).toArray] w0 (aC Tryz.prog ak n (r a0) F w0)
theorem zJ {r_free_Pop:Plan→T Int} (hF:kH F w0) (ih_free_Pop:∀ m,m≤n→ju r_free_Pop m)
    (c0:Plan) {c0b:Nat} (c0F:F c0b) (c0h:w0.heap[c0b]?=some (.cells ((ae c0)).toArray 23 (0,0))) (c1:Int) {c1b:Nat} (c1F:F c1b) (c1h:w0.heap[c1b]?=some (.cells ([(.int .i64 c1)]).toArray 3 (0,0))) (a0:Bool) :
    Calls Tryz.prog 260 #[.bool a0,zp c0b,zp c1b] w0 (aC Tryz.prog ak n (D.iy r_free_Pop c0 c1 a0) F w0):=by
 refine kN Tryz.func260 rfl 11 rfl rfl fun fr r hB=>?_;have lc0b:=lt_of_block c0h
 have lc1b:=lt_of_block c1h;refine wsr ?_;refine ai (.cells (af false ak.zero 0 0 0 0 .nilFunc) 44 (0,0)) r (fun R=>ah tz44) rfl fun fr b1 w2 n3 r=>?_;obtain ⟨E1,Z2,H1,hB,zB⟩:=n3.all hB
 refine wn (wp_seq (wsr (kM (.bool a0) r rfl rfl fun r=>ac (.bool (!a0)) r (fun R=>y_un r (u:=(.bool a0)) rfl rfl) rfl fun fr r=>wn ?_)));refine wp_cond_split (t:=(!a0)) (r.ev rfl) (fun h4=>?_) (fun h4=>?_)
 ·
  refine wsr (kG (ae c0) 6 r rfl (keep hB c0h) ta23 rfl rfl fun r=>?_);have hF1:=aO hF hB b1
  refine kD r ((ih_free_Pop n kw) (kW F w0 w2 b1) _ hF1 c0) rfl qU rfl fun w5 v6 hb hr7 r=>?_;have Z5:=hb.size
  have H1:=keep hb H1;obtain ⟨hB,zB⟩:=bon hb hB;refine kP r hr7.shape rfl rfl H1 ts44 rfl rfl fun w8 u9 r=>?_;have Z8:=u9.size
  have H1:=u9.at_;obtain ⟨hB,zB⟩:=u9.on hB kw
  refine wn (wp_ret ?_);have hd:D.iy r_free_Pop c0 c1 a0=(r_free_Pop c0):=(az h4).trans (rfl);have hs:=hr7.shape.cells;refine ar r rfl rfl H1 (k:=7) hs.1 ta44 ?_;rw [←hs.2.2,hd];exact rfin hF hB hr7 u9 kw kw kw
 refine wp_skip (wsr (kL (I c1) r rfl (keep hB c1h) to3 rfl rfl fun r=>?_));have hF1:=aO hF hB b1
 refine kD r (eB (F:=(kW F w0 w2 b1)) (n:=n) hF1 c1) rfl eM rfl fun w10 v11 hb hr12 r=>?_;have Z10:=hb.size
 have H1:=keep hb H1;obtain ⟨hB,zB⟩:=bon hb hB;refine kP r hr12.shape rfl rfl H1 ts44 rfl rfl fun w13 u14 r=>?_;have Z13:=u14.size
 have H1:=u14.at_;obtain ⟨hB,zB⟩:=u14.on hB kw
 refine wn (wp_ret ?_);have hd:D.iy r_free_Pop c0 c1 a0=(D.cJ c1):=(aB h4).trans (rfl);have hs:=hr12.shape.cells;refine ar r rfl rfl H1 (k:=7) hs.1 ta44 ?_;rw [←hs.2.2,hd];exact rfin hF hB hr12 u14 kw kw kw
theorem Am {r_free_Pop:Plan→T Int} (hF:kH F w0) (ih_free_Pop:∀ m,m<n→ju r_free_Pop m)
    (c0:Plan) {c0b:Nat} (c0F:F c0b) (c0h:w0.heap[c0b]?=some (.cells ((ae c0)).toArray 23 (0,0))) (c1:Int) {c1b:Nat} (c1F:F c1b) (c1h:w0.heap[c1b]?=some (.cells ([(.int .u64 c1)]).toArray 36 (0,0))) (c2:Int) {c2b:Nat} (c2F:F c2b) (c2h:w0.heap[c2b]?=some (.cells ([(.int .i64 c2)]).toArray 3 (0,0))) (a0:Int) :
    Calls Tryz.prog 257 #[.int .u64 a0,zp c0b,zp c1b,zp c2b] w0 (aC Tryz.prog ak n (D.jB r_free_Pop c0 c1 c2 a0) F w0):=by
 refine kN Tryz.func257 rfl 14 rfl rfl fun fr r hB=>?_;have lc0b:=lt_of_block c0h
 have lc1b:=lt_of_block c1h;have lc2b:=lt_of_block c2h;refine wsr ?_;refine ai (.cells (af false ak.zero 0 0 0 0 .nilFunc) 44 (0,0)) r (fun R=>ah tz44) rfl fun fr b1 w2 n3 r=>?_;obtain ⟨E1,Z2,H1,hB,zB⟩:=n3.all hB
 refine wn (wp_seq ?_);refine bI 7 [.val (.agg (ae c0).toArray),.val (I (D.cU c0)),.val (U c1),.val (U c1),.val (U a0),.val (U (D.fo c1 a0)),.val (.func (.func 260) #[] #[zp c0b,zp c2b])] mixed r kz (kV (kV (kV (kV (kV (kV (kV bH))))))) ?_ ?_
 ·
  refine ec r (fun _ u _ b d s=>aS s (cs:=(ae c0)) (n:=6) rfl (bY hB b c0h) ta23 rfl bz) (ec r (fun fr1 u w' hb' hd r'=>aJ r' (args:=[(.agg (ae c0).toArray)]) (lc hd.1 l0) kr ((ji _ c0).mono (by rintro _ w2 ⟨rfl,hb2⟩; exact ⟨_,rfl,hb2,rfl⟩))) (ec r (fun _ u _ b d s=>av s rfl (bY hB b c1h) to36 rfl bz) (ec r (fun _ u _ b d s=>av s rfl (bY hB b c1h) to36 rfl bz) (ec r (fun _ u _ b d s=>ay s rfl bz) (ec r (fun fr1 u w' hb' hd r'=>aJ r' (args:=[(U c1),(U a0)]) (lc hd.1 (lc hd.2.1 l0)) wK ((sO _ c1 a0).mono (by rintro _ w2 ⟨rfl,hb2⟩; exact ⟨_,rfl,hb2,rfl⟩))) (ec r (fun _ u _ b d s=>aU s (v:=(.func (.func 260) #[] #[zp c0b,zp c2b])) rfl bz) ?_))))));exact bJ
 intro fr u w4 hb hΦ hne r;have r:=r.congr (sc (hΦ 6 ke) (sc (hΦ 5 ke) (sc (hΦ 4 ke) (sc (hΦ 3 ke) (sc (hΦ 2 ke) (sc (hΦ 1 ke) (sc (hΦ 0 ke) rfl)))))));have Z4:=hb.size;have H1:=keep hb H1;obtain ⟨hB,zB⟩:=bon hb hB;have hF1:=aO hF hB b1;have f5:((kW F w0 w4 b1)) c0b:=(.inl c0F);have f6:((kW F w0 w4 b1)) c2b:=(.inl c2F);refine kD r (sr (F:=(kW F w0 w4 b1)) (n:=n) hF1 (D.cU c0) c1 (D.fo c1 a0) ⟨260,[],[zp c0b,zp c2b],Ep,rfl,fun m hm x w' hs hz=>zJ (fun b hb=>Nat.lt_of_lt_of_le (hF1 b hb) hz) (fun m' hm'=>ih_free_Pop m' kw) c0 f5 (hs.at_ f5 (keep hB c0h)) c2 f6 (hs.at_ f6 (keep hB c2h)) x⟩) rfl wR rfl fun w7 v8 hb hr9 r=>?_;have Z7:=hb.size
 have H1:=keep hb H1;obtain ⟨hB,zB⟩:=bon hb hB;refine kP r hr9.shape rfl rfl H1 ts44 rfl rfl fun w10 u11 r=>?_;have Z10:=u11.size
 have H1:=u11.at_;obtain ⟨hB,zB⟩:=u11.on hB kw
 exact wn (wp_ret (kR r hr9 rfl rfl H1 rfl ta44 hF hB u11 kw kw kw))
theorem AW {r_free_Pop:Plan→T Int} (hF:kH F w0) (ih_free_Pop:∀ m,m<n→ju r_free_Pop m)
    (c0:Plan) {c0b:Nat} (c0F:F c0b) (c0h:w0.heap[c0b]?=some (.cells ((ae c0)).toArray 23 (0,0))) (a0:Int) :
    Calls Tryz.prog 255 #[.int .u64 a0,zp c0b] w0 (aC Tryz.prog ak n (D.eI r_free_Pop c0 a0) F w0):=by
 refine kN Tryz.func255 rfl 18 rfl rfl fun fr r hB=>?_;have lc0b:=lt_of_block c0h
 refine wsr ?_;refine kX 36 (U a0) r rfl rfl fun b1 w2 n3 r=>?_;obtain ⟨E1,Z2,H1,hB,zB⟩:=n3.all hB
 refine ai (.cells (af false ak.zero 0 0 0 0 .nilFunc) 44 (0,0)) r (fun R=>ah tz44) rfl fun fr b4 w5 n6 r=>?_;have H1:=keep n6.below H1
 obtain ⟨E4,Z5,H4,hB,zB⟩:=n6.all hB;refine wn (wp_seq ?_);refine bI 6 [.val (.agg (aD D.bW).toArray),.val (U a0),.val (U (D.bB D.bW a0)),.val (I (W (D.bB D.bW a0))),.val (I (W ((W (D.bB D.bW a0)) - 1))),.new w5.heap.size (.cells #[(I 0)] 3 (0,0))] mixed r kz (kV (kV (kV (kV (kV (bZ (Nat.le_refl _) bH)))))) ?_ ?_
 ·
  refine ec r (fun fr1 u w' hb' hd r'=>aJ r' (args:=[]) (l0) qJ ((oU _ ).mono (by rintro _ w2 ⟨rfl,hb2⟩; exact ⟨_,rfl,hb2,rfl⟩))) (ec r (fun _ u _ b d s=>av s rfl (keep b H1) to36 rfl bz) (ec r (fun fr1 u w' hb' hd r'=>aJ r' (args:=[(.agg (aD D.bW).toArray),(U a0)]) (lc hd.1 (lc hd.2.1 l0)) kv ((lm _ D.bW a0).mono (by rintro _ w2 ⟨rfl,hb2⟩; exact ⟨_,rfl,hb2,rfl⟩))) (ec r (fun _ u _ b d s=>cK s (n:=(D.bB D.bW a0)) d.1 ti36 ti3 bz) (ec r (fun _ u _ b d s=>bc s d.1 rfl rfl rfl bz) (ec r (fun fr1 u w' hb' hd r'=>ah tz3 (fun b w2 n2=>⟨n2.below,b,rfl,Nat.le_of_eq n2.eq.symm,n2.at_⟩)) ?_)))));exact bJ
 intro fr u w7 hb hΦ hne r;obtain ⟨b8,g5,E8,H8⟩:=hΦ 5 ke;have l_b8:=lt_of_block H8;have r:=r.congr (sc g5 (sc (hΦ 4 ke) (sc (hΦ 3 ke) (sc (hΦ 2 ke) (sc (hΦ 1 ke) (sc (hΦ 0 ke) rfl))))));have Z7:=hb.size;have H1:=keep hb H1;have H4:=keep hb H4;obtain ⟨hB,zB⟩:=bon hb hB;refine bh (.cells #[(I (W ((W (D.bB D.bW a0)) - 1)))] 3 (0,0)) r (fun R=>aT r (o:=0) (v:=(I (W ((W (D.bB D.bW a0)) - 1)))) rfl rfl H8 ts3 (Nat.le_of_ble_eq_true rfl) rfl rfl) rfl fun fr w9 u10 r=>?_;have Z9:=u10.size
 have H1:=u10.keep H1 kw
 have H4:=u10.keep H4 kw
 have H8:=u10.at_;obtain ⟨hB,zB⟩:=u10.on hB kw
 refine wn (wp_seq (wsr (kL (I (W ((W (D.bB D.bW a0)) - 1))) r rfl H8 to3 rfl rfl fun r=>kB r rfl rfl rfl rfl rfl fun r=>wn ?_)));refine wp_cond_split (t:=(decide ((W ((W (D.bB D.bW a0)) - 1))<0))) (r.ev rfl) (fun h11=>?_) (fun h11=>?_)
 ·
  refine wsr ?_;have hF1:=aO hF hB b4;refine kD r (eB (F:=(kW F w0 w9 b4)) (n:=n) hF1 (-1)) rfl eM rfl fun w12 v13 hb hr14 r=>?_;have Z12:=hb.size
  have H1:=keep hb H1;have H4:=keep hb H4;have H8:=keep hb H8;obtain ⟨hB,zB⟩:=bon hb hB;refine kP r hr14.shape rfl rfl H4 ts44 rfl rfl fun w15 u16 r=>?_;have Z15:=u16.size
  have H1:=u16.keep H1 kw
  have H8:=u16.keep H8 kw
  have H4:=u16.at_;obtain ⟨hB,zB⟩:=u16.on hB kw
  refine wn (wp_ret ?_);have hd:D.eI r_free_Pop c0 a0=(D.cJ (-1)):=(az h11).trans (rfl);have hs:=hr14.shape.cells;refine ar r rfl rfl H4 (k:=7) hs.1 ta44 ?_;rw [←hs.2.2,hd];exact rfin hF hB hr14 u16 kw kw kw
 refine wp_skip (wsr (kG (ae c0) 6 r rfl (keep hB c0h) ta23 rfl rfl fun r=>kL (I (W ((W (D.bB D.bW a0)) - 1))) r rfl H8 to3 rfl rfl fun r=>?_));refine kE r (lA w9 c0 (W ((W (D.bB D.bW a0)) - 1))) rfl mX rfl fun w17 hb r=>?_
 have Z17:=hb.size;have H1:=keep hb H1;have H4:=keep hb H4;have H8:=keep hb H8;obtain ⟨hB,zB⟩:=bon hb hB;refine ac (.func (.func 257) #[] #[zp c0b,zp b1,zp b8]) r (fun R=>aU r rfl) rfl fun fr r=>?_;have hF1:=aO hF hB b4
 have f18:((kW F w0 w17 b4)) c0b:=(.inl c0F);have f19:((kW F w0 w17 b4)) b1:=(.inr ⟨kw,kw,kw⟩)
 have f20:((kW F w0 w17 b4)) b8:=(.inr ⟨kw,kw,kw⟩)
 refine kD r (fj (F:=(kW F w0 w17 b4)) (n:=n) hF1 (D.dw c0 (W ((W (D.bB D.bW a0)) - 1))) ⟨257,[],[zp c0b,zp b1,zp b8],DC,rfl,fun m hm x w' hs hz=>Am (fun b hb=>Nat.lt_of_lt_of_le (hF1 b hb) hz) (fun m' hm'=>ih_free_Pop m' kw) c0 f18 (hs.at_ f18 (keep hB c0h)) a0 f19 (hs.at_ f19 H1) (W ((W (D.bB D.bW a0)) - 1)) f20 (hs.at_ f20 H8) x⟩) rfl fF rfl fun w21 v22 hb hr23 r=>?_;have Z21:=hb.size
 have H1:=keep hb H1;have H4:=keep hb H4;have H8:=keep hb H8;obtain ⟨hB,zB⟩:=bon hb hB;refine kP r hr23.shape rfl rfl H4 ts44 rfl rfl fun w24 u25 r=>?_;have Z24:=u25.size
 have H1:=u25.keep H1 kw
 have H8:=u25.keep H8 kw
 have H4:=u25.at_;obtain ⟨hB,zB⟩:=u25.on hB kw
 refine wn (wp_ret ?_);have hd:D.eI r_free_Pop c0 a0=(D.dx (D.dw c0 (W ((W (D.bB D.bW a0)) - 1))) (fun x=>(D.jB r_free_Pop c0 a0 (W ((W (D.bB D.bW a0)) - 1)) x))):=(aB h11).trans (rfl)
 have hs:=hr23.shape.cells;refine ar r rfl rfl H4 (k:=7) hs.1 ta44 ?_;rw [←hs.2.2,hd];exact rfin hF hB hr23 u25 kw kw kw
theorem Bs {n:Nat} {F:Nat→Prop} {r_free_Pop:Plan→T Int} {w0:World} (hF:∀ b,F b→b<w0.heap.size) (ih_free_Pop:∀ m,m<n→ju r_free_Pop m)
    (a0:Plan) :
    Calls Tryz.prog 158 #[.agg (ae a0).toArray] w0 (aC Tryz.prog ak n (D.iz r_free_Pop a0) F w0):=by
 refine kN Tryz.func158 rfl 7 rfl rfl fun fr r hB=>?_;refine wsr ?_
 refine kX 23 (.agg (ae a0).toArray) r rfl rfl fun b1 w2 n3 r=>?_;obtain ⟨E1,Z2,H1,hB,zB⟩:=n3.all hB
 refine ai (.cells (af false ak.zero 0 0 0 0 .nilFunc) 44 (0,0)) r (fun R=>ah tz44) rfl fun fr b4 w5 n6 r=>?_;have H1:=keep n6.below H1
 obtain ⟨E4,Z5,H4,hB,zB⟩:=n6.all hB;refine wn (wsr (kG (ae a0) 6 r rfl H1 ta23 rfl rfl fun r=>?_));refine kE r (ji w5 a0) rfl kr rfl fun w7 hb r=>?_
 have Z7:=hb.size;have H1:=keep hb H1;have H4:=keep hb H4;obtain ⟨hB,zB⟩:=bon hb hB;refine ac (.func (.func 255) #[] #[zp b1]) r (fun R=>aU r rfl) rfl fun fr r=>?_;have hF1:=aO hF hB b4
 have f8:((kW F w0 w7 b4)) b1:=(.inr ⟨kw,kw,kw⟩)
 refine kD r (fj (F:=(kW F w0 w7 b4)) (n:=n) hF1 (D.cU a0) ⟨255,[],[zp b1],DL,rfl,fun m hm x w' hs hz=>AW (fun b hb=>Nat.lt_of_lt_of_le (hF1 b hb) hz) (fun m' hm'=>ih_free_Pop m' kw) a0 f8 (hs.at_ f8 H1) x⟩) rfl fF rfl fun w9 v10 hb hr11 r=>?_;have Z9:=hb.size
 have H1:=keep hb H1;have H4:=keep hb H4;obtain ⟨hB,zB⟩:=bon hb hB;refine kP r hr11.shape rfl rfl H4 ts44 rfl rfl fun w12 u13 r=>?_;have Z12:=u13.size
 have H1:=u13.keep H1 kw
 have H4:=u13.at_;obtain ⟨hB,zB⟩:=u13.on hB kw
 exact wn (wp_ret (kR r hr11 rfl rfl H4 rfl ta44 hF hB u13 kw kw kw))
theorem tU {n:Nat} {k:Nat} (hk:n<k):ju (D.cB k) n:=by
  induction n using Nat.strongRecOn generalizing k with
  | _ n ih=>
    obtain ⟨k,rfl⟩:∃ q,k=q+1:=⟨k - 1,kw⟩
    intro F w0 hF;have h:=@Bs n F (D.cB k) w0 hF (fun m hm=>ih m hm kw)
    exact h
def D.il (r_free_Push:Plan→Int→T Int) (c0:Plan) (c1:Int) (a0:Bool):T Int:=(bif (!a0) then (r_free_Push c0 c1) else (D.cJ c1))
def D.lN (r_free_Push:Plan→Int→T Int) (c0:Plan) (c1:Int) (c2:Int):T Int:=(D.oH (D.cU c0) c1 (D.fo c1 (D.dE c2)) (fun x=>(D.il r_free_Push c0 c2 x)))
def D.jF (r_free_Push:Plan→Int→T Int) (c0:Plan) (c1:Int) (a0:Int):T Int:=(D.dQ (D.dw c0 c1) (D.bB D.bW a0) (fun _=>(D.lN r_free_Push c0 a0 c1)))
def D.iq (r_free_Push:Plan→Int→T Int) (a0:Plan) (a1:Int):T Int:=(bif ((D.dw a0 a1)==(-1)) then (D.cJ (-1)) else (D.dx (D.cU a0) (fun x=>(D.jF r_free_Push a0 a1 x))))
def D.dU:Nat→Plan→Int→T Int
  | 0,_,_=>.cut
  | k+1,a0,a1=>D.iq (D.dU k) a0 a1
def jo (r:Plan→Int→T Int) (n:Nat):Prop:=∀ (F:Nat→Prop) (w0:World),(∀ b,F b→b<w0.heap.size)→∀ (a0:Plan) (a1:Int),Calls Tryz.prog 313 #[.agg (ae a0).toArray,.int .i64 a1] w0 (aC Tryz.prog ak n (r a0 a1) F w0)
theorem zw {r_free_Push:Plan→Int→T Int} (hF:kH F w0) (ih_free_Push:∀ m,m≤n→jo r_free_Push m)
    (c0:Plan) {c0b:Nat} (c0F:F c0b) (c0h:w0.heap[c0b]?=some (.cells ((ae c0)).toArray 23 (0,0))) (c1:Int) {c1b:Nat} (c1F:F c1b) (c1h:w0.heap[c1b]?=some (.cells ([(.int .i64 c1)]).toArray 3 (0,0))) (a0:Bool) :
    Calls Tryz.prog 361 #[.bool a0,zp c0b,zp c1b] w0 (aC Tryz.prog ak n (D.il r_free_Push c0 c1 a0) F w0):=by
 refine kN Tryz.func361 rfl 12 rfl rfl fun fr r hB=>?_;have lc0b:=lt_of_block c0h
 have lc1b:=lt_of_block c1h;refine wsr ?_;refine ai (.cells (af false ak.zero 0 0 0 0 .nilFunc) 44 (0,0)) r (fun R=>ah tz44) rfl fun fr b1 w2 n3 r=>?_;obtain ⟨E1,Z2,H1,hB,zB⟩:=n3.all hB
 refine wn (wp_seq (wsr (kM (.bool a0) r rfl rfl fun r=>ac (.bool (!a0)) r (fun R=>y_un r (u:=(.bool a0)) rfl rfl) rfl fun fr r=>wn ?_)));refine wp_cond_split (t:=(!a0)) (r.ev rfl) (fun h4=>?_) (fun h4=>?_)
 ·
  refine wsr (kG (ae c0) 6 r rfl (keep hB c0h) ta23 rfl rfl fun r=>kL (I c1) r rfl (keep hB c1h) to3 rfl rfl fun r=>?_);have hF1:=aO hF hB b1
  refine kD r ((ih_free_Push n kw) (kW F w0 w2 b1) _ hF1 c0 c1) rfl xe rfl fun w5 v6 hb hr7 r=>?_;have Z5:=hb.size
  have H1:=keep hb H1;obtain ⟨hB,zB⟩:=bon hb hB;refine kP r hr7.shape rfl rfl H1 ts44 rfl rfl fun w8 u9 r=>?_;have Z8:=u9.size
  have H1:=u9.at_;obtain ⟨hB,zB⟩:=u9.on hB kw
  refine wn (wp_ret ?_);have hd:D.il r_free_Push c0 c1 a0=(r_free_Push c0 c1):=(az h4).trans (rfl);have hs:=hr7.shape.cells;refine ar r rfl rfl H1 (k:=7) hs.1 ta44 ?_;rw [←hs.2.2,hd];exact rfin hF hB hr7 u9 kw kw kw
 refine wp_skip (wsr (kL (I c1) r rfl (keep hB c1h) to3 rfl rfl fun r=>?_));have hF1:=aO hF hB b1
 refine kD r (eB (F:=(kW F w0 w2 b1)) (n:=n) hF1 c1) rfl eM rfl fun w10 v11 hb hr12 r=>?_;have Z10:=hb.size
 have H1:=keep hb H1;obtain ⟨hB,zB⟩:=bon hb hB;refine kP r hr12.shape rfl rfl H1 ts44 rfl rfl fun w13 u14 r=>?_;have Z13:=u14.size
 have H1:=u14.at_;obtain ⟨hB,zB⟩:=u14.on hB kw
 refine wn (wp_ret ?_);have hd:D.il r_free_Push c0 c1 a0=(D.cJ c1):=(aB h4).trans (rfl);have hs:=hr12.shape.cells;refine ar r rfl rfl H1 (k:=7) hs.1 ta44 ?_;rw [←hs.2.2,hd];exact rfin hF hB hr12 u14 kw kw kw
theorem zW {r_free_Push:Plan→Int→T Int} (hF:kH F w0) (ih_free_Push:∀ m,m<n→jo r_free_Push m)
    (c0:Plan) {c0b:Nat} (c0F:F c0b) (c0h:w0.heap[c0b]?=some (.cells ((ae c0)).toArray 23 (0,0))) (c1:Int) {c1b:Nat} (c1F:F c1b) (c1h:w0.heap[c1b]?=some (.cells ([(.int .u64 c1)]).toArray 36 (0,0))) (c2:Int) {c2b:Nat} (c2F:F c2b) (c2h:w0.heap[c2b]?=some (.cells ([(.int .i64 c2)]).toArray 3 (0,0))) :
    Calls Tryz.prog 360 #[zp c0b,zp c1b,zp c2b] w0 (aC Tryz.prog ak n (D.lN r_free_Push c0 c1 c2) F w0):=by
 refine kN Tryz.func360 rfl 13 rfl rfl fun fr r hB=>?_;have lc0b:=lt_of_block c0h
 have lc1b:=lt_of_block c1h;have lc2b:=lt_of_block c2h;refine wsr ?_;refine ai (.cells (af false ak.zero 0 0 0 0 .nilFunc) 44 (0,0)) r (fun R=>ah tz44) rfl fun fr b1 w2 n3 r=>?_;obtain ⟨E1,Z2,H1,hB,zB⟩:=n3.all hB
 refine wn (wp_seq ?_);refine bI 8 [.val (.agg (ae c0).toArray),.val (I (D.cU c0)),.val (U c1),.val (U c1),.val (I c2),.val (U (D.dE c2)),.val (U (D.fo c1 (D.dE c2))),.val (.func (.func 361) #[] #[zp c0b,zp c2b])] mixed r kz (kV (kV (kV (kV (kV (kV (kV (kV bH)))))))) ?_ ?_
 ·
  refine ec r (fun _ u _ b d s=>aS s (cs:=(ae c0)) (n:=6) rfl (bY hB b c0h) ta23 rfl bz) (ec r (fun fr1 u w' hb' hd r'=>aJ r' (args:=[(.agg (ae c0).toArray)]) (lc hd.1 l0) kr ((ji _ c0).mono (by rintro _ w2 ⟨rfl,hb2⟩; exact ⟨_,rfl,hb2,rfl⟩))) (ec r (fun _ u _ b d s=>av s rfl (bY hB b c1h) to36 rfl bz) (ec r (fun _ u _ b d s=>av s rfl (bY hB b c1h) to36 rfl bz) (ec r (fun _ u _ b d s=>av s rfl (bY hB b c2h) to3 rfl bz) (ec r (fun fr1 u w' hb' hd r'=>aJ r' (args:=[(I c2)]) (lc hd.1 l0) qE ((oW _ c2).mono (by rintro _ w2 ⟨rfl,hb2⟩; exact ⟨_,rfl,hb2,rfl⟩))) (ec r (fun fr1 u w' hb' hd r'=>aJ r' (args:=[(U c1),(U (D.dE c2))]) (lc hd.1 (lc hd.2.1 l0)) wK ((sO _ c1 (D.dE c2)).mono (by rintro _ w2 ⟨rfl,hb2⟩; exact ⟨_,rfl,hb2,rfl⟩))) (ec r (fun _ u _ b d s=>aU s (v:=(.func (.func 361) #[] #[zp c0b,zp c2b])) rfl bz) ?_)))))));exact bJ
 intro fr u w4 hb hΦ hne r;have r:=r.congr (sc (hΦ 7 ke) (sc (hΦ 6 ke) (sc (hΦ 5 ke) (sc (hΦ 4 ke) (sc (hΦ 3 ke) (sc (hΦ 2 ke) (sc (hΦ 1 ke) (sc (hΦ 0 ke) rfl))))))));have Z4:=hb.size;have H1:=keep hb H1;obtain ⟨hB,zB⟩:=bon hb hB;have hF1:=aO hF hB b1;have f5:((kW F w0 w4 b1)) c0b:=(.inl c0F);have f6:((kW F w0 w4 b1)) c2b:=(.inl c2F);refine kD r (sr (F:=(kW F w0 w4 b1)) (n:=n) hF1 (D.cU c0) c1 (D.fo c1 (D.dE c2)) ⟨361,[],[zp c0b,zp c2b],Fp,rfl,fun m hm x w' hs hz=>zw (fun b hb=>Nat.lt_of_lt_of_le (hF1 b hb) hz) (fun m' hm'=>ih_free_Push m' kw) c0 f5 (hs.at_ f5 (keep hB c0h)) c2 f6 (hs.at_ f6 (keep hB c2h)) x⟩) rfl wR rfl fun w7 v8 hb hr9 r=>?_;have Z7:=hb.size
 have H1:=keep hb H1;obtain ⟨hB,zB⟩:=bon hb hB;refine kP r hr9.shape rfl rfl H1 ts44 rfl rfl fun w10 u11 r=>?_;have Z10:=u11.size
 have H1:=u11.at_;obtain ⟨hB,zB⟩:=u11.on hB kw
 exact wn (wp_ret (kR r hr9 rfl rfl H1 rfl ta44 hF hB u11 kw kw kw))
theorem AL {r_free_Push:Plan→Int→T Int} (hF:kH F w0) (ih_free_Push:∀ m,m<n→jo r_free_Push m)
    (c0:Plan) {c0b:Nat} (c0F:F c0b) (c0h:w0.heap[c0b]?=some (.cells ((ae c0)).toArray 23 (0,0))) (c1:Int) {c1b:Nat} (c1F:F c1b) (c1h:w0.heap[c1b]?=some (.cells ([(.int .i64 c1)]).toArray 3 (0,0))) (a0:Int) :
    Calls Tryz.prog 359 #[.int .u64 a0,zp c0b,zp c1b] w0 (aC Tryz.prog ak n (D.jF r_free_Push c0 c1 a0) F w0):=by
 refine kN Tryz.func359 rfl 13 rfl rfl fun fr r hB=>?_;have lc0b:=lt_of_block c0h
 have lc1b:=lt_of_block c1h;refine wsr ?_;refine kX 36 (U a0) r rfl rfl fun b1 w2 n3 r=>?_;obtain ⟨E1,Z2,H1,hB,zB⟩:=n3.all hB
 refine ai (.cells (af false ak.zero 0 0 0 0 .nilFunc) 44 (0,0)) r (fun R=>ah tz44) rfl fun fr b4 w5 n6 r=>?_;have H1:=keep n6.below H1
 obtain ⟨E4,Z5,H4,hB,zB⟩:=n6.all hB;refine wn (wp_seq ?_);refine bI 7 [.val (.agg (ae c0).toArray),.val (I c1),.val (I (D.dw c0 c1)),.val (.agg (aD D.bW).toArray),.val (U a0),.val (U (D.bB D.bW a0)),.val (.func (.func 360) #[] #[zp c0b,zp b1,zp c1b])] mixed r kz (kV (kV (kV (kV (kV (kV (kV bH))))))) ?_ ?_
 ·
  refine ec r (fun _ u _ b d s=>aS s (cs:=(ae c0)) (n:=6) rfl (bY hB b c0h) ta23 rfl bz) (ec r (fun _ u _ b d s=>av s rfl (bY hB b c1h) to3 rfl bz) (ec r (fun fr1 u w' hb' hd r'=>aJ r' (args:=[(.agg (ae c0).toArray),(I c1)]) (lc hd.1 (lc hd.2.1 l0)) mX ((lA _ c0 c1).mono (by rintro _ w2 ⟨rfl,hb2⟩; exact ⟨_,rfl,hb2,rfl⟩))) (ec r (fun fr1 u w' hb' hd r'=>aJ r' (args:=[]) (l0) qJ ((oU _ ).mono (by rintro _ w2 ⟨rfl,hb2⟩; exact ⟨_,rfl,hb2,rfl⟩))) (ec r (fun _ u _ b d s=>av s rfl (keep b H1) to36 rfl bz) (ec r (fun fr1 u w' hb' hd r'=>aJ r' (args:=[(.agg (aD D.bW).toArray),(U a0)]) (lc hd.1 (lc hd.2.1 l0)) kv ((lm _ D.bW a0).mono (by rintro _ w2 ⟨rfl,hb2⟩; exact ⟨_,rfl,hb2,rfl⟩))) (ec r (fun _ u _ b d s=>aU s (v:=(.func (.func 360) #[] #[zp c0b,zp b1,zp c1b])) rfl bz) ?_))))));exact bJ
 intro fr u w7 hb hΦ hne r;have r:=r.congr (sc (hΦ 6 ke) (sc (hΦ 5 ke) (sc (hΦ 4 ke) (sc (hΦ 3 ke) (sc (hΦ 2 ke) (sc (hΦ 1 ke) (sc (hΦ 0 ke) rfl)))))));have Z7:=hb.size;have H1:=keep hb H1;have H4:=keep hb H4;obtain ⟨hB,zB⟩:=bon hb hB;have hF1:=aO hF hB b4;have f8:((kW F w0 w7 b4)) c0b:=(.inl c0F);have f9:((kW F w0 w7 b4)) b1:=(.inr ⟨kw,kw,kw⟩)
 have f10:((kW F w0 w7 b4)) c1b:=(.inl c1F);refine kD r (fN (F:=(kW F w0 w7 b4)) (n:=n) hF1 (D.dw c0 c1) (D.bB D.bW a0) ⟨360,[],[zp c0b,zp b1,zp c1b],EI,rfl,fun m hm _ w' hs hz=>zW (fun b hb=>Nat.lt_of_lt_of_le (hF1 b hb) hz) (fun m' hm'=>ih_free_Push m' kw) c0 f8 (hs.at_ f8 (keep hB c0h)) a0 f9 (hs.at_ f9 H1) c1 f10 (hs.at_ f10 (keep hB c1h))⟩) rfl gy rfl fun w11 v12 hb hr13 r=>?_;have Z11:=hb.size
 have H1:=keep hb H1;have H4:=keep hb H4;obtain ⟨hB,zB⟩:=bon hb hB;refine kP r hr13.shape rfl rfl H4 ts44 rfl rfl fun w14 u15 r=>?_;have Z14:=u15.size
 have H1:=u15.keep H1 kw
 have H4:=u15.at_;obtain ⟨hB,zB⟩:=u15.on hB kw
 exact wn (wp_ret (kR r hr13 rfl rfl H4 rfl ta44 hF hB u15 kw kw kw))
theorem Bh {n:Nat} {F:Nat→Prop} {r_free_Push:Plan→Int→T Int} {w0:World} (hF:∀ b,F b→b<w0.heap.size) (ih_free_Push:∀ m,m<n→jo r_free_Push m)
    (a0:Plan) (a1:Int) :
    Calls Tryz.prog 313 #[.agg (ae a0).toArray,.int .i64 a1] w0 (aC Tryz.prog ak n (D.iq r_free_Push a0 a1) F w0):=by
 refine kN Tryz.func313 rfl 14 rfl rfl fun fr r hB=>?_;refine wsr ?_
 refine kX 23 (.agg (ae a0).toArray) r rfl rfl fun b1 w2 n3 r=>?_;obtain ⟨E1,Z2,H1,hB,zB⟩:=n3.all hB
 refine kX 3 (I a1) r rfl rfl fun b4 w5 n6 r=>?_;have H1:=keep n6.below H1
 obtain ⟨E4,Z5,H4,hB,zB⟩:=n6.all hB;refine ai (.cells (af false ak.zero 0 0 0 0 .nilFunc) 44 (0,0)) r (fun R=>ah tz44) rfl fun fr b7 w8 n9 r=>?_;have H1:=keep n9.below H1
 have H4:=keep n9.below H4;obtain ⟨E7,Z8,H7,hB,zB⟩:=n9.all hB;refine wn (wp_seq (wsr (kG (ae a0) 6 r rfl H1 ta23 rfl rfl fun r=>kL (I a1) r rfl H4 to3 rfl rfl fun r=>?_)));refine kE r (lA w8 a0 a1) rfl mX rfl fun w10 hb r=>?_
 have Z10:=hb.size;have H1:=keep hb H1;have H4:=keep hb H4;have H7:=keep hb H7;obtain ⟨hB,zB⟩:=bon hb hB;refine kB r rfl rfl rfl rfl rfl fun r=>wn ?_;refine wp_cond_split (t:=((D.dw a0 a1)==(-1))) (r.ev rfl) (fun h11=>?_) (fun h11=>?_)
 ·
  refine wsr ?_;have hF1:=aO hF hB b7;refine kD r (eB (F:=(kW F w0 w10 b7)) (n:=n) hF1 (-1)) rfl eM rfl fun w12 v13 hb hr14 r=>?_;have Z12:=hb.size
  have H1:=keep hb H1;have H4:=keep hb H4;have H7:=keep hb H7;obtain ⟨hB,zB⟩:=bon hb hB;refine kP r hr14.shape rfl rfl H7 ts44 rfl rfl fun w15 u16 r=>?_;have Z15:=u16.size
  have H1:=u16.keep H1 kw
  have H4:=u16.keep H4 kw
  have H7:=u16.at_;obtain ⟨hB,zB⟩:=u16.on hB kw
  refine wn (wp_ret ?_);have hd:D.iq r_free_Push a0 a1=(D.cJ (-1)):=(az h11).trans (rfl);have hs:=hr14.shape.cells;refine ar r rfl rfl H7 (k:=7) hs.1 ta44 ?_;rw [←hs.2.2,hd];exact rfin hF hB hr14 u16 kw kw kw
 refine wp_skip (wsr (kG (ae a0) 6 r rfl H1 ta23 rfl rfl fun r=>?_));refine kE r (ji w10 a0) rfl kr rfl fun w17 hb r=>?_
 have Z17:=hb.size;have H1:=keep hb H1;have H4:=keep hb H4;have H7:=keep hb H7;obtain ⟨hB,zB⟩:=bon hb hB;refine ac (.func (.func 359) #[] #[zp b1,zp b4]) r (fun R=>aU r rfl) rfl fun fr r=>?_;have hF1:=aO hF hB b7
 have f18:((kW F w0 w17 b7)) b1:=(.inr ⟨kw,kw,kw⟩)
 have f19:((kW F w0 w17 b7)) b4:=(.inr ⟨kw,kw,kw⟩)
 refine kD r (fj (F:=(kW F w0 w17 b7)) (n:=n) hF1 (D.cU a0) ⟨359,[],[zp b1,zp b4],DV,rfl,fun m hm x w' hs hz=>AL (fun b hb=>Nat.lt_of_lt_of_le (hF1 b hb) hz) (fun m' hm'=>ih_free_Push m' kw) a0 f18 (hs.at_ f18 H1) a1 f19 (hs.at_ f19 H4) x⟩) rfl fF rfl fun w20 v21 hb hr22 r=>?_;have Z20:=hb.size
 have H1:=keep hb H1;have H4:=keep hb H4;have H7:=keep hb H7;obtain ⟨hB,zB⟩:=bon hb hB;refine kP r hr22.shape rfl rfl H7 ts44 rfl rfl fun w23 u24 r=>?_;have Z23:=u24.size
 have H1:=u24.keep H1 kw
 have H4:=u24.keep H4 kw
 have H7:=u24.at_;obtain ⟨hB,zB⟩:=u24.on hB kw
 refine wn (wp_ret ?_);have hd:D.iq r_free_Push a0 a1=(D.dx (D.cU a0) (fun x=>(D.jF r_free_Push a0 a1 x))):=(aB h11).trans (rfl)
 have hs:=hr22.shape.cells;refine ar r rfl rfl H7 (k:=7) hs.1 ta44 ?_;rw [←hs.2.2,hd];exact rfin hF hB hr22 u24 kw kw kw
theorem Be {n:Nat} {k:Nat} (hk:n<k):jo (D.dU k) n:=by
  induction n using Nat.strongRecOn generalizing k with
  | _ n ih=>
    obtain ⟨k,rfl⟩:∃ q,k=q+1:=⟨k - 1,kw⟩
    intro F w0 hF;have h:=@Bh n F (D.dU k) w0 hF (fun m hm=>ih m hm kw)
    exact h
end
end Go.Proofs.YtikjpdpgdmbdpaaGreat
