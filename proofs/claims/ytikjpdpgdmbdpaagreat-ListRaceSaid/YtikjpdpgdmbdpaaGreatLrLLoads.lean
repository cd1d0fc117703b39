/- Ours. -/
import Derived.Test.YtikjpdpgdmbdpaaGreatLrLThens
set_option linter.all false
set_option maxRecDepth 20000
set_option maxHeartbeats 2000000
namespace Go.Proofs.YtikjpdpgdmbdpaaGreat
open Go.RowKit
section
variable {n : Nat} {F : Nat → Prop} {j : Nat} {w0 : World}
theorem Ed:ag Tryz.prog 407:=kz
theorem Ff:tyO Tryz.prog 340:=kz
set_option maxRecDepth 20000 in
set_option maxHeartbeats 8000000 in
theorem zM (hF:kH F w0)
    (a0:Int) {a1f:FuncId} {a1_1 a1_2:List Value} {a1:(Int→T Res)} (a1n:FnL Tryz.prog aj u64 (n) F w0 (.func (.func a1f) a1_1.toArray a1_2.toArray) a1) :
    Calls Tryz.prog 125 #[.int .i64 a0,.func (.func a1f) a1_1.toArray a1_2.toArray] w0 (au Tryz.prog aj n (D.fR a0 a1) F w0):=by
 refine kN Tryz.func125 rfl 9 rfl rfl fun fr r hB=>?_;refine wsr ?_
 refine ai (.cells (af false aj.zero 0 0 0 0 .nilFunc) 57 (0,0)) r (fun R=>ah tz57) rfl fun fr b1 w2 n3 r=>?_;obtain ⟨eb1,zw2,hb1,hB,zB⟩:=n3.all hB
 refine wn (wsr (kM (I a0) r rfl rfl fun r=>kU (.agg (ba (⟨0,a0,0,0⟩:Access)).toArray) r kz rfl fun r=>kM (.func (.func a1f) a1_1.toArray a1_2.toArray) r rfl rfl fun r=>?_));have hF1:=cj hF hB.size b1
 refine kJ r (gK (F:=(kW F w0 w2 b1)) (n:=n) hF1 (⟨0,a0,0,0⟩:Access) (a1n.mono kw (fun b h=>.inl h) (Same.below hB hF) hB.size)) rfl hU rfl fun w4 v5 hb hr6 r=>?_;have zw4:=hb.size
 have hb1:=aX hb hb1 (by rintro (h | ⟨_,_,h⟩); (have:=hF _ h; omega); exact h rfl)
 have hB:=Chg.aR (Z:=F) hB;have hB:=hB.bk hb (by rintro b hlt (h | ⟨h,_⟩); exact h; omega)
 have zB:=hB.size;refine kP r hr6.shape rfl rfl hb1 ts57 rfl rfl fun w7 u8 r=>?_;have zw7:=u8.size
 have hb1:=u8.at_;have hB:=hB.bi u8 (.inl kw)
 have zB:=hB.size;refine wn (wp_ret ?_);have hs:=hr6.shape.cells;refine ar r rfl rfl hb1 (k:=8) hs.1 ta57 ?_;rw [←hs.2.2];exact au.fin hB hr6 u8 (by rintro b (h | ⟨h1,h2,_⟩); exact .inl h; exact .inr ⟨h1,h2⟩) (by rintro (h | ⟨_,_,h⟩); (have:=hF _ h; omega); exact h rfl) kw kw kw
set_option maxRecDepth 20000 in
set_option maxHeartbeats 8000000 in
theorem yU (hF:kH F w0)
    {c0f:FuncId} {c0_1 c0_2:List Value} {c0:(Bool→T Res)} {c0b:Nat} (c0F:F c0b) (c0h:w0.heap[c0b]?=some (.cells #[.func (.func c0f) c0_1.toArray c0_2.toArray] 215 (0,0))) (c0n:FnL Tryz.prog aj aP (n+1) F w0 (.func (.func c0f) c0_1.toArray c0_2.toArray) c0) (c1:Int) {c1b:Nat} (c1F:F c1b) (c1h:w0.heap[c1b]?=some (.cells ([(.int .u64 c1)]).toArray 36 (0,0))) (a0:Int) :
    Calls Tryz.prog 228 #[.int .u64 a0,zp c0b,zp c1b] w0 (au Tryz.prog aj n (D.sn c0 c1 a0) F w0):=by
 refine kN Tryz.func228 rfl 10 rfl rfl fun fr r hB=>?_;have lc0b:=lt_of_block c0h
 have lc1b:=lt_of_block c1h;refine wsr ?_;refine ai (.cells (af false aj.zero 0 0 0 0 .nilFunc) 57 (0,0)) r (fun R=>ah tz57) rfl fun fr b1 w2 n3 r=>?_;have c0h:=keep n3.below c0h
 have c1h:=keep n3.below c1h;obtain ⟨eb1,zw2,hb1,hB,zB⟩:=n3.all hB;refine wn (wsr (kL (.func (.func c0f) c0_1.toArray c0_2.toArray) r rfl c0h EW rfl rfl fun r=>kM (U a0) r rfl rfl fun r=>kL (U c1) r rfl c1h to36 rfl rfl fun r=>kB r rfl rfl rfl rfl rfl fun r=>?_));refine cA r (c0n.at_.2 n (Nat.lt_succ_self n) (a0==c1) w2 (Same.below hB hF) hB.size) (fun R hc=>dn r rfl rfl c0n.at_.1 hc) rfl ?_
 rintro _ w4 ⟨v5,rfl,hb,hr6⟩;refine ⟨_,rfl,fun fr r=>?_⟩
 have zw4:=hb.size;have hb1:=aX hb hb1 (fun h=>by have:=hF _ h; omega)
 have hB:=Chg.aR (Z:=F) hB;have hB:=hB.bk hb (fun _ _ h=>h)
 have zB:=hB.size;refine kP r hr6.shape rfl rfl hb1 ts57 rfl rfl fun w7 u8 r=>?_;have zw7:=u8.size
 have hb1:=u8.at_;have hB:=hB.bi u8 (.inl kw)
 have zB:=hB.size;refine wn (wp_ret ?_);have hs:=hr6.shape.cells;refine ar r rfl rfl hb1 (k:=8) hs.1 ta57 ?_;rw [←hs.2.2];exact au.fin hB hr6 u8 (fun b hb=>.inl hb) (fun h=>by have:=hF _ h; omega) kw kw kw
set_option maxRecDepth 20000 in
set_option maxHeartbeats 8000000 in
theorem o8 (hF:kH F w0)
    (a0:Int) (a1:Int) (a2:Int) {a3f:FuncId} {a3_1 a3_2:List Value} {a3:(Bool→T Res)} (a3n:FnL Tryz.prog aj aP (n) F w0 (.func (.func a3f) a3_1.toArray a3_2.toArray) a3) :
    Calls Tryz.prog 127 #[.int .i64 a0,.int .u64 a1,.int .u64 a2,.func (.func a3f) a3_1.toArray a3_2.toArray] w0 (au Tryz.prog aj n (D.fQ a0 a1 a2 a3) F w0):=by
 refine kN Tryz.func127 rfl 15 rfl rfl fun fr r hB=>?_;refine wsr ?_
 refine kX 36 (U a1) r rfl rfl fun b1 w2 n3 r=>?_;obtain ⟨eb1,zw2,hb1,hB,zB⟩:=n3.all hB
 refine kX 215 (.func (.func a3f) a3_1.toArray a3_2.toArray) r rfl rfl fun b4 w5 n6 r=>?_;have hb1:=keep n6.below hb1
 obtain ⟨eb4,zw5,hb4,hB,zB⟩:=n6.all hB;refine ai (.cells (af false aj.zero 0 0 0 0 .nilFunc) 57 (0,0)) r (fun R=>ah tz57) rfl fun fr b7 w8 n9 r=>?_;have hb1:=keep n9.below hb1
 have hb4:=keep n9.below hb4;obtain ⟨eb7,zw8,hb7,hB,zB⟩:=n9.all hB;refine wn (wsr (kM (I a0) r rfl rfl fun r=>kL (U a1) r rfl hb1 to36 rfl rfl fun r=>kM (U a2) r rfl rfl fun r=>kU (.agg (ba (⟨2,a0,a1,a2⟩:Access)).toArray) r kz rfl fun r=>ac (.func (.func 228) #[] #[zp b4,zp b1]) r (fun R=>aU r rfl) rfl fun fr r=>?_));have hF1:=cj hF hB.size b7
 have f13:((kW F w0 w8 b7)) b4:=(.inr ⟨kw,kw,kw⟩)
 have f14:((kW F w0 w8 b7)) b1:=(.inr ⟨kw,kw,kw⟩)
 refine kJ r (gK (F:=(kW F w0 w8 b7)) (n:=n) hF1 (⟨2,a0,a1,a2⟩:Access) ⟨228,[],[zp b4,zp b1],Ef,rfl,fun m hm x w' hs hz=>yU (fun b hb=>Nat.lt_of_lt_of_le (hF1 b hb) hz) f13 (hs.at_ f13 hb4) (a3n.mono kw (fun b h=>.inl h) ((Same.below hB hF).trans (hs.sub (fun b h=>.inl h))) (Nat.le_trans hB.size hz)) a1 f14 (hs.at_ f14 hb1) x⟩) rfl hU rfl fun w10 v11 hb hr12 r=>?_;have zw10:=hb.size
 have hb7:=aX hb hb7 (by rintro (h | ⟨_,_,h⟩); (have:=hF _ h; omega); exact h rfl)
 have hB:=Chg.aR (Z:=F) hB;have hB:=hB.bk hb (by rintro b hlt (h | ⟨h,_⟩); exact h; omega)
 have zB:=hB.size;refine kP r hr12.shape rfl rfl hb7 ts57 rfl rfl fun w15 u16 r=>?_;have zw15:=u16.size
 have hb7:=u16.at_;have hB:=hB.bi u16 (.inl kw)
 have zB:=hB.size;refine wn (wp_ret ?_);have hs:=hr12.shape.cells;refine ar r rfl rfl hb7 (k:=8) hs.1 ta57 ?_;rw [←hs.2.2];exact au.fin hB hr12 u16 (by rintro b (h | ⟨h1,h2,_⟩); exact .inl h; exact .inr ⟨h1,h2⟩) (by rintro (h | ⟨_,_,h⟩); (have:=hF _ h; omega); exact h rfl) kw kw kw
set_option maxRecDepth 20000 in
set_option maxHeartbeats 8000000 in
theorem yK (hF:kH F w0)
    {c0f:FuncId} {c0_1 c0_2:List Value} {c0:(Unit→T Res)} {c0b:Nat} (c0F:F c0b) (c0h:w0.heap[c0b]?=some (.cells #[.func (.func c0f) c0_1.toArray c0_2.toArray] 202 (0,0))) (c0n:FnL Tryz.prog aj unitE (n+1) F w0 (.func (.func c0f) c0_1.toArray c0_2.toArray) c0) (a0:Int) :
    Calls Tryz.prog 212 #[.int .u64 a0,zp c0b] w0 (au Tryz.prog aj n (D.sj c0 a0) F w0):=by
 refine kN Tryz.func212 rfl 6 rfl rfl fun fr r hB=>?_;have lc0b:=lt_of_block c0h
 refine wsr ?_;refine ai (.cells (af false aj.zero 0 0 0 0 .nilFunc) 57 (0,0)) r (fun R=>ah tz57) rfl fun fr b1 w2 n3 r=>?_;have c0h:=keep n3.below c0h
 obtain ⟨eb1,zw2,hb1,hB,zB⟩:=n3.all hB;refine wn (wsr (kL (.func (.func c0f) c0_1.toArray c0_2.toArray) r rfl c0h EQ rfl rfl fun r=>?_));refine cA r (c0n.at_.2 n (Nat.lt_succ_self n) () w2 (Same.below hB hF) hB.size) (fun R hc=>gY r rfl c0n.at_.1 hc) rfl ?_
 rintro _ w4 ⟨v5,rfl,hb,hr6⟩;refine ⟨_,rfl,fun fr r=>?_⟩
 have zw4:=hb.size;have hb1:=aX hb hb1 (fun h=>by have:=hF _ h; omega)
 have hB:=Chg.aR (Z:=F) hB;have hB:=hB.bk hb (fun _ _ h=>h)
 have zB:=hB.size;refine kP r hr6.shape rfl rfl hb1 ts57 rfl rfl fun w7 u8 r=>?_;have zw7:=u8.size
 have hb1:=u8.at_;have hB:=hB.bi u8 (.inl kw)
 have zB:=hB.size;refine wn (wp_ret ?_);have hs:=hr6.shape.cells;refine ar r rfl rfl hb1 (k:=8) hs.1 ta57 ?_;rw [←hs.2.2];exact au.fin hB hr6 u8 (fun b hb=>.inl hb) (fun h=>by have:=hF _ h; omega) kw kw kw
set_option maxRecDepth 20000 in
set_option maxHeartbeats 8000000 in
theorem nX (hF:kH F w0)
    (a0:Int) (a1:Int) {a2f:FuncId} {a2_1 a2_2:List Value} {a2:(Unit→T Res)} (a2n:FnL Tryz.prog aj unitE (n) F w0 (.func (.func a2f) a2_1.toArray a2_2.toArray) a2) :
    Calls Tryz.prog 116 #[.int .i64 a0,.int .u64 a1,.func (.func a2f) a2_1.toArray a2_2.toArray] w0 (au Tryz.prog aj n (D.eC a0 a1 a2) F w0):=by
 refine kN Tryz.func116 rfl 12 rfl rfl fun fr r hB=>?_;refine wsr ?_
 refine kX 202 (.func (.func a2f) a2_1.toArray a2_2.toArray) r rfl rfl fun b1 w2 n3 r=>?_;obtain ⟨eb1,zw2,hb1,hB,zB⟩:=n3.all hB
 refine ai (.cells (af false aj.zero 0 0 0 0 .nilFunc) 57 (0,0)) r (fun R=>ah tz57) rfl fun fr b4 w5 n6 r=>?_;have hb1:=keep n6.below hb1
 obtain ⟨eb4,zw5,hb4,hB,zB⟩:=n6.all hB;refine wn (wsr (kM (I a0) r rfl rfl fun r=>kM (U a1) r rfl rfl fun r=>kU (.agg (ba (⟨1,a0,a1,0⟩:Access)).toArray) r kz rfl fun r=>ac (.func (.func 212) #[] #[zp b1]) r (fun R=>aU r rfl) rfl fun fr r=>?_));have hF1:=cj hF hB.size b4
 have f10:((kW F w0 w5 b4)) b1:=(.inr ⟨kw,kw,kw⟩)
 refine kJ r (gK (F:=(kW F w0 w5 b4)) (n:=n) hF1 (⟨1,a0,a1,0⟩:Access) ⟨212,[],[zp b1],DS,rfl,fun m hm x w' hs hz=>yK (fun b hb=>Nat.lt_of_lt_of_le (hF1 b hb) hz) f10 (hs.at_ f10 hb1) (a2n.mono kw (fun b h=>.inl h) ((Same.below hB hF).trans (hs.sub (fun b h=>.inl h))) (Nat.le_trans hB.size hz)) x⟩) rfl hU rfl fun w7 v8 hb hr9 r=>?_;have zw7:=hb.size
 have hb4:=aX hb hb4 (by rintro (h | ⟨_,_,h⟩); (have:=hF _ h; omega); exact h rfl)
 have hB:=Chg.aR (Z:=F) hB;have hB:=hB.bk hb (by rintro b hlt (h | ⟨h,_⟩); exact h; omega)
 have zB:=hB.size;refine kP r hr9.shape rfl rfl hb4 ts57 rfl rfl fun w11 u12 r=>?_;have zw11:=u12.size
 have hb4:=u12.at_;have hB:=hB.bi u12 (.inl kw)
 have zB:=hB.size;refine wn (wp_ret ?_);have hs:=hr9.shape.cells;refine ar r rfl rfl hb4 (k:=8) hs.1 ta57 ?_;rw [←hs.2.2];exact au.fin hB hr9 u12 (by rintro b (h | ⟨h1,h2,_⟩); exact .inl h; exact .inr ⟨h1,h2⟩) (by rintro (h | ⟨_,_,h⟩); (have:=hF _ h; omega); exact h rfl) kw kw kw
def D.gL (a0:Int) (a1:(Int→T Walk)):T Walk:=(D.oP (⟨0,a0,0,0⟩:Access) a1)
set_option maxRecDepth 20000 in
set_option maxHeartbeats 8000000 in
theorem lq (hF:kH F w0)
    (a0:Int) {a1f:FuncId} {a1_1 a1_2:List Value} {a1:(Int→T Walk)} (a1n:FnL Tryz.prog aK u64 (n) F w0 (.func (.func a1f) a1_1.toArray a1_2.toArray) a1) :
    Calls Tryz.prog 320 #[.int .i64 a0,.func (.func a1f) a1_1.toArray a1_2.toArray] w0 (au Tryz.prog aK n (D.gL a0 a1) F w0):=by
 refine kN Tryz.func320 rfl 9 rfl rfl fun fr r hB=>?_;refine wsr ?_
 refine ai (.cells (af false aK.zero 0 0 0 0 .nilFunc) 209 (0,0)) r (fun R=>ah cl) rfl fun fr b1 w2 n3 r=>?_;obtain ⟨eb1,zw2,hb1,hB,zB⟩:=n3.all hB
 refine wn (wsr (kM (I a0) r rfl rfl fun r=>kU (.agg (ba (⟨0,a0,0,0⟩:Access)).toArray) r kz rfl fun r=>kM (.func (.func a1f) a1_1.toArray a1_2.toArray) r rfl rfl fun r=>?_));have hF1:=cj hF hB.size b1
 refine kJ r (jm (F:=(kW F w0 w2 b1)) (n:=n) hF1 (⟨0,a0,0,0⟩:Access) (a1n.mono kw (fun b h=>.inl h) (Same.below hB hF) hB.size)) rfl ky rfl fun w4 v5 hb hr6 r=>?_;have zw4:=hb.size
 have hb1:=aX hb hb1 (by rintro (h | ⟨_,_,h⟩); (have:=hF _ h; omega); exact h rfl)
 have hB:=Chg.aR (Z:=F) hB;have hB:=hB.bk hb (by rintro b hlt (h | ⟨h,_⟩); exact h; omega)
 have zB:=hB.size;refine kP r hr6.shape rfl rfl hb1 bT rfl rfl fun w7 u8 r=>?_;have zw7:=u8.size
 have hb1:=u8.at_;have hB:=hB.bi u8 (.inl kw)
 have zB:=hB.size;refine wn (wp_ret ?_);have hs:=hr6.shape.cells;refine ar r rfl rfl hb1 (k:=20) hs.1 bU ?_;rw [←hs.2.2];exact au.fin hB hr6 u8 (by rintro b (h | ⟨h1,h2,_⟩); exact .inl h; exact .inr ⟨h1,h2⟩) (by rintro (h | ⟨_,_,h⟩); (have:=hF _ h; omega); exact h rfl) kw kw kw
def D.rY (c0:(Bool→T Walk)) (c1:Int) (a0:Int):T Walk:=(c0 (a0==c1))
set_option maxRecDepth 20000 in
set_option maxHeartbeats 8000000 in
theorem yL (hF:kH F w0)
    {c0f:FuncId} {c0_1 c0_2:List Value} {c0:(Bool→T Walk)} {c0b:Nat} (c0F:F c0b) (c0h:w0.heap[c0b]?=some (.cells #[.func (.func c0f) c0_1.toArray c0_2.toArray] 340 (0,0))) (c0n:FnL Tryz.prog aK aP (n+1) F w0 (.func (.func c0f) c0_1.toArray c0_2.toArray) c0) (c1:Int) {c1b:Nat} (c1F:F c1b) (c1h:w0.heap[c1b]?=some (.cells ([(.int .u64 c1)]).toArray 36 (0,0))) (a0:Int) :
    Calls Tryz.prog 407 #[.int .u64 a0,zp c0b,zp c1b] w0 (au Tryz.prog aK n (D.rY c0 c1 a0) F w0):=by
 refine kN Tryz.func407 rfl 10 rfl rfl fun fr r hB=>?_;have lc0b:=lt_of_block c0h
 have lc1b:=lt_of_block c1h;refine wsr ?_;refine ai (.cells (af false aK.zero 0 0 0 0 .nilFunc) 209 (0,0)) r (fun R=>ah cl) rfl fun fr b1 w2 n3 r=>?_;have c0h:=keep n3.below c0h
 have c1h:=keep n3.below c1h;obtain ⟨eb1,zw2,hb1,hB,zB⟩:=n3.all hB;refine wn (wsr (kL (.func (.func c0f) c0_1.toArray c0_2.toArray) r rfl c0h Ff rfl rfl fun r=>kM (U a0) r rfl rfl fun r=>kL (U c1) r rfl c1h to36 rfl rfl fun r=>kB r rfl rfl rfl rfl rfl fun r=>?_));refine cA r (c0n.at_.2 n (Nat.lt_succ_self n) (a0==c1) w2 (Same.below hB hF) hB.size) (fun R hc=>dn r rfl rfl c0n.at_.1 hc) rfl ?_
 rintro _ w4 ⟨v5,rfl,hb,hr6⟩;refine ⟨_,rfl,fun fr r=>?_⟩
 have zw4:=hb.size;have hb1:=aX hb hb1 (fun h=>by have:=hF _ h; omega)
 have hB:=Chg.aR (Z:=F) hB;have hB:=hB.bk hb (fun _ _ h=>h)
 have zB:=hB.size;refine kP r hr6.shape rfl rfl hb1 bT rfl rfl fun w7 u8 r=>?_;have zw7:=u8.size
 have hb1:=u8.at_;have hB:=hB.bi u8 (.inl kw)
 have zB:=hB.size;refine wn (wp_ret ?_);have hs:=hr6.shape.cells;refine ar r rfl rfl hb1 (k:=20) hs.1 bU ?_;rw [←hs.2.2];exact au.fin hB hr6 u8 (fun b hb=>.inl hb) (fun h=>by have:=hF _ h; omega) kw kw kw
def D.sA (a0:Int) (a1:Int) (a2:Int) (a3:(Bool→T Walk)):T Walk:=(D.oP (⟨2,a0,a1,a2⟩:Access) (fun x=>(D.rY a3 a1 x)))
set_option maxRecDepth 20000 in
set_option maxHeartbeats 8000000 in
theorem zt (hF:kH F w0)
    (a0:Int) (a1:Int) (a2:Int) {a3f:FuncId} {a3_1 a3_2:List Value} {a3:(Bool→T Walk)} (a3n:FnL Tryz.prog aK aP (n) F w0 (.func (.func a3f) a3_1.toArray a3_2.toArray) a3) :
    Calls Tryz.prog 393 #[.int .i64 a0,.int .u64 a1,.int .u64 a2,.func (.func a3f) a3_1.toArray a3_2.toArray] w0 (au Tryz.prog aK n (D.sA a0 a1 a2 a3) F w0):=by
 refine kN Tryz.func393 rfl 15 rfl rfl fun fr r hB=>?_;refine wsr ?_
 refine kX 36 (U a1) r rfl rfl fun b1 w2 n3 r=>?_;obtain ⟨eb1,zw2,hb1,hB,zB⟩:=n3.all hB
 refine kX 340 (.func (.func a3f) a3_1.toArray a3_2.toArray) r rfl rfl fun b4 w5 n6 r=>?_;have hb1:=keep n6.below hb1
 obtain ⟨eb4,zw5,hb4,hB,zB⟩:=n6.all hB;refine ai (.cells (af false aK.zero 0 0 0 0 .nilFunc) 209 (0,0)) r (fun R=>ah cl) rfl fun fr b7 w8 n9 r=>?_;have hb1:=keep n9.below hb1
 have hb4:=keep n9.below hb4;obtain ⟨eb7,zw8,hb7,hB,zB⟩:=n9.all hB;refine wn (wsr (kM (I a0) r rfl rfl fun r=>kL (U a1) r rfl hb1 to36 rfl rfl fun r=>kM (U a2) r rfl rfl fun r=>kU (.agg (ba (⟨2,a0,a1,a2⟩:Access)).toArray) r kz rfl fun r=>ac (.func (.func 407) #[] #[zp b4,zp b1]) r (fun R=>aU r rfl) rfl fun fr r=>?_));have hF1:=cj hF hB.size b7
 have f13:((kW F w0 w8 b7)) b4:=(.inr ⟨kw,kw,kw⟩)
 have f14:((kW F w0 w8 b7)) b1:=(.inr ⟨kw,kw,kw⟩)
 refine kJ r (jm (F:=(kW F w0 w8 b7)) (n:=n) hF1 (⟨2,a0,a1,a2⟩:Access) ⟨407,[],[zp b4,zp b1],Ed,rfl,fun m hm x w' hs hz=>yL (fun b hb=>Nat.lt_of_lt_of_le (hF1 b hb) hz) f13 (hs.at_ f13 hb4) (a3n.mono kw (fun b h=>.inl h) ((Same.below hB hF).trans (hs.sub (fun b h=>.inl h))) (Nat.le_trans hB.size hz)) a1 f14 (hs.at_ f14 hb1) x⟩) rfl ky rfl fun w10 v11 hb hr12 r=>?_;have zw10:=hb.size
 have hb7:=aX hb hb7 (by rintro (h | ⟨_,_,h⟩); (have:=hF _ h; omega); exact h rfl)
 have hB:=Chg.aR (Z:=F) hB;have hB:=hB.bk hb (by rintro b hlt (h | ⟨h,_⟩); exact h; omega)
 have zB:=hB.size;refine kP r hr12.shape rfl rfl hb7 bT rfl rfl fun w15 u16 r=>?_;have zw15:=u16.size
 have hb7:=u16.at_;have hB:=hB.bi u16 (.inl kw)
 have zB:=hB.size;refine wn (wp_ret ?_);have hs:=hr12.shape.cells;refine ar r rfl rfl hb7 (k:=20) hs.1 bU ?_;rw [←hs.2.2];exact au.fin hB hr12 u16 (by rintro b (h | ⟨h1,h2,_⟩); exact .inl h; exact .inr ⟨h1,h2⟩) (by rintro (h | ⟨_,_,h⟩); (have:=hF _ h; omega); exact h rfl) kw kw kw
end
end Go.Proofs.YtikjpdpgdmbdpaaGreat
