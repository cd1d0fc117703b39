/- Some of our texts, one behind the other. -/
import Derived.Test.YtbbipmelhmgmfaaGreatLzThens
import Derived.Test.YtbbipmelhmgmfaaGreatLzM6
set_option linter.all false
set_option maxRecDepth 100000
set_option maxHeartbeats 20000000
/- Ours. -/
namespace Go.Proofs.YtbbipmelhmgmfaaGreat
open Go.RowKit
section
variable {n : Nat} {F : Nat → Prop} {j : Nat} {w0 : World}
theorem xZ:af y6 202:=kz
theorem Fe:af y6 204:=kz
theorem Ez:af y6 214:=kz
theorem ER:af y6 284:=kz
theorem FW:af y6 291:=kz
theorem xV:af y6 292:=kz
theorem FR:af y6 294:=kz
theorem Ea:af y6 344:=kz
theorem Fp:af y6 345:=kz
theorem FT:af y6 400:=kz
theorem Fb:tyO y6 171:=kz
theorem EM:tyO y6 200:=kz
theorem mq:tyO y6 239:=kz
theorem EJ:tyO y6 252:=kz
theorem GA:tyO y6 286:=kz
def D.sQ (c0:(Unit→T Unit)) (a0:Int):T Unit:=(c0 ())
theorem zF (hF:kH F w0)
    {c0f:FuncId} {c0_1 c0_2:List Value} {c0:(Unit→T Unit)} {c0b:Nat} (c0F:F c0b) (c0h:w0.heap[c0b]?=some (.cells #[kf c0f c0_1 c0_2] 252 (0,0))) (c0n:FnT y6 aD unitE (n+1) F w0 (kf c0f c0_1 c0_2) c0) (a0:Int) :
    Calls y6 294 #[.int .u64 a0,zp c0b] w0 (aG y6 aD n (D.sQ c0 a0) F w0):=by
 refine kN Tryz.func294 rfl 6 rfl rfl fun fr r hB=>?_;have lc0b:=q7 c0h
 refine wsr ?_;refine ah (.cells (kq aD) 133 (0,0)) r (fun R=>ag dA) rfl fun fr b1 w2 n3 r=>?_;obtain ⟨eb1,zw2,hb1,hB,zB⟩:=n3.all hB
 refine wn (wsr (kL (kf c0f c0_1 c0_2) r rfl (keep hB c0h) EJ rfl rfl fun r=>?_));refine cS r (c0n.at_.2 n (Nat.lt_succ_self n) () w2 (Same.below hB hF) hB.size) (fun R hc=>iP r rfl c0n.at_.1 hc) rfl ?_
 rintro _ w4 ⟨v5,rfl,hb,hr6⟩;refine ⟨_,rfl,fun fr r=>?_⟩
 have zw4:=hb.size;have hb1:=keep hb hb1;obtain ⟨hB,zB⟩:=bon hb hB;refine kP r hr6.shape rfl rfl hb1 cX rfl rfl fun w7 u8 r=>?_;have zw7:=u8.size
 have hb1:=u8.at_;obtain ⟨hB,zB⟩:=u8.on hB kw
 refine wn (d9 ?_);have hs:=hr6.shape.cells;refine ak r rfl rfl hb1 (k:=6) hs.1 cT ?_;rw [←hs.2.2];exact aG.fin hB hr6 u8 (fun b hb=>.inl hb) (fun h=>by have:=hF _ h; omega) kw kw kw
def D.ng (a0:Int) (a1:Int) (a2:(Unit→T Unit)):T Unit:=(D.ub (⟨1,a0,a1,0⟩:Access) (fun x=>(D.sQ a2 x)))
theorem sR (hF:kH F w0)
    (a0:Int) (a1:Int) {a2f:FuncId} {Hw Hx:List Value} {a2:(Unit→T Unit)} (a2n:FnT y6 aD unitE (n) F w0 (kf a2f Hw Hx) a2) :
    Calls y6 202 #[.int .i64 a0,.int .u64 a1,kf a2f Hw Hx] w0 (aG y6 aD n (D.ng a0 a1 a2) F w0):=by
 refine kN Tryz.func202 rfl 12 rfl rfl fun fr r hB=>?_;refine wsr ?_
 refine kX 252 (kf a2f Hw Hx) r rfl rfl fun b1 w2 n3 r=>?_;obtain ⟨eb1,zw2,hb1,hB,zB⟩:=n3.all hB
 refine ah (.cells (kq aD) 133 (0,0)) r (fun R=>ag dA) rfl fun fr b4 w5 n6 r=>?_;have hb1:=keep n6.below hb1
 obtain ⟨eb4,zw5,hb4,hB,zB⟩:=n6.all hB;refine wn (wsr (kM (I a0) r rfl rfl fun r=>kM (U a1) r rfl rfl fun r=>kU (u7 (bk (⟨1,a0,a1,0⟩:Access))) r kz rfl fun r=>aa (.func (.func 294) #[] #[zp b1]) r (fun R=>aZ r rfl) rfl fun fr r=>?_));have hF1:=aQ hF hB b4
 have f7:((kW F w0 w5 b4)) b1:=(.inr ⟨kw,kw,kw⟩)
 refine kD r (tC (F:=(kW F w0 w5 b4)) (n:=n) hF1 (⟨1,a0,a1,0⟩:Access) ⟨294,[],[zp b1],FR,rfl,fun m hm x w' hs hz=>zF (fun b hb=>q8 (hF1 b hb) hz) f7 (hs.at_ f7 hb1) (a2n.mono kw (fun b h=>.inl h) ((Same.below hB hF).trans (hs.sub (fun b h=>.inl h))) (Nat.le_trans hB.size hz)) x⟩) rfl wS rfl fun w8 v9 hb hr10 r=>?_;have zw8:=hb.size
 have hb1:=keep hb hb1;have hb4:=keep hb hb4;obtain ⟨hB,zB⟩:=bon hb hB;refine kP r hr10.shape rfl rfl hb4 cX rfl rfl fun w11 u12 r=>?_;have zw11:=u12.size
 have hb1:=u12.keep hb1 kw
 have hb4:=u12.at_;obtain ⟨hB,zB⟩:=u12.on hB kw
 exact wn (d9 (kR r hr10 rfl rfl hb4 rfl cT hF hB u12 kw kw kw))
def D.uw :T Unit:=D.nn
theorem BC (hF:kH F w0)
     :
    Calls y6 291 #[] w0 (aG y6 aD n D.uw F w0):=by
 refine kN Tryz.func291 rfl 3 rfl rfl fun fr r hB=>?_;refine wsr ?_
 refine ah (.cells (kq aD) 133 (0,0)) r (fun R=>ag dA) rfl fun fr b1 w2 n3 r=>?_;obtain ⟨eb1,zw2,hb1,hB,zB⟩:=n3.all hB
 refine wn (wsr (kU (.agg #[]) r kz rfl fun r=>?_));have hF1:=aQ hF hB b1
 refine kD r (sU (F:=(kW F w0 w2 b1)) (n:=n) hF1 ) rfl xV rfl fun w4 v5 hb hr6 r=>?_;have zw4:=hb.size
 have hb1:=keep hb hb1;obtain ⟨hB,zB⟩:=bon hb hB;refine kP r hr6.shape rfl rfl hb1 cX rfl rfl fun w7 u8 r=>?_;have zw7:=u8.size
 have hb1:=u8.at_;obtain ⟨hB,zB⟩:=u8.on hB kw
 exact wn (d9 (kR r hr6 rfl rfl hb1 rfl cT hF hB u8 kw kw kw))
def D.lJ (a0:Int) (a1:Int):T Unit:=(D.ng a0 a1 (fun _=>D.uw))
theorem uo (hF:kH F w0)
    (a0:Int) (a1:Int) :
    Calls y6 200 #[.int .i64 a0,.int .u64 a1] w0 (aG y6 aD n (D.lJ a0 a1) F w0):=by
 refine kN Tryz.func200 rfl 8 rfl rfl fun fr r hB=>?_;refine wsr ?_
 refine ah (.cells (kq aD) 133 (0,0)) r (fun R=>ag dA) rfl fun fr b1 w2 n3 r=>?_;obtain ⟨eb1,zw2,hb1,hB,zB⟩:=n3.all hB
 refine wn (wsr (kM (I a0) r rfl rfl fun r=>kM (U a1) r rfl rfl fun r=>?_));have hF1:=aQ hF hB b1
 refine kD r (sR (F:=(kW F w0 w2 b1)) (n:=n) hF1 a0 a1 ⟨291,[],[],FW,rfl,fun m hm _ w' hs hz=>BC (fun b hb=>q8 (hF1 b hb) hz) ⟩) rfl xZ rfl fun w4 v5 hb hr6 r=>?_;have zw4:=hb.size
 have hb1:=keep hb hb1;obtain ⟨hB,zB⟩:=bon hb hB;refine kP r hr6.shape rfl rfl hb1 cX rfl rfl fun w7 u8 r=>?_;have zw7:=u8.size
 have hb1:=u8.at_;obtain ⟨hB,zB⟩:=u8.on hB kw
 exact wn (d9 (kR r hr6 rfl rfl hb1 rfl cT hF hB u8 kw kw kw))
def D.gC (a0:Int) (a1:(Int→T Res)):T Res:=(D.nI (⟨0,a0,0,0⟩:Access) a1)
def D.tv (c0:(Bool→T Res)) (c1:Int) (a0:Int):T Res:=(c0 (a0==c1))
def D.jk (a0:Int) (a1:Int) (a2:Int) (a3:(Bool→T Res)):T Res:=(D.nI (⟨2,a0,a1,a2⟩:Access) (fun x=>(D.tv a3 a1 x)))
def D.sY (c0:(Unit→T Res)) (a0:Int):T Res:=(c0 ())
def D.fb (a0:Int) (a1:Int) (a2:(Unit→T Res)):T Res:=(D.nI (⟨1,a0,a1,0⟩:Access) (fun x=>(D.sY a2 x)))
def D.dG (a0:Int) (a1:(Int→T Int)):T Int:=(D.nJ (⟨0,a0,0,0⟩:Access) a1)
theorem fI (hF:kH F w0)
    (a0:Int) {a1f:FuncId} {GU GV:List Value} {a1:(Int→T Int)} (a1n:FnT y6 aj u64 (n) F w0 (kf a1f GU GV) a1) :
    Calls y6 186 #[.int .i64 a0,kf a1f GU GV] w0 (aG y6 aj n (D.dG a0 a1) F w0):=by
 refine kN Tryz.func186 rfl 9 rfl rfl fun fr r hB=>?_;refine wsr ?_
 refine ah (.cells (kq aj) 119 (0,0)) r (fun R=>ag bK) rfl fun fr b1 w2 n3 r=>?_;obtain ⟨eb1,zw2,hb1,hB,zB⟩:=n3.all hB
 refine wn (wsr (kM (I a0) r rfl rfl fun r=>kU (u7 (bk (⟨0,a0,0,0⟩:Access))) r kz rfl fun r=>kM (kf a1f GU GV) r rfl rfl fun r=>?_));have hF1:=aQ hF hB b1
 refine kD r (l8 (F:=(kW F w0 w2 b1)) (n:=n) hF1 (⟨0,a0,0,0⟩:Access) (a1n.mono kw (fun b h=>.inl h) (Same.below hB hF) hB.size)) rfl mg rfl fun w4 v5 hb hr6 r=>?_;have zw4:=hb.size
 have hb1:=keep hb hb1;obtain ⟨hB,zB⟩:=bon hb hB;refine kP r hr6.shape rfl rfl hb1 bu rfl rfl fun w7 u8 r=>?_;have zw7:=u8.size
 have hb1:=u8.at_;obtain ⟨hB,zB⟩:=u8.on hB kw
 exact wn (d9 (kR r hr6 rfl rfl hb1 rfl br hF hB u8 kw kw kw))
def D.ja (c0:(Bool→T Int)) (c1:Int) (a0:Int):T Int:=(c0 (a0==c1))
theorem A9 (hF:kH F w0)
    {c0f:FuncId} {c0_1 c0_2:List Value} {c0:(Bool→T Int)} {c0b:Nat} (c0F:F c0b) (c0h:w0.heap[c0b]?=some (.cells #[kf c0f c0_1 c0_2] 290 (0,0))) (c0n:FnT y6 aj aF (n+1) F w0 (kf c0f c0_1 c0_2) c0) (c1:Int) {c1b:Nat} (c1F:F c1b) (c1h:w0.heap[c1b]?=some (.cells ([(.int .u64 c1)]).toArray 34 (0,0))) (a0:Int) :
    Calls y6 345 #[.int .u64 a0,zp c0b,zp c1b] w0 (aG y6 aj n (D.ja c0 c1 a0) F w0):=by
 refine kN Tryz.func345 rfl 10 rfl rfl fun fr r hB=>?_;have lc0b:=q7 c0h
 have lc1b:=q7 c1h;refine wsr ?_;refine ah (.cells (kq aj) 119 (0,0)) r (fun R=>ag bK) rfl fun fr b1 w2 n3 r=>?_;obtain ⟨eb1,zw2,hb1,hB,zB⟩:=n3.all hB
 refine wn (wsr (kL (kf c0f c0_1 c0_2) r rfl (keep hB c0h) rJ rfl rfl fun r=>kM (U a0) r rfl rfl fun r=>kL (U c1) r rfl (keep hB c1h) to34 rfl rfl fun r=>kB r rfl rfl rfl rfl rfl fun r=>?_));refine cS r (c0n.at_.2 n (Nat.lt_succ_self n) (a0==c1) w2 (Same.below hB hF) hB.size) (fun R hc=>dI r rfl rfl c0n.at_.1 hc) rfl ?_
 rintro _ w4 ⟨v5,rfl,hb,hr6⟩;refine ⟨_,rfl,fun fr r=>?_⟩
 have zw4:=hb.size;have hb1:=keep hb hb1;obtain ⟨hB,zB⟩:=bon hb hB;refine kP r hr6.shape rfl rfl hb1 bu rfl rfl fun w7 u8 r=>?_;have zw7:=u8.size
 have hb1:=u8.at_;obtain ⟨hB,zB⟩:=u8.on hB kw
 refine wn (d9 ?_);have hs:=hr6.shape.cells;refine ak r rfl rfl hb1 (k:=7) hs.1 br ?_;rw [←hs.2.2];exact aG.fin hB hr6 u8 (fun b hb=>.inl hb) (fun h=>by have:=hF _ h; omega) kw kw kw
def D.pY (a0:Int) (a1:Int) (a2:Int) (a3:(Bool→T Int)):T Int:=(D.nJ (⟨2,a0,a1,a2⟩:Access) (fun x=>(D.ja a3 a1 x)))
theorem tz (hF:kH F w0)
    (a0:Int) (a1:Int) (a2:Int) {a3f:FuncId} {Hn Ho:List Value} {a3:(Bool→T Int)} (a3n:FnT y6 aj aF (n) F w0 (kf a3f Hn Ho) a3) :
    Calls y6 278 #[.int .i64 a0,.int .u64 a1,.int .u64 a2,kf a3f Hn Ho] w0 (aG y6 aj n (D.pY a0 a1 a2 a3) F w0):=by
 refine kN Tryz.func278 rfl 15 rfl rfl fun fr r hB=>?_;refine wsr ?_
 refine kX 34 (U a1) r rfl rfl fun b1 w2 n3 r=>?_;obtain ⟨eb1,zw2,hb1,hB,zB⟩:=n3.all hB
 refine kX 290 (kf a3f Hn Ho) r rfl rfl fun b4 w5 n6 r=>?_;have hb1:=keep n6.below hb1
 obtain ⟨eb4,zw5,hb4,hB,zB⟩:=n6.all hB;refine ah (.cells (kq aj) 119 (0,0)) r (fun R=>ag bK) rfl fun fr b7 w8 n9 r=>?_;have hb1:=keep n9.below hb1
 have hb4:=keep n9.below hb4;obtain ⟨eb7,zw8,hb7,hB,zB⟩:=n9.all hB;refine wn (wsr (kM (I a0) r rfl rfl fun r=>kL (U a1) r rfl hb1 to34 rfl rfl fun r=>kM (U a2) r rfl rfl fun r=>kU (u7 (bk (⟨2,a0,a1,a2⟩:Access))) r kz rfl fun r=>aa (.func (.func 345) #[] #[zp b4,zp b1]) r (fun R=>aZ r rfl) rfl fun fr r=>?_));have hF1:=aQ hF hB b7
 have f10:((kW F w0 w8 b7)) b4:=(.inr ⟨kw,kw,kw⟩)
 have f11:((kW F w0 w8 b7)) b1:=(.inr ⟨kw,kw,kw⟩)
 refine kD r (l8 (F:=(kW F w0 w8 b7)) (n:=n) hF1 (⟨2,a0,a1,a2⟩:Access) ⟨345,[],[zp b4,zp b1],Fp,rfl,fun m hm x w' hs hz=>A9 (fun b hb=>q8 (hF1 b hb) hz) f10 (hs.at_ f10 hb4) (a3n.mono kw (fun b h=>.inl h) ((Same.below hB hF).trans (hs.sub (fun b h=>.inl h))) (Nat.le_trans hB.size hz)) a1 f11 (hs.at_ f11 hb1) x⟩) rfl mg rfl fun w12 v13 hb hr14 r=>?_;have zw12:=hb.size
 have hb1:=keep hb hb1;have hb4:=keep hb hb4;have hb7:=keep hb hb7;obtain ⟨hB,zB⟩:=bon hb hB;refine kP r hr14.shape rfl rfl hb7 bu rfl rfl fun w15 u16 r=>?_;have zw15:=u16.size
 have hb1:=u16.keep hb1 kw
 have hb4:=u16.keep hb4 kw
 have hb7:=u16.at_;obtain ⟨hB,zB⟩:=u16.on hB kw
 exact wn (d9 (kR r hr14 rfl rfl hb7 rfl br hF hB u16 kw kw kw))
def D.pQ (a0:Int) (a1:(Int→T Grant)):T Grant:=(D.pX (⟨0,a0,0,0⟩:Access) a1)
theorem Aa (hF:kH F w0)
    (a0:Int) {a1f:FuncId} {GU GV:List Value} {a1:(Int→T Grant)} (a1n:FnT y6 bw u64 (n) F w0 (kf a1f GU GV) a1) :
    Calls y6 269 #[.int .i64 a0,kf a1f GU GV] w0 (aG y6 bw n (D.pQ a0 a1) F w0):=by
 refine kN Tryz.func269 rfl 9 rfl rfl fun fr r hB=>?_;refine wsr ?_
 refine ah (.cells (kq bw) 116 (0,0)) r (fun R=>ag dU) rfl fun fr b1 w2 n3 r=>?_;obtain ⟨eb1,zw2,hb1,hB,zB⟩:=n3.all hB
 refine wn (wsr (kM (I a0) r rfl rfl fun r=>kU (u7 (bk (⟨0,a0,0,0⟩:Access))) r kz rfl fun r=>kM (kf a1f GU GV) r rfl rfl fun r=>?_));have hF1:=aQ hF hB b1
 refine kD r (pP (F:=(kW F w0 w2 b1)) (n:=n) hF1 (⟨0,a0,0,0⟩:Access) (a1n.mono kw (fun b h=>.inl h) (Same.below hB hF) hB.size)) rfl rB rfl fun w4 v5 hb hr6 r=>?_;have zw4:=hb.size
 have hb1:=keep hb hb1;obtain ⟨hB,zB⟩:=bon hb hB;refine kP r hr6.shape rfl rfl hb1 dM rfl rfl fun w7 u8 r=>?_;have zw7:=u8.size
 have hb1:=u8.at_;obtain ⟨hB,zB⟩:=u8.on hB kw
 exact wn (d9 (kR r hr6 rfl rfl hb1 rfl dL hF hB u8 kw kw kw))
def D.sM (c0:(Unit→T Grant)) (a0:Int):T Grant:=(c0 ())
theorem zn (hF:kH F w0)
    {c0f:FuncId} {c0_1 c0_2:List Value} {c0:(Unit→T Grant)} {c0b:Nat} (c0F:F c0b) (c0h:w0.heap[c0b]?=some (.cells #[kf c0f c0_1 c0_2] 286 (0,0))) (c0n:FnT y6 bw unitE (n+1) F w0 (kf c0f c0_1 c0_2) c0) (a0:Int) :
    Calls y6 344 #[.int .u64 a0,zp c0b] w0 (aG y6 bw n (D.sM c0 a0) F w0):=by
 refine kN Tryz.func344 rfl 6 rfl rfl fun fr r hB=>?_;have lc0b:=q7 c0h
 refine wsr ?_;refine ah (.cells (kq bw) 116 (0,0)) r (fun R=>ag dU) rfl fun fr b1 w2 n3 r=>?_;obtain ⟨eb1,zw2,hb1,hB,zB⟩:=n3.all hB
 refine wn (wsr (kL (kf c0f c0_1 c0_2) r rfl (keep hB c0h) GA rfl rfl fun r=>?_));refine cS r (c0n.at_.2 n (Nat.lt_succ_self n) () w2 (Same.below hB hF) hB.size) (fun R hc=>iP r rfl c0n.at_.1 hc) rfl ?_
 rintro _ w4 ⟨v5,rfl,hb,hr6⟩;refine ⟨_,rfl,fun fr r=>?_⟩
 have zw4:=hb.size;have hb1:=keep hb hb1;obtain ⟨hB,zB⟩:=bon hb hB;refine kP r hr6.shape rfl rfl hb1 dM rfl rfl fun w7 u8 r=>?_;have zw7:=u8.size
 have hb1:=u8.at_;obtain ⟨hB,zB⟩:=u8.on hB kw
 refine wn (d9 ?_);have hs:=hr6.shape.cells;refine ak r rfl rfl hb1 (k:=9) hs.1 dL ?_;rw [←hs.2.2];exact aG.fin hB hr6 u8 (fun b hb=>.inl hb) (fun h=>by have:=hF _ h; omega) kw kw kw
def D.pN (a0:Int) (a1:Int) (a2:(Unit→T Grant)):T Grant:=(D.pX (⟨1,a0,a1,0⟩:Access) (fun x=>(D.sM a2 x)))
theorem zV (hF:kH F w0)
    (a0:Int) (a1:Int) {a2f:FuncId} {Hw Hx:List Value} {a2:(Unit→T Grant)} (a2n:FnT y6 bw unitE (n) F w0 (kf a2f Hw Hx) a2) :
    Calls y6 271 #[.int .i64 a0,.int .u64 a1,kf a2f Hw Hx] w0 (aG y6 bw n (D.pN a0 a1 a2) F w0):=by
 refine kN Tryz.func271 rfl 12 rfl rfl fun fr r hB=>?_;refine wsr ?_
 refine kX 286 (kf a2f Hw Hx) r rfl rfl fun b1 w2 n3 r=>?_;obtain ⟨eb1,zw2,hb1,hB,zB⟩:=n3.all hB
 refine ah (.cells (kq bw) 116 (0,0)) r (fun R=>ag dU) rfl fun fr b4 w5 n6 r=>?_;have hb1:=keep n6.below hb1
 obtain ⟨eb4,zw5,hb4,hB,zB⟩:=n6.all hB;refine wn (wsr (kM (I a0) r rfl rfl fun r=>kM (U a1) r rfl rfl fun r=>kU (u7 (bk (⟨1,a0,a1,0⟩:Access))) r kz rfl fun r=>aa (.func (.func 344) #[] #[zp b1]) r (fun R=>aZ r rfl) rfl fun fr r=>?_));have hF1:=aQ hF hB b4
 have f7:((kW F w0 w5 b4)) b1:=(.inr ⟨kw,kw,kw⟩)
 refine kD r (pP (F:=(kW F w0 w5 b4)) (n:=n) hF1 (⟨1,a0,a1,0⟩:Access) ⟨344,[],[zp b1],Ea,rfl,fun m hm x w' hs hz=>zn (fun b hb=>q8 (hF1 b hb) hz) f7 (hs.at_ f7 hb1) (a2n.mono kw (fun b h=>.inl h) ((Same.below hB hF).trans (hs.sub (fun b h=>.inl h))) (Nat.le_trans hB.size hz)) x⟩) rfl rB rfl fun w8 v9 hb hr10 r=>?_;have zw8:=hb.size
 have hb1:=keep hb hb1;have hb4:=keep hb hb4;obtain ⟨hB,zB⟩:=bon hb hB;refine kP r hr10.shape rfl rfl hb4 dM rfl rfl fun w11 u12 r=>?_;have zw11:=u12.size
 have hb1:=u12.keep hb1 kw
 have hb4:=u12.at_;obtain ⟨hB,zB⟩:=u12.on hB kw
 exact wn (d9 (kR r hr10 rfl rfl hb4 rfl dL hF hB u12 kw kw kw))
def D.pR (a0:Int) (a1:(Int→T Bool)):T Bool:=(D.tW (⟨0,a0,0,0⟩:Access) a1)
theorem Au (hF:kH F w0)
    (a0:Int) {a1f:FuncId} {GU GV:List Value} {a1:(Int→T Bool)} (a1n:FnT y6 ct u64 (n) F w0 (kf a1f GU GV) a1) :
    Calls y6 396 #[.int .i64 a0,kf a1f GU GV] w0 (aG y6 ct n (D.pR a0 a1) F w0):=by
 refine kN Tryz.func396 rfl 9 rfl rfl fun fr r hB=>?_;refine wsr ?_
 refine ah (.cells (kq ct) 318 (0,0)) r (fun R=>ag jT) rfl fun fr b1 w2 n3 r=>?_;obtain ⟨eb1,zw2,hb1,hB,zB⟩:=n3.all hB
 refine wn (wsr (kM (I a0) r rfl rfl fun r=>kU (u7 (bk (⟨0,a0,0,0⟩:Access))) r kz rfl fun r=>kM (kf a1f GU GV) r rfl rfl fun r=>?_));have hF1:=aQ hF hB b1
 refine kD r (AX (F:=(kW F w0 w2 b1)) (n:=n) hF1 (⟨0,a0,0,0⟩:Access) (a1n.mono kw (fun b h=>.inl h) (Same.below hB hF) hB.size)) rfl FT rfl fun w4 v5 hb hr6 r=>?_;have zw4:=hb.size
 have hb1:=keep hb hb1;obtain ⟨hB,zB⟩:=bon hb hB;refine kP r hr6.shape rfl rfl hb1 ic rfl rfl fun w7 u8 r=>?_;have zw7:=u8.size
 have hb1:=u8.at_;obtain ⟨hB,zB⟩:=u8.on hB kw
 exact wn (d9 (kR r hr6 rfl rfl hb1 rfl ib hF hB u8 kw kw kw))
def D.mU (c0:(Unit→T Int)) (a0:Int):T Int:=(c0 ())
theorem zO (hF:kH F w0)
    {c0f:FuncId} {c0_1 c0_2:List Value} {c0:(Unit→T Int)} {c0b:Nat} (c0F:F c0b) (c0h:w0.heap[c0b]?=some (.cells #[kf c0f c0_1 c0_2] 239 (0,0))) (c0n:FnT y6 aj unitE (n+1) F w0 (kf c0f c0_1 c0_2) c0) (a0:Int) :
    Calls y6 284 #[.int .u64 a0,zp c0b] w0 (aG y6 aj n (D.mU c0 a0) F w0):=by
 refine kN Tryz.func284 rfl 6 rfl rfl fun fr r hB=>?_;have lc0b:=q7 c0h
 refine wsr ?_;refine ah (.cells (kq aj) 119 (0,0)) r (fun R=>ag bK) rfl fun fr b1 w2 n3 r=>?_;obtain ⟨eb1,zw2,hb1,hB,zB⟩:=n3.all hB
 refine wn (wsr (kL (kf c0f c0_1 c0_2) r rfl (keep hB c0h) mq rfl rfl fun r=>?_));refine cS r (c0n.at_.2 n (Nat.lt_succ_self n) () w2 (Same.below hB hF) hB.size) (fun R hc=>iP r rfl c0n.at_.1 hc) rfl ?_
 rintro _ w4 ⟨v5,rfl,hb,hr6⟩;refine ⟨_,rfl,fun fr r=>?_⟩
 have zw4:=hb.size;have hb1:=keep hb hb1;obtain ⟨hB,zB⟩:=bon hb hB;refine kP r hr6.shape rfl rfl hb1 bu rfl rfl fun w7 u8 r=>?_;have zw7:=u8.size
 have hb1:=u8.at_;obtain ⟨hB,zB⟩:=u8.on hB kw
 refine wn (d9 ?_);have hs:=hr6.shape.cells;refine ak r rfl rfl hb1 (k:=7) hs.1 br ?_;rw [←hs.2.2];exact aG.fin hB hr6 u8 (fun b hb=>.inl hb) (fun h=>by have:=hF _ h; omega) kw kw kw
def D.dX (a0:Int) (a1:Int) (a2:(Unit→T Int)):T Int:=(D.nJ (⟨1,a0,a1,0⟩:Access) (fun x=>(D.mU a2 x)))
theorem gx (hF:kH F w0)
    (a0:Int) (a1:Int) {a2f:FuncId} {Hw Hx:List Value} {a2:(Unit→T Int)} (a2n:FnT y6 aj unitE (n) F w0 (kf a2f Hw Hx) a2) :
    Calls y6 188 #[.int .i64 a0,.int .u64 a1,kf a2f Hw Hx] w0 (aG y6 aj n (D.dX a0 a1 a2) F w0):=by
 refine kN Tryz.func188 rfl 12 rfl rfl fun fr r hB=>?_;refine wsr ?_
 refine kX 239 (kf a2f Hw Hx) r rfl rfl fun b1 w2 n3 r=>?_;obtain ⟨eb1,zw2,hb1,hB,zB⟩:=n3.all hB
 refine ah (.cells (kq aj) 119 (0,0)) r (fun R=>ag bK) rfl fun fr b4 w5 n6 r=>?_;have hb1:=keep n6.below hb1
 obtain ⟨eb4,zw5,hb4,hB,zB⟩:=n6.all hB;refine wn (wsr (kM (I a0) r rfl rfl fun r=>kM (U a1) r rfl rfl fun r=>kU (u7 (bk (⟨1,a0,a1,0⟩:Access))) r kz rfl fun r=>aa (.func (.func 284) #[] #[zp b1]) r (fun R=>aZ r rfl) rfl fun fr r=>?_));have hF1:=aQ hF hB b4
 have f7:((kW F w0 w5 b4)) b1:=(.inr ⟨kw,kw,kw⟩)
 refine kD r (l8 (F:=(kW F w0 w5 b4)) (n:=n) hF1 (⟨1,a0,a1,0⟩:Access) ⟨284,[],[zp b1],ER,rfl,fun m hm x w' hs hz=>zO (fun b hb=>q8 (hF1 b hb) hz) f7 (hs.at_ f7 hb1) (a2n.mono kw (fun b h=>.inl h) ((Same.below hB hF).trans (hs.sub (fun b h=>.inl h))) (Nat.le_trans hB.size hz)) x⟩) rfl mg rfl fun w8 v9 hb hr10 r=>?_;have zw8:=hb.size
 have hb1:=keep hb hb1;have hb4:=keep hb hb4;obtain ⟨hB,zB⟩:=bon hb hB;refine kP r hr10.shape rfl rfl hb4 bu rfl rfl fun w11 u12 r=>?_;have zw11:=u12.size
 have hb1:=u12.keep hb1 kw
 have hb4:=u12.at_;obtain ⟨hB,zB⟩:=u12.on hB kw
 exact wn (d9 (kR r hr10 rfl rfl hb4 rfl br hF hB u12 kw kw kw))
def D.mS (a0:Int) (a1:(Int→T Int)):T Int:=(D.tI (⟨0,a0,0,0⟩:Access) a1)
theorem sN (hF:kH F w0)
    (a0:Int) {a1f:FuncId} {GU GV:List Value} {a1:(Int→T Int)} (a1n:FnT y6 bH u64 (n) F w0 (kf a1f GU GV) a1) :
    Calls y6 313 #[.int .i64 a0,kf a1f GU GV] w0 (aG y6 bH n (D.mS a0 a1) F w0):=by
 refine kN Tryz.func313 rfl 9 rfl rfl fun fr r hB=>?_;refine wsr ?_
 refine ah (.cells (kq bH) 271 (0,0)) r (fun R=>ag eY) rfl fun fr b1 w2 n3 r=>?_;obtain ⟨eb1,zw2,hb1,hB,zB⟩:=n3.all hB
 refine wn (wsr (kM (I a0) r rfl rfl fun r=>kU (u7 (bk (⟨0,a0,0,0⟩:Access))) r kz rfl fun r=>kM (kf a1f GU GV) r rfl rfl fun r=>?_));have hF1:=aQ hF hB b1
 refine kD r (sW (F:=(kW F w0 w2 b1)) (n:=n) hF1 (⟨0,a0,0,0⟩:Access) (a1n.mono kw (fun b h=>.inl h) (Same.below hB hF) hB.size)) rfl wN rfl fun w4 v5 hb hr6 r=>?_;have zw4:=hb.size
 have hb1:=keep hb hb1;obtain ⟨hB,zB⟩:=bon hb hB;refine kP r hr6.shape rfl rfl hb1 eI rfl rfl fun w7 u8 r=>?_;have zw7:=u8.size
 have hb1:=u8.at_;obtain ⟨hB,zB⟩:=u8.on hB kw
 exact wn (d9 (kR r hr6 rfl rfl hb1 rfl eH hF hB u8 kw kw kw))
end
section
variable {n : Nat} {F : Nat → Prop} {j : Nat} {w0 : World}
theorem wR:af y6 116:=kz
theorem rN:af y6 182:=kz
theorem fZ:af y6 186:=kz
theorem ia:af y6 188:=kz
theorem rZ:af y6 190:=kz
theorem m8:af y6 191:=kz
theorem mh:af y6 192:=kz
theorem oU:af y6 193:=kz
theorem xb:af y6 200:=kz
theorem rr:af y6 201:=kz
theorem G0:af y6 203:=kz
theorem eX:af y6 222:=kz
theorem Gw:af y6 276:=kz
theorem Ek:af y6 277:=kz
theorem xa:af y6 278:=kz
theorem xQ:af y6 279:=kz
theorem Ge:af y6 280:=kz
theorem oP:af y6 296:=kz
theorem yc:af y6 310:=kz
theorem wU:af y6 346:=kz
theorem Ej:af y6 355:=kz
theorem EY:af y6 356:=kz
theorem ED:af y6 357:=kz
theorem ti3:intTy y6 3 .i64:=kz
theorem ti34:intTy y6 34 .u64:=kz
theorem jU:sized y6 241 2:=kz
theorem jS:zeroOf y6 241=some (u7 (aS (⟨0,0⟩:Field))):=kz
theorem tz3:zeroOf y6 3=some (.int .i64 0):=kz
def D.dw (a0:Int):Int:=(IntKind.u64.wrap (IntKind.i64.wrap (a0+1)))
theorem qm (w0:World) 
    (a0:Int) :
    Calls y6 201 #[.int .i64 a0] w0 (bB (.int .u64 (D.dw a0)) w0):=by
 refine kN Tryz.func201 rfl 6 rfl rfl fun fr r hB=>?_;refine wsr (kA (U 0) r rfl rfl fun r=>wn (wsr (kM (I a0) r rfl rfl fun r=>kB r rfl rfl rfl rfl rfl fun r=>aa (U (V (W (a0+1)))) r (fun R=>cK r rfl ti3 ti34) rfl fun fr r=>kA (U (V (W (a0+1)))) r rfl rfl fun r=>wn (d9 ?_))))
 refine aU r rfl rfl ?_;exact ⟨rfl,hB⟩
def D.qd (GY:Plan→Int→T Unit) (c0:Plan) (c1:Int):T Unit:=(GY c0 (IntKind.i64.wrap (c1+1)))
def D.gz (GY:Plan→Int→T Unit) (a0:Plan) (a1:Int):T Unit:=(bif (a1==a0.nodes) then (D.lJ (D.dF a0) (D.dw 0)) else (let x19:Int:=(bif ((IntKind.i64.wrap (a1+1))==a0.nodes) then 0 else (D.dw (IntKind.i64.wrap (a1+1)))); (D.ng (D.dN a0 a1) x19 (fun _=>(D.qd GY a0 a1)))))
def D.fQ:Nat→Plan→Int→T Unit
 | 0,_,_=>.cut
 | k+1,a0,a1=>D.gz (D.fQ k) a0 a1
def pO (r:Plan→Int→T Unit) (n:Nat):Prop:=∀ (F:Nat→Prop) (w0:World),(∀ b,F b→b<w0.heap.size)→∀ (a0:Plan) (a1:Int),Calls y6 116 #[u7 (ae a0),.int .i64 a1] w0 (aG y6 aD n (r a0 a1) F w0)
theorem AZ {GY:Plan→Int→T Unit} (hF:kH F w0) (Hr:∀ m,m≤n→pO GY m)
    (c0:Plan) {c0b:Nat} (c0F:F c0b) (c0h:w0.heap[c0b]?=some (.cells ((ae c0)).toArray 23 (0,0))) (c1:Int) {c1b:Nat} (c1F:F c1b) (c1h:w0.heap[c1b]?=some (.cells ([(.int .i64 c1)]).toArray 3 (0,0))) :
    Calls y6 203 #[zp c0b,zp c1b] w0 (aG y6 aD n (D.qd GY c0 c1) F w0):=by
 refine kN Tryz.func203 rfl 7 rfl rfl fun fr r hB=>?_;have lc0b:=q7 c0h
 have lc1b:=q7 c1h;refine wsr ?_;refine ah (.cells (kq aD) 133 (0,0)) r (fun R=>ag dA) rfl fun fr b1 w2 n3 r=>?_;obtain ⟨E1,Z2,H1,hB,zB⟩:=n3.all hB
 refine wn (wsr (kG (ae c0) 6 r rfl (keep hB c0h) ta23 rfl rfl fun r=>kL (I c1) r rfl (keep hB c1h) to3 rfl rfl fun r=>kB r rfl rfl rfl rfl rfl fun r=>?_));have hF1:=aQ hF hB b1
 refine kD r ((Hr n kw) (kW F w0 w2 b1) _ hF1 c0 (W (c1+1))) rfl wR rfl fun w4 v5 hb hr6 r=>?_;have Z4:=hb.size
 have H1:=keep hb H1;obtain ⟨hB,zB⟩:=bon hb hB;refine kP r hr6.shape rfl rfl H1 cX rfl rfl fun w7 u8 r=>?_;have Z7:=u8.size
 have H1:=u8.at_;obtain ⟨hB,zB⟩:=u8.on hB kw
 exact wn (d9 (kR r hr6 rfl rfl H1 rfl cT hF hB u8 kw kw kw))
theorem BD {n:Nat} {F:Nat→Prop} {GY:Plan→Int→T Unit} {w0:World} (hF:∀ b,F b→b<w0.heap.size) (Hr:∀ m,m<n→pO GY m)
    (a0:Plan) (a1:Int) :
    Calls y6 116 #[u7 (ae a0),.int .i64 a1] w0 (aG y6 aD n (D.gz GY a0 a1) F w0):=by
 refine kN Tryz.func116 rfl 28 rfl rfl fun fr r hB=>?_;refine wsr ?_
 refine kX 23 (u7 (ae a0)) r rfl rfl fun b1 w2 n3 r=>?_;obtain ⟨E1,Z2,H1,hB,zB⟩:=n3.all hB
 refine kX 3 (I a1) r rfl rfl fun b4 w5 n6 r=>?_;have H1:=keep n6.below H1
 obtain ⟨E4,Z5,H4,hB,zB⟩:=n6.all hB;refine ah (.cells (kq aD) 133 (0,0)) r (fun R=>ag dA) rfl fun fr b7 w8 n9 r=>?_;have H1:=keep n9.below H1
 have H4:=keep n9.below H4;obtain ⟨E7,Z8,H7,hB,zB⟩:=n9.all hB;refine wn (a9 (wsr (kL (I a1) r rfl H4 to3 rfl rfl fun r=>kF 0 r rfl eO rfl fun r=>kL (I a0.nodes) r rfl H1 to3 rfl rfl fun r=>kB r rfl rfl rfl rfl rfl fun r=>wn ?_)));refine q4 (t:=(a1==a0.nodes)) (r.ev rfl) (fun h10=>?_) (fun h10=>?_)
 ·
  refine wsr (kG (ae a0) 6 r rfl H1 ta23 rfl rfl fun r=>?_);refine kE r (kv w8 a0) rfl mh rfl fun w11 hb r=>?_
  have Z11:=hb.size;have H1:=keep hb H1;have H4:=keep hb H4;have H7:=keep hb H7;obtain ⟨hB,zB⟩:=bon hb hB;refine kE r (qm w11 0) rfl rr rfl fun w12 hb r=>?_;have Z12:=hb.size
  have H1:=keep hb H1;have H4:=keep hb H4;have H7:=keep hb H7;obtain ⟨hB,zB⟩:=bon hb hB;have hF1:=aQ hF hB b7;refine kD r (uo (F:=(kW F w0 w12 b7)) (n:=n) hF1 (D.dF a0) (D.dw 0)) rfl xb rfl fun w13 v14 hb hr15 r=>?_;have Z13:=hb.size
  have H1:=keep hb H1;have H4:=keep hb H4;have H7:=keep hb H7;obtain ⟨hB,zB⟩:=bon hb hB;refine kP r hr15.shape rfl rfl H7 cX rfl rfl fun w16 u17 r=>?_;have Z16:=u17.size
  have H1:=u17.keep H1 kw
  have H4:=u17.keep H4 kw
  have H7:=u17.at_;obtain ⟨hB,zB⟩:=u17.on hB kw
  refine wn (d9 ?_);have hd:D.gz GY a0 a1=(D.lJ (D.dF a0) (D.dw 0)):=(ar h10).trans (rfl);have hs:=hr15.shape.cells;refine ak r rfl rfl H7 (k:=6) hs.1 cT ?_;rw [←hs.2.2,hd];exact rfin hF hB hr15 u17 kw kw kw
 refine q6 (wsr (kL (I a1) r rfl H4 to3 rfl rfl fun r=>kB r rfl rfl rfl rfl rfl fun r=>?_));refine kE r (qm w8 (W (a1+1))) rfl rr rfl fun w18 hb r=>?_
 have Z18:=hb.size;have H1:=keep hb H1;have H4:=keep hb H4;have H7:=keep hb H7;obtain ⟨hB,zB⟩:=bon hb hB;refine kA (U (D.dw (W (a1+1)))) r rfl rfl fun r=>wn (a9 (wsr (kL (I a1) r rfl H4 to3 rfl rfl fun r=>kB r rfl rfl rfl rfl rfl fun r=>kF 0 r rfl eO rfl fun r=>kL (I a0.nodes) r rfl H1 to3 rfl rfl fun r=>kB r rfl rfl rfl rfl rfl fun r=>wn ?_)));obtain ⟨x19,hx19⟩:∃ x:Int,x=(bif ((W (a1+1))==a0.nodes) then 0 else (D.dw (W (a1+1)))):=⟨_,rfl⟩
 refine DC (N:=28) [(0,(u7 (ae a0))),(1,(I a1)),(2,(zp b1)),(3,(zp b4)),(4,(zp b7)),(5,(U x19))] (fun w=>Below w0.heap.size w0 w∧w18.heap.size≤w.heap.size∧w.heap[b1]?=some (.cells ((ae a0)).toArray 23 (0,0))∧w.heap[b4]?=some (.cells #[(I a1)] 3 (0,0))∧w.heap[b7]?=some (.cells (kq aD) 133 (0,0))) ?_ ?_
 ·
  refine q4 (t:=((W (a1+1))==a0.nodes)) (r.ev rfl) (fun h20=>?_) (fun h20=>?_)
  ·
   refine q5 (kA (U 0) r rfl rfl fun r=>wn ?_);exact ⟨rfl,_,r,(au rfl (au rfl (au rfl (au rfl (au rfl (au (by rw [hx19,ar h20]; rfl) aI)))))),hB,kw,H1,H4,H7⟩
  refine q6 ?_;exact ⟨rfl,_,r,(au rfl (au rfl (au rfl (au rfl (au rfl (au (by rw [hx19,ai h20]; rfl) aI)))))),hB,kw,H1,H4,H7⟩
 rintro fr w21 g r ⟨hB,Z21,H1,H4,H7⟩;have zB:=hB.size;refine wsr (kG (ae a0) 6 r rfl H1 ta23 rfl rfl fun r=>kL (I a1) r rfl H4 to3 rfl rfl fun r=>?_);refine kE r (mX w21 a0 a1) rfl oU rfl fun w22 hb r=>?_
 have Z22:=hb.size;have H1:=keep hb H1;have H4:=keep hb H4;have H7:=keep hb H7;obtain ⟨hB,zB⟩:=bon hb hB;refine kM (U x19) r rfl rfl fun r=>aa (.func (.func 203) #[] #[zp b1,zp b4]) r (fun R=>aZ r rfl) rfl fun fr r=>?_;have hF1:=aQ hF hB b7
 have f23:((kW F w0 w22 b7)) b1:=(.inr ⟨kw,kw,kw⟩)
 have f24:((kW F w0 w22 b7)) b4:=(.inr ⟨kw,kw,kw⟩)
 refine kD r (sR (F:=(kW F w0 w22 b7)) (n:=n) hF1 (D.dN a0 a1) x19 ⟨203,[],[zp b1,zp b4],G0,rfl,fun m hm _ w' hs hz=>AZ (fun b hb=>q8 (hF1 b hb) hz) (fun m' hm'=>Hr m' kw) a0 f23 (hs.at_ f23 H1) a1 f24 (hs.at_ f24 H4)⟩) rfl xZ rfl fun w25 v26 hb hr27 r=>?_;have Z25:=hb.size
 have H1:=keep hb H1;have H4:=keep hb H4;have H7:=keep hb H7;obtain ⟨hB,zB⟩:=bon hb hB;refine kP r hr27.shape rfl rfl H7 cX rfl rfl fun w28 u29 r=>?_;have Z28:=u29.size
 have H1:=u29.keep H1 kw
 have H4:=u29.keep H4 kw
 have H7:=u29.at_;obtain ⟨hB,zB⟩:=u29.on hB kw
 refine wn (d9 ?_);have hd:D.gz GY a0 a1=(D.ng (D.dN a0 a1) x19 (fun _=>(D.qd GY a0 a1))):=by subst hx19; exact (ai h10).trans (rfl)
 have hs:=hr27.shape.cells;refine ak r rfl rfl H7 (k:=6) hs.1 cT ?_;rw [←hs.2.2,hd];exact rfin hF hB hr27 u29 kw kw kw
theorem BB {n:Nat} {k:Nat} (hk:n<k):pO (D.fQ k) n:=by
 induction n using Nat.strongRecOn generalizing k with
 | _ n ih=>
  obtain ⟨k,rfl⟩:∃ q,k=q+1:=⟨k - 1,kw⟩
  intro F w0 hF;have h:=@BD n F (D.fQ k) w0 hF (fun m hm=>ih m hm kw)
  exact h
def D.iK (j:Nat) (a0:Plan):T Unit:=(D.fQ j a0 0)
theorem BF (hF:kH F w0) (hj:n<j)
    (a0:Plan) :
    Calls y6 62 #[u7 (ae a0)] w0 (aG y6 aD n (D.iK j a0) F w0):=by
 refine kN Tryz.func62 rfl 5 rfl rfl fun fr r hB=>?_;refine wsr ?_
 refine kX 23 (u7 (ae a0)) r rfl rfl fun b1 w2 n3 r=>?_;obtain ⟨E1,Z2,H1,hB,zB⟩:=n3.all hB
 refine ah (.cells (kq aD) 133 (0,0)) r (fun R=>ag dA) rfl fun fr b4 w5 n6 r=>?_;have H1:=keep n6.below H1
 obtain ⟨E4,Z5,H4,hB,zB⟩:=n6.all hB;refine wn (wsr (kG (ae a0) 6 r rfl H1 ta23 rfl rfl fun r=>?_));have hF1:=aQ hF hB b4
 refine kD r ((BB (k:=j) (n:=n) kw) (kW F w0 w5 b4) _ hF1 a0 0) rfl wR rfl fun w7 v8 hb hr9 r=>?_;have Z7:=hb.size
 have H1:=keep hb H1;have H4:=keep hb H4;obtain ⟨hB,zB⟩:=bon hb hB;refine kP r hr9.shape rfl rfl H4 cX rfl rfl fun w10 u11 r=>?_;have Z10:=u11.size
 have H1:=u11.keep H1 kw
 have H4:=u11.at_;obtain ⟨hB,zB⟩:=u11.on hB kw
 exact wn (d9 (kR r hr9 rfl rfl H4 rfl cT hF hB u11 kw kw kw))
def D.cf :Field:=(⟨0,21⟩:Field)
theorem qj (w0:World) 
     :
    Calls y6 190 #[] w0 (bB (u7 (aS D.cf)) w0):=by
 refine kN Tryz.func190 rfl 2 rfl rfl fun fr r hB=>?_;refine wsr ?_
 refine ah (.cells ((aS (⟨0,0⟩:Field))).toArray 241 (0,0)) r (fun R=>ag jS) rfl fun fr b1 w2 n3 r=>?_;obtain ⟨E1,Z2,H1,hB,zB⟩:=n3.all hB
 refine wn (wsr (kU (u7 (aS (⟨0,21⟩:Field))) r kz rfl fun r=>?_));refine aJ (.cells ((aS (⟨0,21⟩:Field))).toArray 241 (0,0)) r (fun R=>bb r (o:=0) (v:=(u7 (aS (⟨0,21⟩:Field)))) rfl rfl H1 jU r9 rfl rfl) rfl fun fr w4 u5 r=>?_
 have Z4:=u5.size;have H1:=u5.at_;obtain ⟨hB,zB⟩:=u5.on hB kw
 refine wn (d9 ?_);refine ak r rfl rfl H1 (k:=2) rfl dh ?_;exact ⟨rfl,hB⟩
def D.eD :Field:=(⟨21,43⟩:Field)
theorem ux (w0:World) 
     :
    Calls y6 346 #[] w0 (bB (u7 (aS D.eD)) w0):=by
 refine kN Tryz.func346 rfl 2 rfl rfl fun fr r hB=>?_;refine wsr ?_
 refine ah (.cells ((aS (⟨0,0⟩:Field))).toArray 241 (0,0)) r (fun R=>ag jS) rfl fun fr b1 w2 n3 r=>?_;obtain ⟨E1,Z2,H1,hB,zB⟩:=n3.all hB
 refine wn (wsr (kU (u7 (aS (⟨21,43⟩:Field))) r kz rfl fun r=>?_));refine aJ (.cells ((aS (⟨21,43⟩:Field))).toArray 241 (0,0)) r (fun R=>bb r (o:=0) (v:=(u7 (aS (⟨21,43⟩:Field)))) rfl rfl H1 jU r9 rfl rfl) rfl fun fr w4 u5 r=>?_
 have Z4:=u5.size;have H1:=u5.at_;obtain ⟨hB,zB⟩:=u5.on hB kw
 refine wn (d9 ?_);refine ak r rfl rfl H1 (k:=2) rfl dh ?_;exact ⟨rfl,hB⟩
def D.fP (a0:Int) (a1:Int):Int:=(D.cU D.eD (D.cU D.cf 0 a1) (IntKind.u64.wrap ((D.bJ D.eD a0)+1)))
theorem tR (w0:World) 
    (a0:Int) (a1:Int) :
    Calls y6 279 #[.int .u64 a0,.int .u64 a1] w0 (bB (.int .u64 (D.fP a0 a1)) w0):=by
 refine kN Tryz.func279 rfl 14 rfl rfl fun fr r hB=>?_;refine wsr (kA (U 0) r rfl rfl fun r=>wn (wsr ?_))
 refine kE r (ux w0 ) rfl wU rfl fun w1 hb r=>?_;have Z1:=hb.size
 obtain ⟨hB,zB⟩:=bon hb hB;refine kE r (qj w1 ) rfl rZ rfl fun w2 hb r=>?_;have Z2:=hb.size
 obtain ⟨hB,zB⟩:=bon hb hB;refine kM (U a1) r rfl rfl fun r=>?_;refine kE r (pB w2 D.cf 0 a1) rfl oP rfl fun w3 hb r=>?_
 have Z3:=hb.size;obtain ⟨hB,zB⟩:=bon hb hB;refine kE r (ux w3 ) rfl wU rfl fun w4 hb r=>?_;have Z4:=hb.size
 obtain ⟨hB,zB⟩:=bon hb hB;refine kM (U a0) r rfl rfl fun r=>?_;refine kE r (mK w4 D.eD a0) rfl m8 rfl fun w5 hb r=>?_
 have Z5:=hb.size;obtain ⟨hB,zB⟩:=bon hb hB;refine kB r rfl rfl rfl rfl rfl fun r=>?_;refine kE r (pB w5 D.eD (D.cU D.cf 0 a1) (V ((D.bJ D.eD a0)+1))) rfl oP rfl fun w6 hb r=>?_
 have Z6:=hb.size;obtain ⟨hB,zB⟩:=bon hb hB;refine kA (U (D.cU D.eD (D.cU D.cf 0 a1) (V ((D.bJ D.eD a0)+1)))) r rfl rfl fun r=>wn (d9 ?_);refine aU r rfl rfl ?_
 exact ⟨rfl,hB⟩
def D.jg (GM:Plan→T Int) (c0:Plan) (c1:Int) (a0:Bool):T Int:=(bif (!a0) then (GM c0) else (D.cZ c1))
def D.lg (GM:Plan→T Int) (c0:Plan) (c1:Int) (c2:Int) (a0:Int):T Int:=(D.pY (D.dF c0) c1 (D.fP c1 a0) (fun x=>(D.jg GM c0 c2 x)))
def D.gL (GM:Plan→T Int) (c0:Plan) (a0:Int):T Int:=(bif (decide ((IntKind.i64.wrap ((IntKind.i64.wrap (D.bJ D.cf a0)) - 1))<0)) then (D.cZ (-1)) else (D.dG (D.dN c0 (IntKind.i64.wrap ((IntKind.i64.wrap (D.bJ D.cf a0)) - 1))) (fun x=>(D.lg GM c0 a0 (IntKind.i64.wrap ((IntKind.i64.wrap (D.bJ D.cf a0)) - 1)) x))))
def D.jl (GM:Plan→T Int) (a0:Plan):T Int:=(D.dG (D.dF a0) (fun x=>(D.gL GM a0 x)))
def D.dg:Nat→Plan→T Int
 | 0,_=>.cut
 | k+1,a0=>D.jl (D.dg k) a0
def l7 (r:Plan→T Int) (n:Nat):Prop:=∀ (F:Nat→Prop) (w0:World),(∀ b,F b→b<w0.heap.size)→∀ (a0:Plan),Calls y6 182 #[u7 (ae a0)] w0 (aG y6 aj n (r a0) F w0)
theorem Ao {GM:Plan→T Int} (hF:kH F w0) (Hb:∀ m,m≤n→l7 GM m)
    (c0:Plan) {c0b:Nat} (c0F:F c0b) (c0h:w0.heap[c0b]?=some (.cells ((ae c0)).toArray 23 (0,0))) (c1:Int) {c1b:Nat} (c1F:F c1b) (c1h:w0.heap[c1b]?=some (.cells ([(.int .i64 c1)]).toArray 3 (0,0))) (a0:Bool) :
    Calls y6 280 #[.bool a0,zp c0b,zp c1b] w0 (aG y6 aj n (D.jg GM c0 c1 a0) F w0):=by
 refine kN Tryz.func280 rfl 11 rfl rfl fun fr r hB=>?_;have lc0b:=q7 c0h
 have lc1b:=q7 c1h;refine wsr ?_;refine ah (.cells (kq aj) 119 (0,0)) r (fun R=>ag bK) rfl fun fr b1 w2 n3 r=>?_;obtain ⟨E1,Z2,H1,hB,zB⟩:=n3.all hB
 refine wn (a9 (wsr (kM (.bool a0) r rfl rfl fun r=>aa (.bool (!a0)) r (fun R=>y_un r (u:=(.bool a0)) rfl rfl) rfl fun fr r=>wn ?_)));refine q4 (t:=(!a0)) (r.ev rfl) (fun h4=>?_) (fun h4=>?_)
 ·
  refine wsr (kG (ae c0) 6 r rfl (keep hB c0h) ta23 rfl rfl fun r=>?_);have hF1:=aQ hF hB b1
  refine kD r ((Hb n kw) (kW F w0 w2 b1) _ hF1 c0) rfl rN rfl fun w5 v6 hb hr7 r=>?_;have Z5:=hb.size
  have H1:=keep hb H1;obtain ⟨hB,zB⟩:=bon hb hB;refine kP r hr7.shape rfl rfl H1 bu rfl rfl fun w8 u9 r=>?_;have Z8:=u9.size
  have H1:=u9.at_;obtain ⟨hB,zB⟩:=u9.on hB kw
  refine wn (d9 ?_);have hd:D.jg GM c0 c1 a0=(GM c0):=(ar h4).trans (rfl);have hs:=hr7.shape.cells;refine ak r rfl rfl H1 (k:=7) hs.1 br ?_;rw [←hs.2.2,hd];exact rfin hF hB hr7 u9 kw kw kw
 refine q6 (wsr (kL (I c1) r rfl (keep hB c1h) to3 rfl rfl fun r=>?_));have hF1:=aQ hF hB b1
 refine kD r (eQ (F:=(kW F w0 w2 b1)) (n:=n) hF1 c1) rfl eX rfl fun w10 v11 hb hr12 r=>?_;have Z10:=hb.size
 have H1:=keep hb H1;obtain ⟨hB,zB⟩:=bon hb hB;refine kP r hr12.shape rfl rfl H1 bu rfl rfl fun w13 u14 r=>?_;have Z13:=u14.size
 have H1:=u14.at_;obtain ⟨hB,zB⟩:=u14.on hB kw
 refine wn (d9 ?_);have hd:D.jg GM c0 c1 a0=(D.cZ c1):=(ai h4).trans (rfl);have hs:=hr12.shape.cells;refine ak r rfl rfl H1 (k:=7) hs.1 br ?_;rw [←hs.2.2,hd];exact rfin hF hB hr12 u14 kw kw kw
theorem Bc {GM:Plan→T Int} (hF:kH F w0) (Hb:∀ m,m<n→l7 GM m)
    (c0:Plan) {c0b:Nat} (c0F:F c0b) (c0h:w0.heap[c0b]?=some (.cells ((ae c0)).toArray 23 (0,0))) (c1:Int) {c1b:Nat} (c1F:F c1b) (c1h:w0.heap[c1b]?=some (.cells ([(.int .u64 c1)]).toArray 34 (0,0))) (c2:Int) {c2b:Nat} (c2F:F c2b) (c2h:w0.heap[c2b]?=some (.cells ([(.int .i64 c2)]).toArray 3 (0,0))) (a0:Int) :
    Calls y6 277 #[.int .u64 a0,zp c0b,zp c1b,zp c2b] w0 (aG y6 aj n (D.lg GM c0 c1 c2 a0) F w0):=by
 refine kN Tryz.func277 rfl 14 rfl rfl fun fr r hB=>?_;have lc0b:=q7 c0h
 have lc1b:=q7 c1h;have lc2b:=q7 c2h;refine wsr ?_;refine ah (.cells (kq aj) 119 (0,0)) r (fun R=>ag bK) rfl fun fr b1 w2 n3 r=>?_;obtain ⟨E1,Z2,H1,hB,zB⟩:=n3.all hB
 refine wn (a9 ?_);refine bN 7 [.val (u7 (ae c0)),.val (I (D.dF c0)),.val (U c1),.val (U c1),.val (U a0),.val (U (D.fP c1 a0)),.val (.func (.func 280) #[] #[zp c0b,zp c2b])] mixed r kz (kV (kV (kV (kV (kV (kV (kV bM))))))) ?_ ?_
 ·
  refine ec r (fun _ u _ b d s=>aX s (cs:=(ae c0)) (n:=6) rfl (cq hB b c0h) ta23 rfl bz) (ec r (fun fr1 u w' hb' hd r'=>aP r' (args:=[(u7 (ae c0))]) (lc hd.1 l0) mh ((kv _ c0).mono yab)) (ec r (fun _ u _ b d s=>av s rfl (cq hB b c1h) to34 rfl bz) (ec r (fun _ u _ b d s=>av s rfl (cq hB b c1h) to34 rfl bz) (ec r (fun _ u _ b d s=>ay s rfl bz) (ec r (fun fr1 u w' hb' hd r'=>aP r' (args:=[(U c1),(U a0)]) (lc hd.1 (lc hd.2.1 l0)) xQ ((tR _ c1 a0).mono yab)) (ec r (fun _ u _ b d s=>aZ s (v:=(.func (.func 280) #[] #[zp c0b,zp c2b])) rfl bz) ?_))))));exact bO
 intro fr u w4 hb hΦ hne r;have r:=r.congr (sc (hΦ 6 ke) (sc (hΦ 5 ke) (sc (hΦ 4 ke) (sc (hΦ 3 ke) (sc (hΦ 2 ke) (sc (hΦ 1 ke) (sc (hΦ 0 ke) rfl)))))));have Z4:=hb.size;have H1:=keep hb H1;obtain ⟨hB,zB⟩:=bon hb hB;have hF1:=aQ hF hB b1;have f5:((kW F w0 w4 b1)) c0b:=(.inl c0F);have f6:((kW F w0 w4 b1)) c2b:=(.inl c2F);refine kD r (tz (F:=(kW F w0 w4 b1)) (n:=n) hF1 (D.dF c0) c1 (D.fP c1 a0) ⟨280,[],[zp c0b,zp c2b],Ge,rfl,fun m hm x w' hs hz=>Ao (fun b hb=>q8 (hF1 b hb) hz) (fun m' hm'=>Hb m' kw) c0 f5 (hs.at_ f5 (keep hB c0h)) c2 f6 (hs.at_ f6 (keep hB c2h)) x⟩) rfl xa rfl fun w7 v8 hb hr9 r=>?_;have Z7:=hb.size
 have H1:=keep hb H1;obtain ⟨hB,zB⟩:=bon hb hB;refine kP r hr9.shape rfl rfl H1 bu rfl rfl fun w10 u11 r=>?_;have Z10:=u11.size
 have H1:=u11.at_;obtain ⟨hB,zB⟩:=u11.on hB kw
 exact wn (d9 (kR r hr9 rfl rfl H1 rfl br hF hB u11 kw kw kw))
theorem BG {GM:Plan→T Int} (hF:kH F w0) (Hb:∀ m,m<n→l7 GM m)
    (c0:Plan) {c0b:Nat} (c0F:F c0b) (c0h:w0.heap[c0b]?=some (.cells ((ae c0)).toArray 23 (0,0))) (a0:Int) :
    Calls y6 276 #[.int .u64 a0,zp c0b] w0 (aG y6 aj n (D.gL GM c0 a0) F w0):=by
 refine kN Tryz.func276 rfl 18 rfl rfl fun fr r hB=>?_;have lc0b:=q7 c0h
 refine wsr ?_;refine kX 34 (U a0) r rfl rfl fun b1 w2 n3 r=>?_;obtain ⟨E1,Z2,H1,hB,zB⟩:=n3.all hB
 refine ah (.cells (kq aj) 119 (0,0)) r (fun R=>ag bK) rfl fun fr b4 w5 n6 r=>?_;have H1:=keep n6.below H1
 obtain ⟨E4,Z5,H4,hB,zB⟩:=n6.all hB;refine wn (a9 ?_);refine bN 6 [.val (u7 (aS D.cf)),.val (U a0),.val (U (D.bJ D.cf a0)),.val (I (W (D.bJ D.cf a0))),.val (I (W ((W (D.bJ D.cf a0)) - 1))),.new w5.heap.size (.cells #[(I 0)] 3 (0,0))] mixed r kz (kV (kV (kV (kV (kV (cr (Nat.le_refl _) bM)))))) ?_ ?_
 ·
  refine ec r (fun fr1 u w' hb' hd r'=>aP r' (args:=[]) (l0) rZ ((qj _ ).mono yab)) (ec r (fun _ u _ b d s=>av s rfl (keep b H1) to34 rfl bz) (ec r (fun fr1 u w' hb' hd r'=>aP r' (args:=[(u7 (aS D.cf)),(U a0)]) (lc hd.1 (lc hd.2.1 l0)) m8 ((mK _ D.cf a0).mono yab)) (ec r (fun _ u _ b d s=>cK s (n:=(D.bJ D.cf a0)) d.1 ti34 ti3 bz) (ec r (fun _ u _ b d s=>bd s d.1 rfl rfl rfl bz) (ec r (fun fr1 u w' hb' hd r'=>ag tz3 (fun b w2 n2=>⟨n2.below,b,rfl,Nat.le_of_eq n2.eq.symm,n2.at_⟩)) ?_)))));exact bO
 intro fr u w7 hb hΦ hne r;obtain ⟨b8,g5,E8,H8⟩:=hΦ 5 ke;have l_b8:=q7 H8;have r:=r.congr (sc g5 (sc (hΦ 4 ke) (sc (hΦ 3 ke) (sc (hΦ 2 ke) (sc (hΦ 1 ke) (sc (hΦ 0 ke) rfl))))));have Z7:=hb.size;have H1:=keep hb H1;have H4:=keep hb H4;obtain ⟨hB,zB⟩:=bon hb hB;refine aJ (.cells #[(I (W ((W (D.bJ D.cf a0)) - 1)))] 3 (0,0)) r (fun R=>bb r (o:=0) (v:=(I (W ((W (D.bJ D.cf a0)) - 1)))) rfl rfl H8 ts3 r9 rfl rfl) rfl fun fr w9 u10 r=>?_;have Z9:=u10.size
 have H1:=u10.keep H1 kw
 have H4:=u10.keep H4 kw
 have H8:=u10.at_;obtain ⟨hB,zB⟩:=u10.on hB kw
 refine wn (a9 (wsr (kL (I (W ((W (D.bJ D.cf a0)) - 1))) r rfl H8 to3 rfl rfl fun r=>kB r rfl rfl rfl rfl rfl fun r=>wn ?_)));refine q4 (t:=(decide ((W ((W (D.bJ D.cf a0)) - 1))<0))) (r.ev rfl) (fun h11=>?_) (fun h11=>?_)
 ·
  refine wsr ?_;have hF1:=aQ hF hB b4;refine kD r (eQ (F:=(kW F w0 w9 b4)) (n:=n) hF1 (-1)) rfl eX rfl fun w12 v13 hb hr14 r=>?_;have Z12:=hb.size
  have H1:=keep hb H1;have H4:=keep hb H4;have H8:=keep hb H8;obtain ⟨hB,zB⟩:=bon hb hB;refine kP r hr14.shape rfl rfl H4 bu rfl rfl fun w15 u16 r=>?_;have Z15:=u16.size
  have H1:=u16.keep H1 kw
  have H8:=u16.keep H8 kw
  have H4:=u16.at_;obtain ⟨hB,zB⟩:=u16.on hB kw
  refine wn (d9 ?_);have hd:D.gL GM c0 a0=(D.cZ (-1)):=(ar h11).trans (rfl);have hs:=hr14.shape.cells;refine ak r rfl rfl H4 (k:=7) hs.1 br ?_;rw [←hs.2.2,hd];exact rfin hF hB hr14 u16 kw kw kw
 refine q6 (wsr (kG (ae c0) 6 r rfl (keep hB c0h) ta23 rfl rfl fun r=>kL (I (W ((W (D.bJ D.cf a0)) - 1))) r rfl H8 to3 rfl rfl fun r=>?_));refine kE r (mX w9 c0 (W ((W (D.bJ D.cf a0)) - 1))) rfl oU rfl fun w17 hb r=>?_
 have Z17:=hb.size;have H1:=keep hb H1;have H4:=keep hb H4;have H8:=keep hb H8;obtain ⟨hB,zB⟩:=bon hb hB;refine aa (.func (.func 277) #[] #[zp c0b,zp b1,zp b8]) r (fun R=>aZ r rfl) rfl fun fr r=>?_;have hF1:=aQ hF hB b4
 have f18:((kW F w0 w17 b4)) c0b:=(.inl c0F);have f19:((kW F w0 w17 b4)) b1:=(.inr ⟨kw,kw,kw⟩)
 have f20:((kW F w0 w17 b4)) b8:=(.inr ⟨kw,kw,kw⟩)
 refine kD r (fI (F:=(kW F w0 w17 b4)) (n:=n) hF1 (D.dN c0 (W ((W (D.bJ D.cf a0)) - 1))) ⟨277,[],[zp c0b,zp b1,zp b8],Ek,rfl,fun m hm x w' hs hz=>Bc (fun b hb=>q8 (hF1 b hb) hz) (fun m' hm'=>Hb m' kw) c0 f18 (hs.at_ f18 (keep hB c0h)) a0 f19 (hs.at_ f19 H1) (W ((W (D.bJ D.cf a0)) - 1)) f20 (hs.at_ f20 H8) x⟩) rfl fZ rfl fun w21 v22 hb hr23 r=>?_;have Z21:=hb.size
 have H1:=keep hb H1;have H4:=keep hb H4;have H8:=keep hb H8;obtain ⟨hB,zB⟩:=bon hb hB;refine kP r hr23.shape rfl rfl H4 bu rfl rfl fun w24 u25 r=>?_;have Z24:=u25.size
 have H1:=u25.keep H1 kw
 have H8:=u25.keep H8 kw
 have H4:=u25.at_;obtain ⟨hB,zB⟩:=u25.on hB kw
 refine wn (d9 ?_);have hd:D.gL GM c0 a0=(D.dG (D.dN c0 (W ((W (D.bJ D.cf a0)) - 1))) (fun x=>(D.lg GM c0 a0 (W ((W (D.bJ D.cf a0)) - 1)) x))):=(ai h11).trans (rfl)
 have hs:=hr23.shape.cells;refine ak r rfl rfl H4 (k:=7) hs.1 br ?_;rw [←hs.2.2,hd];exact rfin hF hB hr23 u25 kw kw kw
theorem Cg {n:Nat} {F:Nat→Prop} {GM:Plan→T Int} {w0:World} (hF:∀ b,F b→b<w0.heap.size) (Hb:∀ m,m<n→l7 GM m)
    (a0:Plan) :
    Calls y6 182 #[u7 (ae a0)] w0 (aG y6 aj n (D.jl GM a0) F w0):=by
 refine kN Tryz.func182 rfl 7 rfl rfl fun fr r hB=>?_;refine wsr ?_
 refine kX 23 (u7 (ae a0)) r rfl rfl fun b1 w2 n3 r=>?_;obtain ⟨E1,Z2,H1,hB,zB⟩:=n3.all hB
 refine ah (.cells (kq aj) 119 (0,0)) r (fun R=>ag bK) rfl fun fr b4 w5 n6 r=>?_;have H1:=keep n6.below H1
 obtain ⟨E4,Z5,H4,hB,zB⟩:=n6.all hB;refine wn (wsr (kG (ae a0) 6 r rfl H1 ta23 rfl rfl fun r=>?_));refine kE r (kv w5 a0) rfl mh rfl fun w7 hb r=>?_
 have Z7:=hb.size;have H1:=keep hb H1;have H4:=keep hb H4;obtain ⟨hB,zB⟩:=bon hb hB;refine aa (.func (.func 276) #[] #[zp b1]) r (fun R=>aZ r rfl) rfl fun fr r=>?_;have hF1:=aQ hF hB b4
 have f8:((kW F w0 w7 b4)) b1:=(.inr ⟨kw,kw,kw⟩)
 refine kD r (fI (F:=(kW F w0 w7 b4)) (n:=n) hF1 (D.dF a0) ⟨276,[],[zp b1],Gw,rfl,fun m hm x w' hs hz=>BG (fun b hb=>q8 (hF1 b hb) hz) (fun m' hm'=>Hb m' kw) a0 f8 (hs.at_ f8 H1) x⟩) rfl fZ rfl fun w9 v10 hb hr11 r=>?_;have Z9:=hb.size
 have H1:=keep hb H1;have H4:=keep hb H4;obtain ⟨hB,zB⟩:=bon hb hB;refine kP r hr11.shape rfl rfl H4 bu rfl rfl fun w12 u13 r=>?_;have Z12:=u13.size
 have H1:=u13.keep H1 kw
 have H4:=u13.at_;obtain ⟨hB,zB⟩:=u13.on hB kw
 exact wn (d9 (kR r hr11 rfl rfl H4 rfl br hF hB u13 kw kw kw))
theorem uy {n:Nat} {k:Nat} (hk:n<k):l7 (D.dg k) n:=by
 induction n using Nat.strongRecOn generalizing k with
 | _ n ih=>
  obtain ⟨k,rfl⟩:∃ q,k=q+1:=⟨k - 1,kw⟩
  intro F w0 hF;have h:=@Cg n F (D.dg k) w0 hF (fun m hm=>ih m hm kw)
  exact h
def D.jb (F7:Plan→Int→T Int) (c0:Plan) (c1:Int) (a0:Bool):T Int:=(bif (!a0) then (F7 c0 c1) else (D.cZ c1))
def D.nu (F7:Plan→Int→T Int) (c0:Plan) (c1:Int) (c2:Int):T Int:=(D.pY (D.dF c0) c1 (D.fP c1 (D.dw c2)) (fun x=>(D.jb F7 c0 c2 x)))
def D.lm (F7:Plan→Int→T Int) (c0:Plan) (c1:Int) (a0:Int):T Int:=(D.dX (D.dN c0 c1) (D.bJ D.cf a0) (fun _=>(D.nu F7 c0 a0 c1)))
def D.jf (F7:Plan→Int→T Int) (a0:Plan) (a1:Int):T Int:=(bif ((D.dN a0 a1)==(-1)) then (D.cZ (-1)) else (D.dG (D.dF a0) (fun x=>(D.lm F7 a0 a1 x))))
def D.eT:Nat→Plan→Int→T Int
 | 0,_,_=>.cut
 | k+1,a0,a1=>D.jf (D.eT k) a0 a1
def kZ (r:Plan→Int→T Int) (n:Nat):Prop:=∀ (F:Nat→Prop) (w0:World),(∀ b,F b→b<w0.heap.size)→∀ (a0:Plan) (a1:Int),Calls y6 310 #[u7 (ae a0),.int .i64 a1] w0 (aG y6 aj n (r a0 a1) F w0)
theorem Ae {F7:Plan→Int→T Int} (hF:kH F w0) (GZ:∀ m,m≤n→kZ F7 m)
    (c0:Plan) {c0b:Nat} (c0F:F c0b) (c0h:w0.heap[c0b]?=some (.cells ((ae c0)).toArray 23 (0,0))) (c1:Int) {c1b:Nat} (c1F:F c1b) (c1h:w0.heap[c1b]?=some (.cells ([(.int .i64 c1)]).toArray 3 (0,0))) (a0:Bool) :
    Calls y6 357 #[.bool a0,zp c0b,zp c1b] w0 (aG y6 aj n (D.jb F7 c0 c1 a0) F w0):=by
 refine kN Tryz.func357 rfl 12 rfl rfl fun fr r hB=>?_;have lc0b:=q7 c0h
 have lc1b:=q7 c1h;refine wsr ?_;refine ah (.cells (kq aj) 119 (0,0)) r (fun R=>ag bK) rfl fun fr b1 w2 n3 r=>?_;obtain ⟨E1,Z2,H1,hB,zB⟩:=n3.all hB
 refine wn (a9 (wsr (kM (.bool a0) r rfl rfl fun r=>aa (.bool (!a0)) r (fun R=>y_un r (u:=(.bool a0)) rfl rfl) rfl fun fr r=>wn ?_)));refine q4 (t:=(!a0)) (r.ev rfl) (fun h4=>?_) (fun h4=>?_)
 ·
  refine wsr (kG (ae c0) 6 r rfl (keep hB c0h) ta23 rfl rfl fun r=>kL (I c1) r rfl (keep hB c1h) to3 rfl rfl fun r=>?_);have hF1:=aQ hF hB b1
  refine kD r ((GZ n kw) (kW F w0 w2 b1) _ hF1 c0 c1) rfl yc rfl fun w5 v6 hb hr7 r=>?_;have Z5:=hb.size
  have H1:=keep hb H1;obtain ⟨hB,zB⟩:=bon hb hB;refine kP r hr7.shape rfl rfl H1 bu rfl rfl fun w8 u9 r=>?_;have Z8:=u9.size
  have H1:=u9.at_;obtain ⟨hB,zB⟩:=u9.on hB kw
  refine wn (d9 ?_);have hd:D.jb F7 c0 c1 a0=(F7 c0 c1):=(ar h4).trans (rfl);have hs:=hr7.shape.cells;refine ak r rfl rfl H1 (k:=7) hs.1 br ?_;rw [←hs.2.2,hd];exact rfin hF hB hr7 u9 kw kw kw
 refine q6 (wsr (kL (I c1) r rfl (keep hB c1h) to3 rfl rfl fun r=>?_));have hF1:=aQ hF hB b1
 refine kD r (eQ (F:=(kW F w0 w2 b1)) (n:=n) hF1 c1) rfl eX rfl fun w10 v11 hb hr12 r=>?_;have Z10:=hb.size
 have H1:=keep hb H1;obtain ⟨hB,zB⟩:=bon hb hB;refine kP r hr12.shape rfl rfl H1 bu rfl rfl fun w13 u14 r=>?_;have Z13:=u14.size
 have H1:=u14.at_;obtain ⟨hB,zB⟩:=u14.on hB kw
 refine wn (d9 ?_);have hd:D.jb F7 c0 c1 a0=(D.cZ c1):=(ai h4).trans (rfl);have hs:=hr12.shape.cells;refine ak r rfl rfl H1 (k:=7) hs.1 br ?_;rw [←hs.2.2,hd];exact rfin hF hB hr12 u14 kw kw kw
theorem AJ {F7:Plan→Int→T Int} (hF:kH F w0) (GZ:∀ m,m<n→kZ F7 m)
    (c0:Plan) {c0b:Nat} (c0F:F c0b) (c0h:w0.heap[c0b]?=some (.cells ((ae c0)).toArray 23 (0,0))) (c1:Int) {c1b:Nat} (c1F:F c1b) (c1h:w0.heap[c1b]?=some (.cells ([(.int .u64 c1)]).toArray 34 (0,0))) (c2:Int) {c2b:Nat} (c2F:F c2b) (c2h:w0.heap[c2b]?=some (.cells ([(.int .i64 c2)]).toArray 3 (0,0))) :
    Calls y6 356 #[zp c0b,zp c1b,zp c2b] w0 (aG y6 aj n (D.nu F7 c0 c1 c2) F w0):=by
 refine kN Tryz.func356 rfl 13 rfl rfl fun fr r hB=>?_;have lc0b:=q7 c0h
 have lc1b:=q7 c1h;have lc2b:=q7 c2h;refine wsr ?_;refine ah (.cells (kq aj) 119 (0,0)) r (fun R=>ag bK) rfl fun fr b1 w2 n3 r=>?_;obtain ⟨E1,Z2,H1,hB,zB⟩:=n3.all hB
 refine wn (a9 ?_);refine bN 8 [.val (u7 (ae c0)),.val (I (D.dF c0)),.val (U c1),.val (U c1),.val (I c2),.val (U (D.dw c2)),.val (U (D.fP c1 (D.dw c2))),.val (.func (.func 357) #[] #[zp c0b,zp c2b])] mixed r kz (kV (kV (kV (kV (kV (kV (kV (kV bM)))))))) ?_ ?_
 ·
  refine ec r (fun _ u _ b d s=>aX s (cs:=(ae c0)) (n:=6) rfl (cq hB b c0h) ta23 rfl bz) (ec r (fun fr1 u w' hb' hd r'=>aP r' (args:=[(u7 (ae c0))]) (lc hd.1 l0) mh ((kv _ c0).mono yab)) (ec r (fun _ u _ b d s=>av s rfl (cq hB b c1h) to34 rfl bz) (ec r (fun _ u _ b d s=>av s rfl (cq hB b c1h) to34 rfl bz) (ec r (fun _ u _ b d s=>av s rfl (cq hB b c2h) to3 rfl bz) (ec r (fun fr1 u w' hb' hd r'=>aP r' (args:=[(I c2)]) (lc hd.1 l0) rr ((qm _ c2).mono yab)) (ec r (fun fr1 u w' hb' hd r'=>aP r' (args:=[(U c1),(U (D.dw c2))]) (lc hd.1 (lc hd.2.1 l0)) xQ ((tR _ c1 (D.dw c2)).mono yab)) (ec r (fun _ u _ b d s=>aZ s (v:=(.func (.func 357) #[] #[zp c0b,zp c2b])) rfl bz) ?_)))))));exact bO
 intro fr u w4 hb hΦ hne r;have r:=r.congr (sc (hΦ 7 ke) (sc (hΦ 6 ke) (sc (hΦ 5 ke) (sc (hΦ 4 ke) (sc (hΦ 3 ke) (sc (hΦ 2 ke) (sc (hΦ 1 ke) (sc (hΦ 0 ke) rfl))))))));have Z4:=hb.size;have H1:=keep hb H1;obtain ⟨hB,zB⟩:=bon hb hB;have hF1:=aQ hF hB b1;have f5:((kW F w0 w4 b1)) c0b:=(.inl c0F);have f6:((kW F w0 w4 b1)) c2b:=(.inl c2F);refine kD r (tz (F:=(kW F w0 w4 b1)) (n:=n) hF1 (D.dF c0) c1 (D.fP c1 (D.dw c2)) ⟨357,[],[zp c0b,zp c2b],ED,rfl,fun m hm x w' hs hz=>Ae (fun b hb=>q8 (hF1 b hb) hz) (fun m' hm'=>GZ m' kw) c0 f5 (hs.at_ f5 (keep hB c0h)) c2 f6 (hs.at_ f6 (keep hB c2h)) x⟩) rfl xa rfl fun w7 v8 hb hr9 r=>?_;have Z7:=hb.size
 have H1:=keep hb H1;obtain ⟨hB,zB⟩:=bon hb hB;refine kP r hr9.shape rfl rfl H1 bu rfl rfl fun w10 u11 r=>?_;have Z10:=u11.size
 have H1:=u11.at_;obtain ⟨hB,zB⟩:=u11.on hB kw
 exact wn (d9 (kR r hr9 rfl rfl H1 rfl br hF hB u11 kw kw kw))
theorem Bi {F7:Plan→Int→T Int} (hF:kH F w0) (GZ:∀ m,m<n→kZ F7 m)
    (c0:Plan) {c0b:Nat} (c0F:F c0b) (c0h:w0.heap[c0b]?=some (.cells ((ae c0)).toArray 23 (0,0))) (c1:Int) {c1b:Nat} (c1F:F c1b) (c1h:w0.heap[c1b]?=some (.cells ([(.int .i64 c1)]).toArray 3 (0,0))) (a0:Int) :
    Calls y6 355 #[.int .u64 a0,zp c0b,zp c1b] w0 (aG y6 aj n (D.lm F7 c0 c1 a0) F w0):=by
 refine kN Tryz.func355 rfl 13 rfl rfl fun fr r hB=>?_;have lc0b:=q7 c0h
 have lc1b:=q7 c1h;refine wsr ?_;refine kX 34 (U a0) r rfl rfl fun b1 w2 n3 r=>?_;obtain ⟨E1,Z2,H1,hB,zB⟩:=n3.all hB
 refine ah (.cells (kq aj) 119 (0,0)) r (fun R=>ag bK) rfl fun fr b4 w5 n6 r=>?_;have H1:=keep n6.below H1
 obtain ⟨E4,Z5,H4,hB,zB⟩:=n6.all hB;refine wn (a9 ?_);refine bN 7 [.val (u7 (ae c0)),.val (I c1),.val (I (D.dN c0 c1)),.val (u7 (aS D.cf)),.val (U a0),.val (U (D.bJ D.cf a0)),.val (.func (.func 356) #[] #[zp c0b,zp b1,zp c1b])] mixed r kz (kV (kV (kV (kV (kV (kV (kV bM))))))) ?_ ?_
 ·
  refine ec r (fun _ u _ b d s=>aX s (cs:=(ae c0)) (n:=6) rfl (cq hB b c0h) ta23 rfl bz) (ec r (fun _ u _ b d s=>av s rfl (cq hB b c1h) to3 rfl bz) (ec r (fun fr1 u w' hb' hd r'=>aP r' (args:=[(u7 (ae c0)),(I c1)]) (lc hd.1 (lc hd.2.1 l0)) oU ((mX _ c0 c1).mono yab)) (ec r (fun fr1 u w' hb' hd r'=>aP r' (args:=[]) (l0) rZ ((qj _ ).mono yab)) (ec r (fun _ u _ b d s=>av s rfl (keep b H1) to34 rfl bz) (ec r (fun fr1 u w' hb' hd r'=>aP r' (args:=[(u7 (aS D.cf)),(U a0)]) (lc hd.1 (lc hd.2.1 l0)) m8 ((mK _ D.cf a0).mono yab)) (ec r (fun _ u _ b d s=>aZ s (v:=(.func (.func 356) #[] #[zp c0b,zp b1,zp c1b])) rfl bz) ?_))))));exact bO
 intro fr u w7 hb hΦ hne r;have r:=r.congr (sc (hΦ 6 ke) (sc (hΦ 5 ke) (sc (hΦ 4 ke) (sc (hΦ 3 ke) (sc (hΦ 2 ke) (sc (hΦ 1 ke) (sc (hΦ 0 ke) rfl)))))));have Z7:=hb.size;have H1:=keep hb H1;have H4:=keep hb H4;obtain ⟨hB,zB⟩:=bon hb hB;have hF1:=aQ hF hB b4;have f8:((kW F w0 w7 b4)) c0b:=(.inl c0F);have f9:((kW F w0 w7 b4)) b1:=(.inr ⟨kw,kw,kw⟩)
 have f10:((kW F w0 w7 b4)) c1b:=(.inl c1F);refine kD r (gx (F:=(kW F w0 w7 b4)) (n:=n) hF1 (D.dN c0 c1) (D.bJ D.cf a0) ⟨356,[],[zp c0b,zp b1,zp c1b],EY,rfl,fun m hm _ w' hs hz=>AJ (fun b hb=>q8 (hF1 b hb) hz) (fun m' hm'=>GZ m' kw) c0 f8 (hs.at_ f8 (keep hB c0h)) a0 f9 (hs.at_ f9 H1) c1 f10 (hs.at_ f10 (keep hB c1h))⟩) rfl ia rfl fun w11 v12 hb hr13 r=>?_;have Z11:=hb.size
 have H1:=keep hb H1;have H4:=keep hb H4;obtain ⟨hB,zB⟩:=bon hb hB;refine kP r hr13.shape rfl rfl H4 bu rfl rfl fun w14 u15 r=>?_;have Z14:=u15.size
 have H1:=u15.keep H1 kw
 have H4:=u15.at_;obtain ⟨hB,zB⟩:=u15.on hB kw
 exact wn (d9 (kR r hr13 rfl rfl H4 rfl br hF hB u15 kw kw kw))
theorem BK {n:Nat} {F:Nat→Prop} {F7:Plan→Int→T Int} {w0:World} (hF:∀ b,F b→b<w0.heap.size) (GZ:∀ m,m<n→kZ F7 m)
    (a0:Plan) (a1:Int) :
    Calls y6 310 #[u7 (ae a0),.int .i64 a1] w0 (aG y6 aj n (D.jf F7 a0 a1) F w0):=by
 refine kN Tryz.func310 rfl 14 rfl rfl fun fr r hB=>?_;refine wsr ?_
 refine kX 23 (u7 (ae a0)) r rfl rfl fun b1 w2 n3 r=>?_;obtain ⟨E1,Z2,H1,hB,zB⟩:=n3.all hB
 refine kX 3 (I a1) r rfl rfl fun b4 w5 n6 r=>?_;have H1:=keep n6.below H1
 obtain ⟨E4,Z5,H4,hB,zB⟩:=n6.all hB;refine ah (.cells (kq aj) 119 (0,0)) r (fun R=>ag bK) rfl fun fr b7 w8 n9 r=>?_;have H1:=keep n9.below H1
 have H4:=keep n9.below H4;obtain ⟨E7,Z8,H7,hB,zB⟩:=n9.all hB;refine wn (a9 (wsr (kG (ae a0) 6 r rfl H1 ta23 rfl rfl fun r=>kL (I a1) r rfl H4 to3 rfl rfl fun r=>?_)));refine kE r (mX w8 a0 a1) rfl oU rfl fun w10 hb r=>?_
 have Z10:=hb.size;have H1:=keep hb H1;have H4:=keep hb H4;have H7:=keep hb H7;obtain ⟨hB,zB⟩:=bon hb hB;refine kB r rfl rfl rfl rfl rfl fun r=>wn ?_;refine q4 (t:=((D.dN a0 a1)==(-1))) (r.ev rfl) (fun h11=>?_) (fun h11=>?_)
 ·
  refine wsr ?_;have hF1:=aQ hF hB b7;refine kD r (eQ (F:=(kW F w0 w10 b7)) (n:=n) hF1 (-1)) rfl eX rfl fun w12 v13 hb hr14 r=>?_;have Z12:=hb.size
  have H1:=keep hb H1;have H4:=keep hb H4;have H7:=keep hb H7;obtain ⟨hB,zB⟩:=bon hb hB;refine kP r hr14.shape rfl rfl H7 bu rfl rfl fun w15 u16 r=>?_;have Z15:=u16.size
  have H1:=u16.keep H1 kw
  have H4:=u16.keep H4 kw
  have H7:=u16.at_;obtain ⟨hB,zB⟩:=u16.on hB kw
  refine wn (d9 ?_);have hd:D.jf F7 a0 a1=(D.cZ (-1)):=(ar h11).trans (rfl);have hs:=hr14.shape.cells;refine ak r rfl rfl H7 (k:=7) hs.1 br ?_;rw [←hs.2.2,hd];exact rfin hF hB hr14 u16 kw kw kw
 refine q6 (wsr (kG (ae a0) 6 r rfl H1 ta23 rfl rfl fun r=>?_));refine kE r (kv w10 a0) rfl mh rfl fun w17 hb r=>?_
 have Z17:=hb.size;have H1:=keep hb H1;have H4:=keep hb H4;have H7:=keep hb H7;obtain ⟨hB,zB⟩:=bon hb hB;refine aa (.func (.func 355) #[] #[zp b1,zp b4]) r (fun R=>aZ r rfl) rfl fun fr r=>?_;have hF1:=aQ hF hB b7
 have f18:((kW F w0 w17 b7)) b1:=(.inr ⟨kw,kw,kw⟩)
 have f19:((kW F w0 w17 b7)) b4:=(.inr ⟨kw,kw,kw⟩)
 refine kD r (fI (F:=(kW F w0 w17 b7)) (n:=n) hF1 (D.dF a0) ⟨355,[],[zp b1,zp b4],Ej,rfl,fun m hm x w' hs hz=>Bi (fun b hb=>q8 (hF1 b hb) hz) (fun m' hm'=>GZ m' kw) a0 f18 (hs.at_ f18 H1) a1 f19 (hs.at_ f19 H4) x⟩) rfl fZ rfl fun w20 v21 hb hr22 r=>?_;have Z20:=hb.size
 have H1:=keep hb H1;have H4:=keep hb H4;have H7:=keep hb H7;obtain ⟨hB,zB⟩:=bon hb hB;refine kP r hr22.shape rfl rfl H7 bu rfl rfl fun w23 u24 r=>?_;have Z23:=u24.size
 have H1:=u24.keep H1 kw
 have H4:=u24.keep H4 kw
 have H7:=u24.at_;obtain ⟨hB,zB⟩:=u24.on hB kw
 refine wn (d9 ?_);have hd:D.jf F7 a0 a1=(D.dG (D.dF a0) (fun x=>(D.lm F7 a0 a1 x))):=(ai h11).trans (rfl)
 have hs:=hr22.shape.cells;refine ak r rfl rfl H7 (k:=7) hs.1 br ?_;rw [←hs.2.2,hd];exact rfin hF hB hr22 u24 kw kw kw
theorem BW {n:Nat} {k:Nat} (hk:n<k):kZ (D.eT k) n:=by
 induction n using Nat.strongRecOn generalizing k with
 | _ n ih=>
  obtain ⟨k,rfl⟩:∃ q,k=q+1:=⟨k - 1,kw⟩
  intro F w0 hF;have h:=@BK n F (D.eT k) w0 hF (fun m hm=>ih m hm kw)
  exact h
end
end Go.Proofs.YtbbipmelhmgmfaaGreat
