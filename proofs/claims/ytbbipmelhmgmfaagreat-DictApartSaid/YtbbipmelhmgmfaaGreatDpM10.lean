/- Some of our texts, one behind the other. -/
import Derived.Test.YtbbipmelhmgmfaaGreatDpThens
import Derived.Test.YtbbipmelhmgmfaaGreatDpM6
set_option linter.all false
set_option maxRecDepth 100000
set_option maxHeartbeats 20000000
/- Ours. -/
namespace Go.Proofs.YtbbipmelhmgmfaaGreat
open Go.RowKit
section
variable {n : Nat} {F : Nat → Prop} {j : Nat} {w0 : World}
theorem zsa:zpf ar 202:=kz
theorem zup:zpf ar 204:=kz
theorem zuc:zpf ar 214:=kz
theorem zuM:zpf ar 284:=kz
theorem ztC:zpf ar 291:=kz
theorem zsu:zpf ar 292:=kz
theorem zsW:zpf ar 294:=kz
theorem ztx:zpf ar 344:=kz
theorem zux:zpf ar 345:=kz
theorem zt4:zpf ar 400:=kz
theorem ztl:tyO ar 171:=kz
theorem ztI:tyO ar 200:=kz
theorem zqE:tyO ar 239:=kz
theorem zti:tyO ar 252:=kz
theorem ztJ:tyO ar 286:=kz
def D.zfE (c0:(Unit→T Unit)) (a0:Int):T Unit:=(c0 ())
theorem zhP (hF:kH F w0)
    {c0f:FuncId} {c0_1 c0_2:List Value} {c0:(Unit→T Unit)} {c0b:Nat} (c0F:F c0b) (c0h:w0.heap[c0b]?=some (.cells #[kf c0f c0_1 c0_2] 252 (0,0))) (c0n:FnT ar zpk unitE (n+1) F w0 (kf c0f c0_1 c0_2) c0) (a0:Int) :
    Calls ar 294 #[.int .u64 a0,zp c0b] w0 (zpp ar zpk n (D.zfE c0 a0) F w0):=by
 refine kN Tryz.func294 rfl 6 rfl rfl fun fr r hB=>?_;have lc0b:=ah c0h
 refine wsr ?_;refine za7 (.cells (kq zpk) 133 (0,0)) r (fun R=>za6 zq4) rfl fun fr b1 w2 n3 r=>?_;obtain ⟨eb1,zw2,hb1,hB,zB⟩:=n3.all hB
 refine wn (wsr (kL (kf c0f c0_1 c0_2) r rfl (keep hB c0h) zti rfl rfl fun r=>?_));refine zbq r (c0n.at_.2 n (Nat.lt_succ_self n) () w2 (Same.below hB hF) hB.size) (fun R hc=>zfR r rfl c0n.at_.1 hc) rfl ?_
 rintro _ w4 ⟨v5,rfl,hb,hr6⟩;refine ⟨_,rfl,fun fr r=>?_⟩
 have zw4:=hb.size;have hb1:=keep hb hb1;obtain ⟨hB,zB⟩:=bon hb hB;refine kP r hr6.shape rfl rfl hb1 zq1 rfl rfl fun w7 u8 r=>?_;have zw7:=u8.size
 have hb1:=u8.at_;obtain ⟨hB,zB⟩:=u8.on hB kw
 refine wn (ac ?_);have hs:=hr6.shape.cells;refine za5 r rfl rfl hb1 (k:=6) hs.1 zq0 ?_;rw [←hs.2.2];exact zpp.fin hB hr6 u8 (fun b hb=>.inl hb) (fun h=>by have:=hF _ h; omega) kw kw kw
def D.zdU (a0:Int) (a1:Int) (a2:(Unit→T Unit)):T Unit:=(D.ziY (⟨1,a0,a1,0⟩:Access) (fun x=>(D.zfE a2 x)))
theorem zfF (hF:kH F w0)
    (a0:Int) (a1:Int) {a2f:FuncId} {aV aW:List Value} {a2:(Unit→T Unit)} (a2n:FnT ar zpk unitE (n) F w0 (kf a2f aV aW) a2) :
    Calls ar 202 #[.int .i64 a0,.int .u64 a1,kf a2f aV aW] w0 (zpp ar zpk n (D.zdU a0 a1 a2) F w0):=by
 refine kN Tryz.func202 rfl 12 rfl rfl fun fr r hB=>?_;refine wsr ?_
 refine kX 252 (kf a2f aV aW) r rfl rfl fun b1 w2 n3 r=>?_;obtain ⟨eb1,zw2,hb1,hB,zB⟩:=n3.all hB
 refine za7 (.cells (kq zpk) 133 (0,0)) r (fun R=>za6 zq4) rfl fun fr b4 w5 n6 r=>?_;have hb1:=keep n6.below hb1
 obtain ⟨eb4,zw5,hb4,hB,zB⟩:=n6.all hB;refine wn (wsr (kM (I a0) r rfl rfl fun r=>kM (U a1) r rfl rfl fun r=>kU (aq (zpu (⟨1,a0,a1,0⟩:Access))) r kz rfl fun r=>za0 (.func (.func 294) #[] #[zp b1]) r (fun R=>zaf r rfl) rfl fun fr r=>?_));have hF1:=zpz hF hB b4
 have f7:((kW F w0 w5 b4)) b1:=(.inr ⟨kw,kw,kw⟩)
 refine kD r (zhE (F:=(kW F w0 w5 b4)) (n:=n) hF1 (⟨1,a0,a1,0⟩:Access) ⟨294,[],[zp b1],zsW,rfl,fun m hm x w' hs hz=>zhP (fun b hb=>ai (hF1 b hb) hz) f7 (hs.at_ f7 hb1) (a2n.mono kw (fun b h=>.inl h) ((Same.below hB hF).trans (hs.sub (fun b h=>.inl h))) (Nat.le_trans hB.size hz)) x⟩) rfl zs1 rfl fun w8 v9 hb hr10 r=>?_;have zw8:=hb.size
 have hb1:=keep hb hb1;have hb4:=keep hb hb4;obtain ⟨hB,zB⟩:=bon hb hB;refine kP r hr10.shape rfl rfl hb4 zq1 rfl rfl fun w11 u12 r=>?_;have zw11:=u12.size
 have hb1:=u12.keep hb1 kw
 have hb4:=u12.at_;obtain ⟨hB,zB⟩:=u12.on hB kw
 exact wn (ac (kR r hr10 rfl rfl hb4 rfl zq0 hF hB u12 kw kw kw))
def D.zkt :T Unit:=D.zen
theorem zlc (hF:kH F w0)
     :
    Calls ar 291 #[] w0 (zpp ar zpk n D.zkt F w0):=by
 refine kN Tryz.func291 rfl 3 rfl rfl fun fr r hB=>?_;refine wsr ?_
 refine za7 (.cells (kq zpk) 133 (0,0)) r (fun R=>za6 zq4) rfl fun fr b1 w2 n3 r=>?_;obtain ⟨eb1,zw2,hb1,hB,zB⟩:=n3.all hB
 refine wn (wsr (kU (.agg #[]) r kz rfl fun r=>?_));have hF1:=zpz hF hB b1
 refine kD r (zgg (F:=(kW F w0 w2 b1)) (n:=n) hF1 ) rfl zsu rfl fun w4 v5 hb hr6 r=>?_;have zw4:=hb.size
 have hb1:=keep hb hb1;obtain ⟨hB,zB⟩:=bon hb hB;refine kP r hr6.shape rfl rfl hb1 zq1 rfl rfl fun w7 u8 r=>?_;have zw7:=u8.size
 have hb1:=u8.at_;obtain ⟨hB,zB⟩:=u8.on hB kw
 exact wn (ac (kR r hr6 rfl rfl hb1 rfl zq0 hF hB u8 kw kw kw))
def D.zij (a0:Int) (a1:Int):T Unit:=(D.zdU a0 a1 (fun _=>D.zkt))
theorem zku (hF:kH F w0)
    (a0:Int) (a1:Int) :
    Calls ar 200 #[.int .i64 a0,.int .u64 a1] w0 (zpp ar zpk n (D.zij a0 a1) F w0):=by
 refine kN Tryz.func200 rfl 8 rfl rfl fun fr r hB=>?_;refine wsr ?_
 refine za7 (.cells (kq zpk) 133 (0,0)) r (fun R=>za6 zq4) rfl fun fr b1 w2 n3 r=>?_;obtain ⟨eb1,zw2,hb1,hB,zB⟩:=n3.all hB
 refine wn (wsr (kM (I a0) r rfl rfl fun r=>kM (U a1) r rfl rfl fun r=>?_));have hF1:=zpz hF hB b1
 refine kD r (zfF (F:=(kW F w0 w2 b1)) (n:=n) hF1 a0 a1 ⟨291,[],[],ztC,rfl,fun m hm _ w' hs hz=>zlc (fun b hb=>ai (hF1 b hb) hz) ⟩) rfl zsa rfl fun w4 v5 hb hr6 r=>?_;have zw4:=hb.size
 have hb1:=keep hb hb1;obtain ⟨hB,zB⟩:=bon hb hB;refine kP r hr6.shape rfl rfl hb1 zq1 rfl rfl fun w7 u8 r=>?_;have zw7:=u8.size
 have hb1:=u8.at_;obtain ⟨hB,zB⟩:=u8.on hB kw
 exact wn (ac (kR r hr6 rfl rfl hb1 rfl zq0 hF hB u8 kw kw kw))
def D.zc5 (a0:Int) (a1:(Int→T Res)):T Res:=(D.zgb (⟨0,a0,0,0⟩:Access) a1)
def D.zgX (c0:(Bool→T Res)) (c1:Int) (a0:Int):T Res:=(c0 (a0==c1))
def D.zd3 (a0:Int) (a1:Int) (a2:Int) (a3:(Bool→T Res)):T Res:=(D.zgb (⟨2,a0,a1,a2⟩:Access) (fun x=>(D.zgX a3 a1 x)))
def D.zge (c0:(Unit→T Res)) (a0:Int):T Res:=(c0 ())
def D.zby (a0:Int) (a1:Int) (a2:(Unit→T Res)):T Res:=(D.zgb (⟨1,a0,a1,0⟩:Access) (fun x=>(D.zge a2 x)))
def D.zb2 (a0:Int) (a1:(Int→T Int)):T Int:=(D.zg4 (⟨0,a0,0,0⟩:Access) a1)
theorem zbz (hF:kH F w0)
    (a0:Int) {a1f:FuncId} {aG aH:List Value} {a1:(Int→T Int)} (a1n:FnT ar zpl u64 (n) F w0 (kf a1f aG aH) a1) :
    Calls ar 186 #[.int .i64 a0,kf a1f aG aH] w0 (zpp ar zpl n (D.zb2 a0 a1) F w0):=by
 refine kN Tryz.func186 rfl 9 rfl rfl fun fr r hB=>?_;refine wsr ?_
 refine za7 (.cells (kq zpl) 119 (0,0)) r (fun R=>za6 zpQ) rfl fun fr b1 w2 n3 r=>?_;obtain ⟨eb1,zw2,hb1,hB,zB⟩:=n3.all hB
 refine wn (wsr (kM (I a0) r rfl rfl fun r=>kU (aq (zpu (⟨0,a0,0,0⟩:Access))) r kz rfl fun r=>kM (kf a1f aG aH) r rfl rfl fun r=>?_));have hF1:=zpz hF hB b1
 refine kD r (ze4 (F:=(kW F w0 w2 b1)) (n:=n) hF1 (⟨0,a0,0,0⟩:Access) (a1n.mono kw (fun b h=>.inl h) (Same.below hB hF) hB.size)) rfl zqF rfl fun w4 v5 hb hr6 r=>?_;have zw4:=hb.size
 have hb1:=keep hb hb1;obtain ⟨hB,zB⟩:=bon hb hB;refine kP r hr6.shape rfl rfl hb1 zpN rfl rfl fun w7 u8 r=>?_;have zw7:=u8.size
 have hb1:=u8.at_;obtain ⟨hB,zB⟩:=u8.on hB kw
 exact wn (ac (kR r hr6 rfl rfl hb1 rfl zpM hF hB u8 kw kw kw))
def D.zcj (c0:(Bool→T Int)) (c1:Int) (a0:Int):T Int:=(c0 (a0==c1))
theorem ziQ (hF:kH F w0)
    {c0f:FuncId} {c0_1 c0_2:List Value} {c0:(Bool→T Int)} {c0b:Nat} (c0F:F c0b) (c0h:w0.heap[c0b]?=some (.cells #[kf c0f c0_1 c0_2] 290 (0,0))) (c0n:FnT ar zpl boolE (n+1) F w0 (kf c0f c0_1 c0_2) c0) (c1:Int) {c1b:Nat} (c1F:F c1b) (c1h:w0.heap[c1b]?=some (.cells ([(.int .u64 c1)]).toArray 34 (0,0))) (a0:Int) :
    Calls ar 345 #[.int .u64 a0,zp c0b,zp c1b] w0 (zpp ar zpl n (D.zcj c0 c1 a0) F w0):=by
 refine kN Tryz.func345 rfl 10 rfl rfl fun fr r hB=>?_;have lc0b:=ah c0h
 have lc1b:=ah c1h;refine wsr ?_;refine za7 (.cells (kq zpl) 119 (0,0)) r (fun R=>za6 zpQ) rfl fun fr b1 w2 n3 r=>?_;obtain ⟨eb1,zw2,hb1,hB,zB⟩:=n3.all hB
 refine wn (wsr (kL (kf c0f c0_1 c0_2) r rfl (keep hB c0h) zr8 rfl rfl fun r=>kM (U a0) r rfl rfl fun r=>kL (U c1) r rfl (keep hB c1h) to34 rfl rfl fun r=>kB r rfl rfl rfl rfl rfl fun r=>?_));refine zbq r (c0n.at_.2 n (Nat.lt_succ_self n) (a0==c1) w2 (Same.below hB hF) hB.size) (fun R hc=>zca r rfl rfl c0n.at_.1 hc) rfl ?_
 rintro _ w4 ⟨v5,rfl,hb,hr6⟩;refine ⟨_,rfl,fun fr r=>?_⟩
 have zw4:=hb.size;have hb1:=keep hb hb1;obtain ⟨hB,zB⟩:=bon hb hB;refine kP r hr6.shape rfl rfl hb1 zpN rfl rfl fun w7 u8 r=>?_;have zw7:=u8.size
 have hb1:=u8.at_;obtain ⟨hB,zB⟩:=u8.on hB kw
 refine wn (ac ?_);have hs:=hr6.shape.cells;refine za5 r rfl rfl hb1 (k:=7) hs.1 zpM ?_;rw [←hs.2.2];exact zpp.fin hB hr6 u8 (fun b hb=>.inl hb) (fun h=>by have:=hF _ h; omega) kw kw kw
def D.zfV (a0:Int) (a1:Int) (a2:Int) (a3:(Bool→T Int)):T Int:=(D.zg4 (⟨2,a0,a1,a2⟩:Access) (fun x=>(D.zcj a3 a1 x)))
theorem zgQ (hF:kH F w0)
    (a0:Int) (a1:Int) (a2:Int) {a3f:FuncId} {aQ aR:List Value} {a3:(Bool→T Int)} (a3n:FnT ar zpl boolE (n) F w0 (kf a3f aQ aR) a3) :
    Calls ar 278 #[.int .i64 a0,.int .u64 a1,.int .u64 a2,kf a3f aQ aR] w0 (zpp ar zpl n (D.zfV a0 a1 a2 a3) F w0):=by
 refine kN Tryz.func278 rfl 15 rfl rfl fun fr r hB=>?_;refine wsr ?_
 refine kX 34 (U a1) r rfl rfl fun b1 w2 n3 r=>?_;obtain ⟨eb1,zw2,hb1,hB,zB⟩:=n3.all hB
 refine kX 290 (kf a3f aQ aR) r rfl rfl fun b4 w5 n6 r=>?_;have hb1:=keep n6.below hb1
 obtain ⟨eb4,zw5,hb4,hB,zB⟩:=n6.all hB;refine za7 (.cells (kq zpl) 119 (0,0)) r (fun R=>za6 zpQ) rfl fun fr b7 w8 n9 r=>?_;have hb1:=keep n9.below hb1
 have hb4:=keep n9.below hb4;obtain ⟨eb7,zw8,hb7,hB,zB⟩:=n9.all hB;refine wn (wsr (kM (I a0) r rfl rfl fun r=>kL (U a1) r rfl hb1 to34 rfl rfl fun r=>kM (U a2) r rfl rfl fun r=>kU (aq (zpu (⟨2,a0,a1,a2⟩:Access))) r kz rfl fun r=>za0 (.func (.func 345) #[] #[zp b4,zp b1]) r (fun R=>zaf r rfl) rfl fun fr r=>?_));have hF1:=zpz hF hB b7
 have f10:((kW F w0 w8 b7)) b4:=(.inr ⟨kw,kw,kw⟩)
 have f11:((kW F w0 w8 b7)) b1:=(.inr ⟨kw,kw,kw⟩)
 refine kD r (ze4 (F:=(kW F w0 w8 b7)) (n:=n) hF1 (⟨2,a0,a1,a2⟩:Access) ⟨345,[],[zp b4,zp b1],zux,rfl,fun m hm x w' hs hz=>ziQ (fun b hb=>ai (hF1 b hb) hz) f10 (hs.at_ f10 hb4) (a3n.mono kw (fun b h=>.inl h) ((Same.below hB hF).trans (hs.sub (fun b h=>.inl h))) (Nat.le_trans hB.size hz)) a1 f11 (hs.at_ f11 hb1) x⟩) rfl zqF rfl fun w12 v13 hb hr14 r=>?_;have zw12:=hb.size
 have hb1:=keep hb hb1;have hb4:=keep hb hb4;have hb7:=keep hb hb7;obtain ⟨hB,zB⟩:=bon hb hB;refine kP r hr14.shape rfl rfl hb7 zpN rfl rfl fun w15 u16 r=>?_;have zw15:=u16.size
 have hb1:=u16.keep hb1 kw
 have hb4:=u16.keep hb4 kw
 have hb7:=u16.at_;obtain ⟨hB,zB⟩:=u16.on hB kw
 exact wn (ac (kR r hr14 rfl rfl hb7 rfl zpM hF hB u16 kw kw kw))
def D.zf1 (a0:Int) (a1:(Int→T Grant)):T Grant:=(D.zg7 (⟨0,a0,0,0⟩:Access) a1)
theorem zis (hF:kH F w0)
    (a0:Int) {a1f:FuncId} {aG aH:List Value} {a1:(Int→T Grant)} (a1n:FnT ar zpt u64 (n) F w0 (kf a1f aG aH) a1) :
    Calls ar 269 #[.int .i64 a0,kf a1f aG aH] w0 (zpp ar zpt n (D.zf1 a0 a1) F w0):=by
 refine kN Tryz.func269 rfl 9 rfl rfl fun fr r hB=>?_;refine wsr ?_
 refine za7 (.cells (kq zpt) 116 (0,0)) r (fun R=>za6 zq8) rfl fun fr b1 w2 n3 r=>?_;obtain ⟨eb1,zw2,hb1,hB,zB⟩:=n3.all hB
 refine wn (wsr (kM (I a0) r rfl rfl fun r=>kU (aq (zpu (⟨0,a0,0,0⟩:Access))) r kz rfl fun r=>kM (kf a1f aG aH) r rfl rfl fun r=>?_));have hF1:=zpz hF hB b1
 refine kD r (zeX (F:=(kW F w0 w2 b1)) (n:=n) hF1 (⟨0,a0,0,0⟩:Access) (a1n.mono kw (fun b h=>.inl h) (Same.below hB hF) hB.size)) rfl zrC rfl fun w4 v5 hb hr6 r=>?_;have zw4:=hb.size
 have hb1:=keep hb hb1;obtain ⟨hB,zB⟩:=bon hb hB;refine kP r hr6.shape rfl rfl hb1 zq6 rfl rfl fun w7 u8 r=>?_;have zw7:=u8.size
 have hb1:=u8.at_;obtain ⟨hB,zB⟩:=u8.on hB kw
 exact wn (ac (kR r hr6 rfl rfl hb1 rfl zq7 hF hB u8 kw kw kw))
def D.zfi (c0:(Unit→T Grant)) (a0:Int):T Grant:=(c0 ())
theorem zhv (hF:kH F w0)
    {c0f:FuncId} {c0_1 c0_2:List Value} {c0:(Unit→T Grant)} {c0b:Nat} (c0F:F c0b) (c0h:w0.heap[c0b]?=some (.cells #[kf c0f c0_1 c0_2] 286 (0,0))) (c0n:FnT ar zpt unitE (n+1) F w0 (kf c0f c0_1 c0_2) c0) (a0:Int) :
    Calls ar 344 #[.int .u64 a0,zp c0b] w0 (zpp ar zpt n (D.zfi c0 a0) F w0):=by
 refine kN Tryz.func344 rfl 6 rfl rfl fun fr r hB=>?_;have lc0b:=ah c0h
 refine wsr ?_;refine za7 (.cells (kq zpt) 116 (0,0)) r (fun R=>za6 zq8) rfl fun fr b1 w2 n3 r=>?_;obtain ⟨eb1,zw2,hb1,hB,zB⟩:=n3.all hB
 refine wn (wsr (kL (kf c0f c0_1 c0_2) r rfl (keep hB c0h) ztJ rfl rfl fun r=>?_));refine zbq r (c0n.at_.2 n (Nat.lt_succ_self n) () w2 (Same.below hB hF) hB.size) (fun R hc=>zfR r rfl c0n.at_.1 hc) rfl ?_
 rintro _ w4 ⟨v5,rfl,hb,hr6⟩;refine ⟨_,rfl,fun fr r=>?_⟩
 have zw4:=hb.size;have hb1:=keep hb hb1;obtain ⟨hB,zB⟩:=bon hb hB;refine kP r hr6.shape rfl rfl hb1 zq6 rfl rfl fun w7 u8 r=>?_;have zw7:=u8.size
 have hb1:=u8.at_;obtain ⟨hB,zB⟩:=u8.on hB kw
 refine wn (ac ?_);have hs:=hr6.shape.cells;refine za5 r rfl rfl hb1 (k:=9) hs.1 zq7 ?_;rw [←hs.2.2];exact zpp.fin hB hr6 u8 (fun b hb=>.inl hb) (fun h=>by have:=hF _ h; omega) kw kw kw
def D.zeG (a0:Int) (a1:Int) (a2:(Unit→T Grant)):T Grant:=(D.zg7 (⟨1,a0,a1,0⟩:Access) (fun x=>(D.zfi a2 x)))
theorem zii (hF:kH F w0)
    (a0:Int) (a1:Int) {a2f:FuncId} {aV aW:List Value} {a2:(Unit→T Grant)} (a2n:FnT ar zpt unitE (n) F w0 (kf a2f aV aW) a2) :
    Calls ar 271 #[.int .i64 a0,.int .u64 a1,kf a2f aV aW] w0 (zpp ar zpt n (D.zeG a0 a1 a2) F w0):=by
 refine kN Tryz.func271 rfl 12 rfl rfl fun fr r hB=>?_;refine wsr ?_
 refine kX 286 (kf a2f aV aW) r rfl rfl fun b1 w2 n3 r=>?_;obtain ⟨eb1,zw2,hb1,hB,zB⟩:=n3.all hB
 refine za7 (.cells (kq zpt) 116 (0,0)) r (fun R=>za6 zq8) rfl fun fr b4 w5 n6 r=>?_;have hb1:=keep n6.below hb1
 obtain ⟨eb4,zw5,hb4,hB,zB⟩:=n6.all hB;refine wn (wsr (kM (I a0) r rfl rfl fun r=>kM (U a1) r rfl rfl fun r=>kU (aq (zpu (⟨1,a0,a1,0⟩:Access))) r kz rfl fun r=>za0 (.func (.func 344) #[] #[zp b1]) r (fun R=>zaf r rfl) rfl fun fr r=>?_));have hF1:=zpz hF hB b4
 have f7:((kW F w0 w5 b4)) b1:=(.inr ⟨kw,kw,kw⟩)
 refine kD r (zeX (F:=(kW F w0 w5 b4)) (n:=n) hF1 (⟨1,a0,a1,0⟩:Access) ⟨344,[],[zp b1],ztx,rfl,fun m hm x w' hs hz=>zhv (fun b hb=>ai (hF1 b hb) hz) f7 (hs.at_ f7 hb1) (a2n.mono kw (fun b h=>.inl h) ((Same.below hB hF).trans (hs.sub (fun b h=>.inl h))) (Nat.le_trans hB.size hz)) x⟩) rfl zrC rfl fun w8 v9 hb hr10 r=>?_;have zw8:=hb.size
 have hb1:=keep hb hb1;have hb4:=keep hb hb4;obtain ⟨hB,zB⟩:=bon hb hB;refine kP r hr10.shape rfl rfl hb4 zq6 rfl rfl fun w11 u12 r=>?_;have zw11:=u12.size
 have hb1:=u12.keep hb1 kw
 have hb4:=u12.at_;obtain ⟨hB,zB⟩:=u12.on hB kw
 exact wn (ac (kR r hr10 rfl rfl hb4 rfl zq7 hF hB u12 kw kw kw))
def D.zfp (a0:Int) (a1:(Int→T Bool)):T Bool:=(D.ziR (⟨0,a0,0,0⟩:Access) a1)
theorem zjd (hF:kH F w0)
    (a0:Int) {a1f:FuncId} {aG aH:List Value} {a1:(Int→T Bool)} (a1n:FnT ar zpH u64 (n) F w0 (kf a1f aG aH) a1) :
    Calls ar 396 #[.int .i64 a0,kf a1f aG aH] w0 (zpp ar zpH n (D.zfp a0 a1) F w0):=by
 refine kN Tryz.func396 rfl 9 rfl rfl fun fr r hB=>?_;refine wsr ?_
 refine za7 (.cells (kq zpH) 318 (0,0)) r (fun R=>za6 zqx) rfl fun fr b1 w2 n3 r=>?_;obtain ⟨eb1,zw2,hb1,hB,zB⟩:=n3.all hB
 refine wn (wsr (kM (I a0) r rfl rfl fun r=>kU (aq (zpu (⟨0,a0,0,0⟩:Access))) r kz rfl fun r=>kM (kf a1f aG aH) r rfl rfl fun r=>?_));have hF1:=zpz hF hB b1
 refine kD r (zkd (F:=(kW F w0 w2 b1)) (n:=n) hF1 (⟨0,a0,0,0⟩:Access) (a1n.mono kw (fun b h=>.inl h) (Same.below hB hF) hB.size)) rfl zt4 rfl fun w4 v5 hb hr6 r=>?_;have zw4:=hb.size
 have hb1:=keep hb hb1;obtain ⟨hB,zB⟩:=bon hb hB;refine kP r hr6.shape rfl rfl hb1 zqm rfl rfl fun w7 u8 r=>?_;have zw7:=u8.size
 have hb1:=u8.at_;obtain ⟨hB,zB⟩:=u8.on hB kw
 exact wn (ac (kR r hr6 rfl rfl hb1 rfl zql hF hB u8 kw kw kw))
def D.zdr (c0:(Unit→T Int)) (a0:Int):T Int:=(c0 ())
theorem zhW (hF:kH F w0)
    {c0f:FuncId} {c0_1 c0_2:List Value} {c0:(Unit→T Int)} {c0b:Nat} (c0F:F c0b) (c0h:w0.heap[c0b]?=some (.cells #[kf c0f c0_1 c0_2] 239 (0,0))) (c0n:FnT ar zpl unitE (n+1) F w0 (kf c0f c0_1 c0_2) c0) (a0:Int) :
    Calls ar 284 #[.int .u64 a0,zp c0b] w0 (zpp ar zpl n (D.zdr c0 a0) F w0):=by
 refine kN Tryz.func284 rfl 6 rfl rfl fun fr r hB=>?_;have lc0b:=ah c0h
 refine wsr ?_;refine za7 (.cells (kq zpl) 119 (0,0)) r (fun R=>za6 zpQ) rfl fun fr b1 w2 n3 r=>?_;obtain ⟨eb1,zw2,hb1,hB,zB⟩:=n3.all hB
 refine wn (wsr (kL (kf c0f c0_1 c0_2) r rfl (keep hB c0h) zqE rfl rfl fun r=>?_));refine zbq r (c0n.at_.2 n (Nat.lt_succ_self n) () w2 (Same.below hB hF) hB.size) (fun R hc=>zfR r rfl c0n.at_.1 hc) rfl ?_
 rintro _ w4 ⟨v5,rfl,hb,hr6⟩;refine ⟨_,rfl,fun fr r=>?_⟩
 have zw4:=hb.size;have hb1:=keep hb hb1;obtain ⟨hB,zB⟩:=bon hb hB;refine kP r hr6.shape rfl rfl hb1 zpN rfl rfl fun w7 u8 r=>?_;have zw7:=u8.size
 have hb1:=u8.at_;obtain ⟨hB,zB⟩:=u8.on hB kw
 refine wn (ac ?_);have hs:=hr6.shape.cells;refine za5 r rfl rfl hb1 (k:=7) hs.1 zpM ?_;rw [←hs.2.2];exact zpp.fin hB hr6 u8 (fun b hb=>.inl hb) (fun h=>by have:=hF _ h; omega) kw kw kw
def D.zb5 (a0:Int) (a1:Int) (a2:(Unit→T Int)):T Int:=(D.zg4 (⟨1,a0,a1,0⟩:Access) (fun x=>(D.zdr a2 x)))
theorem zbB (hF:kH F w0)
    (a0:Int) (a1:Int) {a2f:FuncId} {aV aW:List Value} {a2:(Unit→T Int)} (a2n:FnT ar zpl unitE (n) F w0 (kf a2f aV aW) a2) :
    Calls ar 188 #[.int .i64 a0,.int .u64 a1,kf a2f aV aW] w0 (zpp ar zpl n (D.zb5 a0 a1 a2) F w0):=by
 refine kN Tryz.func188 rfl 12 rfl rfl fun fr r hB=>?_;refine wsr ?_
 refine kX 239 (kf a2f aV aW) r rfl rfl fun b1 w2 n3 r=>?_;obtain ⟨eb1,zw2,hb1,hB,zB⟩:=n3.all hB
 refine za7 (.cells (kq zpl) 119 (0,0)) r (fun R=>za6 zpQ) rfl fun fr b4 w5 n6 r=>?_;have hb1:=keep n6.below hb1
 obtain ⟨eb4,zw5,hb4,hB,zB⟩:=n6.all hB;refine wn (wsr (kM (I a0) r rfl rfl fun r=>kM (U a1) r rfl rfl fun r=>kU (aq (zpu (⟨1,a0,a1,0⟩:Access))) r kz rfl fun r=>za0 (.func (.func 284) #[] #[zp b1]) r (fun R=>zaf r rfl) rfl fun fr r=>?_));have hF1:=zpz hF hB b4
 have f7:((kW F w0 w5 b4)) b1:=(.inr ⟨kw,kw,kw⟩)
 refine kD r (ze4 (F:=(kW F w0 w5 b4)) (n:=n) hF1 (⟨1,a0,a1,0⟩:Access) ⟨284,[],[zp b1],zuM,rfl,fun m hm x w' hs hz=>zhW (fun b hb=>ai (hF1 b hb) hz) f7 (hs.at_ f7 hb1) (a2n.mono kw (fun b h=>.inl h) ((Same.below hB hF).trans (hs.sub (fun b h=>.inl h))) (Nat.le_trans hB.size hz)) x⟩) rfl zqF rfl fun w8 v9 hb hr10 r=>?_;have zw8:=hb.size
 have hb1:=keep hb hb1;have hb4:=keep hb hb4;obtain ⟨hB,zB⟩:=bon hb hB;refine kP r hr10.shape rfl rfl hb4 zpN rfl rfl fun w11 u12 r=>?_;have zw11:=u12.size
 have hb1:=u12.keep hb1 kw
 have hb4:=u12.at_;obtain ⟨hB,zB⟩:=u12.on hB kw
 exact wn (ac (kR r hr10 rfl rfl hb4 rfl zpM hF hB u12 kw kw kw))
def D.zdu (a0:Int) (a1:(Int→T Int)):T Int:=(D.zhC (⟨0,a0,0,0⟩:Access) a1)
theorem zfj (hF:kH F w0)
    (a0:Int) {a1f:FuncId} {aG aH:List Value} {a1:(Int→T Int)} (a1n:FnT ar zpy u64 (n) F w0 (kf a1f aG aH) a1) :
    Calls ar 313 #[.int .i64 a0,kf a1f aG aH] w0 (zpp ar zpy n (D.zdu a0 a1) F w0):=by
 refine kN Tryz.func313 rfl 9 rfl rfl fun fr r hB=>?_;refine wsr ?_
 refine za7 (.cells (kq zpy) 271 (0,0)) r (fun R=>za6 zqe) rfl fun fr b1 w2 n3 r=>?_;obtain ⟨eb1,zw2,hb1,hB,zB⟩:=n3.all hB
 refine wn (wsr (kM (I a0) r rfl rfl fun r=>kU (aq (zpu (⟨0,a0,0,0⟩:Access))) r kz rfl fun r=>kM (kf a1f aG aH) r rfl rfl fun r=>?_));have hF1:=zpz hF hB b1
 refine kD r (zgh (F:=(kW F w0 w2 b1)) (n:=n) hF1 (⟨0,a0,0,0⟩:Access) (a1n.mono kw (fun b h=>.inl h) (Same.below hB hF) hB.size)) rfl zsj rfl fun w4 v5 hb hr6 r=>?_;have zw4:=hb.size
 have hb1:=keep hb hb1;obtain ⟨hB,zB⟩:=bon hb hB;refine kP r hr6.shape rfl rfl hb1 zqc rfl rfl fun w7 u8 r=>?_;have zw7:=u8.size
 have hb1:=u8.at_;obtain ⟨hB,zB⟩:=u8.on hB kw
 exact wn (ac (kR r hr6 rfl rfl hb1 rfl zqa hF hB u8 kw kw kw))
end
section
variable {n : Nat} {F : Nat → Prop} {j : Nat} {w0 : World}
theorem zrS:zpf ar 116:=kz
theorem zrd:zpf ar 182:=kz
theorem zqh:zpf ar 186:=kz
theorem zqn:zpf ar 188:=kz
theorem zrw:zpf ar 190:=kz
theorem zqy:zpf ar 191:=kz
theorem zqI:zpf ar 192:=kz
theorem zqY:zpf ar 193:=kz
theorem zrL:zpf ar 200:=kz
theorem zru:zpf ar 201:=kz
theorem zty:zpf ar 203:=kz
theorem zqf:zpf ar 222:=kz
theorem zsK:zpf ar 276:=kz
theorem zsS:zpf ar 277:=kz
theorem zrP:zpf ar 278:=kz
theorem zsm:zpf ar 279:=kz
theorem zuR:zpf ar 280:=kz
theorem zqS:zpf ar 296:=kz
theorem zsz:zpf ar 310:=kz
theorem zs0:zpf ar 346:=kz
theorem zsY:zpf ar 355:=kz
theorem ztb:zpf ar 356:=kz
theorem ztK:zpf ar 357:=kz
theorem ti3:intTy ar 3 .i64:=kz
theorem ti34:intTy ar 34 .u64:=kz
theorem zqt:sized ar 241 2:=kz
theorem zqs:zeroOf ar 241=some (aq (zpr (⟨0,0⟩:Field))):=kz
theorem tz3:zeroOf ar 3=some (.int .i64 0):=kz
def D.zbE (a0:Int):Int:=(IntKind.u64.wrap (IntKind.i64.wrap (a0+1)))
theorem zhN (w0:World) 
    (a0:Int) :
    Calls ar 201 #[.int .i64 a0] w0 (zpx (.int .u64 (D.zbE a0)) w0):=by
 refine kN Tryz.func201 rfl 6 rfl rfl fun fr r hB=>?_;refine wsr (kA (U 0) r rfl rfl fun r=>wn (wsr (kM (I a0) r rfl rfl fun r=>kB r rfl rfl rfl rfl rfl fun r=>za0 (U (V (W (a0+1)))) r (fun R=>zb9 r rfl ti3 ti34) rfl fun fr r=>kA (U (V (W (a0+1)))) r rfl rfl fun r=>wn (ac ?_))))
 refine zaH r rfl rfl ?_;exact ⟨rfl,hB⟩
def D.zgZ (aJ:Plan→Int→T Unit) (c0:Plan) (c1:Int):T Unit:=(aJ c0 (IntKind.i64.wrap (c1+1)))
def D.zbM (aJ:Plan→Int→T Unit) (a0:Plan) (a1:Int):T Unit:=(bif (a1==a0.nodes) then (D.zij (D.zaX a0) (D.zbE 0)) else (let x19:Int:=(bif ((IntKind.i64.wrap (a1+1))==a0.nodes) then 0 else (D.zbE (IntKind.i64.wrap (a1+1)))); (D.zdU (D.zaZ a0 a1) x19 (fun _=>(D.zgZ aJ a0 a1)))))
def D.zdd:Nat→Plan→Int→T Unit
 | 0,_,_=>.cut
 | k+1,a0,a1=>D.zbM (D.zdd k) a0 a1
def zeW (r:Plan→Int→T Unit) (n:Nat):Prop:=∀ (F:Nat→Prop) (w0:World),(∀ b,F b→b<w0.heap.size)→∀ (a0:Plan) (a1:Int),Calls ar 116 #[aq (zpg a0),.int .i64 a1] w0 (zpp ar zpk n (r a0 a1) F w0)
theorem zke {aJ:Plan→Int→T Unit} (hF:kH F w0) (aU:∀ m,m≤n→zeW aJ m)
    (c0:Plan) {c0b:Nat} (c0F:F c0b) (c0h:w0.heap[c0b]?=some (.cells ((zpg c0)).toArray 23 (0,0))) (c1:Int) {c1b:Nat} (c1F:F c1b) (c1h:w0.heap[c1b]?=some (.cells ([(.int .i64 c1)]).toArray 3 (0,0))) :
    Calls ar 203 #[zp c0b,zp c1b] w0 (zpp ar zpk n (D.zgZ aJ c0 c1) F w0):=by
 refine kN Tryz.func203 rfl 7 rfl rfl fun fr r hB=>?_;have lc0b:=ah c0h
 have lc1b:=ah c1h;refine wsr ?_;refine za7 (.cells (kq zpk) 133 (0,0)) r (fun R=>za6 zq4) rfl fun fr b1 w2 n3 r=>?_;obtain ⟨E1,Z2,H1,hB,zB⟩:=n3.all hB
 refine wn (wsr (kG (zpg c0) 6 r rfl (keep hB c0h) ta23 rfl rfl fun r=>kL (I c1) r rfl (keep hB c1h) to3 rfl rfl fun r=>kB r rfl rfl rfl rfl rfl fun r=>?_));have hF1:=zpz hF hB b1
 refine kD r ((aU n kw) (kW F w0 w2 b1) _ hF1 c0 (W (c1+1))) rfl zrS rfl fun w4 v5 hb hr6 r=>?_;have Z4:=hb.size
 have H1:=keep hb H1;obtain ⟨hB,zB⟩:=bon hb hB;refine kP r hr6.shape rfl rfl H1 zq1 rfl rfl fun w7 u8 r=>?_;have Z7:=u8.size
 have H1:=u8.at_;obtain ⟨hB,zB⟩:=u8.on hB kw
 exact wn (ac (kR r hr6 rfl rfl H1 rfl zq0 hF hB u8 kw kw kw))
theorem zlz {n:Nat} {F:Nat→Prop} {aJ:Plan→Int→T Unit} {w0:World} (hF:∀ b,F b→b<w0.heap.size) (aU:∀ m,m<n→zeW aJ m)
    (a0:Plan) (a1:Int) :
    Calls ar 116 #[aq (zpg a0),.int .i64 a1] w0 (zpp ar zpk n (D.zbM aJ a0 a1) F w0):=by
 refine kN Tryz.func116 rfl 28 rfl rfl fun fr r hB=>?_;refine wsr ?_
 refine kX 23 (aq (zpg a0)) r rfl rfl fun b1 w2 n3 r=>?_;obtain ⟨E1,Z2,H1,hB,zB⟩:=n3.all hB
 refine kX 3 (I a1) r rfl rfl fun b4 w5 n6 r=>?_;have H1:=keep n6.below H1
 obtain ⟨E4,Z5,H4,hB,zB⟩:=n6.all hB;refine za7 (.cells (kq zpk) 133 (0,0)) r (fun R=>za6 zq4) rfl fun fr b7 w8 n9 r=>?_;have H1:=keep n9.below H1
 have H4:=keep n9.below H4;obtain ⟨E7,Z8,H7,hB,zB⟩:=n9.all hB;refine wn (aa (wsr (kL (I a1) r rfl H4 to3 rfl rfl fun r=>kF 0 r rfl ziV rfl fun r=>kL (I a0.nodes) r rfl H1 to3 rfl rfl fun r=>kB r rfl rfl rfl rfl rfl fun r=>wn ?_)));refine ae (t:=(a1==a0.nodes)) (r.ev rfl) (fun h10=>?_) (fun h10=>?_)
 ·
  refine wsr (kG (zpg a0) 6 r rfl H1 ta23 rfl rfl fun r=>?_);refine kE r (zcu w8 a0) rfl zqI rfl fun w11 hb r=>?_
  have Z11:=hb.size;have H1:=keep hb H1;have H4:=keep hb H4;have H7:=keep hb H7;obtain ⟨hB,zB⟩:=bon hb hB;refine kE r (zhN w11 0) rfl zru rfl fun w12 hb r=>?_;have Z12:=hb.size
  have H1:=keep hb H1;have H4:=keep hb H4;have H7:=keep hb H7;obtain ⟨hB,zB⟩:=bon hb hB;have hF1:=zpz hF hB b7;refine kD r (zku (F:=(kW F w0 w12 b7)) (n:=n) hF1 (D.zaX a0) (D.zbE 0)) rfl zrL rfl fun w13 v14 hb hr15 r=>?_;have Z13:=hb.size
  have H1:=keep hb H1;have H4:=keep hb H4;have H7:=keep hb H7;obtain ⟨hB,zB⟩:=bon hb hB;refine kP r hr15.shape rfl rfl H7 zq1 rfl rfl fun w16 u17 r=>?_;have Z16:=u17.size
  have H1:=u17.keep H1 kw
  have H4:=u17.keep H4 kw
  have H7:=u17.at_;obtain ⟨hB,zB⟩:=u17.on hB kw
  refine wn (ac ?_);have hd:D.zbM aJ a0 a1=(D.zij (D.zaX a0) (D.zbE 0)):=(zao h10).trans (rfl);have hs:=hr15.shape.cells;refine za5 r rfl rfl H7 (k:=6) hs.1 zq0 ?_;rw [←hs.2.2,hd];exact rfin hF hB hr15 u17 kw kw kw
 refine ag (wsr (kL (I a1) r rfl H4 to3 rfl rfl fun r=>kB r rfl rfl rfl rfl rfl fun r=>?_));refine kE r (zhN w8 (W (a1+1))) rfl zru rfl fun w18 hb r=>?_
 have Z18:=hb.size;have H1:=keep hb H1;have H4:=keep hb H4;have H7:=keep hb H7;obtain ⟨hB,zB⟩:=bon hb hB;refine kA (U (D.zbE (W (a1+1)))) r rfl rfl fun r=>wn (aa (wsr (kL (I a1) r rfl H4 to3 rfl rfl fun r=>kB r rfl rfl rfl rfl rfl fun r=>kF 0 r rfl ziV rfl fun r=>kL (I a0.nodes) r rfl H1 to3 rfl rfl fun r=>kB r rfl rfl rfl rfl rfl fun r=>wn ?_)));obtain ⟨x19,hx19⟩:∃ x:Int,x=(bif ((W (a1+1))==a0.nodes) then 0 else (D.zbE (W (a1+1)))):=⟨_,rfl⟩
 refine zoP (N:=28) [(0,(aq (zpg a0))),(1,(I a1)),(2,(zp b1)),(3,(zp b4)),(4,(zp b7)),(5,(U x19))] (fun w=>Below w0.heap.size w0 w∧w18.heap.size≤w.heap.size∧w.heap[b1]?=some (.cells ((zpg a0)).toArray 23 (0,0))∧w.heap[b4]?=some (.cells #[(I a1)] 3 (0,0))∧w.heap[b7]?=some (.cells (kq zpk) 133 (0,0))) ?_ ?_
 ·
  refine ae (t:=((W (a1+1))==a0.nodes)) (r.ev rfl) (fun h20=>?_) (fun h20=>?_)
  ·
   refine af (kA (U 0) r rfl rfl fun r=>wn ?_);exact ⟨rfl,_,r,(zaa rfl (zaa rfl (zaa rfl (zaa rfl (zaa rfl (zaa (by rw [hx19,zao h20]; rfl) zaC)))))),hB,kw,H1,H4,H7⟩
  refine ag ?_;exact ⟨rfl,_,r,(zaa rfl (zaa rfl (zaa rfl (zaa rfl (zaa rfl (zaa (by rw [hx19,zaq h20]; rfl) zaC)))))),hB,kw,H1,H4,H7⟩
 rintro fr w21 g r ⟨hB,Z21,H1,H4,H7⟩;have zB:=hB.size;refine wsr (kG (zpg a0) 6 r rfl H1 ta23 rfl rfl fun r=>kL (I a1) r rfl H4 to3 rfl rfl fun r=>?_);refine kE r (zdp w21 a0 a1) rfl zqY rfl fun w22 hb r=>?_
 have Z22:=hb.size;have H1:=keep hb H1;have H4:=keep hb H4;have H7:=keep hb H7;obtain ⟨hB,zB⟩:=bon hb hB;refine kM (U x19) r rfl rfl fun r=>za0 (.func (.func 203) #[] #[zp b1,zp b4]) r (fun R=>zaf r rfl) rfl fun fr r=>?_;have hF1:=zpz hF hB b7
 have f23:((kW F w0 w22 b7)) b1:=(.inr ⟨kw,kw,kw⟩)
 have f24:((kW F w0 w22 b7)) b4:=(.inr ⟨kw,kw,kw⟩)
 refine kD r (zfF (F:=(kW F w0 w22 b7)) (n:=n) hF1 (D.zaZ a0 a1) x19 ⟨203,[],[zp b1,zp b4],zty,rfl,fun m hm _ w' hs hz=>zke (fun b hb=>ai (hF1 b hb) hz) (fun m' hm'=>aU m' kw) a0 f23 (hs.at_ f23 H1) a1 f24 (hs.at_ f24 H4)⟩) rfl zsa rfl fun w25 v26 hb hr27 r=>?_;have Z25:=hb.size
 have H1:=keep hb H1;have H4:=keep hb H4;have H7:=keep hb H7;obtain ⟨hB,zB⟩:=bon hb hB;refine kP r hr27.shape rfl rfl H7 zq1 rfl rfl fun w28 u29 r=>?_;have Z28:=u29.size
 have H1:=u29.keep H1 kw
 have H4:=u29.keep H4 kw
 have H7:=u29.at_;obtain ⟨hB,zB⟩:=u29.on hB kw
 refine wn (ac ?_);have hd:D.zbM aJ a0 a1=(D.zdU (D.zaZ a0 a1) x19 (fun _=>(D.zgZ aJ a0 a1))):=by subst hx19; exact (zaq h10).trans (rfl)
 have hs:=hr27.shape.cells;refine za5 r rfl rfl H7 (k:=6) hs.1 zq0 ?_;rw [←hs.2.2,hd];exact rfin hF hB hr27 u29 kw kw kw
theorem zln {n:Nat} {k:Nat} (hk:n<k):zeW (D.zdd k) n:=by
 induction n using Nat.strongRecOn generalizing k with
 | _ n ih=>
  obtain ⟨k,rfl⟩:∃ q,k=q+1:=⟨k - 1,kw⟩
  intro F w0 hF;have h:=@zlz n F (D.zdd k) w0 hF (fun m hm=>ih m hm kw)
  exact h
def D.zel (j:Nat) (a0:Plan):T Unit:=(D.zdd j a0 0)
theorem zlg (hF:kH F w0) (hj:n<j)
    (a0:Plan) :
    Calls ar 62 #[aq (zpg a0)] w0 (zpp ar zpk n (D.zel j a0) F w0):=by
 refine kN Tryz.func62 rfl 5 rfl rfl fun fr r hB=>?_;refine wsr ?_
 refine kX 23 (aq (zpg a0)) r rfl rfl fun b1 w2 n3 r=>?_;obtain ⟨E1,Z2,H1,hB,zB⟩:=n3.all hB
 refine za7 (.cells (kq zpk) 133 (0,0)) r (fun R=>za6 zq4) rfl fun fr b4 w5 n6 r=>?_;have H1:=keep n6.below H1
 obtain ⟨E4,Z5,H4,hB,zB⟩:=n6.all hB;refine wn (wsr (kG (zpg a0) 6 r rfl H1 ta23 rfl rfl fun r=>?_));have hF1:=zpz hF hB b4
 refine kD r ((zln (k:=j) (n:=n) kw) (kW F w0 w5 b4) _ hF1 a0 0) rfl zrS rfl fun w7 v8 hb hr9 r=>?_;have Z7:=hb.size
 have H1:=keep hb H1;have H4:=keep hb H4;obtain ⟨hB,zB⟩:=bon hb hB;refine kP r hr9.shape rfl rfl H4 zq1 rfl rfl fun w10 u11 r=>?_;have Z10:=u11.size
 have H1:=u11.keep H1 kw
 have H4:=u11.at_;obtain ⟨hB,zB⟩:=u11.on hB kw
 exact wn (ac (kR r hr9 rfl rfl H4 rfl zq0 hF hB u11 kw kw kw))
def D.zaS :Field:=(⟨0,21⟩:Field)
theorem zhU (w0:World) 
     :
    Calls ar 190 #[] w0 (zpx (aq (zpr D.zaS)) w0):=by
 refine kN Tryz.func190 rfl 2 rfl rfl fun fr r hB=>?_;refine wsr ?_
 refine za7 (.cells ((zpr (⟨0,0⟩:Field))).toArray 241 (0,0)) r (fun R=>za6 zqs) rfl fun fr b1 w2 n3 r=>?_;obtain ⟨E1,Z2,H1,hB,zB⟩:=n3.all hB
 refine wn (wsr (kU (aq (zpr (⟨0,21⟩:Field))) r kz rfl fun r=>?_));refine zaD (.cells ((zpr (⟨0,21⟩:Field))).toArray 241 (0,0)) r (fun R=>zax r (o:=0) (v:=(aq (zpr (⟨0,21⟩:Field)))) rfl rfl H1 zqt ak rfl rfl) rfl fun fr w4 u5 r=>?_
 have Z4:=u5.size;have H1:=u5.at_;obtain ⟨hB,zB⟩:=u5.on hB kw
 refine wn (ac ?_);refine za5 r rfl rfl H1 (k:=2) rfl zq3 ?_;exact ⟨rfl,hB⟩
def D.zd8 :Field:=(⟨21,43⟩:Field)
theorem zks (w0:World) 
     :
    Calls ar 346 #[] w0 (zpx (aq (zpr D.zd8)) w0):=by
 refine kN Tryz.func346 rfl 2 rfl rfl fun fr r hB=>?_;refine wsr ?_
 refine za7 (.cells ((zpr (⟨0,0⟩:Field))).toArray 241 (0,0)) r (fun R=>za6 zqs) rfl fun fr b1 w2 n3 r=>?_;obtain ⟨E1,Z2,H1,hB,zB⟩:=n3.all hB
 refine wn (wsr (kU (aq (zpr (⟨21,43⟩:Field))) r kz rfl fun r=>?_));refine zaD (.cells ((zpr (⟨21,43⟩:Field))).toArray 241 (0,0)) r (fun R=>zax r (o:=0) (v:=(aq (zpr (⟨21,43⟩:Field)))) rfl rfl H1 zqt ak rfl rfl) rfl fun fr w4 u5 r=>?_
 have Z4:=u5.size;have H1:=u5.at_;obtain ⟨hB,zB⟩:=u5.on hB kw
 refine wn (ac ?_);refine za5 r rfl rfl H1 (k:=2) rfl zq3 ?_;exact ⟨rfl,hB⟩
def D.zcs (a0:Int) (a1:Int):Int:=(D.zaA D.zd8 (D.zaA D.zaS 0 a1) (IntKind.u64.wrap ((D.zad D.zd8 a0)+1)))
theorem zid (w0:World) 
    (a0:Int) (a1:Int) :
    Calls ar 279 #[.int .u64 a0,.int .u64 a1] w0 (zpx (.int .u64 (D.zcs a0 a1)) w0):=by
 refine kN Tryz.func279 rfl 14 rfl rfl fun fr r hB=>?_;refine wsr (kA (U 0) r rfl rfl fun r=>wn (wsr ?_))
 refine kE r (zks w0 ) rfl zs0 rfl fun w1 hb r=>?_;have Z1:=hb.size
 obtain ⟨hB,zB⟩:=bon hb hB;refine kE r (zhU w1 ) rfl zrw rfl fun w2 hb r=>?_;have Z2:=hb.size
 obtain ⟨hB,zB⟩:=bon hb hB;refine kM (U a1) r rfl rfl fun r=>?_;refine kE r (zei w2 D.zaS 0 a1) rfl zqS rfl fun w3 hb r=>?_
 have Z3:=hb.size;obtain ⟨hB,zB⟩:=bon hb hB;refine kE r (zks w3 ) rfl zs0 rfl fun w4 hb r=>?_;have Z4:=hb.size
 obtain ⟨hB,zB⟩:=bon hb hB;refine kM (U a0) r rfl rfl fun r=>?_;refine kE r (zd4 w4 D.zd8 a0) rfl zqy rfl fun w5 hb r=>?_
 have Z5:=hb.size;obtain ⟨hB,zB⟩:=bon hb hB;refine kB r rfl rfl rfl rfl rfl fun r=>?_;refine kE r (zei w5 D.zd8 (D.zaA D.zaS 0 a1) (V ((D.zad D.zd8 a0)+1))) rfl zqS rfl fun w6 hb r=>?_
 have Z6:=hb.size;obtain ⟨hB,zB⟩:=bon hb hB;refine kA (U (D.zaA D.zd8 (D.zaA D.zaS 0 a1) (V ((D.zad D.zd8 a0)+1)))) r rfl rfl fun r=>wn (ac ?_);refine zaH r rfl rfl ?_
 exact ⟨rfl,hB⟩
def D.zcC (aA:Plan→T Int) (c0:Plan) (c1:Int) (a0:Bool):T Int:=(bif (!a0) then (aA c0) else (D.zaR c1))
def D.zet (aA:Plan→T Int) (c0:Plan) (c1:Int) (c2:Int) (a0:Int):T Int:=(D.zfV (D.zaX c0) c1 (D.zcs c1 a0) (fun x=>(D.zcC aA c0 c2 x)))
def D.zdG (aA:Plan→T Int) (c0:Plan) (a0:Int):T Int:=(bif (decide ((IntKind.i64.wrap ((IntKind.i64.wrap (D.zad D.zaS a0)) - 1))<0)) then (D.zaR (-1)) else (D.zb2 (D.zaZ c0 (IntKind.i64.wrap ((IntKind.i64.wrap (D.zad D.zaS a0)) - 1))) (fun x=>(D.zet aA c0 a0 (IntKind.i64.wrap ((IntKind.i64.wrap (D.zad D.zaS a0)) - 1)) x))))
def D.zdc (aA:Plan→T Int) (a0:Plan):T Int:=(D.zb2 (D.zaX a0) (fun x=>(D.zdG aA a0 x)))
def D.zbP:Nat→Plan→T Int
 | 0,_=>.cut
 | k+1,a0=>D.zdc (D.zbP k) a0
def ze8 (r:Plan→T Int) (n:Nat):Prop:=∀ (F:Nat→Prop) (w0:World),(∀ b,F b→b<w0.heap.size)→∀ (a0:Plan),Calls ar 182 #[aq (zpg a0)] w0 (zpp ar zpl n (r a0) F w0)
theorem zj6 {aA:Plan→T Int} (hF:kH F w0) (aM:∀ m,m≤n→ze8 aA m)
    (c0:Plan) {c0b:Nat} (c0F:F c0b) (c0h:w0.heap[c0b]?=some (.cells ((zpg c0)).toArray 23 (0,0))) (c1:Int) {c1b:Nat} (c1F:F c1b) (c1h:w0.heap[c1b]?=some (.cells ([(.int .i64 c1)]).toArray 3 (0,0))) (a0:Bool) :
    Calls ar 280 #[.bool a0,zp c0b,zp c1b] w0 (zpp ar zpl n (D.zcC aA c0 c1 a0) F w0):=by
 refine kN Tryz.func280 rfl 11 rfl rfl fun fr r hB=>?_;have lc0b:=ah c0h
 have lc1b:=ah c1h;refine wsr ?_;refine za7 (.cells (kq zpl) 119 (0,0)) r (fun R=>za6 zpQ) rfl fun fr b1 w2 n3 r=>?_;obtain ⟨E1,Z2,H1,hB,zB⟩:=n3.all hB
 refine wn (aa (wsr (kM (.bool a0) r rfl rfl fun r=>za0 (.bool (!a0)) r (fun R=>y_un r (u:=(.bool a0)) rfl rfl) rfl fun fr r=>wn ?_)));refine ae (t:=(!a0)) (r.ev rfl) (fun h4=>?_) (fun h4=>?_)
 ·
  refine wsr (kG (zpg c0) 6 r rfl (keep hB c0h) ta23 rfl rfl fun r=>?_);have hF1:=zpz hF hB b1
  refine kD r ((aM n kw) (kW F w0 w2 b1) _ hF1 c0) rfl zrd rfl fun w5 v6 hb hr7 r=>?_;have Z5:=hb.size
  have H1:=keep hb H1;obtain ⟨hB,zB⟩:=bon hb hB;refine kP r hr7.shape rfl rfl H1 zpN rfl rfl fun w8 u9 r=>?_;have Z8:=u9.size
  have H1:=u9.at_;obtain ⟨hB,zB⟩:=u9.on hB kw
  refine wn (ac ?_);have hd:D.zcC aA c0 c1 a0=(aA c0):=(zao h4).trans (rfl);have hs:=hr7.shape.cells;refine za5 r rfl rfl H1 (k:=7) hs.1 zpM ?_;rw [←hs.2.2,hd];exact rfin hF hB hr7 u9 kw kw kw
 refine ag (wsr (kL (I c1) r rfl (keep hB c1h) to3 rfl rfl fun r=>?_));have hF1:=zpz hF hB b1
 refine kD r (zbd (F:=(kW F w0 w2 b1)) (n:=n) hF1 c1) rfl zqf rfl fun w10 v11 hb hr12 r=>?_;have Z10:=hb.size
 have H1:=keep hb H1;obtain ⟨hB,zB⟩:=bon hb hB;refine kP r hr12.shape rfl rfl H1 zpN rfl rfl fun w13 u14 r=>?_;have Z13:=u14.size
 have H1:=u14.at_;obtain ⟨hB,zB⟩:=u14.on hB kw
 refine wn (ac ?_);have hd:D.zcC aA c0 c1 a0=(D.zaR c1):=(zaq h4).trans (rfl);have hs:=hr12.shape.cells;refine za5 r rfl rfl H1 (k:=7) hs.1 zpM ?_;rw [←hs.2.2,hd];exact rfin hF hB hr12 u14 kw kw kw
theorem zk4 {aA:Plan→T Int} (hF:kH F w0) (aM:∀ m,m<n→ze8 aA m)
    (c0:Plan) {c0b:Nat} (c0F:F c0b) (c0h:w0.heap[c0b]?=some (.cells ((zpg c0)).toArray 23 (0,0))) (c1:Int) {c1b:Nat} (c1F:F c1b) (c1h:w0.heap[c1b]?=some (.cells ([(.int .u64 c1)]).toArray 34 (0,0))) (c2:Int) {c2b:Nat} (c2F:F c2b) (c2h:w0.heap[c2b]?=some (.cells ([(.int .i64 c2)]).toArray 3 (0,0))) (a0:Int) :
    Calls ar 277 #[.int .u64 a0,zp c0b,zp c1b,zp c2b] w0 (zpp ar zpl n (D.zet aA c0 c1 c2 a0) F w0):=by
 refine kN Tryz.func277 rfl 14 rfl rfl fun fr r hB=>?_;have lc0b:=ah c0h
 have lc1b:=ah c1h;have lc2b:=ah c2h;refine wsr ?_;refine za7 (.cells (kq zpl) 119 (0,0)) r (fun R=>za6 zpQ) rfl fun fr b1 w2 n3 r=>?_;obtain ⟨E1,Z2,H1,hB,zB⟩:=n3.all hB
 refine wn (aa ?_);refine zaB 7 [.val (aq (zpg c0)),.val (I (D.zaX c0)),.val (U c1),.val (U c1),.val (U a0),.val (U (D.zcs c1 a0)),.val (.func (.func 280) #[] #[zp c0b,zp c2b])] mixed r kz (kV (kV (kV (kV (kV (kV (kV zat))))))) ?_ ?_
 ·
  refine ec r (fun _ u _ b d s=>zac s (cs:=(zpg c0)) (n:=6) rfl (zpW hB b c0h) ta23 rfl bz) (ec r (fun fr1 u w' hb' hd r'=>zaF r' (args:=[(aq (zpg c0))]) (lc hd.1 l0) zqI ((zcu _ c0).mono yab)) (ec r (fun _ u _ b d s=>za4 s rfl (zpW hB b c1h) to34 rfl bz) (ec r (fun _ u _ b d s=>za4 s rfl (zpW hB b c1h) to34 rfl bz) (ec r (fun _ u _ b d s=>zar s rfl bz) (ec r (fun fr1 u w' hb' hd r'=>zaF r' (args:=[(U c1),(U a0)]) (lc hd.1 (lc hd.2.1 l0)) zsm ((zid _ c1 a0).mono yab)) (ec r (fun _ u _ b d s=>zaf s (v:=(.func (.func 280) #[] #[zp c0b,zp c2b])) rfl bz) ?_))))));exact zaO
 intro fr u w4 hb hΦ hne r;have r:=r.congr (sc (hΦ 6 ke) (sc (hΦ 5 ke) (sc (hΦ 4 ke) (sc (hΦ 3 ke) (sc (hΦ 2 ke) (sc (hΦ 1 ke) (sc (hΦ 0 ke) rfl)))))));have Z4:=hb.size;have H1:=keep hb H1;obtain ⟨hB,zB⟩:=bon hb hB;have hF1:=zpz hF hB b1;have f5:((kW F w0 w4 b1)) c0b:=(.inl c0F);have f6:((kW F w0 w4 b1)) c2b:=(.inl c2F);refine kD r (zgQ (F:=(kW F w0 w4 b1)) (n:=n) hF1 (D.zaX c0) c1 (D.zcs c1 a0) ⟨280,[],[zp c0b,zp c2b],zuR,rfl,fun m hm x w' hs hz=>zj6 (fun b hb=>ai (hF1 b hb) hz) (fun m' hm'=>aM m' kw) c0 f5 (hs.at_ f5 (keep hB c0h)) c2 f6 (hs.at_ f6 (keep hB c2h)) x⟩) rfl zrP rfl fun w7 v8 hb hr9 r=>?_;have Z7:=hb.size
 have H1:=keep hb H1;obtain ⟨hB,zB⟩:=bon hb hB;refine kP r hr9.shape rfl rfl H1 zpN rfl rfl fun w10 u11 r=>?_;have Z10:=u11.size
 have H1:=u11.at_;obtain ⟨hB,zB⟩:=u11.on hB kw
 exact wn (ac (kR r hr9 rfl rfl H1 rfl zpM hF hB u11 kw kw kw))
theorem zlu {aA:Plan→T Int} (hF:kH F w0) (aM:∀ m,m<n→ze8 aA m)
    (c0:Plan) {c0b:Nat} (c0F:F c0b) (c0h:w0.heap[c0b]?=some (.cells ((zpg c0)).toArray 23 (0,0))) (a0:Int) :
    Calls ar 276 #[.int .u64 a0,zp c0b] w0 (zpp ar zpl n (D.zdG aA c0 a0) F w0):=by
 refine kN Tryz.func276 rfl 18 rfl rfl fun fr r hB=>?_;have lc0b:=ah c0h
 refine wsr ?_;refine kX 34 (U a0) r rfl rfl fun b1 w2 n3 r=>?_;obtain ⟨E1,Z2,H1,hB,zB⟩:=n3.all hB
 refine za7 (.cells (kq zpl) 119 (0,0)) r (fun R=>za6 zpQ) rfl fun fr b4 w5 n6 r=>?_;have H1:=keep n6.below H1
 obtain ⟨E4,Z5,H4,hB,zB⟩:=n6.all hB;refine wn (aa ?_);refine zaB 6 [.val (aq (zpr D.zaS)),.val (U a0),.val (U (D.zad D.zaS a0)),.val (I (W (D.zad D.zaS a0))),.val (I (W ((W (D.zad D.zaS a0)) - 1))),.new w5.heap.size (.cells #[(I 0)] 3 (0,0))] mixed r kz (kV (kV (kV (kV (kV (zaI (Nat.le_refl _) zat)))))) ?_ ?_
 ·
  refine ec r (fun fr1 u w' hb' hd r'=>zaF r' (args:=[]) (l0) zrw ((zhU _ ).mono yab)) (ec r (fun _ u _ b d s=>za4 s rfl (keep b H1) to34 rfl bz) (ec r (fun fr1 u w' hb' hd r'=>zaF r' (args:=[(aq (zpr D.zaS)),(U a0)]) (lc hd.1 (lc hd.2.1 l0)) zqy ((zd4 _ D.zaS a0).mono yab)) (ec r (fun _ u _ b d s=>zb9 s (n:=(D.zad D.zaS a0)) d.1 ti34 ti3 bz) (ec r (fun _ u _ b d s=>zpG s d.1 rfl rfl rfl bz) (ec r (fun fr1 u w' hb' hd r'=>za6 tz3 (fun b w2 n2=>⟨n2.below,b,rfl,Nat.le_of_eq n2.eq.symm,n2.at_⟩)) ?_)))));exact zaO
 intro fr u w7 hb hΦ hne r;obtain ⟨b8,g5,E8,H8⟩:=hΦ 5 ke;have l_b8:=ah H8;have r:=r.congr (sc g5 (sc (hΦ 4 ke) (sc (hΦ 3 ke) (sc (hΦ 2 ke) (sc (hΦ 1 ke) (sc (hΦ 0 ke) rfl))))));have Z7:=hb.size;have H1:=keep hb H1;have H4:=keep hb H4;obtain ⟨hB,zB⟩:=bon hb hB;refine zaD (.cells #[(I (W ((W (D.zad D.zaS a0)) - 1)))] 3 (0,0)) r (fun R=>zax r (o:=0) (v:=(I (W ((W (D.zad D.zaS a0)) - 1)))) rfl rfl H8 ts3 ak rfl rfl) rfl fun fr w9 u10 r=>?_;have Z9:=u10.size
 have H1:=u10.keep H1 kw
 have H4:=u10.keep H4 kw
 have H8:=u10.at_;obtain ⟨hB,zB⟩:=u10.on hB kw
 refine wn (aa (wsr (kL (I (W ((W (D.zad D.zaS a0)) - 1))) r rfl H8 to3 rfl rfl fun r=>kB r rfl rfl rfl rfl rfl fun r=>wn ?_)));refine ae (t:=(decide ((W ((W (D.zad D.zaS a0)) - 1))<0))) (r.ev rfl) (fun h11=>?_) (fun h11=>?_)
 ·
  refine wsr ?_;have hF1:=zpz hF hB b4;refine kD r (zbd (F:=(kW F w0 w9 b4)) (n:=n) hF1 (-1)) rfl zqf rfl fun w12 v13 hb hr14 r=>?_;have Z12:=hb.size
  have H1:=keep hb H1;have H4:=keep hb H4;have H8:=keep hb H8;obtain ⟨hB,zB⟩:=bon hb hB;refine kP r hr14.shape rfl rfl H4 zpN rfl rfl fun w15 u16 r=>?_;have Z15:=u16.size
  have H1:=u16.keep H1 kw
  have H8:=u16.keep H8 kw
  have H4:=u16.at_;obtain ⟨hB,zB⟩:=u16.on hB kw
  refine wn (ac ?_);have hd:D.zdG aA c0 a0=(D.zaR (-1)):=(zao h11).trans (rfl);have hs:=hr14.shape.cells;refine za5 r rfl rfl H4 (k:=7) hs.1 zpM ?_;rw [←hs.2.2,hd];exact rfin hF hB hr14 u16 kw kw kw
 refine ag (wsr (kG (zpg c0) 6 r rfl (keep hB c0h) ta23 rfl rfl fun r=>kL (I (W ((W (D.zad D.zaS a0)) - 1))) r rfl H8 to3 rfl rfl fun r=>?_));refine kE r (zdp w9 c0 (W ((W (D.zad D.zaS a0)) - 1))) rfl zqY rfl fun w17 hb r=>?_
 have Z17:=hb.size;have H1:=keep hb H1;have H4:=keep hb H4;have H8:=keep hb H8;obtain ⟨hB,zB⟩:=bon hb hB;refine za0 (.func (.func 277) #[] #[zp c0b,zp b1,zp b8]) r (fun R=>zaf r rfl) rfl fun fr r=>?_;have hF1:=zpz hF hB b4
 have f18:((kW F w0 w17 b4)) c0b:=(.inl c0F);have f19:((kW F w0 w17 b4)) b1:=(.inr ⟨kw,kw,kw⟩)
 have f20:((kW F w0 w17 b4)) b8:=(.inr ⟨kw,kw,kw⟩)
 refine kD r (zbz (F:=(kW F w0 w17 b4)) (n:=n) hF1 (D.zaZ c0 (W ((W (D.zad D.zaS a0)) - 1))) ⟨277,[],[zp c0b,zp b1,zp b8],zsS,rfl,fun m hm x w' hs hz=>zk4 (fun b hb=>ai (hF1 b hb) hz) (fun m' hm'=>aM m' kw) c0 f18 (hs.at_ f18 (keep hB c0h)) a0 f19 (hs.at_ f19 H1) (W ((W (D.zad D.zaS a0)) - 1)) f20 (hs.at_ f20 H8) x⟩) rfl zqh rfl fun w21 v22 hb hr23 r=>?_;have Z21:=hb.size
 have H1:=keep hb H1;have H4:=keep hb H4;have H8:=keep hb H8;obtain ⟨hB,zB⟩:=bon hb hB;refine kP r hr23.shape rfl rfl H4 zpN rfl rfl fun w24 u25 r=>?_;have Z24:=u25.size
 have H1:=u25.keep H1 kw
 have H8:=u25.keep H8 kw
 have H4:=u25.at_;obtain ⟨hB,zB⟩:=u25.on hB kw
 refine wn (ac ?_);have hd:D.zdG aA c0 a0=(D.zb2 (D.zaZ c0 (W ((W (D.zad D.zaS a0)) - 1))) (fun x=>(D.zet aA c0 a0 (W ((W (D.zad D.zaS a0)) - 1)) x))):=(zaq h11).trans (rfl)
 have hs:=hr23.shape.cells;refine za5 r rfl rfl H4 (k:=7) hs.1 zpM ?_;rw [←hs.2.2,hd];exact rfin hF hB hr23 u25 kw kw kw
theorem zmI {n:Nat} {F:Nat→Prop} {aA:Plan→T Int} {w0:World} (hF:∀ b,F b→b<w0.heap.size) (aM:∀ m,m<n→ze8 aA m)
    (a0:Plan) :
    Calls ar 182 #[aq (zpg a0)] w0 (zpp ar zpl n (D.zdc aA a0) F w0):=by
 refine kN Tryz.func182 rfl 7 rfl rfl fun fr r hB=>?_;refine wsr ?_
 refine kX 23 (aq (zpg a0)) r rfl rfl fun b1 w2 n3 r=>?_;obtain ⟨E1,Z2,H1,hB,zB⟩:=n3.all hB
 refine za7 (.cells (kq zpl) 119 (0,0)) r (fun R=>za6 zpQ) rfl fun fr b4 w5 n6 r=>?_;have H1:=keep n6.below H1
 obtain ⟨E4,Z5,H4,hB,zB⟩:=n6.all hB;refine wn (wsr (kG (zpg a0) 6 r rfl H1 ta23 rfl rfl fun r=>?_));refine kE r (zcu w5 a0) rfl zqI rfl fun w7 hb r=>?_
 have Z7:=hb.size;have H1:=keep hb H1;have H4:=keep hb H4;obtain ⟨hB,zB⟩:=bon hb hB;refine za0 (.func (.func 276) #[] #[zp b1]) r (fun R=>zaf r rfl) rfl fun fr r=>?_;have hF1:=zpz hF hB b4
 have f8:((kW F w0 w7 b4)) b1:=(.inr ⟨kw,kw,kw⟩)
 refine kD r (zbz (F:=(kW F w0 w7 b4)) (n:=n) hF1 (D.zaX a0) ⟨276,[],[zp b1],zsK,rfl,fun m hm x w' hs hz=>zlu (fun b hb=>ai (hF1 b hb) hz) (fun m' hm'=>aM m' kw) a0 f8 (hs.at_ f8 H1) x⟩) rfl zqh rfl fun w9 v10 hb hr11 r=>?_;have Z9:=hb.size
 have H1:=keep hb H1;have H4:=keep hb H4;obtain ⟨hB,zB⟩:=bon hb hB;refine kP r hr11.shape rfl rfl H4 zpN rfl rfl fun w12 u13 r=>?_;have Z12:=u13.size
 have H1:=u13.keep H1 kw
 have H4:=u13.at_;obtain ⟨hB,zB⟩:=u13.on hB kw
 exact wn (ac (kR r hr11 rfl rfl H4 rfl zpM hF hB u13 kw kw kw))
theorem zkp {n:Nat} {k:Nat} (hk:n<k):ze8 (D.zbP k) n:=by
 induction n using Nat.strongRecOn generalizing k with
 | _ n ih=>
  obtain ⟨k,rfl⟩:∃ q,k=q+1:=⟨k - 1,kw⟩
  intro F w0 hF;have h:=@zmI n F (D.zbP k) w0 hF (fun m hm=>ih m hm kw)
  exact h
def D.zco (az:Plan→Int→T Int) (c0:Plan) (c1:Int) (a0:Bool):T Int:=(bif (!a0) then (az c0 c1) else (D.zaR c1))
def D.zeS (az:Plan→Int→T Int) (c0:Plan) (c1:Int) (c2:Int):T Int:=(D.zfV (D.zaX c0) c1 (D.zcs c1 (D.zbE c2)) (fun x=>(D.zco az c0 c2 x)))
def D.zeT (az:Plan→Int→T Int) (c0:Plan) (c1:Int) (a0:Int):T Int:=(D.zb5 (D.zaZ c0 c1) (D.zad D.zaS a0) (fun _=>(D.zeS az c0 a0 c1)))
def D.zcz (az:Plan→Int→T Int) (a0:Plan) (a1:Int):T Int:=(bif ((D.zaZ a0 a1)==(-1)) then (D.zaR (-1)) else (D.zb2 (D.zaX a0) (fun x=>(D.zeT az a0 a1 x))))
def D.zcX:Nat→Plan→Int→T Int
 | 0,_,_=>.cut
 | k+1,a0,a1=>D.zcz (D.zcX k) a0 a1
def zdg (r:Plan→Int→T Int) (n:Nat):Prop:=∀ (F:Nat→Prop) (w0:World),(∀ b,F b→b<w0.heap.size)→∀ (a0:Plan) (a1:Int),Calls ar 310 #[aq (zpg a0),.int .i64 a1] w0 (zpp ar zpl n (r a0 a1) F w0)
theorem ziq {az:Plan→Int→T Int} (hF:kH F w0) (aK:∀ m,m≤n→zdg az m)
    (c0:Plan) {c0b:Nat} (c0F:F c0b) (c0h:w0.heap[c0b]?=some (.cells ((zpg c0)).toArray 23 (0,0))) (c1:Int) {c1b:Nat} (c1F:F c1b) (c1h:w0.heap[c1b]?=some (.cells ([(.int .i64 c1)]).toArray 3 (0,0))) (a0:Bool) :
    Calls ar 357 #[.bool a0,zp c0b,zp c1b] w0 (zpp ar zpl n (D.zco az c0 c1 a0) F w0):=by
 refine kN Tryz.func357 rfl 12 rfl rfl fun fr r hB=>?_;have lc0b:=ah c0h
 have lc1b:=ah c1h;refine wsr ?_;refine za7 (.cells (kq zpl) 119 (0,0)) r (fun R=>za6 zpQ) rfl fun fr b1 w2 n3 r=>?_;obtain ⟨E1,Z2,H1,hB,zB⟩:=n3.all hB
 refine wn (aa (wsr (kM (.bool a0) r rfl rfl fun r=>za0 (.bool (!a0)) r (fun R=>y_un r (u:=(.bool a0)) rfl rfl) rfl fun fr r=>wn ?_)));refine ae (t:=(!a0)) (r.ev rfl) (fun h4=>?_) (fun h4=>?_)
 ·
  refine wsr (kG (zpg c0) 6 r rfl (keep hB c0h) ta23 rfl rfl fun r=>kL (I c1) r rfl (keep hB c1h) to3 rfl rfl fun r=>?_);have hF1:=zpz hF hB b1
  refine kD r ((aK n kw) (kW F w0 w2 b1) _ hF1 c0 c1) rfl zsz rfl fun w5 v6 hb hr7 r=>?_;have Z5:=hb.size
  have H1:=keep hb H1;obtain ⟨hB,zB⟩:=bon hb hB;refine kP r hr7.shape rfl rfl H1 zpN rfl rfl fun w8 u9 r=>?_;have Z8:=u9.size
  have H1:=u9.at_;obtain ⟨hB,zB⟩:=u9.on hB kw
  refine wn (ac ?_);have hd:D.zco az c0 c1 a0=(az c0 c1):=(zao h4).trans (rfl);have hs:=hr7.shape.cells;refine za5 r rfl rfl H1 (k:=7) hs.1 zpM ?_;rw [←hs.2.2,hd];exact rfin hF hB hr7 u9 kw kw kw
 refine ag (wsr (kL (I c1) r rfl (keep hB c1h) to3 rfl rfl fun r=>?_));have hF1:=zpz hF hB b1
 refine kD r (zbd (F:=(kW F w0 w2 b1)) (n:=n) hF1 c1) rfl zqf rfl fun w10 v11 hb hr12 r=>?_;have Z10:=hb.size
 have H1:=keep hb H1;obtain ⟨hB,zB⟩:=bon hb hB;refine kP r hr12.shape rfl rfl H1 zpN rfl rfl fun w13 u14 r=>?_;have Z13:=u14.size
 have H1:=u14.at_;obtain ⟨hB,zB⟩:=u14.on hB kw
 refine wn (ac ?_);have hd:D.zco az c0 c1 a0=(D.zaR c1):=(zaq h4).trans (rfl);have hs:=hr12.shape.cells;refine za5 r rfl rfl H1 (k:=7) hs.1 zpM ?_;rw [←hs.2.2,hd];exact rfin hF hB hr12 u14 kw kw kw
theorem zjP {az:Plan→Int→T Int} (hF:kH F w0) (aK:∀ m,m<n→zdg az m)
    (c0:Plan) {c0b:Nat} (c0F:F c0b) (c0h:w0.heap[c0b]?=some (.cells ((zpg c0)).toArray 23 (0,0))) (c1:Int) {c1b:Nat} (c1F:F c1b) (c1h:w0.heap[c1b]?=some (.cells ([(.int .u64 c1)]).toArray 34 (0,0))) (c2:Int) {c2b:Nat} (c2F:F c2b) (c2h:w0.heap[c2b]?=some (.cells ([(.int .i64 c2)]).toArray 3 (0,0))) :
    Calls ar 356 #[zp c0b,zp c1b,zp c2b] w0 (zpp ar zpl n (D.zeS az c0 c1 c2) F w0):=by
 refine kN Tryz.func356 rfl 13 rfl rfl fun fr r hB=>?_;have lc0b:=ah c0h
 have lc1b:=ah c1h;have lc2b:=ah c2h;refine wsr ?_;refine za7 (.cells (kq zpl) 119 (0,0)) r (fun R=>za6 zpQ) rfl fun fr b1 w2 n3 r=>?_;obtain ⟨E1,Z2,H1,hB,zB⟩:=n3.all hB
 refine wn (aa ?_);refine zaB 8 [.val (aq (zpg c0)),.val (I (D.zaX c0)),.val (U c1),.val (U c1),.val (I c2),.val (U (D.zbE c2)),.val (U (D.zcs c1 (D.zbE c2))),.val (.func (.func 357) #[] #[zp c0b,zp c2b])] mixed r kz (kV (kV (kV (kV (kV (kV (kV (kV zat)))))))) ?_ ?_
 ·
  refine ec r (fun _ u _ b d s=>zac s (cs:=(zpg c0)) (n:=6) rfl (zpW hB b c0h) ta23 rfl bz) (ec r (fun fr1 u w' hb' hd r'=>zaF r' (args:=[(aq (zpg c0))]) (lc hd.1 l0) zqI ((zcu _ c0).mono yab)) (ec r (fun _ u _ b d s=>za4 s rfl (zpW hB b c1h) to34 rfl bz) (ec r (fun _ u _ b d s=>za4 s rfl (zpW hB b c1h) to34 rfl bz) (ec r (fun _ u _ b d s=>za4 s rfl (zpW hB b c2h) to3 rfl bz) (ec r (fun fr1 u w' hb' hd r'=>zaF r' (args:=[(I c2)]) (lc hd.1 l0) zru ((zhN _ c2).mono yab)) (ec r (fun fr1 u w' hb' hd r'=>zaF r' (args:=[(U c1),(U (D.zbE c2))]) (lc hd.1 (lc hd.2.1 l0)) zsm ((zid _ c1 (D.zbE c2)).mono yab)) (ec r (fun _ u _ b d s=>zaf s (v:=(.func (.func 357) #[] #[zp c0b,zp c2b])) rfl bz) ?_)))))));exact zaO
 intro fr u w4 hb hΦ hne r;have r:=r.congr (sc (hΦ 7 ke) (sc (hΦ 6 ke) (sc (hΦ 5 ke) (sc (hΦ 4 ke) (sc (hΦ 3 ke) (sc (hΦ 2 ke) (sc (hΦ 1 ke) (sc (hΦ 0 ke) rfl))))))));have Z4:=hb.size;have H1:=keep hb H1;obtain ⟨hB,zB⟩:=bon hb hB;have hF1:=zpz hF hB b1;have f5:((kW F w0 w4 b1)) c0b:=(.inl c0F);have f6:((kW F w0 w4 b1)) c2b:=(.inl c2F);refine kD r (zgQ (F:=(kW F w0 w4 b1)) (n:=n) hF1 (D.zaX c0) c1 (D.zcs c1 (D.zbE c2)) ⟨357,[],[zp c0b,zp c2b],ztK,rfl,fun m hm x w' hs hz=>ziq (fun b hb=>ai (hF1 b hb) hz) (fun m' hm'=>aK m' kw) c0 f5 (hs.at_ f5 (keep hB c0h)) c2 f6 (hs.at_ f6 (keep hB c2h)) x⟩) rfl zrP rfl fun w7 v8 hb hr9 r=>?_;have Z7:=hb.size
 have H1:=keep hb H1;obtain ⟨hB,zB⟩:=bon hb hB;refine kP r hr9.shape rfl rfl H1 zpN rfl rfl fun w10 u11 r=>?_;have Z10:=u11.size
 have H1:=u11.at_;obtain ⟨hB,zB⟩:=u11.on hB kw
 exact wn (ac (kR r hr9 rfl rfl H1 rfl zpM hF hB u11 kw kw kw))
theorem zl4 {az:Plan→Int→T Int} (hF:kH F w0) (aK:∀ m,m<n→zdg az m)
    (c0:Plan) {c0b:Nat} (c0F:F c0b) (c0h:w0.heap[c0b]?=some (.cells ((zpg c0)).toArray 23 (0,0))) (c1:Int) {c1b:Nat} (c1F:F c1b) (c1h:w0.heap[c1b]?=some (.cells ([(.int .i64 c1)]).toArray 3 (0,0))) (a0:Int) :
    Calls ar 355 #[.int .u64 a0,zp c0b,zp c1b] w0 (zpp ar zpl n (D.zeT az c0 c1 a0) F w0):=by
 refine kN Tryz.func355 rfl 13 rfl rfl fun fr r hB=>?_;have lc0b:=ah c0h
 have lc1b:=ah c1h;refine wsr ?_;refine kX 34 (U a0) r rfl rfl fun b1 w2 n3 r=>?_;obtain ⟨E1,Z2,H1,hB,zB⟩:=n3.all hB
 refine za7 (.cells (kq zpl) 119 (0,0)) r (fun R=>za6 zpQ) rfl fun fr b4 w5 n6 r=>?_;have H1:=keep n6.below H1
 obtain ⟨E4,Z5,H4,hB,zB⟩:=n6.all hB;refine wn (aa ?_);refine zaB 7 [.val (aq (zpg c0)),.val (I c1),.val (I (D.zaZ c0 c1)),.val (aq (zpr D.zaS)),.val (U a0),.val (U (D.zad D.zaS a0)),.val (.func (.func 356) #[] #[zp c0b,zp b1,zp c1b])] mixed r kz (kV (kV (kV (kV (kV (kV (kV zat))))))) ?_ ?_
 ·
  refine ec r (fun _ u _ b d s=>zac s (cs:=(zpg c0)) (n:=6) rfl (zpW hB b c0h) ta23 rfl bz) (ec r (fun _ u _ b d s=>za4 s rfl (zpW hB b c1h) to3 rfl bz) (ec r (fun fr1 u w' hb' hd r'=>zaF r' (args:=[(aq (zpg c0)),(I c1)]) (lc hd.1 (lc hd.2.1 l0)) zqY ((zdp _ c0 c1).mono yab)) (ec r (fun fr1 u w' hb' hd r'=>zaF r' (args:=[]) (l0) zrw ((zhU _ ).mono yab)) (ec r (fun _ u _ b d s=>za4 s rfl (keep b H1) to34 rfl bz) (ec r (fun fr1 u w' hb' hd r'=>zaF r' (args:=[(aq (zpr D.zaS)),(U a0)]) (lc hd.1 (lc hd.2.1 l0)) zqy ((zd4 _ D.zaS a0).mono yab)) (ec r (fun _ u _ b d s=>zaf s (v:=(.func (.func 356) #[] #[zp c0b,zp b1,zp c1b])) rfl bz) ?_))))));exact zaO
 intro fr u w7 hb hΦ hne r;have r:=r.congr (sc (hΦ 6 ke) (sc (hΦ 5 ke) (sc (hΦ 4 ke) (sc (hΦ 3 ke) (sc (hΦ 2 ke) (sc (hΦ 1 ke) (sc (hΦ 0 ke) rfl)))))));have Z7:=hb.size;have H1:=keep hb H1;have H4:=keep hb H4;obtain ⟨hB,zB⟩:=bon hb hB;have hF1:=zpz hF hB b4;have f8:((kW F w0 w7 b4)) c0b:=(.inl c0F);have f9:((kW F w0 w7 b4)) b1:=(.inr ⟨kw,kw,kw⟩)
 have f10:((kW F w0 w7 b4)) c1b:=(.inl c1F);refine kD r (zbB (F:=(kW F w0 w7 b4)) (n:=n) hF1 (D.zaZ c0 c1) (D.zad D.zaS a0) ⟨356,[],[zp c0b,zp b1,zp c1b],ztb,rfl,fun m hm _ w' hs hz=>zjP (fun b hb=>ai (hF1 b hb) hz) (fun m' hm'=>aK m' kw) c0 f8 (hs.at_ f8 (keep hB c0h)) a0 f9 (hs.at_ f9 H1) c1 f10 (hs.at_ f10 (keep hB c1h))⟩) rfl zqn rfl fun w11 v12 hb hr13 r=>?_;have Z11:=hb.size
 have H1:=keep hb H1;have H4:=keep hb H4;obtain ⟨hB,zB⟩:=bon hb hB;refine kP r hr13.shape rfl rfl H4 zpN rfl rfl fun w14 u15 r=>?_;have Z14:=u15.size
 have H1:=u15.keep H1 kw
 have H4:=u15.at_;obtain ⟨hB,zB⟩:=u15.on hB kw
 exact wn (ac (kR r hr13 rfl rfl H4 rfl zpM hF hB u15 kw kw kw))
theorem zlM {n:Nat} {F:Nat→Prop} {az:Plan→Int→T Int} {w0:World} (hF:∀ b,F b→b<w0.heap.size) (aK:∀ m,m<n→zdg az m)
    (a0:Plan) (a1:Int) :
    Calls ar 310 #[aq (zpg a0),.int .i64 a1] w0 (zpp ar zpl n (D.zcz az a0 a1) F w0):=by
 refine kN Tryz.func310 rfl 14 rfl rfl fun fr r hB=>?_;refine wsr ?_
 refine kX 23 (aq (zpg a0)) r rfl rfl fun b1 w2 n3 r=>?_;obtain ⟨E1,Z2,H1,hB,zB⟩:=n3.all hB
 refine kX 3 (I a1) r rfl rfl fun b4 w5 n6 r=>?_;have H1:=keep n6.below H1
 obtain ⟨E4,Z5,H4,hB,zB⟩:=n6.all hB;refine za7 (.cells (kq zpl) 119 (0,0)) r (fun R=>za6 zpQ) rfl fun fr b7 w8 n9 r=>?_;have H1:=keep n9.below H1
 have H4:=keep n9.below H4;obtain ⟨E7,Z8,H7,hB,zB⟩:=n9.all hB;refine wn (aa (wsr (kG (zpg a0) 6 r rfl H1 ta23 rfl rfl fun r=>kL (I a1) r rfl H4 to3 rfl rfl fun r=>?_)));refine kE r (zdp w8 a0 a1) rfl zqY rfl fun w10 hb r=>?_
 have Z10:=hb.size;have H1:=keep hb H1;have H4:=keep hb H4;have H7:=keep hb H7;obtain ⟨hB,zB⟩:=bon hb hB;refine kB r rfl rfl rfl rfl rfl fun r=>wn ?_;refine ae (t:=((D.zaZ a0 a1)==(-1))) (r.ev rfl) (fun h11=>?_) (fun h11=>?_)
 ·
  refine wsr ?_;have hF1:=zpz hF hB b7;refine kD r (zbd (F:=(kW F w0 w10 b7)) (n:=n) hF1 (-1)) rfl zqf rfl fun w12 v13 hb hr14 r=>?_;have Z12:=hb.size
  have H1:=keep hb H1;have H4:=keep hb H4;have H7:=keep hb H7;obtain ⟨hB,zB⟩:=bon hb hB;refine kP r hr14.shape rfl rfl H7 zpN rfl rfl fun w15 u16 r=>?_;have Z15:=u16.size
  have H1:=u16.keep H1 kw
  have H4:=u16.keep H4 kw
  have H7:=u16.at_;obtain ⟨hB,zB⟩:=u16.on hB kw
  refine wn (ac ?_);have hd:D.zcz az a0 a1=(D.zaR (-1)):=(zao h11).trans (rfl);have hs:=hr14.shape.cells;refine za5 r rfl rfl H7 (k:=7) hs.1 zpM ?_;rw [←hs.2.2,hd];exact rfin hF hB hr14 u16 kw kw kw
 refine ag (wsr (kG (zpg a0) 6 r rfl H1 ta23 rfl rfl fun r=>?_));refine kE r (zcu w10 a0) rfl zqI rfl fun w17 hb r=>?_
 have Z17:=hb.size;have H1:=keep hb H1;have H4:=keep hb H4;have H7:=keep hb H7;obtain ⟨hB,zB⟩:=bon hb hB;refine za0 (.func (.func 355) #[] #[zp b1,zp b4]) r (fun R=>zaf r rfl) rfl fun fr r=>?_;have hF1:=zpz hF hB b7
 have f18:((kW F w0 w17 b7)) b1:=(.inr ⟨kw,kw,kw⟩)
 have f19:((kW F w0 w17 b7)) b4:=(.inr ⟨kw,kw,kw⟩)
 refine kD r (zbz (F:=(kW F w0 w17 b7)) (n:=n) hF1 (D.zaX a0) ⟨355,[],[zp b1,zp b4],zsY,rfl,fun m hm x w' hs hz=>zl4 (fun b hb=>ai (hF1 b hb) hz) (fun m' hm'=>aK m' kw) a0 f18 (hs.at_ f18 H1) a1 f19 (hs.at_ f19 H4) x⟩) rfl zqh rfl fun w20 v21 hb hr22 r=>?_;have Z20:=hb.size
 have H1:=keep hb H1;have H4:=keep hb H4;have H7:=keep hb H7;obtain ⟨hB,zB⟩:=bon hb hB;refine kP r hr22.shape rfl rfl H7 zpN rfl rfl fun w23 u24 r=>?_;have Z23:=u24.size
 have H1:=u24.keep H1 kw
 have H4:=u24.keep H4 kw
 have H7:=u24.at_;obtain ⟨hB,zB⟩:=u24.on hB kw
 refine wn (ac ?_);have hd:D.zcz az a0 a1=(D.zb2 (D.zaX a0) (fun x=>(D.zeT az a0 a1 x))):=(zaq h11).trans (rfl)
 have hs:=hr22.shape.cells;refine za5 r rfl rfl H7 (k:=7) hs.1 zpM ?_;rw [←hs.2.2,hd];exact rfin hF hB hr22 u24 kw kw kw
theorem zlQ {n:Nat} {k:Nat} (hk:n<k):zdg (D.zcX k) n:=by
 induction n using Nat.strongRecOn generalizing k with
 | _ n ih=>
  obtain ⟨k,rfl⟩:∃ q,k=q+1:=⟨k - 1,kw⟩
  intro F w0 hF;have h:=@zlM n F (D.zcX k) w0 hF (fun m hm=>ih m hm kw)
  exact h
end
end Go.Proofs.YtbbipmelhmgmfaaGreat
