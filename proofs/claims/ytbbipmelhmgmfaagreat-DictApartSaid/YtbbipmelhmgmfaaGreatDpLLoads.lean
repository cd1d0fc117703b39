/- Ours. -/
import Derived.Test.YtbbipmelhmgmfaaGreatDpLThens
set_option linter.all false
set_option maxRecDepth 100000
set_option maxHeartbeats 20000000
namespace Go.Proofs.YtbbipmelhmgmfaaGreat
open Go.RowKit
section
variable {n : Nat} {F : Nat → Prop} {j : Nat} {w0 : World}
theorem zsO:zpf ar 398:=kz
theorem zsR:tyO ar 334:=kz
theorem zgf (hF:kH F w0)
    (a0:Int) {a1f:FuncId} {aG aH:List Value} {a1:(Int→T Res)} (a1n:FnL ar zpn u64 (n) F w0 (kf a1f aG aH) a1) :
    Calls ar 99 #[.int .i64 a0,kf a1f aG aH] w0 (zpj ar zpn n (D.zc5 a0 a1) F w0):=by
 refine kN Tryz.func99 rfl 9 rfl rfl fun fr r hB=>?_;refine wsr ?_
 refine za7 (.cells (kq zpn) 41 (0,0)) r (fun R=>za6 tz41) rfl fun fr b1 w2 n3 r=>?_;obtain ⟨eb1,zw2,hb1,hB,zB⟩:=n3.all hB
 refine wn (wsr (kM (I a0) r rfl rfl fun r=>kU (aq (zpu (⟨0,a0,0,0⟩:Access))) r kz rfl fun r=>kM (kf a1f aG aH) r rfl rfl fun r=>?_));have hF1:=zpO hF hB.size b1
 refine kJ r (zcf (F:=(kW F w0 w2 b1)) (n:=n) hF1 (⟨0,a0,0,0⟩:Access) (a1n.mono kw (fun b h=>.inl h) (Same.below hB hF) hB.size)) rfl zqp rfl fun w4 v5 hb hr6 r=>?_;have zw4:=hb.size
 have hb1:=zpE hb hb1 yaa
 have hB:=Chg.zpv (Z:=F) hB;have hB:=hB.zpK hb yad
 have zB:=hB.size;refine kP r hr6.shape rfl rfl hb1 ts41 rfl rfl fun w7 u8 r=>?_;have zw7:=u8.size
 have hb1:=u8.at_;have hB:=hB.zpI u8 (.inl kw)
 have zB:=hB.size;refine wn (ac ?_);have hs:=hr6.shape.cells;refine za5 r rfl rfl hb1 (k:=8) hs.1 ta41 ?_;rw [←hs.2.2];exact zpj.fin hB hr6 u8 yac yaa kw kw kw
theorem zih (hF:kH F w0)
    {c0f:FuncId} {c0_1 c0_2:List Value} {c0:(Bool→T Res)} {c0b:Nat} (c0F:F c0b) (c0h:w0.heap[c0b]?=some (.cells #[kf c0f c0_1 c0_2] 200 (0,0))) (c0n:FnL ar zpn boolE (n+1) F w0 (kf c0f c0_1 c0_2) c0) (c1:Int) {c1b:Nat} (c1F:F c1b) (c1h:w0.heap[c1b]?=some (.cells ([(.int .u64 c1)]).toArray 34 (0,0))) (a0:Int) :
    Calls ar 204 #[.int .u64 a0,zp c0b,zp c1b] w0 (zpj ar zpn n (D.zgX c0 c1 a0) F w0):=by
 refine kN Tryz.func204 rfl 10 rfl rfl fun fr r hB=>?_;have lc0b:=ah c0h
 have lc1b:=ah c1h;refine wsr ?_;refine za7 (.cells (kq zpn) 41 (0,0)) r (fun R=>za6 tz41) rfl fun fr b1 w2 n3 r=>?_;have c0h:=keep n3.below c0h
 have c1h:=keep n3.below c1h;obtain ⟨eb1,zw2,hb1,hB,zB⟩:=n3.all hB;refine wn (wsr (kL (kf c0f c0_1 c0_2) r rfl c0h ztI rfl rfl fun r=>kM (U a0) r rfl rfl fun r=>kL (U c1) r rfl c1h to34 rfl rfl fun r=>kB r rfl rfl rfl rfl rfl fun r=>?_));refine zbq r (c0n.at_.2 n (Nat.lt_succ_self n) (a0==c1) w2 (Same.below hB hF) hB.size) (fun R hc=>zca r rfl rfl c0n.at_.1 hc) rfl ?_
 rintro _ w4 ⟨v5,rfl,hb,hr6⟩;refine ⟨_,rfl,fun fr r=>?_⟩
 have zw4:=hb.size;have hb1:=zpE hb hb1 (fun h=>by have:=hF _ h; omega)
 have hB:=Chg.zpv (Z:=F) hB;have hB:=hB.zpK hb (fun _ _ h=>h)
 have zB:=hB.size;refine kP r hr6.shape rfl rfl hb1 ts41 rfl rfl fun w7 u8 r=>?_;have zw7:=u8.size
 have hb1:=u8.at_;have hB:=hB.zpI u8 (.inl kw)
 have zB:=hB.size;refine wn (ac ?_);have hs:=hr6.shape.cells;refine za5 r rfl rfl hb1 (k:=8) hs.1 ta41 ?_;rw [←hs.2.2];exact zpj.fin hB hr6 u8 (fun b hb=>.inl hb) (fun h=>by have:=hF _ h; omega) kw kw kw
theorem zeI (hF:kH F w0)
    (a0:Int) (a1:Int) (a2:Int) {a3f:FuncId} {aQ aR:List Value} {a3:(Bool→T Res)} (a3n:FnL ar zpn boolE (n) F w0 (kf a3f aQ aR) a3) :
    Calls ar 118 #[.int .i64 a0,.int .u64 a1,.int .u64 a2,kf a3f aQ aR] w0 (zpj ar zpn n (D.zd3 a0 a1 a2 a3) F w0):=by
 refine kN Tryz.func118 rfl 15 rfl rfl fun fr r hB=>?_;refine wsr ?_
 refine kX 34 (U a1) r rfl rfl fun b1 w2 n3 r=>?_;obtain ⟨eb1,zw2,hb1,hB,zB⟩:=n3.all hB
 refine kX 200 (kf a3f aQ aR) r rfl rfl fun b4 w5 n6 r=>?_;have hb1:=keep n6.below hb1
 obtain ⟨eb4,zw5,hb4,hB,zB⟩:=n6.all hB;refine za7 (.cells (kq zpn) 41 (0,0)) r (fun R=>za6 tz41) rfl fun fr b7 w8 n9 r=>?_;have hb1:=keep n9.below hb1
 have hb4:=keep n9.below hb4;obtain ⟨eb7,zw8,hb7,hB,zB⟩:=n9.all hB;refine wn (wsr (kM (I a0) r rfl rfl fun r=>kL (U a1) r rfl hb1 to34 rfl rfl fun r=>kM (U a2) r rfl rfl fun r=>kU (aq (zpu (⟨2,a0,a1,a2⟩:Access))) r kz rfl fun r=>za0 (.func (.func 204) #[] #[zp b4,zp b1]) r (fun R=>zaf r rfl) rfl fun fr r=>?_));have hF1:=zpO hF hB.size b7
 have f13:((kW F w0 w8 b7)) b4:=(.inr ⟨kw,kw,kw⟩)
 have f14:((kW F w0 w8 b7)) b1:=(.inr ⟨kw,kw,kw⟩)
 refine kJ r (zcf (F:=(kW F w0 w8 b7)) (n:=n) hF1 (⟨2,a0,a1,a2⟩:Access) ⟨204,[],[zp b4,zp b1],zup,rfl,fun m hm x w' hs hz=>zih (fun b hb=>ai (hF1 b hb) hz) f13 (hs.at_ f13 hb4) (a3n.mono kw (fun b h=>.inl h) ((Same.below hB hF).trans (hs.sub (fun b h=>.inl h))) (Nat.le_trans hB.size hz)) a1 f14 (hs.at_ f14 hb1) x⟩) rfl zqp rfl fun w10 v11 hb hr12 r=>?_;have zw10:=hb.size
 have hb7:=zpE hb hb7 yaa
 have hB:=Chg.zpv (Z:=F) hB;have hB:=hB.zpK hb yad
 have zB:=hB.size;refine kP r hr12.shape rfl rfl hb7 ts41 rfl rfl fun w15 u16 r=>?_;have zw15:=u16.size
 have hb7:=u16.at_;have hB:=hB.zpI u16 (.inl kw)
 have zB:=hB.size;refine wn (ac ?_);have hs:=hr12.shape.cells;refine za5 r rfl rfl hb7 (k:=8) hs.1 ta41 ?_;rw [←hs.2.2];exact zpj.fin hB hr12 u16 yac yaa kw kw kw
theorem zhS (hF:kH F w0)
    {c0f:FuncId} {c0_1 c0_2:List Value} {c0:(Unit→T Res)} {c0b:Nat} (c0F:F c0b) (c0h:w0.heap[c0b]?=some (.cells #[kf c0f c0_1 c0_2] 171 (0,0))) (c0n:FnL ar zpn unitE (n+1) F w0 (kf c0f c0_1 c0_2) c0) (a0:Int) :
    Calls ar 214 #[.int .u64 a0,zp c0b] w0 (zpj ar zpn n (D.zge c0 a0) F w0):=by
 refine kN Tryz.func214 rfl 6 rfl rfl fun fr r hB=>?_;have lc0b:=ah c0h
 refine wsr ?_;refine za7 (.cells (kq zpn) 41 (0,0)) r (fun R=>za6 tz41) rfl fun fr b1 w2 n3 r=>?_;have c0h:=keep n3.below c0h
 obtain ⟨eb1,zw2,hb1,hB,zB⟩:=n3.all hB;refine wn (wsr (kL (kf c0f c0_1 c0_2) r rfl c0h ztl rfl rfl fun r=>?_));refine zbq r (c0n.at_.2 n (Nat.lt_succ_self n) () w2 (Same.below hB hF) hB.size) (fun R hc=>zfR r rfl c0n.at_.1 hc) rfl ?_
 rintro _ w4 ⟨v5,rfl,hb,hr6⟩;refine ⟨_,rfl,fun fr r=>?_⟩
 have zw4:=hb.size;have hb1:=zpE hb hb1 (fun h=>by have:=hF _ h; omega)
 have hB:=Chg.zpv (Z:=F) hB;have hB:=hB.zpK hb (fun _ _ h=>h)
 have zB:=hB.size;refine kP r hr6.shape rfl rfl hb1 ts41 rfl rfl fun w7 u8 r=>?_;have zw7:=u8.size
 have hb1:=u8.at_;have hB:=hB.zpI u8 (.inl kw)
 have zB:=hB.size;refine wn (ac ?_);have hs:=hr6.shape.cells;refine za5 r rfl rfl hb1 (k:=8) hs.1 ta41 ?_;rw [←hs.2.2];exact zpj.fin hB hr6 u8 (fun b hb=>.inl hb) (fun h=>by have:=hF _ h; omega) kw kw kw
theorem zeg (hF:kH F w0)
    (a0:Int) (a1:Int) {a2f:FuncId} {aV aW:List Value} {a2:(Unit→T Res)} (a2n:FnL ar zpn unitE (n) F w0 (kf a2f aV aW) a2) :
    Calls ar 124 #[.int .i64 a0,.int .u64 a1,kf a2f aV aW] w0 (zpj ar zpn n (D.zby a0 a1 a2) F w0):=by
 refine kN Tryz.func124 rfl 12 rfl rfl fun fr r hB=>?_;refine wsr ?_
 refine kX 171 (kf a2f aV aW) r rfl rfl fun b1 w2 n3 r=>?_;obtain ⟨eb1,zw2,hb1,hB,zB⟩:=n3.all hB
 refine za7 (.cells (kq zpn) 41 (0,0)) r (fun R=>za6 tz41) rfl fun fr b4 w5 n6 r=>?_;have hb1:=keep n6.below hb1
 obtain ⟨eb4,zw5,hb4,hB,zB⟩:=n6.all hB;refine wn (wsr (kM (I a0) r rfl rfl fun r=>kM (U a1) r rfl rfl fun r=>kU (aq (zpu (⟨1,a0,a1,0⟩:Access))) r kz rfl fun r=>za0 (.func (.func 214) #[] #[zp b1]) r (fun R=>zaf r rfl) rfl fun fr r=>?_));have hF1:=zpO hF hB.size b4
 have f10:((kW F w0 w5 b4)) b1:=(.inr ⟨kw,kw,kw⟩)
 refine kJ r (zcf (F:=(kW F w0 w5 b4)) (n:=n) hF1 (⟨1,a0,a1,0⟩:Access) ⟨214,[],[zp b1],zuc,rfl,fun m hm x w' hs hz=>zhS (fun b hb=>ai (hF1 b hb) hz) f10 (hs.at_ f10 hb1) (a2n.mono kw (fun b h=>.inl h) ((Same.below hB hF).trans (hs.sub (fun b h=>.inl h))) (Nat.le_trans hB.size hz)) x⟩) rfl zqp rfl fun w7 v8 hb hr9 r=>?_;have zw7:=hb.size
 have hb4:=zpE hb hb4 yaa
 have hB:=Chg.zpv (Z:=F) hB;have hB:=hB.zpK hb yad
 have zB:=hB.size;refine kP r hr9.shape rfl rfl hb4 ts41 rfl rfl fun w11 u12 r=>?_;have zw11:=u12.size
 have hb4:=u12.at_;have hB:=hB.zpI u12 (.inl kw)
 have zB:=hB.size;refine wn (ac ?_);have hs:=hr9.shape.cells;refine za5 r rfl rfl hb4 (k:=8) hs.1 ta41 ?_;rw [←hs.2.2];exact zpj.fin hB hr9 u12 yac yaa kw kw kw
def D.zcd (a0:Int) (a1:(Int→T Walk)):T Walk:=(D.zh6 (⟨0,a0,0,0⟩:Access) a1)
theorem zd2 (hF:kH F w0)
    (a0:Int) {a1f:FuncId} {aG aH:List Value} {a1:(Int→T Walk)} (a1n:FnL ar zpo u64 (n) F w0 (kf a1f aG aH) a1) :
    Calls ar 317 #[.int .i64 a0,kf a1f aG aH] w0 (zpj ar zpo n (D.zcd a0 a1) F w0):=by
 refine kN Tryz.func317 rfl 9 rfl rfl fun fr r hB=>?_;refine wsr ?_
 refine za7 (.cells (kq zpo) 224 (0,0)) r (fun R=>za6 zpX) rfl fun fr b1 w2 n3 r=>?_;obtain ⟨eb1,zw2,hb1,hB,zB⟩:=n3.all hB
 refine wn (wsr (kM (I a0) r rfl rfl fun r=>kU (aq (zpu (⟨0,a0,0,0⟩:Access))) r kz rfl fun r=>kM (kf a1f aG aH) r rfl rfl fun r=>?_));have hF1:=zpO hF hB.size b1
 refine kJ r (zcT (F:=(kW F w0 w2 b1)) (n:=n) hF1 (⟨0,a0,0,0⟩:Access) (a1n.mono kw (fun b h=>.inl h) (Same.below hB hF) hB.size)) rfl zqL rfl fun w4 v5 hb hr6 r=>?_;have zw4:=hb.size
 have hb1:=zpE hb hb1 yaa
 have hB:=Chg.zpv (Z:=F) hB;have hB:=hB.zpK hb yad
 have zB:=hB.size;refine kP r hr6.shape rfl rfl hb1 zpV rfl rfl fun w7 u8 r=>?_;have zw7:=u8.size
 have hb1:=u8.at_;have hB:=hB.zpI u8 (.inl kw)
 have zB:=hB.size;refine wn (ac ?_);have hs:=hr6.shape.cells;refine za5 r rfl rfl hb1 (k:=20) hs.1 zpU ?_;rw [←hs.2.2];exact zpj.fin hB hr6 u8 yac yaa kw kw kw
def D.zgd (c0:(Bool→T Walk)) (c1:Int) (a0:Int):T Walk:=(c0 (a0==c1))
theorem zhI (hF:kH F w0)
    {c0f:FuncId} {c0_1 c0_2:List Value} {c0:(Bool→T Walk)} {c0b:Nat} (c0F:F c0b) (c0h:w0.heap[c0b]?=some (.cells #[kf c0f c0_1 c0_2] 334 (0,0))) (c0n:FnL ar zpo boolE (n+1) F w0 (kf c0f c0_1 c0_2) c0) (c1:Int) {c1b:Nat} (c1F:F c1b) (c1h:w0.heap[c1b]?=some (.cells ([(.int .u64 c1)]).toArray 34 (0,0))) (a0:Int) :
    Calls ar 398 #[.int .u64 a0,zp c0b,zp c1b] w0 (zpj ar zpo n (D.zgd c0 c1 a0) F w0):=by
 refine kN Tryz.func398 rfl 10 rfl rfl fun fr r hB=>?_;have lc0b:=ah c0h
 have lc1b:=ah c1h;refine wsr ?_;refine za7 (.cells (kq zpo) 224 (0,0)) r (fun R=>za6 zpX) rfl fun fr b1 w2 n3 r=>?_;have c0h:=keep n3.below c0h
 have c1h:=keep n3.below c1h;obtain ⟨eb1,zw2,hb1,hB,zB⟩:=n3.all hB;refine wn (wsr (kL (kf c0f c0_1 c0_2) r rfl c0h zsR rfl rfl fun r=>kM (U a0) r rfl rfl fun r=>kL (U c1) r rfl c1h to34 rfl rfl fun r=>kB r rfl rfl rfl rfl rfl fun r=>?_));refine zbq r (c0n.at_.2 n (Nat.lt_succ_self n) (a0==c1) w2 (Same.below hB hF) hB.size) (fun R hc=>zca r rfl rfl c0n.at_.1 hc) rfl ?_
 rintro _ w4 ⟨v5,rfl,hb,hr6⟩;refine ⟨_,rfl,fun fr r=>?_⟩
 have zw4:=hb.size;have hb1:=zpE hb hb1 (fun h=>by have:=hF _ h; omega)
 have hB:=Chg.zpv (Z:=F) hB;have hB:=hB.zpK hb (fun _ _ h=>h)
 have zB:=hB.size;refine kP r hr6.shape rfl rfl hb1 zpV rfl rfl fun w7 u8 r=>?_;have zw7:=u8.size
 have hb1:=u8.at_;have hB:=hB.zpI u8 (.inl kw)
 have zB:=hB.size;refine wn (ac ?_);have hs:=hr6.shape.cells;refine za5 r rfl rfl hb1 (k:=20) hs.1 zpU ?_;rw [←hs.2.2];exact zpj.fin hB hr6 u8 (fun b hb=>.inl hb) (fun h=>by have:=hF _ h; omega) kw kw kw
def D.zhD (a0:Int) (a1:Int) (a2:Int) (a3:(Bool→T Walk)):T Walk:=(D.zh6 (⟨2,a0,a1,a2⟩:Access) (fun x=>(D.zgd a3 a1 x)))
theorem ziG (hF:kH F w0)
    (a0:Int) (a1:Int) (a2:Int) {a3f:FuncId} {aQ aR:List Value} {a3:(Bool→T Walk)} (a3n:FnL ar zpo boolE (n) F w0 (kf a3f aQ aR) a3) :
    Calls ar 388 #[.int .i64 a0,.int .u64 a1,.int .u64 a2,kf a3f aQ aR] w0 (zpj ar zpo n (D.zhD a0 a1 a2 a3) F w0):=by
 refine kN Tryz.func388 rfl 15 rfl rfl fun fr r hB=>?_;refine wsr ?_
 refine kX 34 (U a1) r rfl rfl fun b1 w2 n3 r=>?_;obtain ⟨eb1,zw2,hb1,hB,zB⟩:=n3.all hB
 refine kX 334 (kf a3f aQ aR) r rfl rfl fun b4 w5 n6 r=>?_;have hb1:=keep n6.below hb1
 obtain ⟨eb4,zw5,hb4,hB,zB⟩:=n6.all hB;refine za7 (.cells (kq zpo) 224 (0,0)) r (fun R=>za6 zpX) rfl fun fr b7 w8 n9 r=>?_;have hb1:=keep n9.below hb1
 have hb4:=keep n9.below hb4;obtain ⟨eb7,zw8,hb7,hB,zB⟩:=n9.all hB;refine wn (wsr (kM (I a0) r rfl rfl fun r=>kL (U a1) r rfl hb1 to34 rfl rfl fun r=>kM (U a2) r rfl rfl fun r=>kU (aq (zpu (⟨2,a0,a1,a2⟩:Access))) r kz rfl fun r=>za0 (.func (.func 398) #[] #[zp b4,zp b1]) r (fun R=>zaf r rfl) rfl fun fr r=>?_));have hF1:=zpO hF hB.size b7
 have f13:((kW F w0 w8 b7)) b4:=(.inr ⟨kw,kw,kw⟩)
 have f14:((kW F w0 w8 b7)) b1:=(.inr ⟨kw,kw,kw⟩)
 refine kJ r (zcT (F:=(kW F w0 w8 b7)) (n:=n) hF1 (⟨2,a0,a1,a2⟩:Access) ⟨398,[],[zp b4,zp b1],zsO,rfl,fun m hm x w' hs hz=>zhI (fun b hb=>ai (hF1 b hb) hz) f13 (hs.at_ f13 hb4) (a3n.mono kw (fun b h=>.inl h) ((Same.below hB hF).trans (hs.sub (fun b h=>.inl h))) (Nat.le_trans hB.size hz)) a1 f14 (hs.at_ f14 hb1) x⟩) rfl zqL rfl fun w10 v11 hb hr12 r=>?_;have zw10:=hb.size
 have hb7:=zpE hb hb7 yaa
 have hB:=Chg.zpv (Z:=F) hB;have hB:=hB.zpK hb yad
 have zB:=hB.size;refine kP r hr12.shape rfl rfl hb7 zpV rfl rfl fun w15 u16 r=>?_;have zw15:=u16.size
 have hb7:=u16.at_;have hB:=hB.zpI u16 (.inl kw)
 have zB:=hB.size;refine wn (ac ?_);have hs:=hr12.shape.cells;refine za5 r rfl rfl hb7 (k:=20) hs.1 zpU ?_;rw [←hs.2.2];exact zpj.fin hB hr12 u16 yac yaa kw kw kw
end
end Go.Proofs.YtbbipmelhmgmfaaGreat
