/- Ours. -/
import Derived.Test.YtbbipmelhmgmfaaGreatDpM4
import Derived.Test.YtbbipmelhmgmfaaGreatDpMems
set_option linter.all false
set_option maxRecDepth 100000
set_option maxHeartbeats 20000000
namespace Go.Proofs.YtbbipmelhmgmfaaGreat
open Go.RowKit
section
variable {n : Nat} {F : Nat → Prop} {j : Nat} {w0 : World}
theorem zs4:zpf ar 130:=kz
theorem zr9:zpf ar 140:=kz
theorem zqp:zpf ar 177:=kz
theorem zr5:zpf ar 181:=kz
theorem zts:zpf ar 215:=kz
theorem zuQ:zpf ar 220:=kz
theorem zqJ:zpf ar 223:=kz
theorem zr7:zpf ar 228:=kz
theorem zrC:zpf ar 274:=kz
theorem zte:zpf ar 275:=kz
theorem zqF:zpf ar 283:=kz
theorem zs1:zpf ar 293:=kz
theorem zuS:zpf ar 297:=kz
theorem zua:zpf ar 301:=kz
theorem zsA:zpf ar 348:=kz
theorem zsi:zpf ar 352:=kz
theorem zsj:zpf ar 358:=kz
theorem zrG:zpf ar 360:=kz
theorem ztV:zpf ar 379:=kz
theorem zu0:zpf ar 385:=kz
theorem ztp:zpf ar 386:=kz
theorem zn7:zpq ar 116 0 0:=kz
theorem zp0:zpq ar 116 1 1:=kz
theorem zoT:zpq ar 116 2 4:=kz
theorem zoM:zpq ar 116 3 8:=kz
theorem zgH:zpq ar 119 0 0:=kz
theorem zkD:zpq ar 119 1 1:=kz
theorem zl1:zpq ar 119 2 2:=kz
theorem zkI:zpq ar 119 3 6:=kz
theorem zeV:zpq ar 133 0 0:=kz
theorem zjS:zpq ar 133 2 1:=kz
theorem zk0:zpq ar 133 3 5:=kz
theorem znG:zpq ar 271 0 0:=kz
theorem zoH:zpq ar 271 1 1:=kz
theorem zoK:zpq ar 271 2 2:=kz
theorem zos:zpq ar 271 3 6:=kz
theorem znF:zpq ar 318 0 0:=kz
theorem zoL:zpq ar 318 1 1:=kz
theorem zoF:zpq ar 318 2 2:=kz
theorem zoB:zpq ar 318 3 6:=kz
theorem zne:zpq ar 41 0 0:=kz
theorem zp5:zpq ar 41 1 1:=kz
theorem zp8:zpq ar 41 2 3:=kz
theorem zpe:zpq ar 41 3 7:=kz
theorem zqB:fieldZ ar 133 1 1:=kz
theorem zsp:tyA ar 113 3:=kz
theorem zq7:tyA ar 116 9:=kz
theorem zpM:tyA ar 119 7:=kz
theorem zqr:tyA ar 128 0:=kz
theorem zq0:tyA ar 133 6:=kz
theorem zqa:tyA ar 271 7:=kz
theorem zql:tyA ar 318 7:=kz
theorem ta36:tyA ar 36 2:=kz
theorem ta38:tyA ar 38 4:=kz
theorem ta41:tyA ar 41 8:=kz
theorem ztU:tyO ar 114:=kz
theorem zqO:tyO ar 117:=kz
theorem zqG:tyO ar 131:=kz
theorem zsx:tyO ar 207:=kz
theorem zss:tyO ar 213:=kz
theorem zrA:tyO ar 233:=kz
theorem zrb:tyO ar 261:=kz
theorem zrV:tyO ar 265:=kz
theorem ztP:tyO ar 269:=kz
theorem zr8:tyO ar 290:=kz
theorem zrF:tyO ar 296:=kz
theorem zui:tyO ar 316:=kz
theorem zsv:tyO ar 324:=kz
theorem to39:tyO ar 39:=kz
theorem to4:tyO ar 4:=kz
theorem zq6:sized ar 116 9:=kz
theorem zpN:sized ar 119 7:=kz
theorem zq1:sized ar 133 6:=kz
theorem zqc:sized ar 271 7:=kz
theorem zqm:sized ar 318 7:=kz
theorem ts41:sized ar 41 8:=kz
theorem zq8:zeroOf ar 116=some (.agg (kq zpt)):=kz
theorem zpQ:zeroOf ar 119=some (.agg (kq zpl)):=kz
theorem zq4:zeroOf ar 133=some (.agg (kq zpk)):=kz
theorem zqe:zeroOf ar 271=some (.agg (kq zpy)):=kz
theorem zqx:zeroOf ar 318=some (.agg (kq zpH)):=kz
theorem tz41:zeroOf ar 41=some (.agg (kq zpn)):=kz
def D.ziY (a0:Access) (a1:(Int→T Unit)):T Unit:=(T.act a0.op a0.at_ a0.a a0.b a1)
theorem zhE (hF:kH F w0)
    (a0:Access) {a1f:FuncId} {aG aH:List Value} {a1:(Int→T Unit)} (a1n:FnT ar zpk u64 (n) F w0 (kf a1f aG aH) a1) :
    Calls ar 293 #[aq (zpu a0),kf a1f aG aH] w0 (zpp ar zpk n (D.ziY a0 a1) F w0):=by
 refine kN Tryz.func293 rfl 8 rfl rfl fun fr r hB=>?_;refine wsr ?_
 refine kX 38 (aq (zpu a0)) r rfl rfl fun b1 w2 n3 r=>?_;obtain ⟨E1,Z2,H1,hB,zB⟩:=n3.all hB
 refine za7 (.cells (kq zpk) 133 (0,0)) r (fun R=>za6 zq4) rfl fun fr b4 w5 n6 r=>?_;have H1:=keep n6.below H1
 obtain ⟨E4,Z5,H4,hB,zB⟩:=n6.all hB;refine wn (wsr (kG (zpu a0) 4 r rfl H1 ta38 rfl rfl fun r=>kM (kf a1f aG aH) r rfl rfl fun r=>kU (.agg (zph false zpk.zero a0.op a0.at_ a0.a a0.b (kf a1f aG aH))) r kz rfl fun r=>?_));refine zaD (.cells (zph false zpk.zero a0.op a0.at_ a0.a a0.b (kf a1f aG aH)) 133 (0,0)) r (fun R=>zax r (o:=0) (v:=(.agg (zph false zpk.zero a0.op a0.at_ a0.a a0.b (kf a1f aG aH)))) rfl rfl H4 zq1 ak rfl rfl) rfl fun fr w7 u8 r=>?_
 have Z7:=u8.size;have H1:=u8.keep H1 kw
 have H4:=u8.at_;obtain ⟨hB,zB⟩:=u8.on hB kw
 refine wn (ac ?_);refine za5 r rfl rfl H4 (k:=6) rfl zq0 ?_;exact ⟨_,rfl,hB,Rep.ziT (a1n.mono (Nat.le_refl _) (fun b hb=>.inl hb) (Same.below hB hF) hB.size)⟩
def D.zen :T Unit:=(T.done ())
theorem zgg (hF:kH F w0)
     :
    Calls ar 292 #[.agg #[]] w0 (zpp ar zpk n D.zen F w0):=by
 refine kN Tryz.func292 rfl 5 rfl rfl fun fr r hB=>?_;refine wsr ?_
 refine kX 128 (.agg #[]) r rfl rfl fun b1 w2 n3 r=>?_;obtain ⟨E1,Z2,H1,hB,zB⟩:=n3.all hB
 refine za7 (.cells (kq zpk) 133 (0,0)) r (fun R=>za6 zq4) rfl fun fr b4 w5 n6 r=>?_;have H1:=keep n6.below H1
 obtain ⟨E4,Z5,H4,hB,zB⟩:=n6.all hB;refine wn (wsr (kG [] 0 r rfl H1 zqr rfl rfl fun r=>kU (.agg (zph true (zpk.cells ()) 0 0 0 0 .nilFunc)) r kz rfl fun r=>?_));refine zaD (.cells (zph true (zpk.cells ()) 0 0 0 0 .nilFunc) 133 (0,0)) r (fun R=>zax r (o:=0) (v:=(.agg (zph true (zpk.cells ()) 0 0 0 0 .nilFunc))) rfl rfl H4 zq1 ak rfl rfl) rfl fun fr w7 u8 r=>?_
 have Z7:=u8.size;have H1:=u8.keep H1 kw
 have H4:=u8.at_;obtain ⟨hB,zB⟩:=u8.on hB kw
 refine wn (ac ?_);refine za5 r rfl rfl H4 (k:=6) rfl zq0 ?_;exact ⟨_,rfl,hB,Rep.zgO⟩
def D.zfS (a0:Res):T Res:=(T.done a0)
def D.zgb (a0:Access) (a1:(Int→T Res)):T Res:=(T.act a0.op a0.at_ a0.a a0.b a1)
def D.zg4 (a0:Access) (a1:(Int→T Int)):T Int:=(T.act a0.op a0.at_ a0.a a0.b a1)
theorem ze4 (hF:kH F w0)
    (a0:Access) {a1f:FuncId} {aG aH:List Value} {a1:(Int→T Int)} (a1n:FnT ar zpl u64 (n) F w0 (kf a1f aG aH) a1) :
    Calls ar 283 #[aq (zpu a0),kf a1f aG aH] w0 (zpp ar zpl n (D.zg4 a0 a1) F w0):=by
 refine kN Tryz.func283 rfl 8 rfl rfl fun fr r hB=>?_;refine wsr ?_
 refine kX 38 (aq (zpu a0)) r rfl rfl fun b1 w2 n3 r=>?_;obtain ⟨E1,Z2,H1,hB,zB⟩:=n3.all hB
 refine za7 (.cells (kq zpl) 119 (0,0)) r (fun R=>za6 zpQ) rfl fun fr b4 w5 n6 r=>?_;have H1:=keep n6.below H1
 obtain ⟨E4,Z5,H4,hB,zB⟩:=n6.all hB;refine wn (wsr (kG (zpu a0) 4 r rfl H1 ta38 rfl rfl fun r=>kM (kf a1f aG aH) r rfl rfl fun r=>kU (.agg (zph false zpl.zero a0.op a0.at_ a0.a a0.b (kf a1f aG aH))) r kz rfl fun r=>?_));refine zaD (.cells (zph false zpl.zero a0.op a0.at_ a0.a a0.b (kf a1f aG aH)) 119 (0,0)) r (fun R=>zax r (o:=0) (v:=(.agg (zph false zpl.zero a0.op a0.at_ a0.a a0.b (kf a1f aG aH)))) rfl rfl H4 zpN ak rfl rfl) rfl fun fr w7 u8 r=>?_
 have Z7:=u8.size;have H1:=u8.keep H1 kw
 have H4:=u8.at_;obtain ⟨hB,zB⟩:=u8.on hB kw
 refine wn (ac ?_);refine za5 r rfl rfl H4 (k:=7) rfl zpM ?_;exact ⟨_,rfl,hB,Rep.ziT (a1n.mono (Nat.le_refl _) (fun b hb=>.inl hb) (Same.below hB hF) hB.size)⟩
def D.zaR (a0:Int):T Int:=(T.done a0)
theorem zbd (hF:kH F w0)
    (a0:Int) :
    Calls ar 222 #[.int .i64 a0] w0 (zpp ar zpl n (D.zaR a0) F w0):=by
 refine kN Tryz.func222 rfl 5 rfl rfl fun fr r hB=>?_;refine wsr ?_
 refine za7 (.cells (kq zpl) 119 (0,0)) r (fun R=>za6 zpQ) rfl fun fr b1 w2 n3 r=>?_;obtain ⟨E1,Z2,H1,hB,zB⟩:=n3.all hB
 refine wn (wsr (kM (I a0) r rfl rfl fun r=>kU (.agg (zph true (zpl.cells a0) 0 0 0 0 .nilFunc)) r kz rfl fun r=>?_));refine zaD (.cells (zph true (zpl.cells a0) 0 0 0 0 .nilFunc) 119 (0,0)) r (fun R=>zax r (o:=0) (v:=(.agg (zph true (zpl.cells a0) 0 0 0 0 .nilFunc))) rfl rfl H1 zpN ak rfl rfl) rfl fun fr w4 u5 r=>?_
 have Z4:=u5.size;have H1:=u5.at_;obtain ⟨hB,zB⟩:=u5.on hB kw
 refine wn (ac ?_);refine za5 r rfl rfl H1 (k:=7) rfl zpM ?_;exact ⟨_,rfl,hB,Rep.zgO⟩
def D.zdW (a0:Grant):T Grant:=(T.done a0)
theorem zfL (hF:kH F w0)
    (a0:Grant) :
    Calls ar 179 #[aq (grantC a0)] w0 (zpp ar zpt n (D.zdW a0) F w0):=by
 refine kN Tryz.func179 rfl 5 rfl rfl fun fr r hB=>?_;refine wsr ?_
 refine kX 113 (aq (grantC a0)) r rfl rfl fun b1 w2 n3 r=>?_;obtain ⟨E1,Z2,H1,hB,zB⟩:=n3.all hB
 refine za7 (.cells (kq zpt) 116 (0,0)) r (fun R=>za6 zq8) rfl fun fr b4 w5 n6 r=>?_;have H1:=keep n6.below H1
 obtain ⟨E4,Z5,H4,hB,zB⟩:=n6.all hB;refine wn (wsr (kG (grantC a0) 3 r rfl H1 zsp rfl rfl fun r=>kU (.agg (zph true (zpt.cells a0) 0 0 0 0 .nilFunc)) r kz rfl fun r=>?_));refine zaD (.cells (zph true (zpt.cells a0) 0 0 0 0 .nilFunc) 116 (0,0)) r (fun R=>zax r (o:=0) (v:=(.agg (zph true (zpt.cells a0) 0 0 0 0 .nilFunc))) rfl rfl H4 zq6 ak rfl rfl) rfl fun fr w7 u8 r=>?_
 have Z7:=u8.size;have H1:=u8.keep H1 kw
 have H4:=u8.at_;obtain ⟨hB,zB⟩:=u8.on hB kw
 refine wn (ac ?_);refine za5 r rfl rfl H4 (k:=9) rfl zq7 ?_;exact ⟨_,rfl,hB,Rep.zgO⟩
def D.zg7 (a0:Access) (a1:(Int→T Grant)):T Grant:=(T.act a0.op a0.at_ a0.a a0.b a1)
theorem zeX (hF:kH F w0)
    (a0:Access) {a1f:FuncId} {aG aH:List Value} {a1:(Int→T Grant)} (a1n:FnT ar zpt u64 (n) F w0 (kf a1f aG aH) a1) :
    Calls ar 274 #[aq (zpu a0),kf a1f aG aH] w0 (zpp ar zpt n (D.zg7 a0 a1) F w0):=by
 refine kN Tryz.func274 rfl 8 rfl rfl fun fr r hB=>?_;refine wsr ?_
 refine kX 38 (aq (zpu a0)) r rfl rfl fun b1 w2 n3 r=>?_;obtain ⟨E1,Z2,H1,hB,zB⟩:=n3.all hB
 refine za7 (.cells (kq zpt) 116 (0,0)) r (fun R=>za6 zq8) rfl fun fr b4 w5 n6 r=>?_;have H1:=keep n6.below H1
 obtain ⟨E4,Z5,H4,hB,zB⟩:=n6.all hB;refine wn (wsr (kG (zpu a0) 4 r rfl H1 ta38 rfl rfl fun r=>kM (kf a1f aG aH) r rfl rfl fun r=>kU (.agg (zph false zpt.zero a0.op a0.at_ a0.a a0.b (kf a1f aG aH))) r kz rfl fun r=>?_));refine zaD (.cells (zph false zpt.zero a0.op a0.at_ a0.a a0.b (kf a1f aG aH)) 116 (0,0)) r (fun R=>zax r (o:=0) (v:=(.agg (zph false zpt.zero a0.op a0.at_ a0.a a0.b (kf a1f aG aH)))) rfl rfl H4 zq6 ak rfl rfl) rfl fun fr w7 u8 r=>?_
 have Z7:=u8.size;have H1:=u8.keep H1 kw
 have H4:=u8.at_;obtain ⟨hB,zB⟩:=u8.on hB kw
 refine wn (ac ?_);refine za5 r rfl rfl H4 (k:=9) rfl zq7 ?_;exact ⟨_,rfl,hB,Rep.ziT (a1n.mono (Nat.le_refl _) (fun b hb=>.inl hb) (Same.below hB hF) hB.size)⟩
def D.zdn (a0:Bool):T Bool:=(T.done a0)
theorem zgk (hF:kH F w0)
    (a0:Bool) :
    Calls ar 395 #[.bool a0] w0 (zpp ar zpH n (D.zdn a0) F w0):=by
 refine kN Tryz.func395 rfl 5 rfl rfl fun fr r hB=>?_;refine wsr ?_
 refine za7 (.cells (kq zpH) 318 (0,0)) r (fun R=>za6 zqx) rfl fun fr b1 w2 n3 r=>?_;obtain ⟨E1,Z2,H1,hB,zB⟩:=n3.all hB
 refine wn (wsr (kM (.bool a0) r rfl rfl fun r=>kU (.agg (zph true (zpH.cells a0) 0 0 0 0 .nilFunc)) r kz rfl fun r=>?_));refine zaD (.cells (zph true (zpH.cells a0) 0 0 0 0 .nilFunc) 318 (0,0)) r (fun R=>zax r (o:=0) (v:=(.agg (zph true (zpH.cells a0) 0 0 0 0 .nilFunc))) rfl rfl H1 zqm ak rfl rfl) rfl fun fr w4 u5 r=>?_
 have Z4:=u5.size;have H1:=u5.at_;obtain ⟨hB,zB⟩:=u5.on hB kw
 refine wn (ac ?_);refine za5 r rfl rfl H1 (k:=7) rfl zql ?_;exact ⟨_,rfl,hB,Rep.zgO⟩
def D.ziR (a0:Access) (a1:(Int→T Bool)):T Bool:=(T.act a0.op a0.at_ a0.a a0.b a1)
theorem zkd (hF:kH F w0)
    (a0:Access) {a1f:FuncId} {aG aH:List Value} {a1:(Int→T Bool)} (a1n:FnT ar zpH u64 (n) F w0 (kf a1f aG aH) a1) :
    Calls ar 400 #[aq (zpu a0),kf a1f aG aH] w0 (zpp ar zpH n (D.ziR a0 a1) F w0):=by
 refine kN Tryz.func400 rfl 8 rfl rfl fun fr r hB=>?_;refine wsr ?_
 refine kX 38 (aq (zpu a0)) r rfl rfl fun b1 w2 n3 r=>?_;obtain ⟨E1,Z2,H1,hB,zB⟩:=n3.all hB
 refine za7 (.cells (kq zpH) 318 (0,0)) r (fun R=>za6 zqx) rfl fun fr b4 w5 n6 r=>?_;have H1:=keep n6.below H1
 obtain ⟨E4,Z5,H4,hB,zB⟩:=n6.all hB;refine wn (wsr (kG (zpu a0) 4 r rfl H1 ta38 rfl rfl fun r=>kM (kf a1f aG aH) r rfl rfl fun r=>kU (.agg (zph false zpH.zero a0.op a0.at_ a0.a a0.b (kf a1f aG aH))) r kz rfl fun r=>?_));refine zaD (.cells (zph false zpH.zero a0.op a0.at_ a0.a a0.b (kf a1f aG aH)) 318 (0,0)) r (fun R=>zax r (o:=0) (v:=(.agg (zph false zpH.zero a0.op a0.at_ a0.a a0.b (kf a1f aG aH)))) rfl rfl H4 zqm ak rfl rfl) rfl fun fr w7 u8 r=>?_
 have Z7:=u8.size;have H1:=u8.keep H1 kw
 have H4:=u8.at_;obtain ⟨hB,zB⟩:=u8.on hB kw
 refine wn (ac ?_);refine za5 r rfl rfl H4 (k:=7) rfl zql ?_;exact ⟨_,rfl,hB,Rep.ziT (a1n.mono (Nat.le_refl _) (fun b hb=>.inl hb) (Same.below hB hF) hB.size)⟩
def D.zhC (a0:Access) (a1:(Int→T Int)):T Int:=(T.act a0.op a0.at_ a0.a a0.b a1)
theorem zgh (hF:kH F w0)
    (a0:Access) {a1f:FuncId} {aG aH:List Value} {a1:(Int→T Int)} (a1n:FnT ar zpy u64 (n) F w0 (kf a1f aG aH) a1) :
    Calls ar 358 #[aq (zpu a0),kf a1f aG aH] w0 (zpp ar zpy n (D.zhC a0 a1) F w0):=by
 refine kN Tryz.func358 rfl 8 rfl rfl fun fr r hB=>?_;refine wsr ?_
 refine kX 38 (aq (zpu a0)) r rfl rfl fun b1 w2 n3 r=>?_;obtain ⟨E1,Z2,H1,hB,zB⟩:=n3.all hB
 refine za7 (.cells (kq zpy) 271 (0,0)) r (fun R=>za6 zqe) rfl fun fr b4 w5 n6 r=>?_;have H1:=keep n6.below H1
 obtain ⟨E4,Z5,H4,hB,zB⟩:=n6.all hB;refine wn (wsr (kG (zpu a0) 4 r rfl H1 ta38 rfl rfl fun r=>kM (kf a1f aG aH) r rfl rfl fun r=>kU (.agg (zph false zpy.zero a0.op a0.at_ a0.a a0.b (kf a1f aG aH))) r kz rfl fun r=>?_));refine zaD (.cells (zph false zpy.zero a0.op a0.at_ a0.a a0.b (kf a1f aG aH)) 271 (0,0)) r (fun R=>zax r (o:=0) (v:=(.agg (zph false zpy.zero a0.op a0.at_ a0.a a0.b (kf a1f aG aH)))) rfl rfl H4 zqc ak rfl rfl) rfl fun fr w7 u8 r=>?_
 have Z7:=u8.size;have H1:=u8.keep H1 kw
 have H4:=u8.at_;obtain ⟨hB,zB⟩:=u8.on hB kw
 refine wn (ac ?_);refine za5 r rfl rfl H4 (k:=7) rfl zqa ?_;exact ⟨_,rfl,hB,Rep.ziT (a1n.mono (Nat.le_refl _) (fun b hb=>.inl hb) (Same.below hB hF) hB.size)⟩
def D.zcv (a0:Int):T Int:=(T.done a0)
theorem zfl (hF:kH F w0)
    (a0:Int) :
    Calls ar 359 #[.int .u64 a0] w0 (zpp ar zpy n (D.zcv a0) F w0):=by
 refine kN Tryz.func359 rfl 5 rfl rfl fun fr r hB=>?_;refine wsr ?_
 refine za7 (.cells (kq zpy) 271 (0,0)) r (fun R=>za6 zqe) rfl fun fr b1 w2 n3 r=>?_;obtain ⟨E1,Z2,H1,hB,zB⟩:=n3.all hB
 refine wn (wsr (kM (U a0) r rfl rfl fun r=>kU (.agg (zph true (zpy.cells a0) 0 0 0 0 .nilFunc)) r kz rfl fun r=>?_));refine zaD (.cells (zph true (zpy.cells a0) 0 0 0 0 .nilFunc) 271 (0,0)) r (fun R=>zax r (o:=0) (v:=(.agg (zph true (zpy.cells a0) 0 0 0 0 .nilFunc))) rfl rfl H1 zqc ak rfl rfl) rfl fun fr w4 u5 r=>?_
 have Z4:=u5.size;have H1:=u5.at_;obtain ⟨hB,zB⟩:=u5.on hB kw
 refine wn (ac ?_);refine za5 r rfl rfl H1 (k:=7) rfl zqa ?_;exact ⟨_,rfl,hB,Rep.zgO⟩
def zdX (n:Nat):Prop:=∀ {F:Nat→Prop} {w0:World},(∀ b,F b→b<w0.heap.size)→∀ {t:T (Bool)} {pv fv:Value} {g:Bool→T (Int)},Rep ar zpH n t F w0 pv→FnT ar zpl boolE n F w0 fv g→
  (t.zpB=false∨FnT ar zpl boolE (n+1) F w0 fv g)→Calls ar 348 #[pv,fv] w0 (zpp ar zpl n (t.bind g) F w0)
theorem zhs {n:Nat} (ih:zdX n) {F:Nat→Prop} {w0:World} (hF:∀ b,F b→b<w0.heap.size) {op at_ a b:Int} {nf:FuncId} {n1 n2:List Value} {k:Int→T (Bool)} {ff:FuncId} {f1 f2:List Value} {g:Bool→T (Int)}
    {b1 b2:Nat} (F1:F b1) (h1:w0.heap[b1]?=some (.cells (zph false zpH.zero op at_ a b (kf nf n1 n2)) 318 (0,0))) (F2:F b2) (h2:w0.heap[b2]?=some (.cells #[kf ff f1 f2] 290 (0,0)))
    (hk:FnT ar zpH u64 (n+1) F w0 (kf nf n1 n2) k) (hg:FnT ar zpl boolE (n+1) F w0 (kf ff f1 f2) g) (x:Int) :
    Calls ar 379 #[.int .u64 x,zp b1,zp b2] w0 (zpp ar zpl n ((k x).bind g) F w0):=by
 refine kN Tryz.func379 rfl 11 rfl rfl fun fr r hB=>?_;refine aa (af ?_)
 refine za7 (.cells (kq zpl) 119 (0,0)) r (fun R=>za6 zpQ) rfl fun fr b3 w1 q1 r=>wn ?_;have h1:=keep q1.below h1
 have h2:=keep q1.below h2;have e3:=q1.eq;have z1:=q1.size;have h3:=q1.at_;have hB:=hB.trans (q1.below.mono hB.size);have zB:=hB.size;refine aa ?_;refine zaB 5 [.val (.pointer (some ⟨b1,6,none⟩)),.val (kf nf n1 n2),.val (U x),.pred (RepAt ar zpH n (k x) F w0.heap.size b3) RepAt.stable,.val (kf ff f1 f2)] mixed r kz (zaI trivial (zaI trivial (zaI trivial (zaI trivial (zaI trivial zat))))) ?_ ?_
 ·
  refine ec r (fun _ u _ b d s=>za3 s (b:=b1) (o:=0) rfl zoB bz) ?_;refine zbn r rfl (fun fr1 u w' hb' hd r'=>?_) ?_
  ·
   obtain ⟨d0,_⟩:=hd;exact za4 r' (v:=kf nf n1 n2) d0 (keep hb' h1) zui rfl bz
  refine ec r (fun _ u _ b d s=>zar s rfl bz) ?_;refine zbn r rfl (fun fr1 u w' hb' hd r'=>?_) ?_
  ·
   obtain ⟨d0,d1,_⟩:=hd;have zb:=hb'.size;have zb:w1.heap.size≤w'.heap.size:=zb;have hB':Below w0.heap.size w0 w':=hB.trans (Below.mono (w:=w1) ⟨hb'.os,hb'.tape,hb'.output,hb'.size,hb'.block⟩ hB.size);have d0:u 1=kf nf n1 n2:=d0;have d1:u 2=.int .u64 x:=d1;refine zca r' (fs:=n1) (cs:=n2) d0 d1 hk.at_.1 ((hk.at_.2 n (Nat.lt_succ_self n) x w' (Same.below hB' hF) hB'.size).mono ?_);rintro _ w2 ⟨v,rfl,hb2,hr2⟩;refine ⟨v,rfl,hb2,RepAt.zlh (fun b h=>ai (hF b h) hB'.size) kw hB'.size hb2 (Rep.mono ?_ (Same.refl _ _) (Nat.le_refl _) n _ _ hr2)⟩
   rintro b (h | h)
   · exact .inl (.inl h)
   · exact .inr h
  refine ec r (fun _ u _ b d s=>za4 s rfl (keep b h2) zr8 rfl bz) ?_;exact zaO
 intro fr u w2 hb hΦ _ r;obtain ⟨_,hr3,_,hr⟩:RepAt ar zpH n (k x) F w0.heap.size b3 (u 3) w2:=hΦ 3 ke;have r:=r.congr (sc (hΦ 4 ke) rfl);have z2:=hb.size;have h1:=keep hb h1;have h2:=keep hb h2;have h3:=keep hb h3;have hB2:=hB.trans (hb.mono hB.size);have zB2:=hB2.size;have hF1:∀ b,(kW F w0 w2 b3) b→b<w2.heap.size:=by rintro b (h | h); exact ai (hF b h) hB2.size; exact h.2.1
 refine kC r (ih (F:=fun b=>F b∨(w0.heap.size≤b∧b<w2.heap.size∧b≠b3)) hF1 hr (hg.mono kw (fun b h=>.inl h) (Same.below hB2 hF) hB2.size)
  (.inr (hg.mono (Nat.le_refl _) (fun b h=>.inl h) (Same.below hB2 hF) hB2.size))) rfl zsA rfl ?_
 rintro _ w3 ⟨v2,rfl,hb2,hr2⟩;refine ⟨_,rfl,fun fr r=>?_⟩
 have z3:=hb2.size;have h3:=keep hb2 h3;have hB3:=hB2.trans (hb2.mono hB2.size);refine kP r hr2.shape rfl rfl h3 zpN rfl rfl fun w4 u4 r=>wn ?_;have z4:=u4.size
 have h3:=u4.at_;have hB4:=u4.below hB3 kw
 refine ac ?_;have hs:=hr2.shape.cells;refine za5 r rfl rfl h3 (k:=7) hs.1 zpM ?_;rw [←hs.2.2];exact zpp.fin hB4 hr2 u4 yac yaa kw kw kw
theorem zhr (n:Nat):zdX n:=by
 induction n using Nat.strongRecOn with
 | _ n ih=>
 intro F w0 hF t pv fv g hp hf hd;obtain ⟨ff,f1,f2,hcf,rfl,hff⟩:=id hf;cases t with
 | cut=>unfold Rep at hp; exact hp.elim
 | done x0=>
  have hf:=hd.resolve_left yax
  unfold Rep at hp
  subst hp;refine enter (l:=[.agg (zph true (zpH.cells x0) 0 0 0 0 .nilFunc),kf ff f1 f2]) Tryz.func348 rfl 15 rfl rfl fun fr r=>?_;have hB:=Below.refl w0.heap.size w0
  refine aa (af ?_);refine kX 318 (.agg (zph true (zpH.cells x0) 0 0 0 0 .nilFunc)) r rfl rfl fun b1 w1 q1 r=>?_;refine kX 290 (kf ff f1 f2) r rfl rfl fun b2 w2 q2 r=>?_
  refine za7 (.cells (kq zpl) 119 (0,0)) r (fun R=>za6 zpQ) rfl fun fr b3 w3 q3 r=>aj ?_;have h1:=keep q3.below (keep q2.below q1.at_)
  have h2:=keep q3.below q2.at_;have h3:=q3.at_;have e1:=q1.eq; have e2:=q2.eq; have e3:=q3.eq; have z1:=q1.size; have z2:=q2.size; have z3:=q3.size;have hB:=((hB.trans q1.below).trans (q2.below.mono kw)).trans (q3.below.mono kw)
  have zB:=hB.size;refine aa (aa (af (za0 (zp b1) r (fun R=>za3 r (o:=0) rfl znF) rfl fun fr r=>?_)));refine za0 (.bool true) r (fun R=>za4 r (v:=.bool true) rfl h1 to4 rfl) rfl fun fr r=>aj ?_
  refine ae (t:=true) (r.ev rfl) (fun _=>?_) (fun h=>by cases h)
  refine aa (af (za0 (kf ff f1 f2) r (fun R=>za4 r (v:=kf ff f1 f2) rfl h2 zr8 rfl) rfl fun fr r=>za0 (.pointer (some ⟨b1,1,none⟩)) r (fun R=>za3 r (o:=0) rfl zoL) rfl fun fr r=>za0 (.bool x0) r (fun R=>za4 r (v:=(.bool x0)) rfl h1 to4 rfl) rfl fun fr r=>?_));refine zbq r (hf.at_.2 n (Nat.lt_succ_self n) x0 w3 (Same.below hB hF) hB.size) (fun R hc=>ze6 r rfl rfl hf.at_.1 hc) rfl ?_
  rintro _ w4 ⟨v,rfl,hb,hr⟩;refine ⟨_,rfl,fun fr r=>?_⟩
  have z4:=hb.size;have h3:=keep hb h3;have hB:=hB.trans (hb.mono hB.size);refine kP r hr.shape rfl rfl h3 zpN rfl rfl fun w5 u5 r=>aj ?_;have z5:=u5.size
  have h3:=u5.at_;have hB:=u5.below hB kw
  refine ac ?_;have hs:=hr.shape.cells;refine za5 r rfl rfl h3 (k:=7) hs.1 zpM ?_;rw [←hs.2.2];exact zpp.fin hB hr u5 (fun b hb=>.inl hb) (fun h=>by have:=hF _ h; omega) kw kw kw
 | act op at_ a b k=>
  obtain ⟨nf,n1,n2,hcn,rfl,hk⟩:∃ (nf:FuncId) (n1 n2:List Value),zpf ar nf=true∧pv=.agg (zph false zpH.zero op at_ a b (kf nf n1 n2))∧FnT ar zpH u64 n F w0 (kf nf n1 n2) k:=by
   exact Rep.zcG hp
  refine enter (l:=[.agg (zph false zpH.zero op at_ a b (kf nf n1 n2)),kf ff f1 f2]) Tryz.func348 rfl 15 rfl rfl fun fr r=>?_;have hB:=Below.refl w0.heap.size w0
  refine aa (af ?_);refine kX 318 (.agg (zph false zpH.zero op at_ a b (kf nf n1 n2))) r rfl rfl fun b1 w1 q1 r=>?_;refine kX 290 (kf ff f1 f2) r rfl rfl fun b2 w2 q2 r=>?_
  refine za7 (.cells (kq zpl) 119 (0,0)) r (fun R=>za6 zpQ) rfl fun fr b3 w3 q3 r=>aj ?_;have h1:=keep q3.below (keep q2.below q1.at_)
  have h2:=keep q3.below q2.at_;have h3:=q3.at_;have e1:=q1.eq; have e2:=q2.eq; have e3:=q3.eq; have z1:=q1.size; have z2:=q2.size; have z3:=q3.size;have hB:=((hB.trans q1.below).trans (q2.below.mono kw)).trans (q3.below.mono kw)
  have zB:=hB.size;refine aa (aa (af (za0 (zp b1) r (fun R=>za3 r (o:=0) rfl znF) rfl fun fr r=>?_)));refine za0 (.bool false) r (fun R=>za4 r (v:=.bool false) rfl h1 to4 rfl) rfl fun fr r=>aj ?_
  refine ae (t:=false) (r.ev rfl) (fun h=>by cases h) (fun _=>ag ?_);refine aa (af (za0 (.pointer (some ⟨b1,2,none⟩)) r (fun R=>za3 r (o:=0) rfl zoF) rfl fun fr r=>kG (zpu (⟨op,at_,a,b⟩:Access)) 4 r rfl h1 ta38 rfl rfl fun r=>za0 (.func (.func 379) #[] #[zp b1,zp b2]) r (fun R=>zaf r rfl) rfl fun fr r=>?_))
  have hF1:∀ b,(fun b=>F b∨b=b1∨b=b2) b→b<w3.heap.size:=by rintro b (h | h | h); exact ai (hF b h) hB.size; omega; omega
  refine kC r (ze4 (F:=fun b=>F b∨b=b1∨b=b2) (n:=n) hF1 ⟨op,at_,a,b⟩ (a1:=fun x=>(k x).bind g) (show FnT ar zpl u64 n (fun b=>F b∨b=b1∨b=b2) w3 (kf 379 [] [zp b1,zp b2]) (fun x=>(k x).bind g) from
   ⟨379,[],[zp b1,zp b2],ztV,rfl,fun m hm x w' hs hz=>zhs (ih m hm) (fun b hb=>ai (hF1 b hb) hz) (.inr (.inl rfl)) (hs.at_ (.inr (.inl rfl)) h1) (.inr (.inr rfl)) (hs.at_ (.inr (.inr rfl)) h2)
    (hk.mono kw (fun b h=>.inl h) ((Same.below hB hF).trans (hs.sub (fun b h=>.inl h))) (Nat.le_trans hB.size hz)) (hf.mono kw (fun b h=>.inl h) ((Same.below hB hF).trans (hs.sub (fun b h=>.inl h))) (Nat.le_trans hB.size hz)) x⟩)) rfl zqF rfl ?_
  rintro _ w4 ⟨v,rfl,hb,hr⟩;refine ⟨_,rfl,fun fr r=>?_⟩
  have z4:=hb.size;have h3:=keep hb h3;have hB:=hB.trans (hb.mono hB.size);refine kP r hr.shape rfl rfl h3 zpN rfl rfl fun w5 u5 r=>aj ?_;have z5:=u5.size
  have h3:=u5.at_;have hB:=u5.below hB kw
  refine ac ?_;have hs:=hr.shape.cells;refine za5 r rfl rfl h3 (k:=7) hs.1 zpM ?_;rw [←hs.2.2];exact zpp.fin hB hr u5 yaf yas kw kw kw
theorem zfY (hF:kH F w0) {t:T (Bool)} {pv fv:Value} {g:Bool→T (Int)} (hp:Rep ar zpH n t F w0 pv) (hf:FnT ar zpl boolE (n+1) F w0 fv g) :
  Calls ar 348 #[pv,fv] w0 (zpp ar zpl n (t.bind g) F w0):=zhr n hF hp (hf.mono kw (fun b h=>h) (Same.refl _ _) (Nat.le_refl _)) (.inr hf)
def zdC (n:Nat):Prop:=∀ {F:Nat→Prop} {w0:World},(∀ b,F b→b<w0.heap.size)→∀ {t:T (Unit)} {pv fv:Value} {g:Unit→T (Unit)},Rep ar zpk n t F w0 pv→FnT ar zpk noneE n F w0 fv g→
  (t.zpB=false∨FnT ar zpk noneE (n+1) F w0 fv g)→Calls ar 352 #[pv,fv] w0 (zpp ar zpk n (t.bind g) F w0)
theorem zgu {n:Nat} (ih:zdC n) {F:Nat→Prop} {w0:World} (hF:∀ b,F b→b<w0.heap.size) {op at_ a b:Int} {nf:FuncId} {n1 n2:List Value} {k:Int→T (Unit)} {ff:FuncId} {f1 f2:List Value} {g:Unit→T (Unit)}
    {b1 b2:Nat} (F1:F b1) (h1:w0.heap[b1]?=some (.cells (zph false zpk.zero op at_ a b (kf nf n1 n2)) 133 (0,0))) (F2:F b2) (h2:w0.heap[b2]?=some (.cells #[kf ff f1 f2] 296 (0,0)))
    (hk:FnT ar zpk u64 (n+1) F w0 (kf nf n1 n2) k) (hg:FnT ar zpk noneE (n+1) F w0 (kf ff f1 f2) g) (x:Int) :
    Calls ar 385 #[.int .u64 x,zp b1,zp b2] w0 (zpp ar zpk n ((k x).bind g) F w0):=by
 refine kN Tryz.func385 rfl 11 rfl rfl fun fr r hB=>?_;refine aa (af ?_)
 refine za7 (.cells (kq zpk) 133 (0,0)) r (fun R=>za6 zq4) rfl fun fr b3 w1 q1 r=>wn ?_;have h1:=keep q1.below h1
 have h2:=keep q1.below h2;have e3:=q1.eq;have z1:=q1.size;have h3:=q1.at_;have hB:=hB.trans (q1.below.mono hB.size);have zB:=hB.size;refine aa ?_;refine zaB 5 [.val (.pointer (some ⟨b1,5,none⟩)),.val (kf nf n1 n2),.val (U x),.pred (RepAt ar zpk n (k x) F w0.heap.size b3) RepAt.stable,.val (kf ff f1 f2)] mixed r kz (zaI trivial (zaI trivial (zaI trivial (zaI trivial (zaI trivial zat))))) ?_ ?_
 ·
  refine ec r (fun _ u _ b d s=>za3 s (b:=b1) (o:=0) rfl zk0 bz) ?_;refine zbn r rfl (fun fr1 u w' hb' hd r'=>?_) ?_
  ·
   obtain ⟨d0,_⟩:=hd;exact za4 r' (v:=kf nf n1 n2) d0 (keep hb' h1) zqG rfl bz
  refine ec r (fun _ u _ b d s=>zar s rfl bz) ?_;refine zbn r rfl (fun fr1 u w' hb' hd r'=>?_) ?_
  ·
   obtain ⟨d0,d1,_⟩:=hd;have zb:=hb'.size;have zb:w1.heap.size≤w'.heap.size:=zb;have hB':Below w0.heap.size w0 w':=hB.trans (Below.mono (w:=w1) ⟨hb'.os,hb'.tape,hb'.output,hb'.size,hb'.block⟩ hB.size);have d0:u 1=kf nf n1 n2:=d0;have d1:u 2=.int .u64 x:=d1;refine zca r' (fs:=n1) (cs:=n2) d0 d1 hk.at_.1 ((hk.at_.2 n (Nat.lt_succ_self n) x w' (Same.below hB' hF) hB'.size).mono ?_);rintro _ w2 ⟨v,rfl,hb2,hr2⟩;refine ⟨v,rfl,hb2,RepAt.zlh (fun b h=>ai (hF b h) hB'.size) kw hB'.size hb2 (Rep.mono ?_ (Same.refl _ _) (Nat.le_refl _) n _ _ hr2)⟩
   rintro b (h | h)
   · exact .inl (.inl h)
   · exact .inr h
  refine ec r (fun _ u _ b d s=>za4 s rfl (keep b h2) zrF rfl bz) ?_;exact zaO
 intro fr u w2 hb hΦ _ r;obtain ⟨_,hr3,_,hr⟩:RepAt ar zpk n (k x) F w0.heap.size b3 (u 3) w2:=hΦ 3 ke;have r:=r.congr (sc (hΦ 4 ke) rfl);have z2:=hb.size;have h1:=keep hb h1;have h2:=keep hb h2;have h3:=keep hb h3;have hB2:=hB.trans (hb.mono hB.size);have zB2:=hB2.size;have hF1:∀ b,(kW F w0 w2 b3) b→b<w2.heap.size:=by rintro b (h | h); exact ai (hF b h) hB2.size; exact h.2.1
 refine kC r (ih (F:=fun b=>F b∨(w0.heap.size≤b∧b<w2.heap.size∧b≠b3)) hF1 hr (hg.mono kw (fun b h=>.inl h) (Same.below hB2 hF) hB2.size)
  (.inr (hg.mono (Nat.le_refl _) (fun b h=>.inl h) (Same.below hB2 hF) hB2.size))) rfl zsi rfl ?_
 rintro _ w3 ⟨v2,rfl,hb2,hr2⟩;refine ⟨_,rfl,fun fr r=>?_⟩
 have z3:=hb2.size;have h3:=keep hb2 h3;have hB3:=hB2.trans (hb2.mono hB2.size);refine kP r hr2.shape rfl rfl h3 zq1 rfl rfl fun w4 u4 r=>wn ?_;have z4:=u4.size
 have h3:=u4.at_;have hB4:=u4.below hB3 kw
 refine ac ?_;have hs:=hr2.shape.cells;refine za5 r rfl rfl h3 (k:=6) hs.1 zq0 ?_;rw [←hs.2.2];exact zpp.fin hB4 hr2 u4 yac yaa kw kw kw
theorem zgw (n:Nat):zdC n:=by
 induction n using Nat.strongRecOn with
 | _ n ih=>
 intro F w0 hF t pv fv g hp hf hd;obtain ⟨ff,f1,f2,hcf,rfl,hff⟩:=id hf;cases t with
 | cut=>unfold Rep at hp; exact hp.elim
 | done x0=>
  have hf:=hd.resolve_left yax
  unfold Rep at hp
  subst hp;refine enter (l:=[.agg (zph true (zpk.cells x0) 0 0 0 0 .nilFunc),kf ff f1 f2]) Tryz.func352 rfl 15 rfl rfl fun fr r=>?_;have hB:=Below.refl w0.heap.size w0
  refine aa (af ?_);refine kX 133 (.agg (zph true (zpk.cells x0) 0 0 0 0 .nilFunc)) r rfl rfl fun b1 w1 q1 r=>?_;refine kX 296 (kf ff f1 f2) r rfl rfl fun b2 w2 q2 r=>?_
  refine za7 (.cells (kq zpk) 133 (0,0)) r (fun R=>za6 zq4) rfl fun fr b3 w3 q3 r=>aj ?_;have h1:=keep q3.below (keep q2.below q1.at_)
  have h2:=keep q3.below q2.at_;have h3:=q3.at_;have e1:=q1.eq; have e2:=q2.eq; have e3:=q3.eq; have z1:=q1.size; have z2:=q2.size; have z3:=q3.size;have hB:=((hB.trans q1.below).trans (q2.below.mono kw)).trans (q3.below.mono kw)
  have zB:=hB.size;refine aa (aa (af (za0 (zp b1) r (fun R=>za3 r (o:=0) rfl zeV) rfl fun fr r=>?_)));refine za0 (.bool true) r (fun R=>za4 r (v:=.bool true) rfl h1 to4 rfl) rfl fun fr r=>aj ?_
  refine ae (t:=true) (r.ev rfl) (fun _=>?_) (fun h=>by cases h)
  refine aa (af (za0 (kf ff f1 f2) r (fun R=>za4 r (v:=kf ff f1 f2) rfl h2 zrF rfl) rfl fun fr r=>?_));refine zjs b1 1 r (fun R=>zeu r rfl zqB h1) rfl fun fr sp r=>za0 (.agg #[]) r (fun R=>zeY r rfl zqr) rfl fun fr r=>?_
  refine zbq r (hf.at_.2 n (Nat.lt_succ_self n) x0 w3 (Same.below hB hF) hB.size) (fun R hc=>ze6 r rfl rfl hf.at_.1 hc) rfl ?_;rintro _ w4 ⟨v,rfl,hb,hr⟩
  refine ⟨_,rfl,fun fr r=>?_⟩
  have z4:=hb.size;have h3:=keep hb h3;have hB:=hB.trans (hb.mono hB.size);refine kP r hr.shape rfl rfl h3 zq1 rfl rfl fun w5 u5 r=>aj ?_;have z5:=u5.size
  have h3:=u5.at_;have hB:=u5.below hB kw
  refine ac ?_;have hs:=hr.shape.cells;refine za5 r rfl rfl h3 (k:=6) hs.1 zq0 ?_;rw [←hs.2.2];exact zpp.fin hB hr u5 (fun b hb=>.inl hb) (fun h=>by have:=hF _ h; omega) kw kw kw
 | act op at_ a b k=>
  obtain ⟨nf,n1,n2,hcn,rfl,hk⟩:∃ (nf:FuncId) (n1 n2:List Value),zpf ar nf=true∧pv=.agg (zph false zpk.zero op at_ a b (kf nf n1 n2))∧FnT ar zpk u64 n F w0 (kf nf n1 n2) k:=by
   exact Rep.zcG hp
  refine enter (l:=[.agg (zph false zpk.zero op at_ a b (kf nf n1 n2)),kf ff f1 f2]) Tryz.func352 rfl 15 rfl rfl fun fr r=>?_;have hB:=Below.refl w0.heap.size w0
  refine aa (af ?_);refine kX 133 (.agg (zph false zpk.zero op at_ a b (kf nf n1 n2))) r rfl rfl fun b1 w1 q1 r=>?_;refine kX 296 (kf ff f1 f2) r rfl rfl fun b2 w2 q2 r=>?_
  refine za7 (.cells (kq zpk) 133 (0,0)) r (fun R=>za6 zq4) rfl fun fr b3 w3 q3 r=>aj ?_;have h1:=keep q3.below (keep q2.below q1.at_)
  have h2:=keep q3.below q2.at_;have h3:=q3.at_;have e1:=q1.eq; have e2:=q2.eq; have e3:=q3.eq; have z1:=q1.size; have z2:=q2.size; have z3:=q3.size;have hB:=((hB.trans q1.below).trans (q2.below.mono kw)).trans (q3.below.mono kw)
  have zB:=hB.size;refine aa (aa (af (za0 (zp b1) r (fun R=>za3 r (o:=0) rfl zeV) rfl fun fr r=>?_)));refine za0 (.bool false) r (fun R=>za4 r (v:=.bool false) rfl h1 to4 rfl) rfl fun fr r=>aj ?_
  refine ae (t:=false) (r.ev rfl) (fun h=>by cases h) (fun _=>ag ?_);refine aa (af (za0 (.pointer (some ⟨b1,1,none⟩)) r (fun R=>za3 r (o:=0) rfl zjS) rfl fun fr r=>kG (zpu (⟨op,at_,a,b⟩:Access)) 4 r rfl h1 ta38 rfl rfl fun r=>za0 (.func (.func 385) #[] #[zp b1,zp b2]) r (fun R=>zaf r rfl) rfl fun fr r=>?_))
  have hF1:∀ b,(fun b=>F b∨b=b1∨b=b2) b→b<w3.heap.size:=by rintro b (h | h | h); exact ai (hF b h) hB.size; omega; omega
  refine kC r (zhE (F:=fun b=>F b∨b=b1∨b=b2) (n:=n) hF1 ⟨op,at_,a,b⟩ (a1:=fun x=>(k x).bind g) (show FnT ar zpk u64 n (fun b=>F b∨b=b1∨b=b2) w3 (kf 385 [] [zp b1,zp b2]) (fun x=>(k x).bind g) from
   ⟨385,[],[zp b1,zp b2],zu0,rfl,fun m hm x w' hs hz=>zgu (ih m hm) (fun b hb=>ai (hF1 b hb) hz) (.inr (.inl rfl)) (hs.at_ (.inr (.inl rfl)) h1) (.inr (.inr rfl)) (hs.at_ (.inr (.inr rfl)) h2)
    (hk.mono kw (fun b h=>.inl h) ((Same.below hB hF).trans (hs.sub (fun b h=>.inl h))) (Nat.le_trans hB.size hz)) (hf.mono kw (fun b h=>.inl h) ((Same.below hB hF).trans (hs.sub (fun b h=>.inl h))) (Nat.le_trans hB.size hz)) x⟩)) rfl zs1 rfl ?_
  rintro _ w4 ⟨v,rfl,hb,hr⟩;refine ⟨_,rfl,fun fr r=>?_⟩
  have z4:=hb.size;have h3:=keep hb h3;have hB:=hB.trans (hb.mono hB.size);refine kP r hr.shape rfl rfl h3 zq1 rfl rfl fun w5 u5 r=>aj ?_;have z5:=u5.size
  have h3:=u5.at_;have hB:=u5.below hB kw
  refine ac ?_;have hs:=hr.shape.cells;refine za5 r rfl rfl h3 (k:=6) hs.1 zq0 ?_;rw [←hs.2.2];exact zpp.fin hB hr u5 yaf yas kw kw kw
theorem zfz (hF:kH F w0) {t:T (Unit)} {pv fv:Value} {g:Unit→T (Unit)} (hp:Rep ar zpk n t F w0 pv) (hf:FnT ar zpk noneE n F w0 fv g) (hd:t.zpB=false) :
  Calls ar 352 #[pv,fv] w0 (zpp ar zpk n (t.bind g) F w0):=zgw n hF hp hf (.inl hd)
def zde (n:Nat):Prop:=∀ {F:Nat→Prop} {w0:World},(∀ b,F b→b<w0.heap.size)→∀ {t:T (Unit)} {pv fv:Value} {g:Unit→T (Int)},Rep ar zpk n t F w0 pv→FnT ar zpy noneE n F w0 fv g→
  (t.zpB=false∨FnT ar zpy noneE (n+1) F w0 fv g)→Calls ar 360 #[pv,fv] w0 (zpp ar zpy n (t.bind g) F w0)
theorem zg3 {n:Nat} (ih:zde n) {F:Nat→Prop} {w0:World} (hF:∀ b,F b→b<w0.heap.size) {op at_ a b:Int} {nf:FuncId} {n1 n2:List Value} {k:Int→T (Unit)} {ff:FuncId} {f1 f2:List Value} {g:Unit→T (Int)}
    {b1 b2:Nat} (F1:F b1) (h1:w0.heap[b1]?=some (.cells (zph false zpk.zero op at_ a b (kf nf n1 n2)) 133 (0,0))) (F2:F b2) (h2:w0.heap[b2]?=some (.cells #[kf ff f1 f2] 324 (0,0)))
    (hk:FnT ar zpk u64 (n+1) F w0 (kf nf n1 n2) k) (hg:FnT ar zpy noneE (n+1) F w0 (kf ff f1 f2) g) (x:Int) :
    Calls ar 386 #[.int .u64 x,zp b1,zp b2] w0 (zpp ar zpy n ((k x).bind g) F w0):=by
 refine kN Tryz.func386 rfl 11 rfl rfl fun fr r hB=>?_;refine aa (af ?_)
 refine za7 (.cells (kq zpy) 271 (0,0)) r (fun R=>za6 zqe) rfl fun fr b3 w1 q1 r=>wn ?_;have h1:=keep q1.below h1
 have h2:=keep q1.below h2;have e3:=q1.eq;have z1:=q1.size;have h3:=q1.at_;have hB:=hB.trans (q1.below.mono hB.size);have zB:=hB.size;refine aa ?_;refine zaB 5 [.val (.pointer (some ⟨b1,5,none⟩)),.val (kf nf n1 n2),.val (U x),.pred (RepAt ar zpk n (k x) F w0.heap.size b3) RepAt.stable,.val (kf ff f1 f2)] mixed r kz (zaI trivial (zaI trivial (zaI trivial (zaI trivial (zaI trivial zat))))) ?_ ?_
 ·
  refine ec r (fun _ u _ b d s=>za3 s (b:=b1) (o:=0) rfl zk0 bz) ?_;refine zbn r rfl (fun fr1 u w' hb' hd r'=>?_) ?_
  ·
   obtain ⟨d0,_⟩:=hd;exact za4 r' (v:=kf nf n1 n2) d0 (keep hb' h1) zqG rfl bz
  refine ec r (fun _ u _ b d s=>zar s rfl bz) ?_;refine zbn r rfl (fun fr1 u w' hb' hd r'=>?_) ?_
  ·
   obtain ⟨d0,d1,_⟩:=hd;have zb:=hb'.size;have zb:w1.heap.size≤w'.heap.size:=zb;have hB':Below w0.heap.size w0 w':=hB.trans (Below.mono (w:=w1) ⟨hb'.os,hb'.tape,hb'.output,hb'.size,hb'.block⟩ hB.size);have d0:u 1=kf nf n1 n2:=d0;have d1:u 2=.int .u64 x:=d1;refine zca r' (fs:=n1) (cs:=n2) d0 d1 hk.at_.1 ((hk.at_.2 n (Nat.lt_succ_self n) x w' (Same.below hB' hF) hB'.size).mono ?_);rintro _ w2 ⟨v,rfl,hb2,hr2⟩;refine ⟨v,rfl,hb2,RepAt.zlh (fun b h=>ai (hF b h) hB'.size) kw hB'.size hb2 (Rep.mono ?_ (Same.refl _ _) (Nat.le_refl _) n _ _ hr2)⟩
   rintro b (h | h)
   · exact .inl (.inl h)
   · exact .inr h
  refine ec r (fun _ u _ b d s=>za4 s rfl (keep b h2) zsv rfl bz) ?_;exact zaO
 intro fr u w2 hb hΦ _ r;obtain ⟨_,hr3,_,hr⟩:RepAt ar zpk n (k x) F w0.heap.size b3 (u 3) w2:=hΦ 3 ke;have r:=r.congr (sc (hΦ 4 ke) rfl);have z2:=hb.size;have h1:=keep hb h1;have h2:=keep hb h2;have h3:=keep hb h3;have hB2:=hB.trans (hb.mono hB.size);have zB2:=hB2.size;have hF1:∀ b,(kW F w0 w2 b3) b→b<w2.heap.size:=by rintro b (h | h); exact ai (hF b h) hB2.size; exact h.2.1
 refine kC r (ih (F:=fun b=>F b∨(w0.heap.size≤b∧b<w2.heap.size∧b≠b3)) hF1 hr (hg.mono kw (fun b h=>.inl h) (Same.below hB2 hF) hB2.size)
  (.inr (hg.mono (Nat.le_refl _) (fun b h=>.inl h) (Same.below hB2 hF) hB2.size))) rfl zrG rfl ?_
 rintro _ w3 ⟨v2,rfl,hb2,hr2⟩;refine ⟨_,rfl,fun fr r=>?_⟩
 have z3:=hb2.size;have h3:=keep hb2 h3;have hB3:=hB2.trans (hb2.mono hB2.size);refine kP r hr2.shape rfl rfl h3 zqc rfl rfl fun w4 u4 r=>wn ?_;have z4:=u4.size
 have h3:=u4.at_;have hB4:=u4.below hB3 kw
 refine ac ?_;have hs:=hr2.shape.cells;refine za5 r rfl rfl h3 (k:=7) hs.1 zqa ?_;rw [←hs.2.2];exact zpp.fin hB4 hr2 u4 yac yaa kw kw kw
theorem zgc (n:Nat):zde n:=by
 induction n using Nat.strongRecOn with
 | _ n ih=>
 intro F w0 hF t pv fv g hp hf hd;obtain ⟨ff,f1,f2,hcf,rfl,hff⟩:=id hf;cases t with
 | cut=>unfold Rep at hp; exact hp.elim
 | done x0=>
  have hf:=hd.resolve_left yax
  unfold Rep at hp
  subst hp;refine enter (l:=[.agg (zph true (zpk.cells x0) 0 0 0 0 .nilFunc),kf ff f1 f2]) Tryz.func360 rfl 15 rfl rfl fun fr r=>?_;have hB:=Below.refl w0.heap.size w0
  refine aa (af ?_);refine kX 133 (.agg (zph true (zpk.cells x0) 0 0 0 0 .nilFunc)) r rfl rfl fun b1 w1 q1 r=>?_;refine kX 324 (kf ff f1 f2) r rfl rfl fun b2 w2 q2 r=>?_
  refine za7 (.cells (kq zpy) 271 (0,0)) r (fun R=>za6 zqe) rfl fun fr b3 w3 q3 r=>aj ?_;have h1:=keep q3.below (keep q2.below q1.at_)
  have h2:=keep q3.below q2.at_;have h3:=q3.at_;have e1:=q1.eq; have e2:=q2.eq; have e3:=q3.eq; have z1:=q1.size; have z2:=q2.size; have z3:=q3.size;have hB:=((hB.trans q1.below).trans (q2.below.mono kw)).trans (q3.below.mono kw)
  have zB:=hB.size;refine aa (aa (af (za0 (zp b1) r (fun R=>za3 r (o:=0) rfl zeV) rfl fun fr r=>?_)));refine za0 (.bool true) r (fun R=>za4 r (v:=.bool true) rfl h1 to4 rfl) rfl fun fr r=>aj ?_
  refine ae (t:=true) (r.ev rfl) (fun _=>?_) (fun h=>by cases h)
  refine aa (af (za0 (kf ff f1 f2) r (fun R=>za4 r (v:=kf ff f1 f2) rfl h2 zsv rfl) rfl fun fr r=>?_));refine zjs b1 1 r (fun R=>zeu r rfl zqB h1) rfl fun fr sp r=>za0 (.agg #[]) r (fun R=>zeY r rfl zqr) rfl fun fr r=>?_
  refine zbq r (hf.at_.2 n (Nat.lt_succ_self n) x0 w3 (Same.below hB hF) hB.size) (fun R hc=>ze6 r rfl rfl hf.at_.1 hc) rfl ?_;rintro _ w4 ⟨v,rfl,hb,hr⟩
  refine ⟨_,rfl,fun fr r=>?_⟩
  have z4:=hb.size;have h3:=keep hb h3;have hB:=hB.trans (hb.mono hB.size);refine kP r hr.shape rfl rfl h3 zqc rfl rfl fun w5 u5 r=>aj ?_;have z5:=u5.size
  have h3:=u5.at_;have hB:=u5.below hB kw
  refine ac ?_;have hs:=hr.shape.cells;refine za5 r rfl rfl h3 (k:=7) hs.1 zqa ?_;rw [←hs.2.2];exact zpp.fin hB hr u5 (fun b hb=>.inl hb) (fun h=>by have:=hF _ h; omega) kw kw kw
 | act op at_ a b k=>
  obtain ⟨nf,n1,n2,hcn,rfl,hk⟩:∃ (nf:FuncId) (n1 n2:List Value),zpf ar nf=true∧pv=.agg (zph false zpk.zero op at_ a b (kf nf n1 n2))∧FnT ar zpk u64 n F w0 (kf nf n1 n2) k:=by
   exact Rep.zcG hp
  refine enter (l:=[.agg (zph false zpk.zero op at_ a b (kf nf n1 n2)),kf ff f1 f2]) Tryz.func360 rfl 15 rfl rfl fun fr r=>?_;have hB:=Below.refl w0.heap.size w0
  refine aa (af ?_);refine kX 133 (.agg (zph false zpk.zero op at_ a b (kf nf n1 n2))) r rfl rfl fun b1 w1 q1 r=>?_;refine kX 324 (kf ff f1 f2) r rfl rfl fun b2 w2 q2 r=>?_
  refine za7 (.cells (kq zpy) 271 (0,0)) r (fun R=>za6 zqe) rfl fun fr b3 w3 q3 r=>aj ?_;have h1:=keep q3.below (keep q2.below q1.at_)
  have h2:=keep q3.below q2.at_;have h3:=q3.at_;have e1:=q1.eq; have e2:=q2.eq; have e3:=q3.eq; have z1:=q1.size; have z2:=q2.size; have z3:=q3.size;have hB:=((hB.trans q1.below).trans (q2.below.mono kw)).trans (q3.below.mono kw)
  have zB:=hB.size;refine aa (aa (af (za0 (zp b1) r (fun R=>za3 r (o:=0) rfl zeV) rfl fun fr r=>?_)));refine za0 (.bool false) r (fun R=>za4 r (v:=.bool false) rfl h1 to4 rfl) rfl fun fr r=>aj ?_
  refine ae (t:=false) (r.ev rfl) (fun h=>by cases h) (fun _=>ag ?_);refine aa (af (za0 (.pointer (some ⟨b1,1,none⟩)) r (fun R=>za3 r (o:=0) rfl zjS) rfl fun fr r=>kG (zpu (⟨op,at_,a,b⟩:Access)) 4 r rfl h1 ta38 rfl rfl fun r=>za0 (.func (.func 386) #[] #[zp b1,zp b2]) r (fun R=>zaf r rfl) rfl fun fr r=>?_))
  have hF1:∀ b,(fun b=>F b∨b=b1∨b=b2) b→b<w3.heap.size:=by rintro b (h | h | h); exact ai (hF b h) hB.size; omega; omega
  refine kC r (zgh (F:=fun b=>F b∨b=b1∨b=b2) (n:=n) hF1 ⟨op,at_,a,b⟩ (a1:=fun x=>(k x).bind g) (show FnT ar zpy u64 n (fun b=>F b∨b=b1∨b=b2) w3 (kf 386 [] [zp b1,zp b2]) (fun x=>(k x).bind g) from
   ⟨386,[],[zp b1,zp b2],ztp,rfl,fun m hm x w' hs hz=>zg3 (ih m hm) (fun b hb=>ai (hF1 b hb) hz) (.inr (.inl rfl)) (hs.at_ (.inr (.inl rfl)) h1) (.inr (.inr rfl)) (hs.at_ (.inr (.inr rfl)) h2)
    (hk.mono kw (fun b h=>.inl h) ((Same.below hB hF).trans (hs.sub (fun b h=>.inl h))) (Nat.le_trans hB.size hz)) (hf.mono kw (fun b h=>.inl h) ((Same.below hB hF).trans (hs.sub (fun b h=>.inl h))) (Nat.le_trans hB.size hz)) x⟩)) rfl zsj rfl ?_
  rintro _ w4 ⟨v,rfl,hb,hr⟩;refine ⟨_,rfl,fun fr r=>?_⟩
  have z4:=hb.size;have h3:=keep hb h3;have hB:=hB.trans (hb.mono hB.size);refine kP r hr.shape rfl rfl h3 zqc rfl rfl fun w5 u5 r=>aj ?_;have z5:=u5.size
  have h3:=u5.at_;have hB:=u5.below hB kw
  refine ac ?_;have hs:=hr.shape.cells;refine za5 r rfl rfl h3 (k:=7) hs.1 zqa ?_;rw [←hs.2.2];exact zpp.fin hB hr u5 yaf yas kw kw kw
theorem zf9 (hF:kH F w0) {t:T (Unit)} {pv fv:Value} {g:Unit→T (Int)} (hp:Rep ar zpk n t F w0 pv) (hf:FnT ar zpy noneE (n+1) F w0 fv g) :
  Calls ar 360 #[pv,fv] w0 (zpp ar zpy n (t.bind g) F w0):=zgc n hF hp (hf.mono kw (fun b h=>h) (Same.refl _ _) (Nat.le_refl _)) (.inr hf)
def zdE (n:Nat):Prop:=∀ {F:Nat→Prop} {w0:World},(∀ b,F b→b<w0.heap.size)→∀ {t:T (Int)} {pv fv:Value} {g:Int→T (Grant)},Rep ar zpl n t F w0 pv→FnT ar zpt i64 n F w0 fv g→
  (t.zpB=false∨FnT ar zpt i64 (n+1) F w0 fv g)→Calls ar 181 #[pv,fv] w0 (zpp ar zpt n (t.bind g) F w0)
theorem zgN {n:Nat} (ih:zdE n) {F:Nat→Prop} {w0:World} (hF:∀ b,F b→b<w0.heap.size) {op at_ a b:Int} {nf:FuncId} {n1 n2:List Value} {k:Int→T (Int)} {ff:FuncId} {f1 f2:List Value} {g:Int→T (Grant)}
    {b1 b2:Nat} (F1:F b1) (h1:w0.heap[b1]?=some (.cells (zph false zpl.zero op at_ a b (kf nf n1 n2)) 119 (0,0))) (F2:F b2) (h2:w0.heap[b2]?=some (.cells #[kf ff f1 f2] 233 (0,0)))
    (hk:FnT ar zpl u64 (n+1) F w0 (kf nf n1 n2) k) (hg:FnT ar zpt i64 (n+1) F w0 (kf ff f1 f2) g) (x:Int) :
    Calls ar 275 #[.int .u64 x,zp b1,zp b2] w0 (zpp ar zpt n ((k x).bind g) F w0):=by
 refine kN Tryz.func275 rfl 11 rfl rfl fun fr r hB=>?_;refine aa (af ?_)
 refine za7 (.cells (kq zpt) 116 (0,0)) r (fun R=>za6 zq8) rfl fun fr b3 w1 q1 r=>wn ?_;have h1:=keep q1.below h1
 have h2:=keep q1.below h2;have e3:=q1.eq;have z1:=q1.size;have h3:=q1.at_;have hB:=hB.trans (q1.below.mono hB.size);have zB:=hB.size;refine aa ?_;refine zaB 5 [.val (.pointer (some ⟨b1,6,none⟩)),.val (kf nf n1 n2),.val (U x),.pred (RepAt ar zpl n (k x) F w0.heap.size b3) RepAt.stable,.val (kf ff f1 f2)] mixed r kz (zaI trivial (zaI trivial (zaI trivial (zaI trivial (zaI trivial zat))))) ?_ ?_
 ·
  refine ec r (fun _ u _ b d s=>za3 s (b:=b1) (o:=0) rfl zkI bz) ?_;refine zbn r rfl (fun fr1 u w' hb' hd r'=>?_) ?_
  ·
   obtain ⟨d0,_⟩:=hd;exact za4 r' (v:=kf nf n1 n2) d0 (keep hb' h1) zqO rfl bz
  refine ec r (fun _ u _ b d s=>zar s rfl bz) ?_;refine zbn r rfl (fun fr1 u w' hb' hd r'=>?_) ?_
  ·
   obtain ⟨d0,d1,_⟩:=hd;have zb:=hb'.size;have zb:w1.heap.size≤w'.heap.size:=zb;have hB':Below w0.heap.size w0 w':=hB.trans (Below.mono (w:=w1) ⟨hb'.os,hb'.tape,hb'.output,hb'.size,hb'.block⟩ hB.size);have d0:u 1=kf nf n1 n2:=d0;have d1:u 2=.int .u64 x:=d1;refine zca r' (fs:=n1) (cs:=n2) d0 d1 hk.at_.1 ((hk.at_.2 n (Nat.lt_succ_self n) x w' (Same.below hB' hF) hB'.size).mono ?_);rintro _ w2 ⟨v,rfl,hb2,hr2⟩;refine ⟨v,rfl,hb2,RepAt.zlh (fun b h=>ai (hF b h) hB'.size) kw hB'.size hb2 (Rep.mono ?_ (Same.refl _ _) (Nat.le_refl _) n _ _ hr2)⟩
   rintro b (h | h)
   · exact .inl (.inl h)
   · exact .inr h
  refine ec r (fun _ u _ b d s=>za4 s rfl (keep b h2) zrA rfl bz) ?_;exact zaO
 intro fr u w2 hb hΦ _ r;obtain ⟨_,hr3,_,hr⟩:RepAt ar zpl n (k x) F w0.heap.size b3 (u 3) w2:=hΦ 3 ke;have r:=r.congr (sc (hΦ 4 ke) rfl);have z2:=hb.size;have h1:=keep hb h1;have h2:=keep hb h2;have h3:=keep hb h3;have hB2:=hB.trans (hb.mono hB.size);have zB2:=hB2.size;have hF1:∀ b,(kW F w0 w2 b3) b→b<w2.heap.size:=by rintro b (h | h); exact ai (hF b h) hB2.size; exact h.2.1
 refine kC r (ih (F:=fun b=>F b∨(w0.heap.size≤b∧b<w2.heap.size∧b≠b3)) hF1 hr (hg.mono kw (fun b h=>.inl h) (Same.below hB2 hF) hB2.size)
  (.inr (hg.mono (Nat.le_refl _) (fun b h=>.inl h) (Same.below hB2 hF) hB2.size))) rfl zr5 rfl ?_
 rintro _ w3 ⟨v2,rfl,hb2,hr2⟩;refine ⟨_,rfl,fun fr r=>?_⟩
 have z3:=hb2.size;have h3:=keep hb2 h3;have hB3:=hB2.trans (hb2.mono hB2.size);refine kP r hr2.shape rfl rfl h3 zq6 rfl rfl fun w4 u4 r=>wn ?_;have z4:=u4.size
 have h3:=u4.at_;have hB4:=u4.below hB3 kw
 refine ac ?_;have hs:=hr2.shape.cells;refine za5 r rfl rfl h3 (k:=9) hs.1 zq7 ?_;rw [←hs.2.2];exact zpp.fin hB4 hr2 u4 yac yaa kw kw kw
theorem zgE (n:Nat):zdE n:=by
 induction n using Nat.strongRecOn with
 | _ n ih=>
 intro F w0 hF t pv fv g hp hf hd;obtain ⟨ff,f1,f2,hcf,rfl,hff⟩:=id hf;cases t with
 | cut=>unfold Rep at hp; exact hp.elim
 | done x0=>
  have hf:=hd.resolve_left yax
  unfold Rep at hp
  subst hp;refine enter (l:=[.agg (zph true (zpl.cells x0) 0 0 0 0 .nilFunc),kf ff f1 f2]) Tryz.func181 rfl 15 rfl rfl fun fr r=>?_;have hB:=Below.refl w0.heap.size w0
  refine aa (af ?_);refine kX 119 (.agg (zph true (zpl.cells x0) 0 0 0 0 .nilFunc)) r rfl rfl fun b1 w1 q1 r=>?_;refine kX 233 (kf ff f1 f2) r rfl rfl fun b2 w2 q2 r=>?_
  refine za7 (.cells (kq zpt) 116 (0,0)) r (fun R=>za6 zq8) rfl fun fr b3 w3 q3 r=>aj ?_;have h1:=keep q3.below (keep q2.below q1.at_)
  have h2:=keep q3.below q2.at_;have h3:=q3.at_;have e1:=q1.eq; have e2:=q2.eq; have e3:=q3.eq; have z1:=q1.size; have z2:=q2.size; have z3:=q3.size;have hB:=((hB.trans q1.below).trans (q2.below.mono kw)).trans (q3.below.mono kw)
  have zB:=hB.size;refine aa (aa (af (za0 (zp b1) r (fun R=>za3 r (o:=0) rfl zgH) rfl fun fr r=>?_)));refine za0 (.bool true) r (fun R=>za4 r (v:=.bool true) rfl h1 to4 rfl) rfl fun fr r=>aj ?_
  refine ae (t:=true) (r.ev rfl) (fun _=>?_) (fun h=>by cases h)
  refine aa (af (za0 (kf ff f1 f2) r (fun R=>za4 r (v:=kf ff f1 f2) rfl h2 zrA rfl) rfl fun fr r=>za0 (.pointer (some ⟨b1,1,none⟩)) r (fun R=>za3 r (o:=0) rfl zkD) rfl fun fr r=>za0 (.int .i64 x0) r (fun R=>za4 r (v:=(.int .i64 x0)) rfl h1 to3 rfl) rfl fun fr r=>?_));refine zbq r (hf.at_.2 n (Nat.lt_succ_self n) x0 w3 (Same.below hB hF) hB.size) (fun R hc=>ze6 r rfl rfl hf.at_.1 hc) rfl ?_
  rintro _ w4 ⟨v,rfl,hb,hr⟩;refine ⟨_,rfl,fun fr r=>?_⟩
  have z4:=hb.size;have h3:=keep hb h3;have hB:=hB.trans (hb.mono hB.size);refine kP r hr.shape rfl rfl h3 zq6 rfl rfl fun w5 u5 r=>aj ?_;have z5:=u5.size
  have h3:=u5.at_;have hB:=u5.below hB kw
  refine ac ?_;have hs:=hr.shape.cells;refine za5 r rfl rfl h3 (k:=9) hs.1 zq7 ?_;rw [←hs.2.2];exact zpp.fin hB hr u5 (fun b hb=>.inl hb) (fun h=>by have:=hF _ h; omega) kw kw kw
 | act op at_ a b k=>
  obtain ⟨nf,n1,n2,hcn,rfl,hk⟩:∃ (nf:FuncId) (n1 n2:List Value),zpf ar nf=true∧pv=.agg (zph false zpl.zero op at_ a b (kf nf n1 n2))∧FnT ar zpl u64 n F w0 (kf nf n1 n2) k:=by
   exact Rep.zcG hp
  refine enter (l:=[.agg (zph false zpl.zero op at_ a b (kf nf n1 n2)),kf ff f1 f2]) Tryz.func181 rfl 15 rfl rfl fun fr r=>?_;have hB:=Below.refl w0.heap.size w0
  refine aa (af ?_);refine kX 119 (.agg (zph false zpl.zero op at_ a b (kf nf n1 n2))) r rfl rfl fun b1 w1 q1 r=>?_;refine kX 233 (kf ff f1 f2) r rfl rfl fun b2 w2 q2 r=>?_
  refine za7 (.cells (kq zpt) 116 (0,0)) r (fun R=>za6 zq8) rfl fun fr b3 w3 q3 r=>aj ?_;have h1:=keep q3.below (keep q2.below q1.at_)
  have h2:=keep q3.below q2.at_;have h3:=q3.at_;have e1:=q1.eq; have e2:=q2.eq; have e3:=q3.eq; have z1:=q1.size; have z2:=q2.size; have z3:=q3.size;have hB:=((hB.trans q1.below).trans (q2.below.mono kw)).trans (q3.below.mono kw)
  have zB:=hB.size;refine aa (aa (af (za0 (zp b1) r (fun R=>za3 r (o:=0) rfl zgH) rfl fun fr r=>?_)));refine za0 (.bool false) r (fun R=>za4 r (v:=.bool false) rfl h1 to4 rfl) rfl fun fr r=>aj ?_
  refine ae (t:=false) (r.ev rfl) (fun h=>by cases h) (fun _=>ag ?_);refine aa (af (za0 (.pointer (some ⟨b1,2,none⟩)) r (fun R=>za3 r (o:=0) rfl zl1) rfl fun fr r=>kG (zpu (⟨op,at_,a,b⟩:Access)) 4 r rfl h1 ta38 rfl rfl fun r=>za0 (.func (.func 275) #[] #[zp b1,zp b2]) r (fun R=>zaf r rfl) rfl fun fr r=>?_))
  have hF1:∀ b,(fun b=>F b∨b=b1∨b=b2) b→b<w3.heap.size:=by rintro b (h | h | h); exact ai (hF b h) hB.size; omega; omega
  refine kC r (zeX (F:=fun b=>F b∨b=b1∨b=b2) (n:=n) hF1 ⟨op,at_,a,b⟩ (a1:=fun x=>(k x).bind g) (show FnT ar zpt u64 n (fun b=>F b∨b=b1∨b=b2) w3 (kf 275 [] [zp b1,zp b2]) (fun x=>(k x).bind g) from
   ⟨275,[],[zp b1,zp b2],zte,rfl,fun m hm x w' hs hz=>zgN (ih m hm) (fun b hb=>ai (hF1 b hb) hz) (.inr (.inl rfl)) (hs.at_ (.inr (.inl rfl)) h1) (.inr (.inr rfl)) (hs.at_ (.inr (.inr rfl)) h2)
    (hk.mono kw (fun b h=>.inl h) ((Same.below hB hF).trans (hs.sub (fun b h=>.inl h))) (Nat.le_trans hB.size hz)) (hf.mono kw (fun b h=>.inl h) ((Same.below hB hF).trans (hs.sub (fun b h=>.inl h))) (Nat.le_trans hB.size hz)) x⟩)) rfl zrC rfl ?_
  rintro _ w4 ⟨v,rfl,hb,hr⟩;refine ⟨_,rfl,fun fr r=>?_⟩
  have z4:=hb.size;have h3:=keep hb h3;have hB:=hB.trans (hb.mono hB.size);refine kP r hr.shape rfl rfl h3 zq6 rfl rfl fun w5 u5 r=>aj ?_;have z5:=u5.size
  have h3:=u5.at_;have hB:=u5.below hB kw
  refine ac ?_;have hs:=hr.shape.cells;refine za5 r rfl rfl h3 (k:=9) hs.1 zq7 ?_;rw [←hs.2.2];exact zpp.fin hB hr u5 yaf yas kw kw kw
theorem zcm (hF:kH F w0) {t:T (Int)} {pv fv:Value} {g:Int→T (Grant)} (hp:Rep ar zpl n t F w0 pv) (hf:FnT ar zpt i64 (n+1) F w0 fv g) :
  Calls ar 181 #[pv,fv] w0 (zpp ar zpt n (t.bind g) F w0):=zgE n hF hp (hf.mono kw (fun b h=>h) (Same.refl _ _) (Nat.le_refl _)) (.inr hf)
def zeb (n:Nat):Prop:=∀ {F:Nat→Prop} {w0:World},(∀ b,F b→b<w0.heap.size)→∀ {t:T (Int)} {pv fv:Value} {g:Int→T (Int)},Rep ar zpl n t F w0 pv→FnT ar zpl i64 n F w0 fv g→
  (t.zpB=false∨FnT ar zpl i64 (n+1) F w0 fv g)→Calls ar 223 #[pv,fv] w0 (zpp ar zpl n (t.bind g) F w0)
theorem zhO {n:Nat} (ih:zeb n) {F:Nat→Prop} {w0:World} (hF:∀ b,F b→b<w0.heap.size) {op at_ a b:Int} {nf:FuncId} {n1 n2:List Value} {k:Int→T (Int)} {ff:FuncId} {f1 f2:List Value} {g:Int→T (Int)}
    {b1 b2:Nat} (F1:F b1) (h1:w0.heap[b1]?=some (.cells (zph false zpl.zero op at_ a b (kf nf n1 n2)) 119 (0,0))) (F2:F b2) (h2:w0.heap[b2]?=some (.cells #[kf ff f1 f2] 261 (0,0)))
    (hk:FnT ar zpl u64 (n+1) F w0 (kf nf n1 n2) k) (hg:FnT ar zpl i64 (n+1) F w0 (kf ff f1 f2) g) (x:Int) :
    Calls ar 297 #[.int .u64 x,zp b1,zp b2] w0 (zpp ar zpl n ((k x).bind g) F w0):=by
 refine kN Tryz.func297 rfl 11 rfl rfl fun fr r hB=>?_;refine aa (af ?_)
 refine za7 (.cells (kq zpl) 119 (0,0)) r (fun R=>za6 zpQ) rfl fun fr b3 w1 q1 r=>wn ?_;have h1:=keep q1.below h1
 have h2:=keep q1.below h2;have e3:=q1.eq;have z1:=q1.size;have h3:=q1.at_;have hB:=hB.trans (q1.below.mono hB.size);have zB:=hB.size;refine aa ?_;refine zaB 5 [.val (.pointer (some ⟨b1,6,none⟩)),.val (kf nf n1 n2),.val (U x),.pred (RepAt ar zpl n (k x) F w0.heap.size b3) RepAt.stable,.val (kf ff f1 f2)] mixed r kz (zaI trivial (zaI trivial (zaI trivial (zaI trivial (zaI trivial zat))))) ?_ ?_
 ·
  refine ec r (fun _ u _ b d s=>za3 s (b:=b1) (o:=0) rfl zkI bz) ?_;refine zbn r rfl (fun fr1 u w' hb' hd r'=>?_) ?_
  ·
   obtain ⟨d0,_⟩:=hd;exact za4 r' (v:=kf nf n1 n2) d0 (keep hb' h1) zqO rfl bz
  refine ec r (fun _ u _ b d s=>zar s rfl bz) ?_;refine zbn r rfl (fun fr1 u w' hb' hd r'=>?_) ?_
  ·
   obtain ⟨d0,d1,_⟩:=hd;have zb:=hb'.size;have zb:w1.heap.size≤w'.heap.size:=zb;have hB':Below w0.heap.size w0 w':=hB.trans (Below.mono (w:=w1) ⟨hb'.os,hb'.tape,hb'.output,hb'.size,hb'.block⟩ hB.size);have d0:u 1=kf nf n1 n2:=d0;have d1:u 2=.int .u64 x:=d1;refine zca r' (fs:=n1) (cs:=n2) d0 d1 hk.at_.1 ((hk.at_.2 n (Nat.lt_succ_self n) x w' (Same.below hB' hF) hB'.size).mono ?_);rintro _ w2 ⟨v,rfl,hb2,hr2⟩;refine ⟨v,rfl,hb2,RepAt.zlh (fun b h=>ai (hF b h) hB'.size) kw hB'.size hb2 (Rep.mono ?_ (Same.refl _ _) (Nat.le_refl _) n _ _ hr2)⟩
   rintro b (h | h)
   · exact .inl (.inl h)
   · exact .inr h
  refine ec r (fun _ u _ b d s=>za4 s rfl (keep b h2) zrb rfl bz) ?_;exact zaO
 intro fr u w2 hb hΦ _ r;obtain ⟨_,hr3,_,hr⟩:RepAt ar zpl n (k x) F w0.heap.size b3 (u 3) w2:=hΦ 3 ke;have r:=r.congr (sc (hΦ 4 ke) rfl);have z2:=hb.size;have h1:=keep hb h1;have h2:=keep hb h2;have h3:=keep hb h3;have hB2:=hB.trans (hb.mono hB.size);have zB2:=hB2.size;have hF1:∀ b,(kW F w0 w2 b3) b→b<w2.heap.size:=by rintro b (h | h); exact ai (hF b h) hB2.size; exact h.2.1
 refine kC r (ih (F:=fun b=>F b∨(w0.heap.size≤b∧b<w2.heap.size∧b≠b3)) hF1 hr (hg.mono kw (fun b h=>.inl h) (Same.below hB2 hF) hB2.size)
  (.inr (hg.mono (Nat.le_refl _) (fun b h=>.inl h) (Same.below hB2 hF) hB2.size))) rfl zqJ rfl ?_
 rintro _ w3 ⟨v2,rfl,hb2,hr2⟩;refine ⟨_,rfl,fun fr r=>?_⟩
 have z3:=hb2.size;have h3:=keep hb2 h3;have hB3:=hB2.trans (hb2.mono hB2.size);refine kP r hr2.shape rfl rfl h3 zpN rfl rfl fun w4 u4 r=>wn ?_;have z4:=u4.size
 have h3:=u4.at_;have hB4:=u4.below hB3 kw
 refine ac ?_;have hs:=hr2.shape.cells;refine za5 r rfl rfl h3 (k:=7) hs.1 zpM ?_;rw [←hs.2.2];exact zpp.fin hB4 hr2 u4 yac yaa kw kw kw
theorem zf5 (n:Nat):zeb n:=by
 induction n using Nat.strongRecOn with
 | _ n ih=>
 intro F w0 hF t pv fv g hp hf hd;obtain ⟨ff,f1,f2,hcf,rfl,hff⟩:=id hf;cases t with
 | cut=>unfold Rep at hp; exact hp.elim
 | done x0=>
  have hf:=hd.resolve_left yax
  unfold Rep at hp
  subst hp;refine enter (l:=[.agg (zph true (zpl.cells x0) 0 0 0 0 .nilFunc),kf ff f1 f2]) Tryz.func223 rfl 15 rfl rfl fun fr r=>?_;have hB:=Below.refl w0.heap.size w0
  refine aa (af ?_);refine kX 119 (.agg (zph true (zpl.cells x0) 0 0 0 0 .nilFunc)) r rfl rfl fun b1 w1 q1 r=>?_;refine kX 261 (kf ff f1 f2) r rfl rfl fun b2 w2 q2 r=>?_
  refine za7 (.cells (kq zpl) 119 (0,0)) r (fun R=>za6 zpQ) rfl fun fr b3 w3 q3 r=>aj ?_;have h1:=keep q3.below (keep q2.below q1.at_)
  have h2:=keep q3.below q2.at_;have h3:=q3.at_;have e1:=q1.eq; have e2:=q2.eq; have e3:=q3.eq; have z1:=q1.size; have z2:=q2.size; have z3:=q3.size;have hB:=((hB.trans q1.below).trans (q2.below.mono kw)).trans (q3.below.mono kw)
  have zB:=hB.size;refine aa (aa (af (za0 (zp b1) r (fun R=>za3 r (o:=0) rfl zgH) rfl fun fr r=>?_)));refine za0 (.bool true) r (fun R=>za4 r (v:=.bool true) rfl h1 to4 rfl) rfl fun fr r=>aj ?_
  refine ae (t:=true) (r.ev rfl) (fun _=>?_) (fun h=>by cases h)
  refine aa (af (za0 (kf ff f1 f2) r (fun R=>za4 r (v:=kf ff f1 f2) rfl h2 zrb rfl) rfl fun fr r=>za0 (.pointer (some ⟨b1,1,none⟩)) r (fun R=>za3 r (o:=0) rfl zkD) rfl fun fr r=>za0 (.int .i64 x0) r (fun R=>za4 r (v:=(.int .i64 x0)) rfl h1 to3 rfl) rfl fun fr r=>?_));refine zbq r (hf.at_.2 n (Nat.lt_succ_self n) x0 w3 (Same.below hB hF) hB.size) (fun R hc=>ze6 r rfl rfl hf.at_.1 hc) rfl ?_
  rintro _ w4 ⟨v,rfl,hb,hr⟩;refine ⟨_,rfl,fun fr r=>?_⟩
  have z4:=hb.size;have h3:=keep hb h3;have hB:=hB.trans (hb.mono hB.size);refine kP r hr.shape rfl rfl h3 zpN rfl rfl fun w5 u5 r=>aj ?_;have z5:=u5.size
  have h3:=u5.at_;have hB:=u5.below hB kw
  refine ac ?_;have hs:=hr.shape.cells;refine za5 r rfl rfl h3 (k:=7) hs.1 zpM ?_;rw [←hs.2.2];exact zpp.fin hB hr u5 (fun b hb=>.inl hb) (fun h=>by have:=hF _ h; omega) kw kw kw
 | act op at_ a b k=>
  obtain ⟨nf,n1,n2,hcn,rfl,hk⟩:∃ (nf:FuncId) (n1 n2:List Value),zpf ar nf=true∧pv=.agg (zph false zpl.zero op at_ a b (kf nf n1 n2))∧FnT ar zpl u64 n F w0 (kf nf n1 n2) k:=by
   exact Rep.zcG hp
  refine enter (l:=[.agg (zph false zpl.zero op at_ a b (kf nf n1 n2)),kf ff f1 f2]) Tryz.func223 rfl 15 rfl rfl fun fr r=>?_;have hB:=Below.refl w0.heap.size w0
  refine aa (af ?_);refine kX 119 (.agg (zph false zpl.zero op at_ a b (kf nf n1 n2))) r rfl rfl fun b1 w1 q1 r=>?_;refine kX 261 (kf ff f1 f2) r rfl rfl fun b2 w2 q2 r=>?_
  refine za7 (.cells (kq zpl) 119 (0,0)) r (fun R=>za6 zpQ) rfl fun fr b3 w3 q3 r=>aj ?_;have h1:=keep q3.below (keep q2.below q1.at_)
  have h2:=keep q3.below q2.at_;have h3:=q3.at_;have e1:=q1.eq; have e2:=q2.eq; have e3:=q3.eq; have z1:=q1.size; have z2:=q2.size; have z3:=q3.size;have hB:=((hB.trans q1.below).trans (q2.below.mono kw)).trans (q3.below.mono kw)
  have zB:=hB.size;refine aa (aa (af (za0 (zp b1) r (fun R=>za3 r (o:=0) rfl zgH) rfl fun fr r=>?_)));refine za0 (.bool false) r (fun R=>za4 r (v:=.bool false) rfl h1 to4 rfl) rfl fun fr r=>aj ?_
  refine ae (t:=false) (r.ev rfl) (fun h=>by cases h) (fun _=>ag ?_);refine aa (af (za0 (.pointer (some ⟨b1,2,none⟩)) r (fun R=>za3 r (o:=0) rfl zl1) rfl fun fr r=>kG (zpu (⟨op,at_,a,b⟩:Access)) 4 r rfl h1 ta38 rfl rfl fun r=>za0 (.func (.func 297) #[] #[zp b1,zp b2]) r (fun R=>zaf r rfl) rfl fun fr r=>?_))
  have hF1:∀ b,(fun b=>F b∨b=b1∨b=b2) b→b<w3.heap.size:=by rintro b (h | h | h); exact ai (hF b h) hB.size; omega; omega
  refine kC r (ze4 (F:=fun b=>F b∨b=b1∨b=b2) (n:=n) hF1 ⟨op,at_,a,b⟩ (a1:=fun x=>(k x).bind g) (show FnT ar zpl u64 n (fun b=>F b∨b=b1∨b=b2) w3 (kf 297 [] [zp b1,zp b2]) (fun x=>(k x).bind g) from
   ⟨297,[],[zp b1,zp b2],zuS,rfl,fun m hm x w' hs hz=>zhO (ih m hm) (fun b hb=>ai (hF1 b hb) hz) (.inr (.inl rfl)) (hs.at_ (.inr (.inl rfl)) h1) (.inr (.inr rfl)) (hs.at_ (.inr (.inr rfl)) h2)
    (hk.mono kw (fun b h=>.inl h) ((Same.below hB hF).trans (hs.sub (fun b h=>.inl h))) (Nat.le_trans hB.size hz)) (hf.mono kw (fun b h=>.inl h) ((Same.below hB hF).trans (hs.sub (fun b h=>.inl h))) (Nat.le_trans hB.size hz)) x⟩)) rfl zqF rfl ?_
  rintro _ w4 ⟨v,rfl,hb,hr⟩;refine ⟨_,rfl,fun fr r=>?_⟩
  have z4:=hb.size;have h3:=keep hb h3;have hB:=hB.trans (hb.mono hB.size);refine kP r hr.shape rfl rfl h3 zpN rfl rfl fun w5 u5 r=>aj ?_;have z5:=u5.size
  have h3:=u5.at_;have hB:=u5.below hB kw
  refine ac ?_;have hs:=hr.shape.cells;refine za5 r rfl rfl h3 (k:=7) hs.1 zpM ?_;rw [←hs.2.2];exact zpp.fin hB hr u5 yaf yas kw kw kw
theorem zgq (hF:kH F w0) {t:T (Int)} {pv fv:Value} {g:Int→T (Int)} (hp:Rep ar zpl n t F w0 pv) (hf:FnT ar zpl i64 n F w0 fv g) (hd:t.zpB=false) :
  Calls ar 223 #[pv,fv] w0 (zpp ar zpl n (t.bind g) F w0):=zf5 n hF hp hf (.inl hd)
theorem zcF (hF:kH F w0) {t:T (Int)} {pv fv:Value} {g:Int→T (Int)} (hp:Rep ar zpl n t F w0 pv) (hf:FnT ar zpl i64 (n+1) F w0 fv g) :
  Calls ar 223 #[pv,fv] w0 (zpp ar zpl n (t.bind g) F w0):=zf5 n hF hp (hf.mono kw (fun b h=>h) (Same.refl _ _) (Nat.le_refl _)) (.inr hf)
end
end Go.Proofs.YtbbipmelhmgmfaaGreat
